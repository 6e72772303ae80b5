import Derived.Test.YtchfclmokpbldaaGreatCflowR
import Derived.Test.YtchfclmokpbldaaGreatNets
set_option linter.unusedVariables false
set_option linter.unusedSimpArgs false
section
/-
  Bounds that are accepted hold the state that fits: the law of comparison. By an AI agent; no person has read it.
-/
namespace Go.Proofs.YtchfclmokpbldaaGreat
open Go.Aw Go
structure Accept (a:XAir) (s:XSetting) (b:XBounds) (A:List Bool):Prop where
  ck:CheckOk a s b
  fix:∀i:Nat,i < a.mine.places.l.length→(!(A.getD i false) || (a.mine.places.l.getD i default).surface)=true→b.low.l.getD i 0=0∧b.high.l.getD i 0=0
  net:∀i:Nat,i < a.mine.places.l.length→¬ (!(A.getD i false) || (a.mine.places.l.getD i default).surface)=true→0≤Jtm a s b.high.l (i:Int)∧Ji1 a s b.low.l (i:Int)≤0
theorem Jnb {a:XAir} {s:XSetting} {b:XBounds} {A:List Bool} (h:CheckOk a s b):Jeg a s b A=((List.range a.mine.places.l.length).findSome? (Jc0 a s b A)).getD 0:=by
  have h1:=h.hl
  have h2:=h.hh
  rw [Jeg,if_neg (by rw [h.h0];decide),if_neg (by rw [h.hf];decide),if_neg za,if_neg (by rw [Jk2 h.pl,Jk2 h.ph];simp)]
theorem Js2 (a:XAir) (s:XSetting) (b:XBounds) (A:List Bool) (i:Nat):Jc0 a s b A i=none∨Jc0 a s b A i=some 12:=by
  unfold Jc0
  split
  · split
    · exact .inr rfl
    · exact .inl rfl
  · split
    · exact .inr rfl
    · exact .inl rfl
theorem J0r {a:XAir} {s:XSetting} {b:XBounds} {A:List Bool}:Jeg a s b A=0↔Accept a s b A:=by
  have node:∀i,Jc0 a s b A i=none↔((!(A.getD i false) || (a.mine.places.l.getD i default).surface)=true→b.low.l.getD i 0=0∧b.high.l.getD i 0=0)∧(¬ (!(A.getD i false) || (a.mine.places.l.getD i default).surface)=true→0≤Jtm a s b.high.l (i:Int)∧Ji1 a s b.low.l (i:Int)≤0):=fun i=>by
    unfold Jc0
    by_cases h1:(!(A.getD i false) || (a.mine.places.l.getD i default).surface)=true
    · rw [if_pos h1]
      refine ⟨fun h=>⟨fun _=>?_,fun h'=>absurd h1 h'⟩,fun h=>if_neg (by have:=h.1 h1;omega)⟩
      split at h
      · cases h
      · omega
    · rw [if_neg h1]
      refine ⟨fun h=>⟨fun h'=>absurd h' h1,fun _=>?_⟩,fun h=>if_neg (by have:=h.2 h1;omega)⟩
      split at h
      · cases h
      · omega
  constructor
  · intro h
    have hC:=Jts h
    rw [Jnb hC] at h
    have hn:(List.range a.mine.places.l.length).findSome? (Jc0 a s b A)=none:=by
      cases e:(List.range a.mine.places.l.length).findSome? (Jc0 a s b A) with
      | none=>rfl
      | some v=>
        obtain ⟨i,_,hi⟩:=List.exists_of_findSome?_eq_some e
        rcases Js2 a s b A i with h1 | h1
        · rw [h1] at hi;cases hi
        · rw [h1] at hi;cases hi;rw [e] at h;cases h
    rw [List.findSome?_eq_none_iff] at hn
    exact ⟨hC,fun i hi=>((node i).1 (hn i (List.mem_range.2 hi))).1,fun i hi=>((node i).1 (hn i (List.mem_range.2 hi))).2⟩
  · intro h
    rw [Jnb h.ck,List.findSome?_eq_none_iff.2 (fun i hi=>(node i).2 ⟨h.fix i (List.mem_range.1 hi),h.net i (List.mem_range.1 hi)⟩)]
    rfl
end Go.Proofs.YtchfclmokpbldaaGreat
end
section
/-
  Raising and lowering, in plain numbers: P12.1 and P12.2. By an AI agent; no person has read it.
-/
namespace Go.Proofs.YtchfclmokpbldaaGreat
open Go.Aw Go
theorem Tri.turn {P : Program} {f : FuncId} {args : Array Value} {L : List Blk} {R : List Sl} {Post Post' : Jef} (h : Tri P f args L R Post)
    (k:∀v L' R',Post v L' R'→∃L'' R'',L'.Perm L''∧(∀r∈R'',InR r R')∧Post' v L'' R''):Tri P f args L R Post':=
  ⟨h.1,fun w G hh=>(h.2 w G hh).mono fun e w' ⟨v,L',R',he,hp,hst⟩=>by
    obtain ⟨L'',R'',h1,h2,h3⟩:=k v L' R' hp
    exact ⟨v,L'',R'',he,h3,(hst.perm h1).weak (List.Sublist.refl _) h2⟩⟩
def Jqc (g:Int→Bool) (start:Int) (up:Bool):Option Int:=
  ((List.range ((Jlo up start).toNat + 1)).find? fun (m:Nat)=>g (start + sgn up * (m:Int))).map fun (m:Nat)=>start + sgn up * (m:Int)
theorem J0n {g:Int→Bool} {start:Int} {up:Bool} {v:Int} (h:First g start up v true):Jqc g start up=some v:=by
  obtain ⟨m,m0,m1,mv,mg,mj⟩:=h.yes rfl
  have e:(List.range ((Jlo up start).toNat + 1)).find? (fun (m:Nat)=>g (start + sgn up * (m:Int)))=some m.toNat:=by
    rw [List.find?_range_eq_some]
    refine ⟨?_,List.mem_range.2 za,fun j hj=>?_⟩
    · rw [Int.toNat_of_nonneg m0,← mv];exact mg
    · rw [mj j za za];rfl
  rw [Jqc,e,Option.map_some,Int.toNat_of_nonneg m0,mv]
theorem J01 {g:Int→Bool} {start:Int} {up:Bool} {v:Int} (h0:0≤Jlo up start) (h:First g start up v false):Jqc g start up=none:=by
  obtain ⟨_,hj⟩:=h.no rfl
  have e:(List.range ((Jlo up start).toNat + 1)).find? (fun (m:Nat)=>g (start + sgn up * (m:Int)))=none:=by
    rw [List.find?_range_eq_none]
    intro i hi
    rw [hj i za za];rfl
  rw [Jqc,e];rfl
theorem Jlb {g:Int→Bool} {start:Int} {up:Bool} {v:Int} (h0:0≤Jlo up start) (h:Jqc g start up=some v):First g start up v true:=by
  unfold Jqc at h
  obtain ⟨m,hm,rfl⟩:=Option.map_eq_some_iff.1 h
  rw [List.find?_range_eq_some] at hm
  obtain ⟨h1,h2,h3⟩:=hm
  have h2':=List.mem_range.1 h2
  refine ⟨fun _=>⟨m,by omega,by omega,rfl,h1,fun j j0 j1=>?_⟩,fun h=>by cases h⟩
  have:=h3 j.toNat za
  rw [Int.toNat_of_nonneg j0] at this
  cases e:g (start + sgn up * j) with
  | false=>rfl
  | true=>rw [e] at this;cases this
theorem Jqu {g:Int→Bool} {start:Int} {up:Bool} {v:Int} {ok:Bool} (h0:0≤Jlo up start) (h:First g start up v ok):v=(Jqc g start up).getD 0∧ok=(Jqc g start up).isSome:=by
  cases ok with
  | true=>rw [J0n h];exact ⟨rfl,rfl⟩
  | false=>rw [J01 h0 h];exact ⟨(h.no rfl).1,rfl⟩
attribute [irreducible] Jqc
def Jsi (a:XAir) (s:XSetting) (up:Bool) (l:List Int) (v:Int):Int→Bool:=if up=true then J8b a s l v else Jx4 a s l v
def Jg8 (a:XAir) (s:XSetting) (up:Bool) (l:List Int) (k:Nat):Option Int:=Jqc (Jsi a s up l k) (l.getD k 0) up
abbrev Jp1 (a:XAir) (A:List Bool) (k:Nat):Bool:=!(A.getD k false) || (a.mine.places.l.getD k default).surface
def Jcm (a : XAir) (s : XSetting) (A : List Bool) (up : Bool) (l : List Int) : Nat → Option (List Int)
  | 0=>some l
  | k + 1=>(Jcm a s A up l k).bind fun m=>if Jp1 a A k=true then some m else (Jg8 a s up m k).map fun v=>m.set k v
def Jcz (a : XAir) (s : XSetting) (A : List Bool) (up : Bool) : Nat → List Int → Option (List Int)
  | 0,_=>none
  | n + 1,l=>match Jcm a s A up l a.mine.places.l.length with
    | none=>none
    | some m=>if m=l then some m else Jcz a s A up n m
def Jd3 (a:XAir) (ps:List Int) (A:List Bool) (i:Nat):Option Int:=if Jp1 a A i=true∧ps.getD i 0≠0 then some 12 else none
def Jc8 (a:XAir) (s:XSetting) (ps:List Int) (A:List Bool):Int:=
  if Jbx a≠0 then Jbx a else if Jjb a s=false then 21 else if ps.length≠a.mine.places.l.length then 11
  else if (ps.findSome? Jc2).isSome=true then 1 else ((List.range a.mine.places.l.length).findSome? (Jd3 a ps A)).getD 0
def Jb4 (a:XAir) (s:XSetting) (A:List Bool) (up:Bool) (ps:List Int):Int×List Int:=
  if Jc8 a s ps A≠0 then (Jc8 a s ps A,[]) else match Jcz a s A up 200 ps with
    | none=>(2,[])
    | some l=>(0,l)
def Jd8 (a:XAir) (s:XSetting) (A:List Bool):Int×List Int×List Int:=
  let p:=Jb4 a s A false (List.replicate a.mine.places.l.length 0)
  if p.1≠0 then (p.1,[],[]) else
    let q:=Jb4 a s A true p.2
    if q.1≠0 then (q.1,[],[]) else
      let r:=Jb4 a s A false q.2
      if r.1≠0 then (r.1,[],[]) else (0,r.2,q.2)
structure StartOk (a:XAir) (s:XSetting) (ps:List Int) (A:List Bool):Prop where
  h0:Jbx a=0
  hf:Jjb a s=true
  hl:ps.length=a.mine.places.l.length
  hp:PresOk ps
  fix:∀i:Nat,i < a.mine.places.l.length→Jp1 a A i=true→ps.getD i 0=0
theorem Jjl {a:XAir} {s:XSetting} {ps:List Int} {A:List Bool}:Jc8 a s ps A=0↔StartOk a s ps A:=by
  constructor
  · intro h
    unfold Jc8 at h
    split at h
    · rename_i h1;exact absurd h h1
    rename_i h1
    split at h
    · cases h
    rename_i h2
    split at h
    · cases h
    rename_i h3
    split at h
    · cases h
    rename_i h4
    refine ⟨by omega,by simpa using h2,by omega,Jjt (by simpa using h4),fun i hi hf=>?_⟩
    have hn:(List.range a.mine.places.l.length).findSome? (Jd3 a ps A)=none:=by
      cases e:(List.range a.mine.places.l.length).findSome? (Jd3 a ps A) with
      | none=>rfl
      | some v=>
        obtain ⟨j,_,hj⟩:=List.exists_of_findSome?_eq_some e
        unfold Jd3 at hj
        split at hj
        · cases hj;rw [e] at h;cases h
        · cases hj
    rw [List.findSome?_eq_none_iff] at hn
    have:=hn i (List.mem_range.2 hi)
    unfold Jd3 at this
    split at this
    · cases this
    · rename_i h5
      exact Decidable.not_not.1 fun h6=>h5 ⟨hf,h6⟩
  · intro h
    rw [Jc8,if_neg (by rw [h.h0];decide),if_neg (by rw [h.hf];decide),if_neg (by rw [h.hl];simp),if_neg (by rw [Jk2 h.hp];simp),List.findSome?_eq_none_iff.2 (fun i hi=>show Jd3 a ps A i=none from if_neg (fun h'=>h'.2 (h.fix i (List.mem_range.1 hi) h'.1)))]
    rfl
theorem Jwp {a:XAir} {s:XSetting} {up:Bool} {l:List Int} {k:Nat} {v:Int} (h:PresOk l) (hv:Jg8 a s up l k=some v):-70368744177664≤v∧v≤70368744177664:=by
  obtain ⟨m,m0,m1,mv,_,_⟩:=(Jlb (Joy (h.get k)).1 hv).yes rfl
  rw [mv]
  exact Jyi (h.get k) ⟨m0,m1⟩
structure Swept (a:XAir) (s:XSetting) (A:List Bool) (up:Bool) (l:List Int) (k:Nat) (m:List Int):Prop where
  to:Jcm a s A up l k=some m
  len:m.length=l.length
  pres:PresOk m
  rest:∀j:Nat,k≤j→m[j]?=l[j]?
theorem Swept.zero {a:XAir} {s:XSetting} {A:List Bool} {up:Bool} {l:List Int} (h:PresOk l):Swept a s A up l 0 l:=⟨rfl,rfl,h,fun _ _=>rfl⟩
theorem Swept.skip {a:XAir} {s:XSetting} {A:List Bool} {up:Bool} {l m:List Int} {k:Nat} (h:Swept a s A up l k m) (hf:Jp1 a A k=true):Swept a s A up l (k + 1) m:=
  ⟨by rw [Jcm,h.to,Option.bind_some,if_pos hf],h.len,h.pres,fun j hj=>h.rest j za⟩
theorem Swept.fail {a:XAir} {s:XSetting} {A:List Bool} {up:Bool} {l m:List Int} {k:Nat} (h:Swept a s A up l k m) (hf:¬ Jp1 a A k=true) (hn:Jg8 a s up m k=none):∀n,k + 1≤n→Jcm a s A up l n=none:=by
  intro n hn2
  induction n with
  | zero=>omega
  | succ n ih=>
    rcases Nat.lt_or_ge k n with h1 | h1
    · rw [Jcm,ih za];rfl
    · obtain rfl : n = k := by omega
      rw [Jcm,h.to,Option.bind_some,if_neg hf,hn];rfl
theorem Swept.next {a:XAir} {s:XSetting} {A:List Bool} {up:Bool} {l m:List Int} {k:Nat} (h:Swept a s A up l k m) (hf:¬ Jp1 a A k=true) {v:Int} (hv:Jg8 a s up m k=some v):Swept a s A up l (k + 1) (m.set k v):=
  ⟨by rw [Jcm,h.to,Option.bind_some,if_neg hf,hv];rfl,by rw [List.length_set];exact h.len,h.pres.set _ (Jwp h.pres hv),fun j hj=>by rw [List.getElem?_set_ne za];exact h.rest j za⟩
theorem Swept.flag {a:XAir} {s:XSetting} {A:List Bool} {up:Bool} {l m:List Int} {k:Nat} (h:Swept a s A up l k m) (hk:k < l.length) (v:Int):decide (m.set k v≠l)=(decide (m≠l) || decide (v≠m.getD k 0)):=by
  have hlen:=h.len
  have hg:=Jau (l:=m) (k:=k) 0 za
  by_cases h1:v=m.getD k 0
  · rw [h1,Jj8];simp
  · have h2:m.set k v≠l:=fun e=>by
      have h3:=h.rest k (Nat.le_refl _)
      rw [← e,List.getElem?_set_self za,hg] at h3
      exact h1 (Option.some.inj h3).symm
    rw [decide_eq_true h2,decide_eq_true h1,Bool.or_true]
theorem Jwl {a:XAir} {s:XSetting} {A:List Bool} {up:Bool} {n:Nat} {l m:List Int} (hs:Jcm a s A up l a.mine.places.l.length=some m) (hne:m≠l):Jcz a s A up (n + 1) l=Jcz a s A up n m:=by
  rw [Jcz,hs];exact if_neg hne
theorem Jwz {a:XAir} {s:XSetting} {A:List Bool} {up:Bool} {n:Nat} {l:List Int} (hs:Jcm a s A up l a.mine.places.l.length=some l):Jcz a s A up (n + 1) l=some l:=by
  rw [Jcz,hs];exact if_pos rfl
theorem Jw5 {a:XAir} {s:XSetting} {A:List Bool} {up:Bool} {n:Nat} {l:List Int} (hs:Jcm a s A up l a.mine.places.l.length=none):Jcz a s A up (n + 1) l=none:=by
  rw [Jcz,hs]
theorem Jfa {a : XAir} {s : XSetting} {A : List Bool} {up : Bool} {l : List Int} (hl : PresOk l) : ∀ {k : Nat} {m : List Int}, Jcm a s A up l k = some m → Swept a s A up l k m
  | 0,m,h=>by cases h;exact .zero hl
  | k + 1,m,h=>by
    have h':=h
    rw [Jcm,Option.bind_eq_some_iff] at h'
    obtain ⟨m1,h1,h2⟩:=h'
    have ih:=Jfa hl h1
    split at h2
    · rename_i hf
      cases h2
      exact ih.skip hf
    · rename_i hf
      obtain ⟨v,hv,rfl⟩:=Option.map_eq_some_iff.1 h2
      exact ih.next hf hv
theorem Jje {a : XAir} {s : XSetting} {A : List Bool} {up : Bool} : ∀ {n : Nat} {l m : List Int}, PresOk l → Jcz a s A up n l = some m → m.length = l.length ∧ PresOk m ∧ Jcm a s A up m a.mine.places.l.length = some m
  | 0,l,m,_,h=>by cases h
  | n + 1,l,m,hl,h=>by
    rw [Jcz] at h
    split at h
    · cases h
    · rename_i m1 h1
      have hs:=Jfa hl h1
      split at h
      · rename_i e
        cases h
        subst e
        exact ⟨rfl,hl,h1⟩
      · obtain ⟨k1, k2, k3⟩ := Jje hs.pres h
        exact ⟨k1.trans hs.len,k2,k3⟩
theorem Jo2 {a:XAir} {s:XSetting} {A:List Bool} {up:Bool} {ps:List Int} (h:(Jb4 a s A up ps).1=0):StartOk a s ps A∧Jcz a s A up 200 ps=some (Jb4 a s A up ps).2:=by
  unfold Jb4 at h ⊢
  split at h
  · rename_i h1;exact absurd h h1
  · rename_i h1
    rw [if_neg h1]
    refine ⟨Jjl.1 za,?_⟩
    split at h
    · cases h
    · rename_i l e;rw [e]
end Go.Proofs.YtchfclmokpbldaaGreat
end
section
/-
  The reference's raising and lowering. By an AI agent; no person has read it.
-/
namespace Go.Proofs.YtchfclmokpbldaaGreat
open Go.Aw Go
set_option maxRecDepth 20000
attribute [local irreducible] CJ LJ DJ Tri YV Gives Jcj Ja1 Jbg Jci RV Ja2 OwL.L
abbrev J7l (x:Option Int):Value:=.tuple #[.int .i64 (x.getD 0),.bool x.isSome]
theorem J2x {ps:List Int} (h:PresOk ps) (up:Bool) (k:Nat):0≤Jlo up (ps.getD k 0):=(Joy (h.get k)).1
end Go.Proofs.YtchfclmokpbldaaGreat
end
section
/-
  The reference's bounds. By an AI agent; no person has read it.
-/
namespace Go.Proofs.YtchfclmokpbldaaGreat
open Go.Aw Go
set_option maxRecDepth 20000
attribute [local irreducible] CJ LJ DJ Tri YV Gives Jcj Ja1 Jbg Jci RV Ja2 OwL.L
theorem J5s {α:Type} {f:α→List Value} {z:List Value} {b n:Nat} {T:TypeId} {x:α} {A:List Blk} (hz:z=f x):InB ((⟨.own b n [],List.replicate n x⟩:OwL α).L T f) (⟨b,Jqy z n,T⟩ :: A):=by
  rw [Jes hz A];exact Jj0
end Go.Proofs.YtchfclmokpbldaaGreat
end
section
/-
  The program's raising and lowering. By an AI agent; no person has read it.
-/
namespace Go.Proofs.YtchfclmokpbldaaGreat
open Go.Aw Go
set_option maxRecDepth 20000
attribute [local irreducible] CJ LJ DJ Tri YV Gives Jcj Ja1 Jbg Jci RV Ja2 OwL.L
section
variable {A9 B9:Prop}
theorem Kba (a:A9) (h:A9→B9:=by exact Jax zIa rfl):B9:=h a
theorem Kau (a:A9) (h:A9→B9:=by exact Jax (Jbj tb (p) rfl rfl rfl zk zg (fun _=>rfl) zg zb) rfl):B9:=h a
theorem Kct (h:B9:=by exact ⟨OwL.nil,Jj5 n.pipes :: Ji4 n.at_ :: (S ++ S0),by rw [hrn];rfl,OwL.nil_ok,by rw [hrn],by rw [Jbi,List.nil_append],by rw [hR4];simp⟩):B9:=h
theorem Kaj (a:A9) (h:A9→B9:=by exact Jax (Jat tb ((⟨o34,m⟩:OwL Int)) _ rfl rfl ((show _=Value.slice _ _ _ from rfl).trans (by simp only [OwL.val,hml,w3])) rfl zg (i:=i) zj zu) rfl):B9:=h a
end
theorem Jtt (a:XAir) (s:XSetting) (ps:Arr Int) (A:List Bool) (L:List Blk) (R:List Sl) (hm:AirR a R) (hs:SetR s R) (hps:InR (isl ps) R) (hA:Jbx a=0→AiryIs a.mine A):
    Tri Tryz.prog 277 [a.val,s.val,ps.val].toArray L R (fun v L' R'=>∃S:List Sl,v=.int .i64 (Jc8 a s ps.l A)∧L=L'∧S ++ R=R'):=by
  have hmp:=hm.places
  refine Jc1 Tryz.call277 hps fun hpn=>?_
  refine Jc1 Tryz.call277 hmp fun hmpn=>?_
  refine Jad 70 Tryz.call277 Tryz.func277 rfl rfl rfl ?_
  refine Xaf ?_
  intro b3
  refine qax ?_
  intro b4
  refine Xas ?_
  refine qa8 ?_
  refine q_l rfl (Je4 a _ _ hm) ?_
  refine Xa9 ?_
  refine q_c (fun hc0=>?_) (fun hc0=>?_)
  ·
   refine Xdl ?_
   refine q_i (L':=L) (R':=R) ?_
   exact ⟨[],by rw [Jc8,if_pos hc0],rfl,rfl⟩
  have h0:Jbx a=0:=by omega
  have hok:=Jeo h0
  have hAA:=hA h0
  have hmn:=hok.mine.places
  refine qbo ?_
  refine Xcc ?_
  refine q_l rfl (Jk9 a s _ _ hm hs) ?_
  refine Xbd ?_
  refine q_c (fun hc1=>?_) (fun hc1=>?_)
  ·
   refine Xa7 ?_
   refine q_i (L':=L) (R':=R) ?_
   exact ⟨[],by rw [Jc8,if_neg hc0,if_pos zI],rfl,rfl⟩
  have hf0:Jjb a s=true:=by simpa using hc1
  have hff:¬ Jjb a s=false:=by rw [hf0];decide
  refine qbo ?_
  refine Xao ?_
  refine Xb8 ?_
  refine Xaq ?_
  refine q_c (fun hc2=>?_) (fun hc2=>?_)
  ·
   refine Xa7 ?_
   refine q_i (L':=L) (R':=R) ?_
   exact ⟨[],by rw [Jc8,if_neg hc0,if_neg hff,if_pos za],rfl,rfl⟩
  have hln:ps.l.length=a.mine.places.l.length:=by omega
  refine qbo ?_
  refine Xbv ?_
  refine Jan [(2,Value.slice _ _ _),(3,Value.pointer _),(29,Value.slice _ _ _),(30,Value.int _ _),(31,Value.int _ _)] zh fun tq0=>?_
  refine q_s [6,9,31,32,33,34,35,36,37,38,39,40,41] (fun g:FS (Jc2) (ps.l)=>[(31,.int .i64 ((g.1:Nat):Int))]) (fun g=>(ps.l).length - g.1) ⟨0,Jgx _ _⟩ ?_
  rintro ⟨k0,hk0,hp0⟩ junk
  try dsimp only
  refine Xak ?_
  refine q_c (fun hc3=>?_) (fun hc3=>?_)
  ·
   obtain ⟨y,hy⟩:=Jbr (l:=ps.l) (k:=k0) za
   refine qbb ?_
   refine Jax zX rfl ?_
   refine qa7 ?_
   refine Xat ?_
   refine Xav ?_
   apply Ja7 (G:=[_,_]) (j:=2) (cj:=37) rfl rfl zb rfl (show _=Value.bool _ from rfl) rfl
   ·
    intro hg3
    replace hg3:=qb hg3
    refine Xb5 ?_
    exact qai
   intro junk3
   refine qaf ?_
   refine q_c (fun hc4=>?_) (fun hc4=>?_)
   ·
    refine Xby ?_
    refine q_i (L':=L) (R':=R) ?_
    have hpb:=Jep hp0 hy (show Jc2 y=some 1 from if_pos za)
    exact ⟨[],by rw [Jc8,if_neg hc0,if_neg hff,if_neg za,if_pos (by rw [hpb];rfl)],rfl,rfl⟩
   refine Xay ?_
   exact q_k ⟨k0 + 1,Jge hp0 hy (if_neg za)⟩
  have hn0:=Jgf hp0 za
  refine qbk ?_
  refine Xds ?_
  refine Jaw rfl (Jnu a.mine _ _ hm.mineR hok.mine (Jii h0)) rfl ?_
  rintro v L' R' ⟨p,A2,S,rfl,hpk,hA2,hpl,rfl,rfl⟩
  obtain rfl:A=A2:=hAA.unique hA2
  have hfx:p.l.length=a.mine.places.l.length:=by rw [hpl,List.length_map];exact hAA.length
  have hps2:InR (isl ps) (S ++ R):=hps.mono fun r h=>Jaa zw
  have hmp2:InR (psl a.mine.places) (S ++ R):=hmp.mono fun r h=>Jaa zw
  have hck:Jc8 a s ps.l A=((List.range a.mine.places.l.length).findSome? (Jd3 a ps.l A)).getD 0:=by rw [Jc8,if_neg hc0,if_neg hff,if_neg za,if_neg (by rw [hn0];simp)]
  refine Xcb ?_
  refine qab ?_
  refine Xaw ?_
  refine Jan [(2,Value.slice _ _ _),(10,Value.slice _ _ _),(47,Value.slice _ _ _),(48,Value.int _ _),(49,Value.int _ _)] zh fun tq1=>?_
  refine q_s [6,11,12,49,50,51,52,53,54,55,56,57,58,59,60,61,62,63,64,65,66,67,68,69] (fun g:FSR (Jd3 a ps.l A) (a.mine.places.l.length)=>[(49,.int .i64 ((g.1:Nat):Int))]) (fun g=>(a.mine.places.l.length) - g.1) ⟨0,Jgn _ _⟩ ?_
  rintro ⟨k1,hk1,hp1⟩ junk
  try dsimp only
  refine Xak ?_
  refine q_c (fun hc5=>?_) (fun hc5=>?_)
  ·
   have hmg:=Jau (l:=a.mine.places.l) (k:=k1) default za
   have hpg:p.l[k1]?=some (!(A.getD k1 false)):=by
     have:=hAA.length
     rw [hpl,List.getElem?_map,Jau (l:=A) (k:=k1) false za];rfl
   have hsg:=Jau (l:=ps.l) (k:=k1) 0 za
   refine Xa6 ?_
   refine Kba ?_
   refine Xdt ?_
   intro b12
   refine qad ?_
   refine Xb1 ?_
   refine qah ?_
   apply Ja7 (G:=[_,_,_,_]) (j:=2) (cj:=56) rfl rfl zb rfl (show _=Value.bool _ from rfl) rfl
   ·
    intro hg3
    replace hg3:=qb hg3
    refine Xau ?_
    refine Jax (Jat tb (p) _ rfl rfl rfl rfl zg (i:=k1) zj zu) rfl ?_
    refine Kau ?_
    exact qai
   intro junk3
   refine qah ?_
   apply Jb7 (G:=[_,_,_,_,_]) (j:=8) (cj:=62) rfl rfl zb rfl (show _=Value.bool _ from rfl) rfl
   ·
    intro hg9
    replace hg9:=qb hg9
    refine Xau ?_
    refine Kba ?_
    refine qa7 ?_
    refine qbq ?_
    exact qai
   intro junk9
   refine qaf ?_
   refine q_c (fun hc6=>?_) (fun hc6=>?_)
   ·
    have hnb:Jd3 a ps.l A k1=some 12:=if_pos ⟨by obtain ⟨h1 | h1,_⟩:=hc6;rw [Jp1,h1,Bool.or_true];rw [Jp1,h1];rfl,hc6.2⟩
    refine Xby ?_
    refine q_i (L':=L) (R':=S ++ R) ?_
    exact ⟨S,by rw [hck,Jdo hp1 za hnb];rfl,rfl,rfl⟩
   have hnb:Jd3 a ps.l A k1=none:=if_neg (fun ⟨h1,h2⟩=>by
   rcases hc6 with ⟨h3,h4⟩ | h3
   · rw [Jp1,h3,h4] at h1;cases h1
   · exact h3 h2)
   refine Xay ?_
   exact q_k ⟨k1 + 1,Jen hp1 za (hnb)⟩
  have hn1:=Jf2 hp1 za
  refine Xb9 ?_
  refine q_i (L':=L) (R':=S ++ R) ?_
  exact ⟨S,by rw [hck,hn1];rfl,rfl,rfl⟩
theorem Kci {n:XNet} {a:XAir} {s:XSetting} {o:Ow} {l:List Int} {k:Nat} {A:List Blk} {R:List Sl} {vl:Value} (hvl:vl=(⟨o,l⟩:OwL Int).val) (h:HypsN n a s l k R) (hin:InB ((⟨o,l⟩:OwL Int).L 3 Jap) A) (hok:(⟨o,l⟩:OwL Int).ok 1 Jap):
    Tri Tryz.prog 240 [n.val,vl,.int .i64 (k:Int)].toArray A R (fun w L' R'=>w=J7l (Jg8 a s true l k)∧A=L'∧R=R'):=by
  subst hvl
  refine Tri.lend1 hin hok ((Jui n a s (⟨o,l⟩:OwL Int).arr k [] _ ⟨h.pp.mono fun r hr=>Jaa (.tail _ hr),h.aa.mono fun r hr=>Jaa (.tail _ hr),h.is,h.ok,h.len,h.pres,h.v⟩ (Jaa (.head _))).mono ?_)
  rintro v L' R' ⟨z,ok,rfl,hF,rfl,rfl⟩
  obtain ⟨rfl,rfl⟩:=Jqu (J2x h.pres true (Int.toNat k)) hF
  exact ⟨rfl,rfl,rfl⟩
theorem J3h {n:XNet} {a:XAir} {s:XSetting} {o:Ow} {l:List Int} {k:Nat} {A:List Blk} {R:List Sl} {vl:Value} (hvl:vl=(⟨o,l⟩:OwL Int).val) (h:HypsN n a s l k R) (hin:InB ((⟨o,l⟩:OwL Int).L 3 Jap) A) (hok:(⟨o,l⟩:OwL Int).ok 1 Jap):
    Tri Tryz.prog 239 [n.val,vl,.int .i64 (k:Int)].toArray A R (fun w L' R'=>w=J7l (Jg8 a s false l k)∧A=L'∧R=R'):=by
  subst hvl
  refine Tri.lend1 hin hok ((Jpw n a s (⟨o,l⟩:OwL Int).arr k [] _ ⟨h.pp.mono fun r hr=>Jaa (.tail _ hr),h.aa.mono fun r hr=>Jaa (.tail _ hr),h.is,h.ok,h.len,h.pres,h.v⟩ (Jaa (.head _))).mono ?_)
  rintro v L' R' ⟨z,ok,rfl,hF,rfl,rfl⟩
  obtain ⟨rfl,rfl⟩:=Jqu (J2x h.pres false (Int.toNat k)) hF
  exact ⟨rfl,rfl,rfl⟩
def J3j : Bool → FuncId
  | true=>240
  | false=>239
theorem J76 (up:Bool) {n:XNet} {a:XAir} {s:XSetting} {o:Ow} {l:List Int} {k:Nat} {A:List Blk} {R:List Sl} {vl:Value} (hvl:vl=(⟨o,l⟩:OwL Int).val) (h:HypsN n a s l k R) (hin:InB ((⟨o,l⟩:OwL Int).L 3 Jap) A) (hok:(⟨o,l⟩:OwL Int).ok 1 Jap):
    Tri Tryz.prog (J3j up) [n.val,vl,.int .i64 (k:Int)].toArray A R (fun w L' R'=>w=J7l (Jg8 a s up l k)∧A=L'∧R=R'):=by
  cases up with
  | true=>exact Kci hvl h hin hok
  | false=>exact J3h hvl h hin hok
theorem Jlp (a:XAir) (s:XSetting) (ps:Arr Int) (up:Bool) (A:List Bool) (L:List Blk) (R:List Sl) (hm:AirR a R) (hs:SetR s R) (hps:InR (isl ps) R) (hA:Jbx a=0→AiryIs a.mine A):
    Tri Tryz.prog 238 [a.val,s.val,ps.val,.func (.func (J3j up)) #[] #[]].toArray L R (fun w L' R'=>∃(p:OwL Int) (S:List Sl),w=.tuple #[p.val,.int .i64 (Jb4 a s A up ps.l).1]∧p.ok 1 Jap∧p.l=(Jb4 a s A up ps.l).2∧p.L 3 Jap ++ L=L'∧S ++ R=R'):=by
  refine Jad 80 Tryz.call238 Tryz.func238 rfl rfl rfl ?_
  refine Xaf ?_
  intro b4
  refine qax ?_
  intro b5
  refine qc4 ?_
  refine Xas ?_
  refine Xcc ?_
  refine qbm ?_
  refine Jaw rfl (Jtt a s ps A _ _ hm hs hps hA) rfl ?_
  rintro v L' R' ⟨S0,rfl,rfl,rfl⟩
  refine Xa9 ?_
  refine q_c (fun hc0=>?_) (fun hc0=>?_)
  ·
   refine Xbc ?_
   refine qc4 ?_
   refine Xai ?_
   refine q_r (L':=L) (R':=S0 ++ R) (Jcf rfl (Jaf (show _=Value.slice _ _ _ from rfl)) (Jaf (show _=Value.int _ _ from rfl))) ?_
   exact ⟨OwL.nil,S0,by rw [Jb4,if_pos hc0];rfl,OwL.nil_ok,by rw [Jb4,if_pos hc0],by rw [Jbi,List.nil_append],rfl⟩
  have hso:=Jjl.1 (show Jc8 a s ps.l A=0 by omega)
  have hok:=Jeo hso.h0
  have hfo:=Jr0 hso.hf
  have hAA:=hA hso.h0
  have hln:=hso.hl
  have hnp:=hok.mine.places
  have hrx:Jb4 a s A up ps.l=match Jcz a s A up 200 ps.l with
    | none=>(2,[])
    | some l=>(0,l):=by rw [Jb4,if_neg hc0] <;> rfl
  have hR1:∀r∈R,InR r (S0 ++ R):=fun r h=>Jaa zw
  have hm1:=Jgb hm hR1
  have hs1:=Jji hs hR1
  refine qbv ?_
  refine Xds ?_
  refine Jaw rfl (Jnu a.mine _ _ hm1.mineR hok.mine (Jii hso.h0)) rfl ?_
  rintro v L' R' ⟨p,A2,S,rfl,hpk,hA2,hpl,rfl,rfl⟩
  obtain rfl:A=A2:=hAA.unique hA2
  have hfx:p.l.length=a.mine.places.l.length:=by rw [hpl,List.length_map];exact hAA.length
  have hAl:=hAA.length
  have hR2:∀r∈S0 ++ R,InR r (S ++ (S0 ++ R)):=fun r h=>Jaa (by simp only [List.mem_append] at h ⊢;exact .inr h)
  refine qc4 ?_
  refine qam ?_
  refine Xcc ?_
  refine Jaw rfl (Jrz a s _ _ (Jgb hm1 hR2) (Jji hs1 hR2) hok hfo) rfl ?_
  rintro v L' R' ⟨n,rfl,hn,rfl,rfl⟩
  have hR3:∀r∈S ++ (S0 ++ R),InR r (Jj5 n.pipes :: Ji4 n.at_ :: (S ++ (S0 ++ R))):=fun r h=>Jaa (by simp only [List.mem_cons];exact .inr (.inr h))
  have hps3:InR (isl ps) (Jj5 n.pipes :: Ji4 n.at_ :: (S ++ (S0 ++ R))):=((hps.mono hR1).mono hR2).mono hR3
  have hmp3:InR (psl a.mine.places) (Jj5 n.pipes :: Ji4 n.at_ :: (S ++ (S0 ++ R))):=((hm1.places).mono hR2).mono hR3
  have hpp:InR (Jj5 n.pipes) (Jj5 n.pipes :: Ji4 n.at_ :: (S ++ (S0 ++ R))):=Jaa (.head _)
  have haa:InR (Ji4 n.at_) (Jj5 n.pipes :: Ji4 n.at_ :: (S ++ (S0 ++ R))):=Jaa (.tail _ (.head _))
  obtain ⟨R4,hR4⟩:∃R4,R4=Jj5 n.pipes :: Ji4 n.at_ :: (S ++ (S0 ++ R)):=⟨_,rfl⟩
  rw [← hR4] at hps3 hmp3 hpp haa ⊢
  refine qaq ?_
  intro b12
  refine Xa2 ?_
  refine qbm ?_
  refine Jgl (Jbm (f:=Jap) (xs:=ps) tb rfl rfl rfl ze rfl rfl (hps3) (fun _=>rfl) za) rfl ?_
  rintro v L' R' ⟨o34,rfl,hok34,rfl,rfl⟩
  refine Xcb ?_
  refine Xb2 ?_
  refine Jan [(3,_),(4,Value.pointer _),(11,Value.slice _ _ _),(12,Value.pointer _),(13,Value.slice _ _ _),(14,Value.int _ _)] zh fun tq0=>?_
  refine q_p [8,9,14,15,16,17,18,19,35,36,37,38,39,40,41,42,43,44,45,46,47,48,49,50,51,52,53,54,55,56,57,58,59,60,61,62,63,64,65,66,67,68,69,70,71,72,73,74,75,76,77,78,79] ((⟨fun q=>[(14,.int .i64 ((q.1.1:Nat):Int))],fun q=>(⟨o34,q.1.2⟩:OwL Int).L 3 Jap ++ (⟨b12,n.cells,221⟩ :: (p.L 4 blc ++ (⟨b5,s.cells,80⟩ :: ⟨b4,a.cells,32⟩ :: L))),fun _=>R4,fun q=>200 - q.1.1⟩:Head {q:Nat×List Int // q.1≤200∧Jcz a s A up 200 ps.l=Jcz a s A up (200 - q.1) q.2∧q.2.length=ps.l.length∧PresOk q.2∧(⟨o34,q.2⟩:OwL Int).ok 1 Jap})) (⟨(0,ps.l),by dsimp only;omega,rfl,rfl,hso.hp,hok34⟩) ?_
  rintro ⟨⟨n1,l⟩,w1,w2,w3,w4,w5⟩ junk
  try dsimp only
  dsimp only at w1 w2 w3 w4 w5
  refine Xbn ?_
  refine Xbe ?_
  refine q_c (fun hc1=>?_) (fun hc1=>?_)
  ·
   have e200:200 - n1=(200 - (n1 + 1)) + 1:=by omega
   rw [e200] at w2
   refine qbb ?_
   refine qaz ?_
   refine qaw ?_
   refine qab ?_
   refine Xaw ?_
   refine Jfq [8,9,14,15,16,17,18,19,35,36,37,38,39,40,41,42,43,44,45,46,47,48,49,50,51,52,53,54,55,56,57,58,59,60,61,62,63,64,65,66,67,68,69,70,71,72,73,74,75,76,77,78,79] zN [(14,Value.int _ _),(15,Value.bool _),(41,Value.slice _ _ _),(42,Value.int _ _),(43,Value.int _ _)] zh fun tq1=>?_
   refine Jdg [8,9,15,16,17,18,19,43,44,45,46,47,48,49,50,51,52,53,54,55,56,57,58,59,60,61,62,63,64,65,66,67,68,69,70,71,72,73,74,75,76] ((⟨fun q=>[(43,.int .i64 ((q.1.1:Nat):Int)),(15,.bool (decide (q.1.2≠l)))],fun q=>(⟨o34,q.1.2⟩:OwL Int).L 3 Jap ++ (⟨b12,n.cells,221⟩ :: (p.L 4 blc ++ (⟨b5,s.cells,80⟩ :: ⟨b4,a.cells,32⟩ :: L))),fun _=>R4,fun q=>a.mine.places.l.length - q.1.1⟩:Head {q:Nat×List Int // q.1≤a.mine.places.l.length∧Swept a s A up l q.1 q.2∧(⟨o34,q.2⟩:OwL Int).ok 1 Jap})) (⟨(0,l),by dsimp only;omega,.zero w4,w5⟩) ⟨rfl,by simp;rfl,trivial⟩ zi (Jac _) ?_
   rintro ⟨⟨i,m⟩,q1,q2,q3⟩ junk
   try dsimp only
   dsimp only at q1 q2 q3
   have hml:=q2.len
   refine Xak ?_
   refine q_c (fun hc2=>?_) (fun hc2=>?_)
   ·
    have hgg:=Jau (l:=a.mine.places.l) (k:=i) default za
    obtain ⟨fb,hfb⟩:∃fb,fb=A.getD i false:=⟨_,rfl⟩
    have hpg:p.l[i]?=some (!fb):=by rw [hpl,List.getElem?_map,Jau (l:=A) (k:=i) false za,hfb];rfl
    have hmg:=Jau (l:=m) (k:=i) 0 za
    refine Xa6 ?_
    refine Jax zKa rfl ?_
    refine Xdt ?_
    intro b17
    refine qad ?_
    refine Xba ?_
    refine Xaa ?_
    refine qah ?_
    apply Ja7 (G:=[_,_,_,_]) (j:=2) (cj:=50) rfl rfl zb rfl (show _=Value.bool _ from rfl) rfl
    ·
     intro hg3
     replace hg3:=qb hg3
     refine Xau ?_
     refine Jax (Jat tb (p) _ rfl rfl rfl rfl zg (i:=i) zj zu) rfl ?_
     refine Kau ?_
     exact qai
    intro junk3
    refine qaf ?_
    refine q_c (fun hc3=>?_) (fun hc3=>?_)
    ·
     have hfi:Jp1 a A i=true:=by rw [Jp1,← hfb];rcases hc3 with h | h;rw [h,Bool.or_true];rw [h];rfl
     refine Jcc (Jbt (Jbb (Jab (Jah ?_))))
     refine Xae ?_
     exact q_k ⟨(i + 1,m),by dsimp only;omega,q2.skip hfi,q3⟩
    have hfi:¬ Jp1 a A i=true:=by rw [Jp1,← hfb,hc3.1,hc3.2];decide
    have hH:HypsN n a s m i R4:=⟨hpp,haa,hn,hok,by omega,q2.pres,by omega⟩
    refine qbv ?_
    refine Jax (Jav rfl) rfl ?_
    refine qbe ?_
    refine Xau ?_
    refine Js1 (Jfs rfl rfl (J76 up (o:=o34) (l:=m) ((show _=Value.slice _ _ _ from rfl).trans (by simp only [OwL.val,hml,w3])) hH zZ q3)) rfl rfl ?_
    rintro v L' R' ⟨rfl,rfl,rfl⟩
    refine Jax (Jav rfl) rfl ?_
    refine Xa5 ?_
    refine Xbm ?_
    refine qaw ?_
    refine qah ?_
    refine Xbd ?_
    refine q_c (fun hc4=>?_) (fun hc4=>?_)
    ·
     have hv:Jg8 a s up m i=none:=by simpa using hc4
     have hrn:Jb4 a s A up ps.l=(2,[]):=by rw [hrx,w2,Jw5 (q2.fail hfi hv _ za)]
     refine qae ?_
     refine qc4 ?_
     refine qad ?_
     refine Ja6 (Jab (Jcq (Jba (Ja5 (Jba (Jdu (Ja5 (Jba (Ja5 (Jba (Jdu (Ja5 (Jba ?_)))))))))))))
     refine q_r (L':=L) (R':=R4) (Jcf rfl (Jaf (show _=Value.slice _ _ _ from rfl)) (Jaf (show _=Value.int _ _ from rfl))) ?_
     exact Kct
    obtain ⟨u,hv⟩:=Option.isSome_iff_exists.1 hc4
    have hfl:=q2.flag (k:=i) za u
    refine qcl ?_
    rw [hv]
    refine Xa4 ?_
    refine Xau ?_
    refine Kaj ?_
    refine Jax (Jbj tb ((⟨o34,m⟩:OwL Int)) rfl rfl rfl zk zg (fun _=>rfl) zg zb) rfl ?_
    refine Xaq ?_
    refine q_c (fun hc5=>?_) (fun hc5=>?_)
    ·
     refine Xci ?_
     refine qaa ?_
     refine Kaj ?_
     refine Jd9 (Jar tb ((⟨o34,m⟩:OwL Int)) (u) rfl rfl rfl rfl zk zg (fun _=>rfl) zg ze zb zb) ?_
     rintro v L' R' ⟨rfl,rfl⟩
     refine qaz ?_
     refine Xbb ?_
     exact Jbl ⟨(i + 1,m.set i u),by dsimp only;omega,q2.next hfi hv,OwL.len_ok Jds q3 zo⟩ zm ⟨rfl,by dsimp only;rw [hfl,decide_eq_true (show u≠m.getD i 0 from hc5),Bool.or_true];rfl,trivial⟩ zi (Jac _) zy
    refine Xay ?_
    have hse:m.set i u=m:=by rw [show u=m.getD i 0 by simpa using hc5,Jj8]
    exact q_k ⟨(i + 1,m),by dsimp only;omega,hse ▸ q2.next hfi hv,q3⟩
   obtain rfl:i=a.mine.places.l.length:=by omega
   have hsw:=q2.to
   refine qbk ?_
   refine qah ?_
   refine Xbd ?_
   refine q_c (fun hc6=>?_) (fun hc6=>?_)
   ·
    have hme:m=l:=by simpa using hc6
    have hrn:Jb4 a s A up ps.l=(0,m):=by rw [hrx,w2,hme,Jwz (by rw [← hme] at hsw ⊢;exact hsw)]
    refine qae ?_
    refine qbm ?_
    refine qc4 ?_
    refine qad ?_
    refine qbt ?_
    refine q_r (L':=(⟨o34,m⟩:OwL Int).L 3 Jap ++ L) (R':=R4) (Jcf rfl (Jaf (show _=Value.slice _ _ _ from rfl)) (Jaf (show _=Value.int _ _ from rfl))) ?_
    exact ⟨⟨o34,m⟩,Jj5 n.pipes :: Ji4 n.at_ :: (S ++ S0),by rw [hrn];simp only [OwL.val,hml,w3],q3,by rw [hrn],rfl,by rw [hR4];simp⟩
   have hme:m≠l:=by simpa using hc6
   refine Xdb ?_
   exact q_k ⟨(n1 + 1,m),by dsimp only;omega,w2.trans (Jwl hsw hme),hml.trans w3,q2.pres,q3⟩
  obtain rfl:n1=200:=by omega
  have hrn:Jb4 a s A up ps.l=(2,[]):=by rw [hrx,w2];rfl
  refine qbk ?_
  refine qc4 ?_
  refine Xah ?_
  refine q_r (L':=L) (R':=R4) (Jcf rfl (Jaf (show _=Value.slice _ _ _ from rfl)) (Jaf (show _=Value.int _ _ from rfl))) ?_
  exact Kct
theorem Jv3 (a:XAir) (s:XSetting) (ps:Arr Int) (A:List Bool) (L:List Blk) (R:List Sl) (hm:AirR a R) (hs:SetR s R) (hps:InR (isl ps) R) (hA:Jbx a=0→AiryIs a.mine A):
    Tri Tryz.prog 187 [a.val,s.val,ps.val].toArray L R (fun w L' R'=>∃(p:OwL Int) (S:List Sl),w=.tuple #[p.val,.int .i64 (Jb4 a s A true ps.l).1]∧p.ok 1 Jap∧p.l=(Jb4 a s A true ps.l).2∧p.L 3 Jap ++ L=L'∧S ++ R=R'):=by
  refine Jad 14 Tryz.call187 Tryz.func187 rfl rfl rfl ?_
  refine Xaf ?_
  intro b3
  refine qax ?_
  intro b4
  refine qc4 ?_
  refine Xag ?_
  refine Xcc ?_
  refine qbm ?_
  refine Jaw rfl (Jlp a s ps true A _ _ hm hs hps hA) rfl ?_
  rintro v L' R' ⟨p,S,rfl,hpk,hpl,rfl,rfl⟩
  refine Xa5 ?_
  refine qc4 ?_
  refine Xah ?_
  refine q_r (L':=p.L 3 Jap ++ L) (R':=S ++ R) (Jcf rfl (Jaf (show _=Value.slice _ _ _ from rfl)) (Jaf (show _=Value.int _ _ from rfl))) ?_
  exact ⟨p,S,rfl,hpk,hpl,rfl,rfl⟩
theorem Jwo (a:XAir) (s:XSetting) (ps:Arr Int) (A:List Bool) (L:List Blk) (R:List Sl) (hm:AirR a R) (hs:SetR s R) (hps:InR (isl ps) R) (hA:Jbx a=0→AiryIs a.mine A):
    Tri Tryz.prog 186 [a.val,s.val,ps.val].toArray L R (fun w L' R'=>∃(p:OwL Int) (S:List Sl),w=.tuple #[p.val,.int .i64 (Jb4 a s A false ps.l).1]∧p.ok 1 Jap∧p.l=(Jb4 a s A false ps.l).2∧p.L 3 Jap ++ L=L'∧S ++ R=R'):=by
  refine Jad 14 Tryz.call186 Tryz.func186 rfl rfl rfl ?_
  refine Xaf ?_
  intro b3
  refine qax ?_
  intro b4
  refine qc4 ?_
  refine Xag ?_
  refine Xcc ?_
  refine qbm ?_
  refine Jaw rfl (Jlp a s ps false A _ _ hm hs hps hA) rfl ?_
  rintro v L' R' ⟨p,S,rfl,hpk,hpl,rfl,rfl⟩
  refine Xa5 ?_
  refine qc4 ?_
  refine Xah ?_
  refine q_r (L':=p.L 3 Jap ++ L) (R':=S ++ R) (Jcf rfl (Jaf (show _=Value.slice _ _ _ from rfl)) (Jaf (show _=Value.int _ _ from rfl))) ?_
  exact ⟨p,S,rfl,hpk,hpl,rfl,rfl⟩
end Go.Proofs.YtchfclmokpbldaaGreat
end
