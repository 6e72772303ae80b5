/-
  Texts of one chapter, merged. By an AI agent; no person has read it.
-/
import Derived.Test.YtchfclmokpbldaaGreatCflowR
import Derived.Test.YtchfclmokpbldaaGreatNets
set_option linter.unusedVariables false
set_option linter.unusedSimpArgs false
set_option maxRecDepth 20000
namespace Go.Proofs.YtchfclmokpbldaaGreat
open Go.Aw Go
section
structure Accept (a:XAir) (s:XSetting) (b:XBounds) (A:List Bool):Prop where
  ck:CheckOk a s b
  fix:∀i:Nat,i < a.mine.places.l.length→(!(A.getD i false) || (a.mine.places.l.getD i default).surface)=true→b.low.l.getD i 0=0∧b.high.l.getD i 0=0
  net:∀i:Nat,i < a.mine.places.l.length→¬ (!(A.getD i false) || (a.mine.places.l.getD i default).surface)=true→0≤K4c a s b.high.l (i:Int)∧Vfa a s b.low.l (i:Int)≤0
theorem Kwb {a:XAir} {s:XSetting} {b:XBounds} {A:List Bool} (h:CheckOk a s b):Ys a s b A=((List.range a.mine.places.l.length).findSome? (U0 a s b A)).getD 0:=by
  have h1:=h.hl
  have h2:=h.hh
  rw [Ys,if_neg (by rw [h.h0];decide),if_neg (by rw [h.hf];decide),if_neg za,if_neg (by rw [Zca h.pl,Zca h.ph];simp)]
theorem Kgc (a:XAir) (s:XSetting) (b:XBounds) (A:List Bool) (i:Nat):U0 a s b A i=none∨U0 a s b A i=some 12:=by
  unfold U0
  split
  · split
    · exact .inr rfl
    · exact .inl rfl
  · split
    · exact .inr rfl
    · exact .inl rfl
theorem Vnd {a:XAir} {s:XSetting} {b:XBounds} {A:List Bool}:Ys a s b A=0↔Accept a s b A:=by
  have node:∀i,U0 a s b A i=none↔((!(A.getD i false) || (a.mine.places.l.getD i default).surface)=true→b.low.l.getD i 0=0∧b.high.l.getD i 0=0)∧(¬ (!(A.getD i false) || (a.mine.places.l.getD i default).surface)=true→0≤K4c a s b.high.l (i:Int)∧Vfa a s b.low.l (i:Int)≤0):=fun i=>by
    unfold U0
    by_cases h1:(!(A.getD i false) || (a.mine.places.l.getD i default).surface)=true
    · rw [if_pos h1]
      refine ⟨fun h=>⟨fun _=>?_,fun h'=>absurd h1 h'⟩,fun h=>if_neg (by have:=h.1 h1;omega)⟩
      split at h
      · cases h
      · omega
    · rw [if_neg h1]
      refine ⟨fun h=>⟨fun h'=>absurd h' h1,fun _=>?_⟩,fun h=>if_neg (by have:=h.2 h1;omega)⟩
      split at h
      · cases h
      · omega
  constructor
  · intro h
    have hC:=Utc h
    rw [Kwb hC] at h
    have hn:(List.range a.mine.places.l.length).findSome? (U0 a s b A)=none:=by
      cases e:(List.range a.mine.places.l.length).findSome? (U0 a s b A) with
      | none=>rfl
      | some v=>
        obtain ⟨i,_,hi⟩:=List.exists_of_findSome?_eq_some e
        rcases Kgc a s b A i with h1 | h1
        · rw [h1] at hi;cases hi
        · rw [h1] at hi;cases hi;rw [e] at h;cases h
    rw [List.findSome?_eq_none_iff] at hn
    exact ⟨hC,fun i hi=>((node i).1 (hn i (List.mem_range.2 hi))).1,fun i hi=>((node i).1 (hn i (List.mem_range.2 hi))).2⟩
  · intro h
    rw [Kwb h.ck,List.findSome?_eq_none_iff.2 (fun i hi=>(node i).2 ⟨h.fix i (List.mem_range.1 hi),h.net i (List.mem_range.1 hi)⟩)]
    rfl
end
section
theorem Tri.turn {P : Program} {f : FuncId} {args : Array Value} {L : List Blk} {R : List Sl} {Post Post' : Yn} (h : Tri P f args L R Post)
    (k:∀v L' R',Post v L' R'→∃L'' R'',L'.Perm L''∧(∀r∈R'',InR r R')∧Post' v L'' R''):Tri P f args L R Post':=
  ⟨h.1,fun w G hh=>(h.2 w G hh).mono fun e w' ⟨v,L',R',he,hp,hst⟩=>by
    obtain ⟨L'',R'',h1,h2,h3⟩:=k v L' R' hp
    exact ⟨v,L'',R'',he,h3,(hst.perm h1).weak (List.Sublist.refl _) h2⟩⟩
def Yob (g:Int→Bool) (start:Int) (up:Bool):Option Int:=
  ((List.range ((Z9a up start).toNat + 1)).find? fun (m:Nat)=>g (start + sgn up * (m:Int))).map fun (m:Nat)=>start + sgn up * (m:Int)
theorem Und {g:Int→Bool} {start:Int} {up:Bool} {v:Int} (h:First g start up v true):Yob g start up=some v:=by
  obtain ⟨m,m0,m1,mv,mg,mj⟩:=h.yes rfl
  have e:(List.range ((Z9a up start).toNat + 1)).find? (fun (m:Nat)=>g (start + sgn up * (m:Int)))=some m.toNat:=by
    rw [List.find?_range_eq_some]
    refine ⟨?_,List.mem_range.2 za,fun j hj=>?_⟩
    · rw [Int.toNat_of_nonneg m0,← mv];exact mg
    · rw [mj j za za];rfl
  rw [Yob,e,Option.map_some,Int.toNat_of_nonneg m0,mv]
theorem Vud {g:Int→Bool} {start:Int} {up:Bool} {v:Int} (h0:0≤Z9a up start) (h:First g start up v false):Yob g start up=none:=by
  obtain ⟨_,hj⟩:=h.no rfl
  have e:(List.range ((Z9a up start).toNat + 1)).find? (fun (m:Nat)=>g (start + sgn up * (m:Int)))=none:=by
    rw [List.find?_range_eq_none]
    intro i hi
    rw [hj i za za];rfl
  rw [Yob,e];rfl
theorem Zra {g:Int→Bool} {start:Int} {up:Bool} {v:Int} (h0:0≤Z9a up start) (h:Yob g start up=some v):First g start up v true:=by
  unfold Yob at h
  obtain ⟨m,hm,rfl⟩:=Option.map_eq_some_iff.1 h
  rw [List.find?_range_eq_some] at hm
  obtain ⟨h1,h2,h3⟩:=hm
  have h2':=List.mem_range.1 h2
  refine ⟨fun _=>⟨m,by omega,by omega,rfl,h1,fun j j0 j1=>?_⟩,fun h=>by cases h⟩
  have:=h3 j.toNat za
  rw [Int.toNat_of_nonneg j0] at this
  cases e:g (start + sgn up * j) with
  | false=>rfl
  | true=>rw [e] at this;cases this
theorem Zlb {g:Int→Bool} {start:Int} {up:Bool} {v:Int} {ok:Bool} (h0:0≤Z9a up start) (h:First g start up v ok):v=(Yob g start up).getD 0∧ok=(Yob g start up).isSome:=by
  cases ok with
  | true=>rw [Und h];exact ⟨rfl,rfl⟩
  | false=>rw [Vud h0 h];exact ⟨(h.no rfl).1,rfl⟩
attribute [irreducible] Yob
def Jmc (a:XAir) (s:XSetting) (up:Bool) (l:List Int) (v:Int):Int→Bool:=if up=true then Zpe a s l v else Zkc a s l v
def Kaa (a:XAir) (s:XSetting) (up:Bool) (l:List Int) (k:Nat):Option Int:=Yob (Jmc a s up l k) (l.getD k 0) up
abbrev Yib (a:XAir) (A:List Bool) (k:Nat):Bool:=!(A.getD k false) || (a.mine.places.l.getD k default).surface
def Un (a : XAir) (s : XSetting) (A : List Bool) (up : Bool) (l : List Int) : Nat → Option (List Int)
  | 0=>some l
  | k + 1=>(Un a s A up l k).bind fun m=>if Yib a A k=true then some m else (Kaa a s up m k).map fun v=>m.set k v
def U1 (a : XAir) (s : XSetting) (A : List Bool) (up : Bool) : Nat → List Int → Option (List Int)
  | 0,_=>none
  | n + 1,l=>match Un a s A up l a.mine.places.l.length with
    | none=>none
    | some m=>if m=l then some m else U1 a s A up n m
def V6 (a:XAir) (ps:List Int) (A:List Bool) (i:Nat):Option Int:=if Yib a A i=true∧ps.getD i 0≠0 then some 12 else none
def Vb (a:XAir) (s:XSetting) (ps:List Int) (A:List Bool):Int:=
  if Ky a≠0 then Ky a else if Vja a s=false then 21 else if ps.length≠a.mine.places.l.length then 11
  else if (ps.findSome? U3).isSome=true then 1 else ((List.range a.mine.places.l.length).findSome? (V6 a ps A)).getD 0
def K5 (a:XAir) (s:XSetting) (A:List Bool) (up:Bool) (ps:List Int):Int×List Int:=
  if Vb a s ps A≠0 then (Vb a s ps A,[]) else match U1 a s A up 200 ps with
    | none=>(2,[])
    | some l=>(0,l)
def Yb (a:XAir) (s:XSetting) (A:List Bool):Int×List Int×List Int:=
  let p:=K5 a s A false (List.replicate a.mine.places.l.length 0)
  if p.1≠0 then (p.1,[],[]) else
    let q:=K5 a s A true p.2
    if q.1≠0 then (q.1,[],[]) else
      let r:=K5 a s A false q.2
      if r.1≠0 then (r.1,[],[]) else (0,r.2,q.2)
structure StartOk (a:XAir) (s:XSetting) (ps:List Int) (A:List Bool):Prop where
  h0:Ky a=0
  hf:Vja a s=true
  hl:ps.length=a.mine.places.l.length
  hp:PresOk ps
  fix:∀i:Nat,i < a.mine.places.l.length→Yib a A i=true→ps.getD i 0=0
theorem V5a {a:XAir} {s:XSetting} {ps:List Int} {A:List Bool}:Vb a s ps A=0↔StartOk a s ps A:=by
  constructor
  · intro h
    unfold Vb at h
    split at h
    · rename_i h1;exact absurd h h1
    rename_i h1
    split at h
    · cases h
    rename_i h2
    split at h
    · cases h
    rename_i h3
    split at h
    · cases h
    rename_i h4
    refine ⟨by omega,by simpa using h2,by omega,Vwa (by simpa using h4),fun i hi hf=>?_⟩
    have hn:(List.range a.mine.places.l.length).findSome? (V6 a ps A)=none:=by
      cases e:(List.range a.mine.places.l.length).findSome? (V6 a ps A) with
      | none=>rfl
      | some v=>
        obtain ⟨j,_,hj⟩:=List.exists_of_findSome?_eq_some e
        unfold V6 at hj
        split at hj
        · cases hj;rw [e] at h;cases h
        · cases hj
    rw [List.findSome?_eq_none_iff] at hn
    have:=hn i (List.mem_range.2 hi)
    unfold V6 at this
    split at this
    · cases this
    · rename_i h5
      exact Decidable.not_not.1 fun h6=>h5 ⟨hf,h6⟩
  · intro h
    rw [Vb,if_neg (by rw [h.h0];decide),if_neg (by rw [h.hf];decide),if_neg (by rw [h.hl];simp),if_neg (by rw [Zca h.hp];simp),List.findSome?_eq_none_iff.2 (fun i hi=>show V6 a ps A i=none from if_neg (fun h'=>h'.2 (h.fix i (List.mem_range.1 hi) h'.1)))]
    rfl
theorem Yrc {a:XAir} {s:XSetting} {up:Bool} {l:List Int} {k:Nat} {v:Int} (h:PresOk l) (hv:Kaa a s up l k=some v):-70368744177664≤v∧v≤70368744177664:=by
  obtain ⟨m,m0,m1,mv,_,_⟩:=(Zra (Vmb (h.get k)).1 hv).yes rfl
  rw [mv]
  exact Kud (h.get k) ⟨m0,m1⟩
structure Swept (a:XAir) (s:XSetting) (A:List Bool) (up:Bool) (l:List Int) (k:Nat) (m:List Int):Prop where
  to:Un a s A up l k=some m
  len:m.length=l.length
  pres:PresOk m
  rest:∀j:Nat,k≤j→m[j]?=l[j]?
theorem Swept.zero {a:XAir} {s:XSetting} {A:List Bool} {up:Bool} {l:List Int} (h:PresOk l):Swept a s A up l 0 l:=⟨rfl,rfl,h,fun _ _=>rfl⟩
theorem Swept.skip {a:XAir} {s:XSetting} {A:List Bool} {up:Bool} {l m:List Int} {k:Nat} (h:Swept a s A up l k m) (hf:Yib a A k=true):Swept a s A up l (k + 1) m:=
  ⟨by rw [Un,h.to,Option.bind_some,if_pos hf],h.len,h.pres,fun j hj=>h.rest j za⟩
theorem Swept.fail {a:XAir} {s:XSetting} {A:List Bool} {up:Bool} {l m:List Int} {k:Nat} (h:Swept a s A up l k m) (hf:¬ Yib a A k=true) (hn:Kaa a s up m k=none):∀n,k + 1≤n→Un a s A up l n=none:=by
  intro n hn2
  induction n with
  | zero=>omega
  | succ n ih=>
    rcases Nat.lt_or_ge k n with h1 | h1
    · rw [Un,ih za];rfl
    · obtain rfl : n = k := by omega
      rw [Un,h.to,Option.bind_some,if_neg hf,hn];rfl
theorem Swept.next {a:XAir} {s:XSetting} {A:List Bool} {up:Bool} {l m:List Int} {k:Nat} (h:Swept a s A up l k m) (hf:¬ Yib a A k=true) {v:Int} (hv:Kaa a s up m k=some v):Swept a s A up l (k + 1) (m.set k v):=
  ⟨by rw [Un,h.to,Option.bind_some,if_neg hf,hv];rfl,by rw [List.length_set];exact h.len,h.pres.set _ (Yrc h.pres hv),fun j hj=>by rw [List.getElem?_set_ne za];exact h.rest j za⟩
theorem Swept.flag {a:XAir} {s:XSetting} {A:List Bool} {up:Bool} {l m:List Int} {k:Nat} (h:Swept a s A up l k m) (hk:k < l.length) (v:Int):decide (m.set k v≠l)=(decide (m≠l) || decide (v≠m.getD k 0)):=by
  have hlen:=h.len
  have hg:=Jw (l:=m) (k:=k) 0 za
  by_cases h1:v=m.getD k 0
  · rw [h1,Yja];simp
  · have h2:m.set k v≠l:=fun e=>by
      have h3:=h.rest k (Nat.le_refl _)
      rw [← e,List.getElem?_set_self za,hg] at h3
      exact h1 (Option.some.inj h3).symm
    rw [decide_eq_true h2,decide_eq_true h1,Bool.or_true]
theorem Yzc {a:XAir} {s:XSetting} {A:List Bool} {up:Bool} {n:Nat} {l m:List Int} (hs:Un a s A up l a.mine.places.l.length=some m) (hne:m≠l):U1 a s A up (n + 1) l=U1 a s A up n m:=by
  rw [U1,hs];exact if_neg hne
theorem Zwc {a:XAir} {s:XSetting} {A:List Bool} {up:Bool} {n:Nat} {l:List Int} (hs:Un a s A up l a.mine.places.l.length=some l):U1 a s A up (n + 1) l=some l:=by
  rw [U1,hs];exact if_pos rfl
theorem Ysc {a:XAir} {s:XSetting} {A:List Bool} {up:Bool} {n:Nat} {l:List Int} (hs:Un a s A up l a.mine.places.l.length=none):U1 a s A up (n + 1) l=none:=by
  rw [U1,hs]
theorem Zf {a : XAir} {s : XSetting} {A : List Bool} {up : Bool} {l : List Int} (hl : PresOk l) : ∀ {k : Nat} {m : List Int}, Un a s A up l k = some m → Swept a s A up l k m
  | 0,m,h=>by cases h;exact .zero hl
  | k + 1,m,h=>by
    have h':=h
    rw [Un,Option.bind_eq_some_iff] at h'
    obtain ⟨m1,h1,h2⟩:=h'
    have ih:=Zf hl h1
    split at h2
    · rename_i hf
      cases h2
      exact ih.skip hf
    · rename_i hf
      obtain ⟨v,hv,rfl⟩:=Option.map_eq_some_iff.1 h2
      exact ih.next hf hv
theorem Vxa {a : XAir} {s : XSetting} {A : List Bool} {up : Bool} : ∀ {n : Nat} {l m : List Int}, PresOk l → U1 a s A up n l = some m → m.length = l.length ∧ PresOk m ∧ Un a s A up m a.mine.places.l.length = some m
  | 0,l,m,_,h=>by cases h
  | n + 1,l,m,hl,h=>by
    rw [U1] at h
    split at h
    · cases h
    · rename_i m1 h1
      have hs:=Zf hl h1
      split at h
      · rename_i e
        cases h
        subst e
        exact ⟨rfl,hl,h1⟩
      · obtain ⟨k1, k2, k3⟩ := Vxa hs.pres h
        exact ⟨k1.trans hs.len,k2,k3⟩
theorem U2b {a:XAir} {s:XSetting} {A:List Bool} {up:Bool} {ps:List Int} (h:(K5 a s A up ps).1=0):StartOk a s ps A∧U1 a s A up 200 ps=some (K5 a s A up ps).2:=by
  unfold K5 at h ⊢
  split at h
  · rename_i h1;exact absurd h h1
  · rename_i h1
    rw [if_neg h1]
    refine ⟨V5a.1 za,?_⟩
    split at h
    · cases h
    · rename_i l e;rw [e]
end
section
attribute [local irreducible] CJ LJ DJ Tri YV Gives Ui J0 Ke Uh RV J2 OwL.L
abbrev Yfe (x:Option Int):Value:=.tuple #[.int .i64 (x.getD 0),.bool x.isSome]
theorem Ytd {ps:List Int} (h:PresOk ps) (up:Bool) (k:Nat):0≤Z9a up (ps.getD k 0):=(Vmb (h.get k)).1
end
section
attribute [local irreducible] CJ LJ DJ Tri YV Gives Ui J0 Ke Uh RV J2 OwL.L
theorem Kte {α:Type} {f:α→List Value} {z:List Value} {b n:Nat} {T:TypeId} {x:α} {A:List Blk} (hz:z=f x):InB ((⟨.own b n [],List.replicate n x⟩:OwL α).L T f) (⟨b,Yzb z n,T⟩ :: A):=by
  rw [Y3 hz A];exact Ula
end
section
attribute [local irreducible] CJ LJ DJ Tri YV Gives Ui J0 Ke Uh RV J2 OwL.L
section
variable {A9 B9:Prop}
theorem Uvf (a:A9) (h:A9→B9:=by exact Jx zHa rfl):B9:=h a
theorem Vyf (a:A9) (h:A9→B9:=by exact Jx zub rfl):B9:=h a
theorem Vaf (h:B9:=by exact ⟨OwL.nil,Yla n.pipes :: Via n.at_ :: (S ++ S0),by rw [hrn];rfl,OwL.nil_ok,by rw [hrn],by rw [Kh,List.nil_append],by rw [hR4];simp⟩):B9:=h
theorem Ujf (a:A9) (h:A9→B9:=by exact Jx (Ju tb ((⟨o34,m⟩:OwL Int)) _ rfl rfl ((show _=Value.slice _ _ _ from rfl).trans (by simp only [OwL.val,hml,w3])) rfl zh (i:=i) zk zu) rfl):B9:=h a
end
theorem Vcc (a:XAir) (s:XSetting) (ps:Arr Int) (A:List Bool) (L:List Blk) (R:List Sl) (hm:AirR a R) (hs:SetR s R) (hps:InR (isl ps) R) (hA:Ky a=0→AiryIs a.mine A):
    Tri Tryz.prog 277 [a.val,s.val,ps.val].toArray L R (fun v L' R'=>∃S:List Sl,v=.int .i64 (Vb a s ps.l A)∧L=L'∧S ++ R=R'):=by
  have hmp:=hm.places
  refine U8 Tryz.call277 hps fun hpn=>?_
  refine U8 Tryz.call277 hmp fun hmpn=>?_
  refine Jg 70 Tryz.call277 Tryz.func277 rfl rfl rfl ?_
  refine Xag ?_
  intro b3
  refine qax ?_
  intro b4
  refine Xas ?_
  refine qa8 ?_
  refine q_l rfl (Zi a _ _ hm) ?_
  refine Xa7 ?_
  refine q_c (fun hc0=>?_) (fun hc0=>?_)
  ·
   refine Xdl ?_
   refine q_i (L':=L) (R':=R) ?_
   exact ⟨[],by rw [Vb,if_pos hc0],rfl,rfl⟩
  have h0:Ky a=0:=by omega
  have hok:=Zs h0
  have hAA:=hA h0
  have hmn:=hok.mine.places
  refine qbo ?_
  refine Xcb ?_
  refine q_l rfl (Zga a s _ _ hm hs) ?_
  refine Xbd ?_
  refine q_c (fun hc1=>?_) (fun hc1=>?_)
  ·
   refine Xa5 ?_
   refine q_i (L':=L) (R':=R) ?_
   exact ⟨[],by rw [Vb,if_neg hc0,if_pos zH],rfl,rfl⟩
  have hf0:Vja a s=true:=by simpa using hc1
  have hff:¬ Vja a s=false:=by rw [hf0];decide
  refine qbo ?_
  refine Xap ?_
  refine Xck ?_
  refine Xaq ?_
  refine q_c (fun hc2=>?_) (fun hc2=>?_)
  ·
   refine Xa5 ?_
   refine q_i (L':=L) (R':=R) ?_
   exact ⟨[],by rw [Vb,if_neg hc0,if_neg hff,if_pos za],rfl,rfl⟩
  have hln:ps.l.length=a.mine.places.l.length:=by omega
  refine qbo ?_
  refine Xbt ?_
  refine Jo [(2,Value.slice _ _ _),(3,Value.pointer _),(29,Value.slice _ _ _),(30,Value.int _ _),(31,Value.int _ _)] zg fun tq0=>?_
  refine q_s [6,9,31,32,33,34,35,36,37,38,39,40,41] (fun g:FS (U3) (ps.l)=>[(31,.int .i64 ((g.1:Nat):Int))]) (fun g=>(ps.l).length - g.1) ⟨0,Kia _ _⟩ ?_
  rintro ⟨k0,hk0,hp0⟩ junk
  try dsimp only
  refine Xak ?_
  refine q_c (fun hc3=>?_) (fun hc3=>?_)
  ·
   obtain ⟨y,hy⟩:=Kr (l:=ps.l) (k:=k0) za
   refine qbb ?_
   refine Jx zW rfl ?_
   refine qa7 ?_
   refine Xat ?_
   refine Xav ?_
   apply J9 (G:=[_,_]) (j:=2) (cj:=37) rfl rfl zb rfl zdb rfl
   ·
    exact zdd
   intro junk3
   refine qaf ?_
   refine q_c (fun hc4=>?_) (fun hc4=>?_)
   ·
    refine Xbw ?_
    refine q_i (L':=L) (R':=R) ?_
    have hpb:=Y0 hp0 hy (show U3 y=some 1 from if_pos za)
    exact ⟨[],by rw [Vb,if_neg hc0,if_neg hff,if_neg za,if_pos (by rw [hpb];rfl)],rfl,rfl⟩
   refine Xax ?_
   exact q_k ⟨k0 + 1,Jta hp0 hy (if_neg za)⟩
  have hn0:=Jra hp0 za
  refine qbk ?_
  refine Xdp ?_
  refine Js rfl (Ujb a.mine _ _ hm.mineR hok.mine (Uza h0)) rfl ?_
  rintro v L' R' ⟨p,A2,S,rfl,hpk,hA2,hpl,rfl,rfl⟩
  obtain rfl:A=A2:=hAA.unique hA2
  have hfx:p.l.length=a.mine.places.l.length:=by rw [hpl,List.length_map];exact hAA.length
  have hps2:InR (isl ps) (S ++ R):=hps.mono fun r h=>Ja (by simp [h])
  have hmp2:InR (psl a.mine.places) (S ++ R):=hmp.mono fun r h=>Ja (by simp [h])
  have hck:Vb a s ps.l A=((List.range a.mine.places.l.length).findSome? (V6 a ps.l A)).getD 0:=by rw [Vb,if_neg hc0,if_neg hff,if_neg za,if_neg (by rw [hn0];simp)]
  refine Xb9 ?_
  refine qab ?_
  refine Xaw ?_
  refine Jo [(2,Value.slice _ _ _),(10,Value.slice _ _ _),(47,Value.slice _ _ _),(48,Value.int _ _),(49,Value.int _ _)] zg fun tq1=>?_
  refine q_s [6,11,12,49,50,51,52,53,54,55,56,57,58,59,60,61,62,63,64,65,66,67,68,69] (fun g:FSR (V6 a ps.l A) (a.mine.places.l.length)=>[(49,.int .i64 ((g.1:Nat):Int))]) (fun g=>(a.mine.places.l.length) - g.1) ⟨0,Jxa _ _⟩ ?_
  rintro ⟨k1,hk1,hp1⟩ junk
  try dsimp only
  refine Xak ?_
  refine q_c (fun hc5=>?_) (fun hc5=>?_)
  ·
   have hmg:=Jw (l:=a.mine.places.l) (k:=k1) default za
   have hpg:p.l[k1]?=some (!(A.getD k1 false)):=by
     have:=hAA.length
     rw [hpl,List.getElem?_map,Jw (l:=A) (k:=k1) false za];rfl
   have hsg:=Jw (l:=ps.l) (k:=k1) 0 za
   refine Xa2 ?_
   refine Uvf ?_
   refine Xdq ?_
   intro b12
   refine qad ?_
   refine Xb2 ?_
   refine qah ?_
   apply J9 (G:=[_,_,_,_]) (j:=2) (cj:=56) rfl rfl zb rfl zdb rfl
   ·
    intro hg3
    replace hg3:=qb hg3
    refine Xau ?_
    refine Jx (Ju tb (p) _ rfl rfl rfl rfl zh (i:=k1) zk zu) rfl ?_
    refine Vyf ?_
    exact qai
   intro junk3
   refine qah ?_
   apply Ur (G:=[_,_,_,_,_]) (j:=8) (cj:=62) rfl rfl zb rfl zdb rfl
   ·
    intro hg9
    replace hg9:=qb hg9
    refine Xau ?_
    refine Uvf ?_
    refine qa7 ?_
    exact zfd
   intro junk9
   refine qaf ?_
   refine q_c (fun hc6=>?_) (fun hc6=>?_)
   ·
    have hnb:V6 a ps.l A k1=some 12:=if_pos ⟨by obtain ⟨h1 | h1,_⟩:=hc6;rw [Yib,h1,Bool.or_true];rw [Yib,h1];rfl,hc6.2⟩
    refine Xbw ?_
    refine q_i (L':=L) (R':=S ++ R) ?_
    exact ⟨S,by rw [hck,Vv hp1 za hnb];rfl,rfl,rfl⟩
   have hnb:V6 a ps.l A k1=none:=if_neg (fun ⟨h1,h2⟩=>by
   rcases hc6 with ⟨h3,h4⟩ | h3
   · rw [Yib,h3,h4] at h1;cases h1
   · exact h3 h2)
   refine Xax ?_
   exact q_k ⟨k1 + 1,Yz hp1 za (hnb)⟩
  have hn1:=Jba hp1 za
  refine Xb7 ?_
  refine q_i (L':=L) (R':=S ++ R) ?_
  exact ⟨S,by rw [hck,hn1];rfl,rfl,rfl⟩
theorem Kaf {n:XNet} {a:XAir} {s:XSetting} {o:Ow} {l:List Int} {k:Nat} {A:List Blk} {R:List Sl} {vl:Value} (hvl:vl=(⟨o,l⟩:OwL Int).val) (h:HypsN n a s l k R) (hin:InB ((⟨o,l⟩:OwL Int).L 3 Jp) A) (hok:(⟨o,l⟩:OwL Int).ok 1 Jp):
    Tri Tryz.prog 240 [n.val,vl,.int .i64 (k:Int)].toArray A R (fun w L' R'=>w=Yfe (Kaa a s true l k)∧A=L'∧R=R'):=by
  subst hvl
  refine Tri.lend1 hin hok ((Uec n a s (⟨o,l⟩:OwL Int).arr k [] _ ⟨h.pp.mono fun r hr=>Ja (.tail _ hr),h.aa.mono fun r hr=>Ja (.tail _ hr),h.is,h.ok,h.len,h.pres,h.v⟩ zpb).mono ?_)
  rintro v L' R' ⟨z,ok,rfl,hF,rfl,rfl⟩
  obtain ⟨rfl,rfl⟩:=Zlb (Ytd h.pres true (Int.toNat k)) hF
  exact zpd
theorem Jye {n:XNet} {a:XAir} {s:XSetting} {o:Ow} {l:List Int} {k:Nat} {A:List Blk} {R:List Sl} {vl:Value} (hvl:vl=(⟨o,l⟩:OwL Int).val) (h:HypsN n a s l k R) (hin:InB ((⟨o,l⟩:OwL Int).L 3 Jp) A) (hok:(⟨o,l⟩:OwL Int).ok 1 Jp):
    Tri Tryz.prog 239 [n.val,vl,.int .i64 (k:Int)].toArray A R (fun w L' R'=>w=Yfe (Kaa a s false l k)∧A=L'∧R=R'):=by
  subst hvl
  refine Tri.lend1 hin hok ((Uwb n a s (⟨o,l⟩:OwL Int).arr k [] _ ⟨h.pp.mono fun r hr=>Ja (.tail _ hr),h.aa.mono fun r hr=>Ja (.tail _ hr),h.is,h.ok,h.len,h.pres,h.v⟩ zpb).mono ?_)
  rintro v L' R' ⟨z,ok,rfl,hF,rfl,rfl⟩
  obtain ⟨rfl,rfl⟩:=Zlb (Ytd h.pres false (Int.toNat k)) hF
  exact zpd
def Yyd : Bool → FuncId
  | true=>240
  | false=>239
theorem Zte (up:Bool) {n:XNet} {a:XAir} {s:XSetting} {o:Ow} {l:List Int} {k:Nat} {A:List Blk} {R:List Sl} {vl:Value} (hvl:vl=(⟨o,l⟩:OwL Int).val) (h:HypsN n a s l k R) (hin:InB ((⟨o,l⟩:OwL Int).L 3 Jp) A) (hok:(⟨o,l⟩:OwL Int).ok 1 Jp):
    Tri Tryz.prog (Yyd up) [n.val,vl,.int .i64 (k:Int)].toArray A R (fun w L' R'=>w=Yfe (Kaa a s up l k)∧A=L'∧R=R'):=by
  cases up with
  | true=>exact Kaf hvl h hin hok
  | false=>exact Jye hvl h hin hok
theorem Z5a (a:XAir) (s:XSetting) (ps:Arr Int) (up:Bool) (A:List Bool) (L:List Blk) (R:List Sl) (hm:AirR a R) (hs:SetR s R) (hps:InR (isl ps) R) (hA:Ky a=0→AiryIs a.mine A):
    Tri Tryz.prog 238 [a.val,s.val,ps.val,.func (.func (Yyd up)) #[] #[]].toArray L R (fun w L' R'=>∃(p:OwL Int) (S:List Sl),w=.tuple #[p.val,.int .i64 (K5 a s A up ps.l).1]∧p.ok 1 Jp∧p.l=(K5 a s A up ps.l).2∧p.L 3 Jp ++ L=L'∧S ++ R=R'):=by
  refine Jg 80 Tryz.call238 Tryz.func238 rfl rfl rfl ?_
  refine Xag ?_
  intro b4
  refine qax ?_
  intro b5
  refine qc4 ?_
  refine Xas ?_
  refine Xcb ?_
  refine qbm ?_
  refine Js rfl (Vcc a s ps A _ _ hm hs hps hA) rfl ?_
  rintro v L' R' ⟨S0,rfl,rfl,rfl⟩
  refine Xa7 ?_
  refine q_c (fun hc0=>?_) (fun hc0=>?_)
  ·
   refine Xbc ?_
   refine qc4 ?_
   refine Xai ?_
   refine q_r (L':=L) (R':=S0 ++ R) zPc ?_
   exact ⟨OwL.nil,S0,by rw [K5,if_pos hc0];rfl,OwL.nil_ok,by rw [K5,if_pos hc0],by rw [Kh,List.nil_append],rfl⟩
  have hso:=V5a.1 (show Vb a s ps.l A=0 by omega)
  have hok:=Zs hso.h0
  have hfo:=Kjc hso.hf
  have hAA:=hA hso.h0
  have hln:=hso.hl
  have hnp:=hok.mine.places
  have hrx:K5 a s A up ps.l=match U1 a s A up 200 ps.l with
    | none=>(2,[])
    | some l=>(0,l):=by rw [K5,if_neg hc0] <;> rfl
  have hR1:∀r∈R,InR r (S0 ++ R):=fun r h=>Ja (by simp [h])
  have hm1:=Jma hm hR1
  have hs1:=Vya hs hR1
  refine qbv ?_
  refine Xdp ?_
  refine Js rfl (Ujb a.mine _ _ hm1.mineR hok.mine (Uza hso.h0)) rfl ?_
  rintro v L' R' ⟨p,A2,S,rfl,hpk,hA2,hpl,rfl,rfl⟩
  obtain rfl:A=A2:=hAA.unique hA2
  have hfx:p.l.length=a.mine.places.l.length:=by rw [hpl,List.length_map];exact hAA.length
  have hAl:=hAA.length
  have hR2:∀r∈S0 ++ R,InR r (S ++ (S0 ++ R)):=fun r h=>Ja (by simp only [List.mem_append] at h ⊢;exact .inr h)
  refine qc4 ?_
  refine qam ?_
  refine Xcb ?_
  refine Js rfl (J3c a s _ _ (Jma hm1 hR2) (Vya hs1 hR2) hok hfo) rfl ?_
  rintro v L' R' ⟨n,rfl,hn,rfl,rfl⟩
  have hR3:∀r∈S ++ (S0 ++ R),InR r (Yla n.pipes :: Via n.at_ :: (S ++ (S0 ++ R))):=fun r h=>Ja (by simp only [List.mem_cons];exact .inr (.inr h))
  have hps3:InR (isl ps) (Yla n.pipes :: Via n.at_ :: (S ++ (S0 ++ R))):=((hps.mono hR1).mono hR2).mono hR3
  have hmp3:InR (psl a.mine.places) (Yla n.pipes :: Via n.at_ :: (S ++ (S0 ++ R))):=((hm1.places).mono hR2).mono hR3
  have hpp:InR (Yla n.pipes) (Yla n.pipes :: Via n.at_ :: (S ++ (S0 ++ R))):=Ja (.head _)
  have haa:InR (Via n.at_) (Yla n.pipes :: Via n.at_ :: (S ++ (S0 ++ R))):=Ja (.tail _ (.head _))
  obtain ⟨R4,hR4⟩:∃R4,R4=Yla n.pipes :: Via n.at_ :: (S ++ (S0 ++ R)):=⟨_,rfl⟩
  rw [← hR4] at hps3 hmp3 hpp haa ⊢
  refine qaq ?_
  intro b12
  refine Xa0 ?_
  refine qbm ?_
  refine Y9 (Km (f:=Jp) (xs:=ps) tb rfl rfl rfl zc rfl rfl (hps3) (fun _=>rfl) za) rfl ?_
  rintro v L' R' ⟨o34,rfl,hok34,rfl,rfl⟩
  refine Xb9 ?_
  refine Xb4 ?_
  refine Jo [(3,_),(4,Value.pointer _),(11,Value.slice _ _ _),(12,Value.pointer _),(13,Value.slice _ _ _),(14,Value.int _ _)] zg fun tq0=>?_
  refine q_p [8,9,14,15,16,17,18,19,35,36,37,38,39,40,41,42,43,44,45,46,47,48,49,50,51,52,53,54,55,56,57,58,59,60,61,62,63,64,65,66,67,68,69,70,71,72,73,74,75,76,77,78,79] ((⟨fun q=>[(14,.int .i64 ((q.1.1:Nat):Int))],fun q=>(⟨o34,q.1.2⟩:OwL Int).L 3 Jp ++ (⟨b12,n.cells,221⟩ :: (p.L 4 blc ++ (⟨b5,s.cells,80⟩ :: ⟨b4,a.cells,32⟩ :: L))),fun _=>R4,fun q=>200 - q.1.1⟩:Head {q:Nat×List Int // q.1≤200∧U1 a s A up 200 ps.l=U1 a s A up (200 - q.1) q.2∧q.2.length=ps.l.length∧PresOk q.2∧(⟨o34,q.2⟩:OwL Int).ok 1 Jp})) (⟨(0,ps.l),by dsimp only;omega,rfl,rfl,hso.hp,hok34⟩) ?_
  rintro ⟨⟨n1,l⟩,w1,w2,w3,w4,w5⟩ junk
  try dsimp only
  dsimp only at w1 w2 w3 w4 w5
  refine Xce ?_
  refine Xbo ?_
  refine q_c (fun hc1=>?_) (fun hc1=>?_)
  ·
   have e200:200 - n1=(200 - (n1 + 1)) + 1:=by omega
   rw [e200] at w2
   refine qbb ?_
   refine qaz ?_
   refine qaw ?_
   refine qab ?_
   refine Xaw ?_
   refine Y4 [8,9,14,15,16,17,18,19,35,36,37,38,39,40,41,42,43,44,45,46,47,48,49,50,51,52,53,54,55,56,57,58,59,60,61,62,63,64,65,66,67,68,69,70,71,72,73,74,75,76,77,78,79] zK [(14,Value.int _ _),(15,Value.bool _),(41,Value.slice _ _ _),(42,Value.int _ _),(43,Value.int _ _)] zg fun tq1=>?_
   refine Vm [8,9,15,16,17,18,19,43,44,45,46,47,48,49,50,51,52,53,54,55,56,57,58,59,60,61,62,63,64,65,66,67,68,69,70,71,72,73,74,75,76] ((⟨fun q=>[(43,.int .i64 ((q.1.1:Nat):Int)),(15,.bool (decide (q.1.2≠l)))],fun q=>(⟨o34,q.1.2⟩:OwL Int).L 3 Jp ++ (⟨b12,n.cells,221⟩ :: (p.L 4 blc ++ (⟨b5,s.cells,80⟩ :: ⟨b4,a.cells,32⟩ :: L))),fun _=>R4,fun q=>a.mine.places.l.length - q.1.1⟩:Head {q:Nat×List Int // q.1≤a.mine.places.l.length∧Swept a s A up l q.1 q.2∧(⟨o34,q.2⟩:OwL Int).ok 1 Jp})) (⟨(0,l),by dsimp only;omega,.zero w4,w5⟩) ⟨rfl,by simp;rfl,trivial⟩ zi zqb ?_
   rintro ⟨⟨i,m⟩,q1,q2,q3⟩ junk
   try dsimp only
   dsimp only at q1 q2 q3
   have hml:=q2.len
   refine Xak ?_
   refine q_c (fun hc2=>?_) (fun hc2=>?_)
   ·
    have hgg:=Jw (l:=a.mine.places.l) (k:=i) default za
    obtain ⟨fb,hfb⟩:∃fb,fb=A.getD i false:=⟨_,rfl⟩
    have hpg:p.l[i]?=some (!fb):=by rw [hpl,List.getElem?_map,Jw (l:=A) (k:=i) false za,hfb];rfl
    have hmg:=Jw (l:=m) (k:=i) 0 za
    refine Xa2 ?_
    refine Jx zJa rfl ?_
    refine Xdq ?_
    intro b17
    refine qad ?_
    refine Xa9 ?_
    refine Xaa ?_
    refine qah ?_
    apply J9 (G:=[_,_,_,_]) (j:=2) (cj:=50) rfl rfl zb rfl zdb rfl
    ·
     intro hg3
     replace hg3:=qb hg3
     refine Xau ?_
     refine Jx (Ju tb (p) _ rfl rfl rfl rfl zh (i:=i) zk zu) rfl ?_
     refine Vyf ?_
     exact qai
    intro junk3
    refine qaf ?_
    refine q_c (fun hc3=>?_) (fun hc3=>?_)
    ·
     have hfi:Yib a A i=true:=by rw [Yib,← hfb];rcases hc3 with h | h;rw [h,Bool.or_true];rw [h];rfl
     refine K8 (Kq (Kc (Jb (Jh ?_))))
     refine Xae ?_
     exact q_k ⟨(i + 1,m),by dsimp only;omega,q2.skip hfi,q3⟩
    have hfi:¬ Yib a A i=true:=by rw [Yib,← hfb,hc3.1,hc3.2];decide
    have hH:HypsN n a s m i R4:=⟨hpp,haa,hn,hok,by omega,q2.pres,by omega⟩
    refine qbv ?_
    refine Jx zDb rfl ?_
    refine qbe ?_
    refine Xau ?_
    refine K1c (Z6 rfl rfl (Zte up (o:=o34) (l:=m) ((show _=Value.slice _ _ _ from rfl).trans (by simp only [OwL.val,hml,w3])) hH zO q3)) rfl rfl ?_
    rintro v L' R' ⟨rfl,rfl,rfl⟩
    refine Jx zDb rfl ?_
    refine Xa4 ?_
    refine Xbn ?_
    refine qaw ?_
    refine qah ?_
    refine Xbd ?_
    refine q_c (fun hc4=>?_) (fun hc4=>?_)
    ·
     have hv:Kaa a s up m i=none:=by simpa using hc4
     have hrn:K5 a s A up ps.l=(2,[]):=by rw [hrx,w2,Ysc (q2.fail hfi hv _ za)]
     refine Xcw ?_
     refine qad ?_
     refine J6 (Jb (Uo (J7 (J3 (J7 (Va (J3 (J7 (J3 (J7 (Va (J3 (J7 ?_)))))))))))))
     refine q_r (L':=L) (R':=R4) zPc ?_
     exact Vaf
    obtain ⟨u,hv⟩:=Option.isSome_iff_exists.1 hc4
    have hfl:=q2.flag (k:=i) za u
    refine qcl ?_
    rw [hv]
    refine Xa3 ?_
    refine Xau ?_
    refine Ujf ?_
    refine Jx (Kk tb ((⟨o34,m⟩:OwL Int)) rfl rfl rfl zj zh (fun _=>rfl) zh zb) rfl ?_
    refine Xaq ?_
    refine q_c (fun hc5=>?_) (fun hc5=>?_)
    ·
     refine Xca ?_
     refine qaa ?_
     refine Ujf ?_
     refine Ye (Jr tb ((⟨o34,m⟩:OwL Int)) (u) rfl rfl rfl rfl zj zh (fun _=>rfl) zh zc zb zb) ?_
     rintro v L' R' ⟨rfl,rfl⟩
     refine qaz ?_
     refine Xa8 ?_
     exact Kf ⟨(i + 1,m.set i u),by dsimp only;omega,q2.next hfi hv,OwL.len_ok Vx q3 zo⟩ zm ⟨rfl,by dsimp only;rw [hfl,decide_eq_true (show u≠m.getD i 0 from hc5),Bool.or_true];rfl,trivial⟩ zi zqb zx
    refine Xax ?_
    have hse:m.set i u=m:=by rw [show u=m.getD i 0 by simpa using hc5,Yja]
    exact q_k ⟨(i + 1,m),by dsimp only;omega,hse ▸ q2.next hfi hv,q3⟩
   obtain rfl:i=a.mine.places.l.length:=by omega
   have hsw:=q2.to
   refine qbk ?_
   refine qah ?_
   refine Xbd ?_
   refine q_c (fun hc6=>?_) (fun hc6=>?_)
   ·
    have hme:m=l:=by simpa using hc6
    have hrn:K5 a s A up ps.l=(0,m):=by rw [hrx,w2,hme,Zwc (by rw [← hme] at hsw ⊢;exact hsw)]
    refine qae ?_
    refine qbm ?_
    refine qc4 ?_
    refine qad ?_
    refine qbt ?_
    refine q_r (L':=(⟨o34,m⟩:OwL Int).L 3 Jp ++ L) (R':=R4) zPc ?_
    exact ⟨⟨o34,m⟩,Yla n.pipes :: Via n.at_ :: (S ++ S0),by rw [hrn];simp only [OwL.val,hml,w3],q3,by rw [hrn],rfl,by rw [hR4];simp⟩
   have hme:m≠l:=by simpa using hc6
   refine qbj ?_
   refine Xdo ?_
   exact q_k ⟨(n1 + 1,m),by dsimp only;omega,w2.trans (Yzc hsw hme),hml.trans w3,q2.pres,q3⟩
  obtain rfl:n1=200:=by omega
  have hrn:K5 a s A up ps.l=(2,[]):=by rw [hrx,w2];rfl
  refine qbk ?_
  refine qc4 ?_
  refine Xah ?_
  refine q_r (L':=L) (R':=R4) zPc ?_
  exact Vaf
theorem Z7c (a:XAir) (s:XSetting) (ps:Arr Int) (A:List Bool) (L:List Blk) (R:List Sl) (hm:AirR a R) (hs:SetR s R) (hps:InR (isl ps) R) (hA:Ky a=0→AiryIs a.mine A):
    Tri Tryz.prog 187 [a.val,s.val,ps.val].toArray L R (fun w L' R'=>∃(p:OwL Int) (S:List Sl),w=.tuple #[p.val,.int .i64 (K5 a s A true ps.l).1]∧p.ok 1 Jp∧p.l=(K5 a s A true ps.l).2∧p.L 3 Jp ++ L=L'∧S ++ R=R'):=by
  refine Jg 14 Tryz.call187 Tryz.func187 rfl rfl rfl ?_
  refine Xag ?_
  intro b3
  refine qax ?_
  intro b4
  refine qc4 ?_
  refine Xaf ?_
  refine Xcb ?_
  refine qbm ?_
  refine Js rfl (Z5a a s ps true A _ _ hm hs hps hA) rfl ?_
  exact zsd
theorem Jad (a:XAir) (s:XSetting) (ps:Arr Int) (A:List Bool) (L:List Blk) (R:List Sl) (hm:AirR a R) (hs:SetR s R) (hps:InR (isl ps) R) (hA:Ky a=0→AiryIs a.mine A):
    Tri Tryz.prog 186 [a.val,s.val,ps.val].toArray L R (fun w L' R'=>∃(p:OwL Int) (S:List Sl),w=.tuple #[p.val,.int .i64 (K5 a s A false ps.l).1]∧p.ok 1 Jp∧p.l=(K5 a s A false ps.l).2∧p.L 3 Jp ++ L=L'∧S ++ R=R'):=by
  refine Jg 14 Tryz.call186 Tryz.func186 rfl rfl rfl ?_
  refine Xag ?_
  intro b3
  refine qax ?_
  intro b4
  refine qc4 ?_
  refine Xaf ?_
  refine Xcb ?_
  refine qbm ?_
  refine Js rfl (Z5a a s ps false A _ _ hm hs hps hA) rfl ?_
  exact zsd
end
end Go.Proofs.YtchfclmokpbldaaGreat
