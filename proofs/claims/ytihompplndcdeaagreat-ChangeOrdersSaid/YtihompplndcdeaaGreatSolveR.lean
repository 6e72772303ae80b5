import Derived.Test.YtihompplndcdeaaGreatComp
import Derived.Test.YtihompplndcdeaaGreatNets
section
/-
  Raising and lowering, in plain numbers: P12.1 and P12.2. By an AI agent; no person has read it.
-/
namespace Go.Proofs.YtihompplndcdeaaGreat
open Go.Aw Go
theorem Tri.turn {P : Program} {f : FuncId} {args : Array Value} {L : List Blk} {R : List Sl} {Post Post' : Jeq} (h : Tri P f args L R Post)
    (k:∀v L' R',Post v L' R'→∃L'' R'',L'.Perm L''∧(∀r∈R'',InR r R')∧Post' v L'' R''):Tri P f args L R Post':=
  ⟨h.1,fun w G hh=>(h.2 w G hh).mono fun e w' ⟨v,L',R',he,hp,hst⟩=>by
    obtain ⟨L'',R'',h1,h2,h3⟩:=k v L' R' hp
    exact ⟨v,L'',R'',he,h3,(hst.perm h1).weak (List.Sublist.refl _) h2⟩⟩
def Jp0 (g:Int→Bool) (start:Int) (up:Bool):Option Int:=
  ((List.range ((Jki up start).toNat + 1)).find? fun (m:Nat)=>g (start + sgn up * (m:Int))).map fun (m:Nat)=>start + sgn up * (m:Int)
theorem Jxt {g:Int→Bool} {start:Int} {up:Bool} {v:Int} (h:First g start up v true):Jp0 g start up=some v:=by
  obtain ⟨m,m0,m1,mv,mg,mj⟩:=h.yes rfl
  have e:(List.range ((Jki up start).toNat + 1)).find? (fun (m:Nat)=>g (start + sgn up * (m:Int)))=some m.toNat:=by
    rw [List.find?_range_eq_some]
    refine ⟨?_,List.mem_range.2 (by omega),fun j hj=>?_⟩
    · rw [Int.toNat_of_nonneg m0,← mv];exact mg
    · rw [mj j (by omega) (by omega)];rfl
  rw [Jp0,e,Option.map_some,Int.toNat_of_nonneg m0,mv]
theorem Jyh {g:Int→Bool} {start:Int} {up:Bool} {v:Int} (h0:0≤Jki up start) (h:First g start up v false):Jp0 g start up=none:=by
  obtain ⟨_,hj⟩:=h.no rfl
  have e:(List.range ((Jki up start).toNat + 1)).find? (fun (m:Nat)=>g (start + sgn up * (m:Int)))=none:=by
    rw [List.find?_range_eq_none]
    intro i hi
    rw [hj i (by omega) (by omega)];rfl
  rw [Jp0,e];rfl
theorem Jkf {g:Int→Bool} {start:Int} {up:Bool} {v:Int} (h0:0≤Jki up start) (h:Jp0 g start up=some v):First g start up v true:=by
  unfold Jp0 at h
  obtain ⟨m,hm,rfl⟩:=Option.map_eq_some_iff.1 h
  rw [List.find?_range_eq_some] at hm
  obtain ⟨h1,h2,h3⟩:=hm
  have h2':=List.mem_range.1 h2
  refine ⟨fun _=>⟨m,by omega,by omega,rfl,h1,fun j j0 j1=>?_⟩,fun h=>by cases h⟩
  have:=h3 j.toNat (by omega)
  rw [Int.toNat_of_nonneg j0] at this
  cases e:g (start + sgn up * j) with
  | false=>rfl
  | true=>rw [e] at this;cases this
theorem Ji4 {g:Int→Bool} {start:Int} {up:Bool} {v:Int} {ok:Bool} (h0:0≤Jki up start) (h:First g start up v ok):v=(Jp0 g start up).getD 0∧ok=(Jp0 g start up).isSome:=by
  cases ok with
  | true=>rw [Jxt h];exact ⟨rfl,rfl⟩
  | false=>rw [Jyh h0 h];exact ⟨(h.no rfl).1,rfl⟩
attribute [irreducible] Jp0
def Jrq (a:XAir) (s:XSetting) (up:Bool) (l:List Int) (v:Int):Int→Bool:=if up=true then Juc a s l v else Jjm a s l v
def Jet (a:XAir) (s:XSetting) (up:Bool) (l:List Int) (k:Nat):Option Int:=Jp0 (Jrq a s up l k) (l.getD k 0) up
abbrev Jlc (a:XAir) (A:List Bool) (k:Nat):Bool:=!(A.getD k false) || (a.mine.places.l.getD k default).surface
def Jck (a : XAir) (s : XSetting) (A : List Bool) (up : Bool) (l : List Int) : Nat → Option (List Int)
  | 0=>some l
  | k + 1=>(Jck a s A up l k).bind fun m=>if Jlc a A k=true then some m else (Jet a s up m k).map fun v=>m.set k v
def Jcv (a : XAir) (s : XSetting) (A : List Bool) (up : Bool) : Nat → List Int → Option (List Int)
  | 0,_=>none
  | n + 1,l=>match Jck a s A up l a.mine.places.l.length with
    | none=>none
    | some m=>if m=l then some m else Jcv a s A up n m
def Jdc (a:XAir) (ps:List Int) (A:List Bool) (i:Nat):Option Int:=if Jlc a A i=true∧ps.getD i 0≠0 then some 12 else none
def Jch (a:XAir) (s:XSetting) (ps:List Int) (A:List Bool):Int:=
  if Ja4 a≠0 then Ja4 a else if Jdq a s=false then 21 else if ps.length≠a.mine.places.l.length then 11
  else if (ps.findSome? Jcb).isSome=true then 1 else ((List.range a.mine.places.l.length).findSome? (Jdc a ps A)).getD 0
def Jbj (a:XAir) (s:XSetting) (A:List Bool) (up:Bool) (ps:List Int):Int×List Int:=
  if Jch a s ps A≠0 then (Jch a s ps A,[]) else match Jcv a s A up 200 ps with
    | none=>(2,[])
    | some l=>(0,l)
def Jc1 (a:XAir) (s:XSetting) (A:List Bool):Int×List Int×List Int:=
  let p:=Jbj a s A false (List.replicate a.mine.places.l.length 0)
  if p.1≠0 then (p.1,[],[]) else
    let q:=Jbj a s A true p.2
    if q.1≠0 then (q.1,[],[]) else
      let r:=Jbj a s A false q.2
      if r.1≠0 then (r.1,[],[]) else (0,r.2,q.2)
structure StartOk (a:XAir) (s:XSetting) (ps:List Int) (A:List Bool):Prop where
  h0:Ja4 a=0
  hf:Jdq a s=true
  hl:ps.length=a.mine.places.l.length
  hp:PresOk ps
  fix:∀i:Nat,i < a.mine.places.l.length→Jlc a A i=true→ps.getD i 0=0
theorem Jfz {a:XAir} {s:XSetting} {ps:List Int} {A:List Bool}:Jch a s ps A=0↔StartOk a s ps A:=by
  constructor
  · intro h
    unfold Jch at h
    split at h
    · rename_i h1;exact absurd h h1
    rename_i h1
    split at h
    · cases h
    rename_i h2
    split at h
    · cases h
    rename_i h3
    split at h
    · cases h
    rename_i h4
    refine ⟨by omega,by simpa using h2,by omega,Jgb (by simpa using h4),fun i hi hf=>?_⟩
    have hn:(List.range a.mine.places.l.length).findSome? (Jdc a ps A)=none:=by
      cases e:(List.range a.mine.places.l.length).findSome? (Jdc a ps A) with
      | none=>rfl
      | some v=>
        obtain ⟨j,_,hj⟩:=List.exists_of_findSome?_eq_some e
        unfold Jdc at hj
        split at hj
        · cases hj;rw [e] at h;cases h
        · cases hj
    rw [List.findSome?_eq_none_iff] at hn
    have:=hn i (List.mem_range.2 hi)
    unfold Jdc at this
    split at this
    · cases this
    · rename_i h5
      exact Decidable.not_not.1 fun h6=>h5 ⟨hf,h6⟩
  · intro h
    rw [Jch,if_neg (by rw [h.h0];decide),if_neg (by rw [h.hf];decide),if_neg (by rw [h.hl];simp),if_neg (by rw [Jj5 h.hp];simp),List.findSome?_eq_none_iff.2 (fun i hi=>show Jdc a ps A i=none from if_neg (fun h'=>h'.2 (h.fix i (List.mem_range.1 hi) h'.1)))]
    rfl
theorem Jvp {a:XAir} {s:XSetting} {up:Bool} {l:List Int} {k:Nat} {v:Int} (h:PresOk l) (hv:Jet a s up l k=some v):-70368744177664≤v∧v≤70368744177664:=by
  obtain ⟨m,m0,m1,mv,_,_⟩:=(Jkf (Joz (h.get k)).1 hv).yes rfl
  rw [mv]
  exact Jwh (h.get k) ⟨m0,m1⟩
structure Swept (a:XAir) (s:XSetting) (A:List Bool) (up:Bool) (l:List Int) (k:Nat) (m:List Int):Prop where
  to:Jck a s A up l k=some m
  len:m.length=l.length
  pres:PresOk m
  rest:∀j:Nat,k≤j→m[j]?=l[j]?
theorem Swept.zero {a:XAir} {s:XSetting} {A:List Bool} {up:Bool} {l:List Int} (h:PresOk l):Swept a s A up l 0 l:=⟨rfl,rfl,h,fun _ _=>rfl⟩
theorem Swept.skip {a:XAir} {s:XSetting} {A:List Bool} {up:Bool} {l m:List Int} {k:Nat} (h:Swept a s A up l k m) (hf:Jlc a A k=true):Swept a s A up l (k + 1) m:=
  ⟨by rw [Jck,h.to,Option.bind_some,if_pos hf],h.len,h.pres,fun j hj=>h.rest j (by omega)⟩
theorem Swept.fail {a:XAir} {s:XSetting} {A:List Bool} {up:Bool} {l m:List Int} {k:Nat} (h:Swept a s A up l k m) (hf:¬ Jlc a A k=true) (hn:Jet a s up m k=none):∀n,k + 1≤n→Jck a s A up l n=none:=by
  intro n hn2
  induction n with
  | zero=>omega
  | succ n ih=>
    rcases Nat.lt_or_ge k n with h1 | h1
    · rw [Jck,ih (by omega)];rfl
    · obtain rfl : n = k := by omega
      rw [Jck,h.to,Option.bind_some,if_neg hf,hn];rfl
theorem Swept.next {a:XAir} {s:XSetting} {A:List Bool} {up:Bool} {l m:List Int} {k:Nat} (h:Swept a s A up l k m) (hf:¬ Jlc a A k=true) {v:Int} (hv:Jet a s up m k=some v):Swept a s A up l (k + 1) (m.set k v):=
  ⟨by rw [Jck,h.to,Option.bind_some,if_neg hf,hv];rfl,by rw [List.length_set];exact h.len,h.pres.set _ (Jvp h.pres hv),fun j hj=>by rw [List.getElem?_set_ne (by omega)];exact h.rest j (by omega)⟩
theorem Swept.flag {a:XAir} {s:XSetting} {A:List Bool} {up:Bool} {l m:List Int} {k:Nat} (h:Swept a s A up l k m) (hk:k < l.length) (v:Int):decide (m.set k v≠l)=(decide (m≠l) || decide (v≠m.getD k 0)):=by
  have hlen:=h.len
  have hg:=Jan (l:=m) (k:=k) 0 (by omega)
  by_cases h1:v=m.getD k 0
  · rw [h1,Jgq];simp
  · have h2:m.set k v≠l:=fun e=>by
      have h3:=h.rest k (Nat.le_refl _)
      rw [← e,List.getElem?_set_self (by omega),hg] at h3
      exact h1 (Option.some.inj h3).symm
    rw [decide_eq_true h2,decide_eq_true h1,Bool.or_true]
theorem Joj {a:XAir} {s:XSetting} {A:List Bool} {up:Bool} {n:Nat} {l m:List Int} (hs:Jck a s A up l a.mine.places.l.length=some m) (hne:m≠l):Jcv a s A up (n + 1) l=Jcv a s A up n m:=by
  rw [Jcv,hs];exact if_neg hne
theorem Jkh {a:XAir} {s:XSetting} {A:List Bool} {up:Bool} {n:Nat} {l:List Int} (hs:Jck a s A up l a.mine.places.l.length=some l):Jcv a s A up (n + 1) l=some l:=by
  rw [Jcv,hs];exact if_pos rfl
theorem Jj0 {a:XAir} {s:XSetting} {A:List Bool} {up:Bool} {n:Nat} {l:List Int} (hs:Jck a s A up l a.mine.places.l.length=none):Jcv a s A up (n + 1) l=none:=by
  rw [Jcv,hs]
theorem Je7 {a : XAir} {s : XSetting} {A : List Bool} {up : Bool} {l : List Int} (hl : PresOk l) : ∀ {k : Nat} {m : List Int}, Jck a s A up l k = some m → Swept a s A up l k m
  | 0,m,h=>by cases h;exact .zero hl
  | k + 1,m,h=>by
    have h':=h
    rw [Jck,Option.bind_eq_some_iff] at h'
    obtain ⟨m1,h1,h2⟩:=h'
    have ih:=Je7 hl h1
    split at h2
    · rename_i hf
      cases h2
      exact ih.skip hf
    · rename_i hf
      obtain ⟨v,hv,rfl⟩:=Option.map_eq_some_iff.1 h2
      exact ih.next hf hv
theorem Jiw {a : XAir} {s : XSetting} {A : List Bool} {up : Bool} : ∀ {n : Nat} {l m : List Int}, PresOk l → Jcv a s A up n l = some m → m.length = l.length ∧ PresOk m ∧ Jck a s A up m a.mine.places.l.length = some m
  | 0,l,m,_,h=>by cases h
  | n + 1,l,m,hl,h=>by
    rw [Jcv] at h
    split at h
    · cases h
    · rename_i m1 h1
      have hs:=Je7 hl h1
      split at h
      · rename_i e
        cases h
        subst e
        exact ⟨rfl,hl,h1⟩
      · obtain ⟨k1, k2, k3⟩ := Jiw hs.pres h
        exact ⟨k1.trans hs.len,k2,k3⟩
theorem Jow {a:XAir} {s:XSetting} {A:List Bool} {up:Bool} {ps:List Int} (h:(Jbj a s A up ps).1=0):StartOk a s ps A∧Jcv a s A up 200 ps=some (Jbj a s A up ps).2:=by
  unfold Jbj at h ⊢
  split at h
  · rename_i h1;exact absurd h h1
  · rename_i h1
    rw [if_neg h1]
    refine ⟨Jfz.1 (by omega),?_⟩
    split at h
    · cases h
    · rename_i l e;rw [e]
end Go.Proofs.YtihompplndcdeaaGreat
end
section
/-
  The reference's raising and lowering. By an AI agent; no person has read it.
-/
namespace Go.Proofs.YtihompplndcdeaaGreat
open Go.Aw Go
set_option maxRecDepth 20000
attribute [local irreducible] CJ LJ DJ Tri YV Gives Jd5 Jbd Jbz Jd4 RV Jbf OwL.L
section
variable {A9 B9:Prop}
theorem J2b (a:A9) (h:A9→B9:=by exact Ja2 (Jak tb ((⟨o26,m⟩:OwL Int)) _ rfl rfl ((show _=Value.slice _ _ _ from rfl).trans (by simp only [OwL.val,hml,w3])) rfl (by assumption) (i:=i) (by first | rfl | omega | (simp;omega)) (by first | omega | (dsimp only;omega) | (dsimp only;rw [List.length_set];omega) | (dsimp only;simp only [List.length_set];omega))) rfl):B9:=h a
theorem J4h (h:B9:=by exact ⟨OwL.nil,by rw [hrn];rfl,OwL.nil_ok,by rw [hrn],by rw [Jcl,List.nil_append],rfl⟩):B9:=h
theorem J6i (a:A9) (h:A9→B9:=by exact Ja2 (Jaz tb (p) rfl rfl rfl (by repeat (first | apply OSeg.cons | exact OSeg.here | exact OSeg.last | exact OSeg.at (by assumption) | apply OSeg.app)) (by assumption) (fun _=>rfl) (by assumption) (by rfl)) rfl):B9:=h a
theorem J6q (a:A9) (h:A9→B9:=by exact Ja2 (Jaz tb ((⟨o26,m⟩:OwL Int)) rfl rfl rfl (by repeat (first | apply OSeg.cons | exact OSeg.here | exact OSeg.last | exact OSeg.at (by assumption) | apply OSeg.app)) (by assumption) (fun _=>rfl) (by assumption) (by rfl)) rfl):B9:=h a
theorem J5x (a:A9) (h:A9→B9:=by exact Jfa (Jas tb ((⟨o26,m⟩:OwL Int)) (u) rfl rfl rfl rfl (by repeat (first | apply OSeg.cons | exact OSeg.here | exact OSeg.last | exact OSeg.at (by assumption) | apply OSeg.app)) (by assumption) (fun _=>rfl) (by assumption) (by decide) (by rfl) (by rfl))):B9:=h a
theorem J83 (h:B9:=by exact Jat ⟨(i + 1,m.set i u),by dsimp only;omega,q2.next hfi hv,OwL.len_ok Jcc q3 (by simp)⟩ (by repeat (first | exact Off.refl | apply Off.upd rfl | apply Off.havoc rfl | apply Off.updL rfl | apply Off.left rfl)) ⟨rfl,by dsimp only;rw [hfl];rfl,trivial⟩ (by repeat (first | exact zs0 _ | exact zs1 _ | apply zs2 | apply zs3 | apply zs4 | apply zs5)) (Jac _) (by dsimp only;omega)):B9:=h
end
theorem Jpu (a:XAir) (s:XSetting) (ps:Arr Int) (A:List Bool) (L:List Blk) (R:List Sl) (hm:AirR a R) (hs:SetR s R) (hps:InR (isl ps) R) (hA:Ja4 a=0→AiryIs a.mine A):
    Tri Tryz.prog 129 [a.val,s.val,ps.val].toArray L R (fun v L' R'=>v=.int .i64 (Jch a s ps.l A)∧L=L'∧R=R'):=by
  have hmp:=hm.places
  refine Jb7 Tryz.call129 hps fun hpn=>?_
  refine Jb7 Tryz.call129 hmp fun hmpn=>?_
  refine Jae 49 Tryz.call129 Tryz.func129 rfl rfl rfl ?_
  refine Xai ?_
  intro b3
  refine qax ?_
  intro b4
  refine Xa5 ?_
  refine qa8 ?_
  refine q_l rfl (Jes a _ _ hm) ?_
  refine Xbt ?_
  refine q_c (fun hc0=>?_) (fun hc0=>?_)
  ·
   refine Xd0 ?_
   refine q_i (L':=L) (R':=R) ?_
   exact ⟨by rw [Jch,if_pos hc0],rfl,rfl⟩
  have h0:Ja4 a=0:=by omega
  have hok:=Jeg h0
  have hAA:=hA h0
  refine Xdp ?_
  refine q_l rfl (Jdg a s _ _ hm hs) ?_
  refine Xbc ?_
  refine q_c (fun hc1=>?_) (fun hc1=>?_)
  ·
   refine Xbl ?_
   refine q_i (L':=L) (R':=R) ?_
   exact ⟨by rw [Jch,if_neg hc0,if_pos (by simpa [Jdn,h0] using hc1)],rfl,rfl⟩
  have hf0:Jdq a s=true:=by simpa [Jdn,h0] using hc1
  have hff:¬ Jdq a s=false:=by rw [hf0];decide
  refine qbo ?_
  refine Xat ?_
  refine Xa7 ?_
  refine Xaw ?_
  refine q_c (fun hc2=>?_) (fun hc2=>?_)
  ·
   refine Xbl ?_
   refine q_i (L':=L) (R':=R) ?_
   exact ⟨by rw [Jch,if_neg hc0,if_neg hff,if_pos (by omega)],rfl,rfl⟩
  have hln:ps.l.length=a.mine.places.l.length:=by omega
  refine qbo ?_
  refine qbm ?_
  refine q_l rfl (Jl4 ps _ _ hps) ?_
  refine Xbc ?_
  refine q_c (fun hc3=>?_) (fun hc3=>?_)
  ·
   refine Xbl ?_
   refine q_i (L':=L) (R':=R) ?_
   exact ⟨by rw [Jch,if_neg hc0,if_neg hff,if_neg (by omega),if_pos (by simp_all [Option.isSome_iff_ne_none])],rfl,rfl⟩
  have hr:¬ (ps.l.findSome? Jcb).isSome=true:=by simp_all
  refine qbv ?_
  refine Xbu ?_
  refine Jaq rfl (Jnt a.mine _ _ hm.mineR hok.mine) rfl ?_
  rintro v L' R' ⟨p,A2,rfl,hpk,hA2,hpl,rfl,rfl⟩
  obtain rfl:A=A2:=hAA.unique hA2
  have hfx:p.l.length=a.mine.places.l.length:=by rw [hpl];exact Jko a.mine A
  have hck:Jch a s ps.l A=((List.range ps.l.length).findSome? (Jdc a ps.l A)).getD 0:=by rw [Jch,if_neg hc0,if_neg hff,if_neg (by omega),if_neg hr,hln]
  refine Xdo ?_
  refine Jg1 fun c w hst=>⟨_,_,hst.perm List.perm_append_comm,?_⟩
  refine qay ?_
  refine Xas ?_
  refine Jai [(2,Value.slice _ _ _),(8,Value.slice _ _ _),(9,Value.int _ _)] (by repeat' (first | exact trivial | refine And.intro rfl ?_)) fun tq0=>?_
  refine q_s [6,9,32,33,34,35,36,37,38,39,40,41,42,43,44,45,46,47,48] (fun g:FSR (Jdc a ps.l A) (ps.l.length)=>[(9,.int .i64 ((g.1:Nat):Int))]) (fun g=>(ps.l.length) - g.1) ⟨0,Je3 _ _⟩ ?_
  rintro ⟨k0,hk0,hp0⟩ junk
  try dsimp only
  refine Xcg ?_
  refine q_c (fun hc4=>?_) (fun hc4=>?_)
  ·
   have hpg:p.l[k0]?=some (Jlc a A k0):=by rw [hpl];exact Jnd (by omega)
   have hsg:=Jan (l:=ps.l) (k:=k0) 0 (by omega)
   refine qbb ?_
   refine Xad ?_
   refine Ja2 (Jak tb (p) _ rfl rfl rfl rfl (by assumption) (i:=k0) (by first | rfl | omega | (simp;omega)) (by first | omega | (dsimp only;omega) | (dsimp only;rw [List.length_set];omega) | (dsimp only;simp only [List.length_set];omega))) rfl ?_
   refine J6i ?_
   refine qah ?_
   apply Jcd (G:=[_,_,_,_,_]) (j:=4) (cj:=42) rfl rfl (by rfl) rfl (show _=Value.bool _ from rfl) rfl
   ·
    intro hg5
    replace hg5:=qb hg5
    refine Xad ?_
    refine Ja2 (by first | exact Jag tb rfl rfl rfl rfl (by first | assumption | exact zr (by simp)) (i:=k0) (by first | rfl | omega | (simp;omega)) (by omega) | exact Jal tb rfl rfl rfl rfl (i:=k0) (by first | rfl | omega | (simp;omega)) (by omega)) rfl ?_
    refine qa7 ?_
    refine qbq ?_
    exact qai
   intro junk5
   refine qaf ?_
   refine q_c (fun hc5=>?_) (fun hc5=>?_)
   ·
    have hnb:Jdc a ps.l A k0=some 12:=if_pos (by simpa using hc5)
    refine Xbv ?_
    refine q_i (L':=L) (R':=R) ?_
    exact ⟨by rw [hck,Jf5 hp0 (by omega) hnb];rfl,rfl,rfl⟩
   have hnb:Jdc a ps.l A k0=none:=if_neg (fun ⟨h1,h2⟩=>by
   rcases hc5 with ⟨h3,h4⟩ | h3
   · rw [Jlc,h3,h4] at h1;cases h1
   · exact h3 h2)
   refine Xa1 ?_
   exact q_k ⟨k0 + 1,Jdy hp0 (by omega) (hnb)⟩
  have hn0:=Je8 hp0 (by omega)
  refine Xcu ?_
  refine q_i (L':=L) (R':=R) ?_
  exact ⟨by rw [hck,hn0];rfl,rfl,rfl⟩
abbrev Jzk (x:Option Int):Value:=.tuple #[.int .i64 (x.getD 0),.bool x.isSome]
theorem Jq5 {ps:List Int} (h:PresOk ps) (up:Bool) (k:Nat):0≤Jki up (ps.getD k 0):=(Joz (h.get k)).1
theorem upL {a:XAir} {s:XSetting} {o:Ow} {l:List Int} {k:Nat} {A:List Blk} {R:List Sl} {vl:Value} (hvl:vl=(⟨o,l⟩:OwL Int).val) (h:HypsR a s l k R) (hin:InB ((⟨o,l⟩:OwL Int).L 3 Jad) A) (hok:(⟨o,l⟩:OwL Int).ok 1 Jad):
    Tri Tryz.prog 130 [a.val,s.val,vl,.int .i64 (k:Int)].toArray A R (fun w L' R'=>w=Jzk (Jet a s true l k)∧A=L'∧R=R'):=by
  subst hvl
  refine Tri.lend1 hin hok ((J6c a s (⟨o,l⟩:OwL Int).arr k [] _ ⟨Jbm h.air fun r hr=>Jab (.tail _ hr),Jbc h.set fun r hr=>Jab (.tail _ hr),h.ok,h.fit,h.len,h.pres,h.v⟩ (Jab (.head _))).mono ?_)
  rintro v L' R' ⟨z,ok,rfl,hF,rfl,rfl⟩
  obtain ⟨rfl,rfl⟩:=Ji4 (Jq5 h.pres true (Int.toNat k)) hF
  exact ⟨rfl,rfl,rfl⟩
theorem J9a {a:XAir} {s:XSetting} {o:Ow} {l:List Int} {k:Nat} {A:List Blk} {R:List Sl} {vl:Value} (hvl:vl=(⟨o,l⟩:OwL Int).val) (h:HypsR a s l k R) (hin:InB ((⟨o,l⟩:OwL Int).L 3 Jad) A) (hok:(⟨o,l⟩:OwL Int).ok 1 Jad):
    Tri Tryz.prog 131 [a.val,s.val,vl,.int .i64 (k:Int)].toArray A R (fun w L' R'=>w=Jzk (Jet a s false l k)∧A=L'∧R=R'):=by
  subst hvl
  refine Tri.lend1 hin hok ((J14 a s (⟨o,l⟩:OwL Int).arr k [] _ ⟨Jbm h.air fun r hr=>Jab (.tail _ hr),Jbc h.set fun r hr=>Jab (.tail _ hr),h.ok,h.fit,h.len,h.pres,h.v⟩ (Jab (.head _))).mono ?_)
  rintro v L' R' ⟨z,ok,rfl,hF,rfl,rfl⟩
  obtain ⟨rfl,rfl⟩:=Ji4 (Jq5 h.pres false (Int.toNat k)) hF
  exact ⟨rfl,rfl,rfl⟩
theorem Jjy (a:XAir) (s:XSetting) (ps:Arr Int) (up:Bool) (A:List Bool) (L:List Blk) (R:List Sl) (hm:AirR a R) (hs:SetR s R) (hps:InR (isl ps) R) (hA:Ja4 a=0→AiryIs a.mine A):
    Tri Tryz.prog 111 [a.val,s.val,ps.val,.bool up].toArray L R (fun w L' R'=>∃p:OwL Int,w=.tuple #[p.val,.int .i64 (Jbj a s A up ps.l).1]∧p.ok 1 Jad∧p.l=(Jbj a s A up ps.l).2∧p.L 3 Jad ++ L=L'∧R=R'):=by
  have hmp:=hm.places
  refine Jae 79 Tryz.call111 Tryz.func111 rfl rfl rfl ?_
  refine Xai ?_
  intro b4
  refine qax ?_
  intro b5
  refine Xc2 ?_
  refine Xcl ?_
  refine q_l rfl (Jpu a s ps A _ _ hm hs hps hA) ?_
  refine Xbt ?_
  refine q_c (fun hc0=>?_) (fun hc0=>?_)
  ·
   refine Xc1 ?_
   refine Xbs ?_
   refine q_r (L':=L) (R':=R) (Jc8 rfl (Jah (show _=Value.slice _ _ _ from rfl)) (Jah (show _=Value.int _ _ from rfl))) ?_
   exact ⟨OwL.nil,by rw [Jbj,if_pos hc0];rfl,OwL.nil_ok,by rw [Jbj,if_pos hc0],by rw [Jcl,List.nil_append],rfl⟩
  have hso:=Jfz.1 (show Jch a s ps.l A=0 by omega)
  have hok:=Jeg hso.h0
  have hfo:=Je4 hso.hf
  have hAA:=hA hso.h0
  have hln:=hso.hl
  have hnp:=hok.mine.places
  have hrx:Jbj a s A up ps.l=match Jcv a s A up 200 ps.l with
    | none=>(2,[])
    | some l=>(0,l):=by rw [Jbj,if_neg hc0] <;> rfl
  refine Xdc ?_
  refine Jfo (Jcx (f:=Jad) (xs:=ps) tb rfl rfl rfl (by decide) rfl rfl (hps) (fun _=>rfl) (by omega)) rfl ?_
  rintro v L' R' ⟨o26,rfl,hok26,rfl,rfl⟩
  refine Xbn ?_
  refine Xbu ?_
  refine Jaq rfl (Jnt a.mine _ _ hm.mineR hok.mine) rfl ?_
  rintro v L' R' ⟨p,A2,rfl,hpk,hA2,hpl,rfl,rfl⟩
  obtain rfl:A=A2:=hAA.unique hA2
  have hfx:p.l.length=a.mine.places.l.length:=by rw [hpl];exact Jko a.mine A
  refine Xdo ?_
  refine Jg1 fun c w hst=>⟨_,_,hst.perm List.perm_append_comm,?_⟩
  refine qay ?_
  refine Xas ?_
  refine Jai [(3,Value.bool _),(4,Value.pointer _),(5,Value.pointer _),(11,Value.slice _ _ _),(12,Value.slice _ _ _),(13,Value.int _ _)] (by repeat' (first | exact trivial | refine And.intro rfl ?_)) fun tq0=>?_
  refine q_p [8,9,13,14,15,16,17,30,31,32,33,34,35,36,37,38,39,40,41,42,43,44,45,46,47,48,49,50,51,52,53,54,55,56,57,58,59,60,61,62,63,64,65,66,67,68,69,70,71,72,73,74,75,76,77,78] ((⟨fun q=>[(13,.int .i64 ((q.1.1:Nat):Int))],fun q=>p.L 4 blc ++ ((⟨o26,q.1.2⟩:OwL Int).L 3 Jad ++ (⟨b5,s.cells,25⟩ :: ⟨b4,a.cells,35⟩ :: L)),fun _=>R,fun q=>200 - q.1.1⟩:Head {q:Nat×List Int // q.1≤200∧Jcv a s A up 200 ps.l=Jcv a s A up (200 - q.1) q.2∧q.2.length=ps.l.length∧PresOk q.2∧(⟨o26,q.2⟩:OwL Int).ok 1 Jad})) (⟨(0,ps.l),by dsimp only;omega,rfl,rfl,hso.hp,hok26⟩) ?_
  rintro ⟨⟨n,l⟩,w1,w2,w3,w4,w5⟩ junk
  try dsimp only
  dsimp only at w1 w2 w3 w4 w5
  refine Xaq ?_
  refine Xao ?_
  refine q_c (fun hc1=>?_) (fun hc1=>?_)
  ·
   have e200:200 - n=(200 - (n + 1)) + 1:=by omega
   rw [e200] at w2
   refine qbb ?_
   refine Xb2 ?_
   refine Xas ?_
   refine Jb8 [8,9,13,14,15,16,17,30,31,32,33,34,35,36,37,38,39,40,41,42,43,44,45,46,47,48,49,50,51,52,53,54,55,56,57,58,59,60,61,62,63,64,65,66,67,68,69,70,71,72,73,74,75,76,77,78] (by repeat (first | apply Off.upd rfl | apply Off.havoc rfl | refine Off.updL (t':=havoc _ _ _) rfl ?_ | exact Off.refl)) [(13,Value.int _ _),(14,Value.bool _),(15,Value.int _ _)] (by repeat' (first | exact trivial | refine And.intro rfl ?_)) fun tq1=>?_
   refine Jb0 [8,9,14,15,16,17,34,35,36,37,38,39,40,41,42,43,44,45,46,47,48,49,50,51,52,53,54,55,56,57,58,59,60,61,62,63,64,65,66,67,68,69,70,71,72,73,74,75] ((⟨fun q=>[(15,.int .i64 ((q.1.1:Nat):Int)),(14,.bool (decide (q.1.2≠l)))],fun q=>p.L 4 blc ++ ((⟨o26,q.1.2⟩:OwL Int).L 3 Jad ++ (⟨b5,s.cells,25⟩ :: ⟨b4,a.cells,35⟩ :: L)),fun _=>R,fun q=>ps.l.length - q.1.1⟩:Head {q:Nat×List Int // q.1≤ps.l.length∧Swept a s A up l q.1 q.2∧(⟨o26,q.2⟩:OwL Int).ok 1 Jad})) (⟨(0,l),by dsimp only;omega,.zero w4,w5⟩) ⟨rfl,by simp;rfl,trivial⟩ (by repeat (first | exact zs0 _ | exact zs1 _ | apply zs2 | apply zs3 | apply zs4 | apply zs5)) (Jac _) ?_
   rintro ⟨⟨i,m⟩,q1,q2,q3⟩ junk
   try dsimp only
   dsimp only at q1 q2 q3
   have hml:=q2.len
   refine Xcg ?_
   refine q_c (fun hc2=>?_) (fun hc2=>?_)
   ·
    obtain ⟨fb,hfb⟩:∃fb,fb=Jlc a A i:=⟨_,rfl⟩
    have hpg:p.l[i]?=some fb:=by rw [hpl,hfb];exact Jnd (by omega)
    have hmg:=Jan (l:=m) (k:=i) 0 (by omega)
    refine Ja3 (Jaa (Jam (Ja1 (Jam (Jam (Jaf ?_))))))
    refine Xad ?_
    refine Ja2 (Jak tb (p) _ rfl rfl rfl rfl (by assumption) (i:=i) (by first | rfl | omega | (simp;omega)) (by first | omega | (dsimp only;omega) | (dsimp only;rw [List.length_set];omega) | (dsimp only;simp only [List.length_set];omega))) rfl ?_
    refine J6i ?_
    refine qaf ?_
    refine q_c (fun hc3=>?_) (fun hc3=>?_)
    ·
     have hfi:Jlc a A i=true:=hfb ▸ hc3
     refine Jb6 (Jbk (Ja6 (Jaa (Jaf ?_))))
     refine Xah ?_
     exact q_k ⟨(i + 1,m),by dsimp only;omega,q2.skip hfi,q3⟩
    have hfi:¬ Jlc a A i=true:=by rw [← hfb,hc3];decide
    have hH:HypsR a s m i R:=⟨hm,hs,hok,hfo,by omega,q2.pres,by omega⟩
    refine qbv ?_
    refine qad ?_
    refine Xb2 ?_
    refine Xdi ?_
    refine q_c (fun hc4=>?_) (fun hc4=>?_)
    ·
     have hup:up=true:=hc4
     refine Xd8 ?_
     refine Xad ?_
     refine q_l rfl (upL (o:=o26) (l:=m) ((show _=Value.slice _ _ _ from rfl).trans (by simp only [OwL.val,hml,w3])) hH (by repeat (first | exact Jaw | apply Jau | apply Jba)) q3) ?_
     refine Ja2 (Jar rfl) rfl ?_
     refine Xdw ?_
     refine Xb2 ?_
     refine Xc3 ?_
     refine q_c (fun hc5=>?_) (fun hc5=>?_)
     ·
      have hv:Jet a s up m i=none:=by rw [hup];simpa using hc5
      have hrn:Jbj a s A up ps.l=(2,[]):=by rw [hrx,w2,Jj0 (q2.fail hfi hv _ (by omega))]
      refine qae ?_
      refine Xar ?_
      refine Ja9 (Jaa (Jc5 (Ja7 (Jay (Ja7 (Jcm (Jay (Ja7 (Jay (Ja7 (Jcm (Jay (Ja7 ?_)))))))))))))
      refine q_r (L':=L) (R':=R) (Jc8 rfl (Jah (show _=Value.slice _ _ _ from rfl)) (Jah (show _=Value.int _ _ from rfl))) ?_
      exact J4h
     obtain ⟨u,hv'⟩:=Option.isSome_iff_exists.1 hc5
     have hv:Jet a s up m i=some u:=by rw [hup];exact hv'
     have hfl:=q2.flag (k:=i) (by omega) u
     refine qcl ?_
     rw [hv']
     refine qay ?_
     refine qah ?_
     refine qah ?_
     apply Jbw (G:=[_,_,_,_,_,_]) (j:=1) (cj:=64) rfl rfl (by rfl) rfl (show _=Value.bool _ from rfl) rfl
     ·
      intro hg2
      replace hg2:=qb hg2
      refine qaa ?_
      refine Xad ?_
      refine J2b ?_
      refine J6q ?_
      refine qbq ?_
      exact qai
     intro junk2
     refine qaz ?_
     refine Ja9 (Jaa (Jaf ?_))
     refine Xdh ?_
     refine J2b ?_
     refine J5x ?_
     rintro v L' R' ⟨rfl,rfl⟩
     refine Xa8 ?_
     exact J83
    have hup:up=false:=by simpa using hc4
    refine Xd8 ?_
    refine Xad ?_
    refine q_l rfl (J9a (o:=o26) (l:=m) ((show _=Value.slice _ _ _ from rfl).trans (by simp only [OwL.val,hml,w3])) hH (by repeat (first | exact Jaw | apply Jau | apply Jba)) q3) ?_
    refine Ja2 (Jar rfl) rfl ?_
    refine Xdw ?_
    refine Xb2 ?_
    refine Xc3 ?_
    refine q_c (fun hc5=>?_) (fun hc5=>?_)
    ·
     have hv:Jet a s up m i=none:=by rw [hup];simpa using hc5
     have hrn:Jbj a s A up ps.l=(2,[]):=by rw [hrx,w2,Jj0 (q2.fail hfi hv _ (by omega))]
     refine qae ?_
     refine Xar ?_
     refine Ja9 (Jaa (Jc5 (Ja7 (Jay (Ja7 (Jcm (Jay (Ja7 (Jay (Ja7 (Jcm (Jay (Ja7 ?_)))))))))))))
     refine q_r (L':=L) (R':=R) (Jc8 rfl (Jah (show _=Value.slice _ _ _ from rfl)) (Jah (show _=Value.int _ _ from rfl))) ?_
     exact J4h
    obtain ⟨u,hv'⟩:=Option.isSome_iff_exists.1 hc5
    have hv:Jet a s up m i=some u:=by rw [hup];exact hv'
    have hfl:=q2.flag (k:=i) (by omega) u
    refine qcl ?_
    rw [hv']
    refine qay ?_
    refine qah ?_
    refine qah ?_
    apply Jbw (G:=[_,_,_,_,_,_]) (j:=1) (cj:=64) rfl rfl (by rfl) rfl (show _=Value.bool _ from rfl) rfl
    ·
     intro hg2
     replace hg2:=qb hg2
     refine qaa ?_
     refine Xad ?_
     refine J2b ?_
     refine J6q ?_
     refine qbq ?_
     exact qai
    intro junk2
    refine qaz ?_
    refine Ja9 (Jaa (Jaf ?_))
    refine Xdh ?_
    refine J2b ?_
    refine J5x ?_
    rintro v L' R' ⟨rfl,rfl⟩
    refine Xa8 ?_
    exact J83
   obtain rfl:i=ps.l.length:=by omega
   have hsw:=q2.to
   rw [hln] at hsw
   refine qbk ?_
   refine Xc3 ?_
   refine q_c (fun hc6=>?_) (fun hc6=>?_)
   ·
    have hme:m=l:=by simpa using hc6
    have hrn:Jbj a s A up ps.l=(0,m):=by rw [hrx,w2,hme,Jkh (by rw [← hme] at hsw ⊢;exact hsw)]
    refine qae ?_
    refine qbm ?_
    refine Xar ?_
    refine qbt ?_
    refine q_r (L':=(⟨o26,m⟩:OwL Int).L 3 Jad ++ L) (R':=R) (Jc8 rfl (Jah (show _=Value.slice _ _ _ from rfl)) (Jah (show _=Value.int _ _ from rfl))) ?_
    exact ⟨⟨o26,m⟩,by rw [hrn];simp only [OwL.val,hml,w3],q3,by rw [hrn],rfl,rfl⟩
   have hme:m≠l:=by simpa using hc6
   refine Xa1 ?_
   exact q_k ⟨(n + 1,m),by dsimp only;omega,w2.trans (Joj hsw hme),hml.trans w3,q2.pres,q3⟩
  obtain rfl:n=200:=by omega
  have hrn:Jbj a s A up ps.l=(2,[]):=by rw [hrx,w2];rfl
  refine qbk ?_
  refine Xce ?_
  refine q_r (L':=L) (R':=R) (Jc8 rfl (Jah (show _=Value.slice _ _ _ from rfl)) (Jah (show _=Value.int _ _ from rfl))) ?_
  exact J4h
theorem Jra (a:XAir) (s:XSetting) (ps:Arr Int) (A:List Bool) (L:List Blk) (R:List Sl) (hm:AirR a R) (hs:SetR s R) (hps:InR (isl ps) R) (hA:Ja4 a=0→AiryIs a.mine A):
    Tri Tryz.prog 93 [a.val,s.val,ps.val].toArray L R (fun w L' R'=>∃p:OwL Int,w=.tuple #[p.val,.int .i64 (Jbj a s A true ps.l).1]∧p.ok 1 Jad∧p.l=(Jbj a s A true ps.l).2∧p.L 3 Jad ++ L=L'∧R=R'):=by
  refine Jae 14 Tryz.call93 Tryz.func93 rfl rfl rfl ?_
  refine Xai ?_
  intro b3
  refine qax ?_
  intro b4
  refine qc4 ?_
  refine Xal ?_
  refine Xcl ?_
  refine Jaq rfl (Jjy a s ps true A _ _ hm hs hps hA) rfl ?_
  rintro v L' R' ⟨p,rfl,hpk,hpl,rfl,rfl⟩
  refine Xau ?_
  refine Xce ?_
  refine q_r (L':=p.L 3 Jad ++ L) (R':=R) (Jc8 rfl (Jah (show _=Value.slice _ _ _ from rfl)) (Jah (show _=Value.int _ _ from rfl))) ?_
  exact ⟨p,rfl,hpk,hpl,rfl,rfl⟩
theorem Jr8 (a:XAir) (s:XSetting) (ps:Arr Int) (A:List Bool) (L:List Blk) (R:List Sl) (hm:AirR a R) (hs:SetR s R) (hps:InR (isl ps) R) (hA:Ja4 a=0→AiryIs a.mine A):
    Tri Tryz.prog 92 [a.val,s.val,ps.val].toArray L R (fun w L' R'=>∃p:OwL Int,w=.tuple #[p.val,.int .i64 (Jbj a s A false ps.l).1]∧p.ok 1 Jad∧p.l=(Jbj a s A false ps.l).2∧p.L 3 Jad ++ L=L'∧R=R'):=by
  refine Jae 14 Tryz.call92 Tryz.func92 rfl rfl rfl ?_
  refine Xai ?_
  intro b3
  refine qax ?_
  intro b4
  refine qc4 ?_
  refine Xal ?_
  refine Xcl ?_
  refine Jaq rfl (Jjy a s ps false A _ _ hm hs hps hA) rfl ?_
  rintro v L' R' ⟨p,rfl,hpk,hpl,rfl,rfl⟩
  refine Xau ?_
  refine Xce ?_
  refine q_r (L':=p.L 3 Jad ++ L) (R':=R) (Jc8 rfl (Jah (show _=Value.slice _ _ _ from rfl)) (Jah (show _=Value.int _ _ from rfl))) ?_
  exact ⟨p,rfl,hpk,hpl,rfl,rfl⟩
end Go.Proofs.YtihompplndcdeaaGreat
end
section
/-
  The reference's bounds. By an AI agent; no person has read it.
-/
namespace Go.Proofs.YtihompplndcdeaaGreat
open Go.Aw Go
set_option maxRecDepth 20000
attribute [local irreducible] CJ LJ DJ Tri YV Gives Jd5 Jbd Jbz Jd4 RV Jbf OwL.L
section
variable {A9 B9:Prop}
theorem J3y (h:B9:=by exact ⟨OwL.nil,OwL.nil,by rw [hsv];rfl,OwL.nil_ok,OwL.nil_ok,by rw [hsv],by rw [hsv],by rw [Jcl,List.nil_append,List.nil_append],rfl⟩):B9:=h
end
theorem Jwc {α:Type} {f:α→List Value} {z:List Value} {b n:Nat} {T:TypeId} {x:α} {A:List Blk} (hz:z=f x):InB ((⟨.own b n [],List.replicate n x⟩:OwL α).L T f) (⟨b,Jqf z n,T⟩ :: A):=by
  rw [Jf1 hz A];exact Jaw
theorem J6r {a:XAir} {s:XSetting} {q:OwL Int} {A:List Bool} {L:List Blk} {R:List Sl} {vl:Value} (hvl:vl=q.val) (hm:AirR a R) (hs:SetR s R) (hA:Ja4 a=0→AiryIs a.mine A) (hin:InB (q.L 3 Jad) L) (hok:q.ok 1 Jad):
    Tri Tryz.prog 92 [a.val,s.val,vl].toArray L R (fun w L' R'=>∃p:OwL Int,w=.tuple #[p.val,.int .i64 (Jbj a s A false q.l).1]∧p.ok 1 Jad∧p.l=(Jbj a s A false q.l).2∧p.L 3 Jad ++ L=L'∧R=R'):=by
  subst hvl
  have h2:=Tri.lend (S:=[isl q.arr]) (Post:=fun v L'=>∃p:OwL Int,v=.tuple #[p.val,.int .i64 (Jbj a s A false q.l).1]∧p.ok 1 Jad∧p.l=(Jbj a s A false q.l).2∧p.L 3 Jad ++ []=L') (Spl.rest (L:=L)) (fun w G hh s hs=>by
    rw [List.mem_singleton.1 hs]
    exact Jc3 hh hin hok (fun _=>rfl) (by decide) (fun s hs=>by cases hs)) ((Jr8 a s q.arr A [] _ (Jbm hm fun r h=>Jab (.tail _ h)) (Jbc hs fun r h=>Jab (.tail _ h)) (Jab (.head _)) hA).mono fun v L' R' ⟨p,a1,a2,a3,a4,a5⟩=>⟨⟨p,a1,a2,a3,a4⟩,a5⟩)
  exact Tri.turn h2 fun v L'' R' ⟨L',e,⟨p,a1,a2,a3,a4⟩,a5⟩=>⟨_,R',by rw [← e,← a4,List.append_nil];exact List.perm_append_comm,fun r hr=>Jab hr,p,a1,a2,a3,rfl,a5⟩
theorem Jp2 (a:XAir) (s:XSetting) (A:List Bool) (L:List Blk) (R:List Sl) (hm:AirR a R) (hs:SetR s R) (hA:Ja4 a=0→AiryIs a.mine A) (hnp:a.mine.places.l.length≤64):
    Tri Tryz.prog 61 [a.val,s.val].toArray L R (fun w L' R'=>∃lo hi:OwL Int,w=.tuple #[.agg #[lo.val,hi.val],.int .i64 (Jc1 a s A).1]∧lo.ok 1 Jad∧hi.ok 1 Jad∧lo.l=(Jc1 a s A).2.1∧hi.l=(Jc1 a s A).2.2∧lo.L 3 Jad ++ (hi.L 3 Jad ++ L)=L'∧R=R'):=by
  have hmp:=hm.places
  have hzok:∀b,(⟨.own b a.mine.places.l.length [],List.replicate a.mine.places.l.length 0⟩:OwL Int).ok 1 Jad:=fun b=>Jen (fun _=>rfl) (by simp only [maxLen];omega)
  refine Jae 50 Tryz.call61 Tryz.func61 rfl rfl rfl ?_
  refine Xai ?_
  intro b2
  refine qax ?_
  intro b3
  refine qaq ?_
  intro b4
  refine Xd9 ?_
  refine Jbb tb [0,1,2,3,4,5,6,7,8,9,10,11,12] ([Blk.mk b3 _ _,Blk.mk b2 _ _]) Jbn (by kernel_rfl) (by repeat (first | exact zs0 _ | exact zs1 _ | apply zs2 | apply zs3 | apply zs4 | apply zs5)) ?_
  refine Xb6 ?_
  refine Xd4 ?_
  refine Jbu (Je0 tb rfl rfl rfl) rfl rfl rfl ?_
  refine Jlz (Jgl tb rfl rfl rfl rfl rfl rfl rfl (by omega) (by omega)) rfl rfl rfl ?_
  rintro v L' R' ⟨b17,rfl,rfl,hR17⟩
  replace hR17:=hR17.symm;subst hR17
  refine qa1 ?_
  refine Jcw rfl (J6r (q:=⟨.own b17 a.mine.places.l.length [],List.replicate a.mine.places.l.length 0⟩) (Jvv (α:=Int)).symm hm hs hA (Jwc (f:=Jad) (x:=0) rfl) (hzok b17)) rfl rfl ?_
  rintro v L' R' ⟨p,rfl,hpk,hpl,rfl,rfl⟩
  refine qas ?_
  replace hpl:p.l=(Jbj a s A false (List.replicate a.mine.places.l.length 0)).2:=hpl
  refine Jbu (Jar rfl) rfl rfl rfl ?_
  refine Jbu (Jcy rfl rfl) rfl rfl rfl ?_
  refine Jbu (Jcy rfl rfl) rfl rfl rfl ?_
  refine Jbu (Jcg (show _=Value.slice _ _ _ from rfl)) rfl rfl rfl ?_
  refine qcg ?_
  refine Jbt (Jaa (Jam (Jam ?_)))
  refine Jby (A:=[]) (wd:=1) [] (fun _=>rfl) (by decide) hpk (fun s hs=>by cases hs) ?_
  refine Jg5 (by simp only [List.nil_append];rfl) ?_
  have hm1:AirR a (isl p.arr :: R):=Jbm hm fun r h=>Jab (.tail _ h)
  have hs1:SetR s (isl p.arr :: R):=Jbc hs fun r h=>Jab (.tail _ h)
  obtain ⟨x,hx⟩:∃x,x=Jbj a s A false (List.replicate a.mine.places.l.length 0):=⟨_,rfl⟩
  rw [← hx] at hpl ⊢
  refine Xb7 ?_
  refine Xaw ?_
  refine q_c (fun hc0=>?_) (fun hc0=>?_)
  ·
   refine Xcm ?_
   refine Xc4 ?_
   refine Jbe (L':=L) (R':=R) (Jc8 rfl (Jax (row:=[_,_]) tb rfl rfl rfl (by repeat (first | exact zi0 | apply zi1 | apply zi2)) (by rfl) (by rfl)) (Jah (show _=Value.int _ _ from rfl))) ?hp ?hL ?hR
   case hp=>
    have hsv:Jc1 a s A=(x.1,[],[]):=by rw [Jc1];dsimp only;rw [← hx,if_pos hc0]
    exact J3y
   case hL=>exact (by repeat (first | exact zs0 _ | exact zs1 _ | apply zs2 | apply zs3 | apply zs4 | apply zs5))
   case hR=>exact fun r h=>Jab (by simp [h])
  refine qbv ?_
  refine Xcl ?_
  refine Jaq rfl (Jra a s p.arr A _ _ hm1 hs1 (Jab (.head _)) hA) rfl ?_
  rintro v L' R' ⟨q,rfl,hqk,hql,rfl,rfl⟩
  replace hql:q.l=(Jbj a s A true p.l).2:=hql
  obtain ⟨y,hy⟩:∃y,y=Jbj a s A true p.l:=⟨_,rfl⟩
  rw [← hy] at hql ⊢
  have hxy:y=Jbj a s A true x.2:=by rw [hy,hpl]
  refine Ja2 (Jar rfl) rfl ?_
  refine Xau ?_
  refine Xc2 ?_
  refine qaa ?_
  refine Xaw ?_
  refine q_c (fun hc1=>?_) (fun hc1=>?_)
  ·
   refine Xcm ?_
   refine Xc4 ?_
   refine Jbe (L':=L) (R':=R) (Jc8 rfl (Jax (row:=[_,_]) tb rfl rfl rfl (by repeat (first | exact zi0 | apply zi1 | apply zi2)) (by rfl) (by rfl)) (Jah (show _=Value.int _ _ from rfl))) ?hp ?hL ?hR
   case hp=>
    have hsv:Jc1 a s A=(y.1,[],[]):=by rw [Jc1];dsimp only;rw [← hx,if_neg hc0,← hxy,if_pos hc1]
    exact J3y
   case hL=>exact (by repeat (first | exact zs0 _ | exact zs1 _ | apply zs2 | apply zs3 | apply zs4 | apply zs5))
   case hR=>exact fun r h=>Jab (by simp [h])
  refine qbv ?_
  refine Xcl ?_
  refine Jaq rfl (J6r (q:=q) rfl hm1 hs1 hA (by repeat (first | exact Jaw | apply Jau | apply Jba)) hqk) rfl ?_
  rintro v L' R' ⟨u,rfl,huk,hul,rfl,rfl⟩
  obtain ⟨z,hz⟩:∃z,z=Jbj a s A false q.l:=⟨_,rfl⟩
  rw [← hz] at hul ⊢
  have hyz:z=Jbj a s A false y.2:=by rw [hz,hql]
  refine Ja2 (Jar rfl) rfl ?_
  refine Xau ?_
  refine Xc2 ?_
  refine qaa ?_
  refine Xaw ?_
  refine q_c (fun hc2=>?_) (fun hc2=>?_)
  ·
   refine Xcm ?_
   refine Xc4 ?_
   refine Jbe (L':=L) (R':=R) (Jc8 rfl (Jax (row:=[_,_]) tb rfl rfl rfl (by repeat (first | exact zi0 | apply zi1 | apply zi2)) (by rfl) (by rfl)) (Jah (show _=Value.int _ _ from rfl))) ?hp ?hL ?hR
   case hp=>
    have hsv:Jc1 a s A=(z.1,[],[]):=by rw [Jc1];dsimp only;rw [← hx,if_neg hc0,← hxy,if_neg hc1,← hyz,if_pos hc2]
    exact J3y
   case hL=>exact (by repeat (first | exact zs0 _ | exact zs1 _ | apply zs2 | apply zs3 | apply zs4 | apply zs5))
   case hR=>exact fun r h=>Jab (by simp [h])
  refine Xdc ?_
  refine qbm ?_
  refine Ja2 (Jbx (qs:=[(0,(Value.slice _ _ _).cells.toList),(1,(Value.slice _ _ _).cells.toList)]) (out:=[_,_]) tb rfl rfl rfl rfl) rfl ?_
  refine qak ?_
  refine Xbe ?_
  refine Jbe (L':=u.L 3 Jad ++ (q.L 3 Jad ++ L)) (R':=R) (Jc8 rfl (Jax (row:=[_,_]) tb rfl rfl rfl (by repeat (first | exact zi0 | apply zi1 | apply zi2)) (by rfl) (by rfl)) (Jah (show _=Value.int _ _ from rfl))) ?hp ?hL ?hR
  case hp=>
   have hsv:Jc1 a s A=(0,z.2,y.2):=by rw [Jc1];dsimp only;rw [← hx,if_neg hc0,← hxy,if_neg hc1,← hyz,if_neg hc2]
   exact ⟨u,q,by rw [hsv];rfl,huk,hqk,by rw [hsv];exact hul,by rw [hsv];exact hql,rfl,rfl⟩
  case hL=>exact (by repeat (first | exact zs0 _ | exact zs1 _ | apply zs2 | apply zs3 | apply zs4 | apply zs5))
  case hR=>exact fun r h=>Jab (by simp [h])
end Go.Proofs.YtihompplndcdeaaGreat
end
