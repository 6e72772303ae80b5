/-
  Nets: NetS, NetW, Find, LeastW, RefUp, Bal, NetP, in one text. By an AI agent; no person has read it.
-/
import Derived.Test.YtihompplndcdeaaFits
import Derived.Test.YtihompplndcdeaaDraws
set_option linter.unusedVariables false
set_option linter.unusedSimpArgs false
section
variable {A9 B9:Prop}
theorem Jz6 (a:A9) (h:A9→B9:=by exact Jbx (Jap (show _=Value.slice _ _ _ from rfl)) rfl rfl rfl):B9:=h a
theorem J0u (a:A9) (h:A9→B9:=by exact Jax (by first | exact Jdf rfl rfl | exact Jcx rfl rfl | exact Jg7 rfl) rfl):B9:=h a
theorem J5n (a:A9) (h:A9→B9:=by exact Jax (by first | exact Jaf tb rfl rfl rfl rfl (by first | assumption | exact zr (by simp)) (i:=v.toNat) (by first | rfl | omega | (simp;omega)) (by omega) | exact Jah tb rfl rfl rfl rfl (i:=v.toNat) (by first | rfl | omega | (simp;omega)) (by omega)) rfl):B9:=h a
theorem J6a (a:A9) (h:A9→B9:=by exact Jax (by first | exact Jaf tb rfl rfl rfl rfl (by first | assumption | exact zr (by simp)) (i:=e.toNat) (by first | rfl | omega | (simp;omega)) (by omega) | exact Jah tb rfl rfl rfl rfl (i:=e.toNat) (by first | rfl | omega | (simp;omega)) (by omega)) rfl):B9:=h a
theorem J6i (a:A9) (h:A9→B9:=by exact Jbx (by first | exact Jaf tb rfl rfl rfl rfl (by first | assumption | exact zr (by simp)) (i:=p.road.fr.toNat) (by first | rfl | omega | (simp;omega)) (by omega) | exact Jah tb rfl rfl rfl rfl (i:=p.road.fr.toNat) (by first | rfl | omega | (simp;omega)) (by omega)) rfl rfl rfl):B9:=h a
theorem J5r (a:A9) (h:A9→B9:=by exact Jbx (by first | exact Jaf tb rfl rfl rfl rfl (by first | assumption | exact zr (by simp)) (i:=p.road.to.toNat) (by first | rfl | omega | (simp;omega)) (by omega) | exact Jah tb rfl rfl rfl rfl (i:=p.road.to.toNat) (by first | rfl | omega | (simp;omega)) (by omega)) rfl rfl rfl):B9:=h a
theorem J5y (a:A9) (h:A9→B9:=by exact Jc0 (by first | exact Jqt rfl rfl (by omega) (by omega) | exact Jt8 rfl rfl (by omega) (by omega) | exact Jrv rfl rfl) rfl rfl):B9:=h a
theorem J4v (a:A9) (h:A9→B9:=by exact Jc0 (by first | exact Jkb rfl rfl (by omega) (by omega) | exact Jn7 rfl rfl (by omega) (by omega) | exact Jny rfl rfl) rfl rfl):B9:=h a
theorem J47 (a:A9) (h:A9→B9:=by exact Jax (Jao tb ((⟨o,ps.set u.toNat y⟩:OwL Int)) _ rfl rfl ((show _=Value.slice _ _ _ from rfl).trans J6v) rfl (by assumption) (i:=u.toNat) (by first | rfl | omega | (simp;omega)) (by first | omega | (dsimp only;omega) | (dsimp only;rw [List.length_set];omega) | (dsimp only;simp only [List.length_set];omega))) rfl):B9:=h a
theorem J6e (a:A9) (h:A9→B9:=by exact Jhw (Jav tb ((⟨o,ps.set u.toNat y⟩:OwL Int)) (x) rfl rfl rfl rfl (by repeat (first | apply OSeg.cons | exact OSeg.here | exact OSeg.last | exact OSeg.at (by assumption) | apply OSeg.app)) (by assumption) (fun _=>rfl) (by assumption) (by decide) (by rfl) (by rfl))):B9:=h a
theorem J42 (a:A9) (h:A9→B9:=by exact Jh0 (Jd5 (f:=Jad) (xs:=ps) tb rfl rfl rfl (by decide) rfl rfl (hps) (fun _=>rfl) (by omega)) rfl):B9:=h a
theorem J5s (a:A9) (h:A9→B9:=by exact Jax (by first | exact Jaf tb rfl rfl rfl rfl (by first | assumption | exact zr (by simp)) (i:=u.toNat) (by first | rfl | omega | (simp;omega)) (by omega) | exact Jah tb rfl rfl rfl rfl (i:=u.toNat) (by first | rfl | omega | (simp;omega)) (by omega)) rfl):B9:=h a
end
section
namespace Go.Proofs.Ytihompplndcdeaa
open Go.Aw Go
def Jca (a:XAir) (ps:List Int) (k:Nat):Int:=ps.getD (a.mine.roads.l.getD k default).fr.toNat 0 - ps.getD (a.mine.roads.l.getD k default).to.toNat 0
def Jf2 (F G:(Int→XSpan)→Int→Int) (a:XAir) (s:XSetting) (ps:List Int) (v:Int) (k:Nat):Int:=
  if (a.mine.roads.l.getD k default).closed=true then 0
  else if (a.mine.roads.l.getD k default).fr=v then F (Ja8 a s k) (Jca a ps k)
  else if (a.mine.roads.l.getD k default).to=v then -(G (Ja8 a s k) (Jca a ps k)) else 0
def Joj (F G : (Int → XSpan) → Int → Int) (a : XAir) (s : XSetting) (ps : List Int) (v : Int) : Nat → Int
  | 0=>0
  | k + 1=>Joj F G a s ps v k + Jf2 F G a s ps v k
def Jph (a:XAir) (s:XSetting) (ps:List Int) (v:Int):Int:=Joj Jbp Jbc a s ps v a.mine.roads.l.length
def Jgp (a:XAir) (s:XSetting) (ps:List Int) (v:Int):Int:=Joj Jbc Jbp a s ps v a.mine.roads.l.length
structure Ends (F:(Int→XSpan)→Int→Int) (a:XAir) (s:XSetting):Prop where
  bnd:∀k:Nat,k < a.mine.roads.l.length→∀p,-1048577≤F (Ja8 a s k) p∧F (Ja8 a s k) p≤1048577
theorem Jl9 {a:XAir} {s:XSetting} (ha:AirOk a):Ends Jbp a s:=⟨fun k hk p=>by have:=(Jfs (s:=s) ha (r:=(k:Int)) (by omega) p).bnd;omega⟩
theorem Jkl {a:XAir} {s:XSetting} (ha:AirOk a):Ends Jbc a s:=⟨fun k hk p=>by have:=(Je9 (s:=s) ha (r:=(k:Int)) (by omega) p).bnd;omega⟩
section
variable {F G:(Int→XSpan)→Int→Int} {a:XAir} {s:XSetting} {ps:List Int} {v:Int}
theorem Jlp (hF:Ends F a s) (hG:Ends G a s) {k:Nat} (hk:k < a.mine.roads.l.length):-1048577≤Jf2 F G a s ps v k∧Jf2 F G a s ps v k≤1048577:=by
  have h1:=hF.bnd k hk (Jca a ps k)
  have h2:=hG.bnd k hk (Jca a ps k)
  unfold Jf2
  split
  · omega
  · split
    · exact h1
    · split <;> omega
theorem Jul (hF : Ends F a s) (hG : Ends G a s) : ∀ k : Nat, k ≤ a.mine.roads.l.length → -(1048577 * (k : Int)) ≤ Joj F G a s ps v k ∧ Joj F G a s ps v k ≤ 1048577 * (k : Int)
  | 0,_=>by simp [Joj]
  | k + 1,hk=>by
    have ih:=Jul hF hG k (by omega)
    have h:=Jlp (ps:=ps) (v:=v) hF hG (k:=k) (by omega)
    rw [Joj]
    omega
def Jpp (F G : (Int → XSpan) → Int → Int) (a : XAir) (s : XSetting) (ps : List Int) (v : Int) (n : Nat) : List Int → Int
  | []=>0
  | e :: l=>Jpp F G a s ps v n l + Jf2 F G a s ps v ((Jcf a n).getD e.toNat 0)
theorem Jne (n:Nat) (l m:List Int):Jpp F G a s ps v n (l ++ m)=Jpp F G a s ps v n l + Jpp F G a s ps v n m:=by
  induction l with
  | nil=>simp [Jpp]
  | cons e l ih=>rw [List.cons_append,Jpp,Jpp,ih];omega
theorem Jhj (a : XAir) {k : Nat} : ∀ {n : Nat}, k ≤ n → ∃ m, Jcf a n = Jcf a k ++ m
  | 0,h=>⟨[],by rw [show k=0 by omega];rfl⟩
  | n + 1,h=>by
    rcases Nat.lt_or_ge n k with h' | h'
    · exact ⟨[],by rw [show k=n + 1 by omega];simp⟩
    · obtain ⟨m, hm⟩ := Jhj a (k := k) (n := n) h'
      rw [Jcf]
      split
      · exact ⟨m,hm⟩
      · exact ⟨m ++ [n],by rw [hm,List.append_assoc]⟩
theorem Jrf (a:XAir) {k n:Nat} (hk:k < n) (hc:¬ (a.mine.roads.l.getD k default).closed=true):(Jcf a n).getD (Jcf a k).length 0=k:=by
  obtain ⟨m,hm⟩:=Jhj a (show k + 1≤n from hk)
  rw [hm,Jcf,if_neg hc,List.append_assoc,List.getD_eq_getElem?_getD,List.getElem?_append_right (Nat.le_refl _)]
  simp
theorem Jun (n : Nat) {v : Nat} : ∀ k, k ≤ n → Jpp F G a s ps v n (Jum a v k) = Joj F G a s ps v k
  | 0,_=>rfl
  | k + 1,hk=>by
    have ih:=Jun n (v:=v) k (by omega)
    rw [Jum,Joj]
    split
    · rename_i hc
      rw [ih,Jf2,if_pos hc];omega
    · rename_i hc
      split
      · rename_i hv
        rw [Jne,ih,Jpp,Jpp,Int.toNat_natCast,Jrf a (by omega) hc]
        omega
      · rename_i hv
        rw [ih,Jf2,if_neg hc,if_neg (fun h=>hv (.inl h)),if_neg (fun h=>hv (.inr h))];omega
theorem Jmb (a : XAir) {v : Nat} : ∀ k, ∀ e ∈ Jum a v k, ∃ i : Nat, i < k ∧ e = ((Jcf a i).length : Int) ∧ ¬ (a.mine.roads.l.getD i default).closed = true ∧ ((a.mine.roads.l.getD i default).fr = (v : Int) ∨ (a.mine.roads.l.getD i default).to = (v : Int))
  | 0,e,h=>by cases h
  | k + 1,e,h=>by
    rw [Jum] at h
    split at h
    · obtain ⟨i,h1,h2⟩:=Jmb a k e h;exact ⟨i,by omega,h2⟩
    · rename_i hc
      split at h
      · rename_i hv
        rcases List.mem_append.1 h with h | h
        · obtain ⟨i,h1,h2⟩:=Jmb a k e h;exact ⟨i,by omega,h2⟩
        · rw [List.mem_singleton.1 h];exact ⟨k,by omega,rfl,hc,hv⟩
      · obtain ⟨i,h1,h2⟩:=Jmb a k e h;exact ⟨i,by omega,h2⟩
end
structure MonoE (F:(Int→XSpan)→Int→Int) (a:XAir) (s:XSetting):Prop where
  mono:∀k:Nat,k < a.mine.roads.l.length→∀p q:Int,p≤q→F (Ja8 a s k) p≤F (Ja8 a s k) q
theorem Jv0 {a:XAir} {s:XSetting} (ha:AirOk a):MonoE Jbp a s:=⟨fun k hk p q h=>Jf4 (s:=s) ha (r:=(k:Int)) (by omega) h⟩
theorem Jsh {a:XAir} {s:XSetting} (ha:AirOk a):MonoE Jbc a s:=⟨fun k hk p q h=>Jfn (s:=s) ha (r:=(k:Int)) (by omega) h⟩
structure Above (ps qs:List Int) (v:Int):Prop where
  own:ps.getD v.toNat 0≤qs.getD v.toNat 0
  rest:∀k:Nat,k≠v.toNat→qs.getD k 0≤ps.getD k 0
theorem Jm7 {F G : (Int → XSpan) → Int → Int} {a : XAir} {s : XSetting} {ps qs : List Int} {v : Int} (ha : AirOk a) (hF : MonoE F a s) (hG : MonoE G a s) (h : Above ps qs v) : ∀ k : Nat, k ≤ a.mine.roads.l.length → Joj F G a s ps v k ≤ Joj F G a s qs v k
  | 0,_=>Int.le_refl _
  | k + 1,hk=>by
    have ih:=Jm7 ha hF hG h k (by omega)
    have hro:=ha.mine.road k _ (Jai default (by omega))
    have h1:=hro.fr
    have h2:=hro.to
    have h3:=hro.ne
    have ho:=h.own
    rw [Joj,Joj,Jf2,Jf2]
    split
    · omega
    · split
      · rename_i hf
        have hr:=h.rest (a.mine.roads.l.getD k default).to.toNat (by omega)
        have:=hF.mono k (by omega) (Jca a ps k) (Jca a qs k) (by rw [Jca,Jca,hf];omega)
        omega
      · split
        · rename_i hf ht
          have hr:=h.rest (a.mine.roads.l.getD k default).fr.toNat (by omega)
          have:=hG.mono k (by omega) (Jca a qs k) (Jca a ps k) (by rw [Jca,Jca,ht];omega)
          omega
        · omega
theorem Jx9 {a:XAir} {s:XSetting} {ps qs:List Int} {v:Int} (ha:AirOk a) (h:Above ps qs v):Jph a s ps v≤Jph a s qs v:=Jm7 ha (Jv0 ha) (Jsh ha) h _ (Nat.le_refl _)
theorem Jwb {a:XAir} {s:XSetting} {ps qs:List Int} {v:Int} (ha:AirOk a) (h:Above ps qs v):Jgp a s ps v≤Jgp a s qs v:=Jm7 ha (Jsh ha) (Jv0 ha) h _ (Nat.le_refl _)
theorem Jel {l:List Int} {k i:Nat} {v:Int} (hk:k < l.length):(l.set k v).getD i 0=if i=k then v else l.getD i 0:=by
  rw [List.getD_eq_getElem?_getD,List.getElem?_set,List.getD_eq_getElem?_getD]
  split
  · rename_i h;subst h;simp [hk]
  · rename_i h;rw [if_neg (fun e=>h e.symm)]
theorem Jrn {ps:List Int} {v x y:Int} (hv:v.toNat < ps.length) (h:x≤y):Above (ps.set v.toNat x) (ps.set v.toNat y) v:=
  ⟨by rw [Jel hv,Jel hv,if_pos rfl,if_pos rfl];exact h,fun k hk=>by rw [Jel hv,Jel hv,if_neg hk,if_neg hk];exact Int.le_refl _⟩
theorem Jir {l:List Int} {k:Nat}:l.set k (l.getD k 0)=l:=by
  rcases Nat.lt_or_ge k l.length with h | h
  · have := Jai (l := l) (k := k) 0 h
    obtain ⟨_,h2⟩:=List.getElem?_eq_some_iff.1 this
    rw [← h2,List.set_getElem_self]
  · exact List.set_eq_of_length_le h
def PresOk (ps:List Int):Prop:=∀p∈ps,-70368744177664≤p∧p≤70368744177664
theorem PresOk.get {ps:List Int} (h:PresOk ps) (k:Nat):-70368744177664≤ps.getD k 0∧ps.getD k 0≤70368744177664:=by
  rcases Nat.lt_or_ge k ps.length with h' | h'
  · exact h _ (List.mem_of_getElem? (Jai (l:=ps) 0 h'))
  · rw [List.getD_eq_getElem?_getD,List.getElem?_eq_none h'];decide
theorem PresOk.set {ps:List Int} (h:PresOk ps) (k:Nat) {x:Int} (hx:-70368744177664≤x∧x≤70368744177664):PresOk (ps.set k x):=fun p hp=>by
  rcases List.mem_or_eq_of_mem_set hp with h1 | h1
  · exact h p h1
  · rw [h1];exact hx
end Go.Proofs.Ytihompplndcdeaa
end
section
namespace Go.Proofs.Ytihompplndcdeaa
open Go.Aw Go
set_option maxRecDepth 20000
attribute [local irreducible] CJ LJ DJ Tri YV Gives Jdn Jaw Jbk Jdo RV Jay OwL.L
structure Entry (n:XNet) (a:XAir) (s:XSetting) (v:Int) (e:Int) (i:Nat) (p:XPipe):Prop where
  hi:i < a.mine.roads.l.length
  he:0≤e∧e < n.pipes.l.length
  get:n.pipes.l[e.toNat]?=some p
  num:(Jcf a a.mine.roads.l.length).getD e.toNat 0=i
  is:PipeIs a s i p
  ok:PipeOk p
  drop:Jjn p=Ja8 a s i
  closed:¬ (a.mine.roads.l.getD i default).closed=true
  ends:(a.mine.roads.l.getD i default).fr=v∨(a.mine.roads.l.getD i default).to=v
  fr:p.road.fr=(a.mine.roads.l.getD i default).fr
  to:p.road.to=(a.mine.roads.l.getD i default).to
  road:RoadOk a.mine.places.l.length (a.mine.roads.l.getD i default)
theorem NetIs.entry {n:XNet} {a:XAir} {s:XSetting} (hn:NetIs a s n) (ha:AirOk a) {v:Nat} {e:Int} (he:e∈Jum a v a.mine.roads.l.length):∃(i:Nat) (p:XPipe),Entry n a s v e i p:=by
  obtain ⟨i,hi,rfl,hc,hv⟩:=Jmb a _ e he
  have hget:=Jrf a hi hc
  have hlt:(Jcf a i).length < (Jcf a a.mine.roads.l.length).length:=by
    obtain ⟨m,hm⟩:=Jhj a (show i + 1≤a.mine.roads.l.length from hi)
    rw [hm,Jcf,if_neg hc]
    simp only [List.length_append,List.length_singleton]
    omega
  have hg:(Jcf a a.mine.roads.l.length)[(Jcf a i).length]?=some i:=by rw [Jai 0 hlt,hget]
  have hnum:=congrArg (fun l=>l[(Jcf a i).length]?) hn.nums
  simp only [List.getElem?_map,hg,Option.map_some] at hnum
  obtain ⟨p,hp,hpn⟩:=Option.map_eq_some_iff.1 hnum
  have hpi:=hn.pipe p (List.mem_of_getElem? hp)
  rw [hpn] at hpi
  have hlp:=(List.getElem?_eq_some_iff.1 hp).1
  refine ⟨i,p,hi,by omega,by rw [Int.toNat_natCast];exact hp,by rw [Int.toNat_natCast];exact hget,hpi,Jr2 ha (by omega) hpi,funext fun q=>Ju9 hpi q,hc,hv,?_,?_,ha.mine.road i _ (Jai default hi)⟩
  · rw [hpi.road,Int.toNat_natCast]
  · rw [hpi.road,Int.toNat_natCast]
section
variable {F G:(Int→XSpan)→Int→Int} {a:XAir} {s:XSetting} {ps:List Int} {v:Int}
theorem Jrl {n:Nat} {l:List Int} {k:Nat} {e:Int} (he:l[k]?=some e):Jpp F G a s ps v n (l.take (k + 1))=Jpp F G a s ps v n (l.take k) + Jf2 F G a s ps v ((Jcf a n).getD e.toNat 0):=by
  have:l.take (k + 1)=l.take k ++ [e]:=by rw [List.take_add_one,he];rfl
  rw [this,Jne,Jpp,Jpp];omega
theorem Jze {a:XAir} {n:Nat} (hn:1≤n) (i:Nat):(Jcf a n).getD i 0 < n:=by
  rcases Nat.lt_or_ge i (Jcf a n).length with h | h
  · have := List.mem_of_getElem? (Jai (l := Jcf a n) 0 h)
    exact (Jiz.1 this).1
  · rw [List.getD_eq_getElem?_getD,List.getElem?_eq_none h];exact hn
theorem Jjs (hF : Ends F a s) (hG : Ends G a s) (hn : 1 ≤ a.mine.roads.l.length) : ∀ l : List Int, -(1048577 * (l.length : Int)) ≤ Jpp F G a s ps v a.mine.roads.l.length l ∧ Jpp F G a s ps v a.mine.roads.l.length l ≤ 1048577 * (l.length : Int)
  | []=>by simp [Jpp]
  | e :: l=>by
    have ih:=Jjs hF hG hn l
    have h:=Jlp (ps:=ps) (v:=v) hF hG (k:=(Jcf a a.mine.roads.l.length).getD e.toNat 0) (Jze hn _)
    rw [Jpp,List.length_cons]
    omega
end
theorem InR.arr {x:Arr (Arr Int)} {R:List Sl} (h:InR (Jh1 x) R) {i:Nat} {y:Arr Int} (hi:x.l[i]?=some y):InR (isl y) R:=
  h.sub (.deep (List.mem_map.2 ⟨y,List.mem_of_getElem? hi,rfl⟩) .here)
theorem Jpk (n:XNet) (a:XAir) (s:XSetting) (ps:Arr Int) (v:Int) (L:List Blk) (R:List Sl) (hpp:InR (Jiy n.pipes) R) (haa:InR (Jh1 n.at_) R) (hps:InR (isl ps) R) (hn:NetIs a s n) (ha:AirOk a) (hl:ps.l.length=a.mine.places.l.length) (hb:PresOk ps.l) (hv:0≤v∧v < a.mine.places.l.length):
    Tri Try.prog 80 [n.val,ps.val,.int .i64 v].toArray L R (fun w L' R'=>w=.int .i64 (Jph a s ps.l v)∧L=L'∧R=R'):=by
  obtain ⟨x,hx⟩:=Jar (l:=n.at_.l) (k:=v.toNat) (by rw [hn.atl];omega)
  have hxl:=hn.at_ _ _ hx
  have hxI:=InR.arr haa hx
  have hnr:=ha.mine.roads
  have hatl:=hn.atl
  have hxn:x.l.length≤a.mine.roads.l.length:=by rw [hxl];exact Jf1 a _ _
  refine Jae 57 Try.call80 Try.func80 rfl rfl rfl ?_
  refine Xaj ?_
  intro b3
  refine Xai ?_
  refine Xaw ?_
  refine Xah ?_
  refine J5n ?_
  refine qa7 ?_
  refine qag ?_
  refine Xas ?_
  refine Jag [(1,Value.slice _ _ _),(2,Value.int _ _),(3,Value.pointer _),(7,Value.int _ _),(16,Value.slice _ _ _),(17,Value.int _ _),(18,Value.int _ _)] (by repeat' (first | exact trivial | refine And.intro rfl ?_)) fun tq0=>?_
  refine q_s [7,9,10,11,18,19,20,21,22,23,24,25,26,27,28,29,30,31,32,33,34,35,36,37,38,39,40,41,42,43,44,45,46,47,48,49,50,51,52,53,54,55] (fun g:{k:Nat // k≤x.l.length}=>[(7,.int .i64 (Jpp Jbp Jbc a s ps.l v a.mine.roads.l.length (x.l.take g.1))),(18,.int .i64 ((g.1:Nat):Int))]) (fun g=>x.l.length - g.1) (⟨0,by omega⟩) ?_
  rintro ⟨k,hk⟩ junk
  try dsimp only
  refine Xar ?_
  refine q_c (fun hc0=>?_) (fun hc0=>?_)
  ·
   obtain ⟨e,he⟩:=Jar (l:=x.l) (k:=k) (by omega)
   obtain ⟨i,p,hE⟩:=hn.entry ha (v:=v.toNat) (e:=e) (by rw [← hxl];exact List.mem_of_getElem? he)
   have hek:=hE.he
   have hpg:=hE.get
   have hpI:=InR.pipe hpp hpg
   have hro:=hE.road
   have hr1:=hro.fr
   have hr2:=hro.to
   have hef:=hE.fr
   have het:=hE.to
   have hi:=hE.hi
   have hsb:=Jjs (ps:=ps.l) (v:=v) (Jl9 (s:=s) ha) (Jkl (s:=s) ha) (by omega) (x.l.take k)
   have htl:(x.l.take k).length≤k:=List.length_take_le _ _
   have hst:=Jrl (F:=Jbp) (G:=Jbc) (a:=a) (s:=s) (ps:=ps.l) (v:=v) (n:=a.mine.roads.l.length) he
   rw [hE.num] at hst
   have hpf:=Jai (l:=ps.l) (k:=p.road.fr.toNat) 0 (by omega)
   have hpt:=Jai (l:=ps.l) (k:=p.road.to.toNat) 0 (by omega)
   have hbf:=hb.get p.road.fr.toNat
   have hbt:=hb.get p.road.to.toNat
   have hdf:Jca a ps.l i=ps.l.getD p.road.fr.toNat 0 - ps.l.getD p.road.to.toNat 0:=by rw [Jca,hef,het]
   have hfl:=(Jl9 (s:=s) ha).bnd i hi (Jca a ps.l i)
   have hfh:=(Jkl (s:=s) ha).bnd i hi (Jca a ps.l i)
   rw [← hE.drop,hdf] at hfl hfh
   rw [Jf2,if_neg hE.closed,hdf,← hE.drop,← hef] at hst
   have hends:=hE.ends
   rw [← hef,← het] at hends
   refine qbb ?_
   refine Xc1 ?_
   refine Xai ?_
   refine Xah ?_
   refine J6a ?_
   refine qdx ?_
   refine qaq ?_
   intro b10
   refine qak ?_
   refine qa4 ?_
   refine Ja5 tb [0,1,2,3,4,5,6,7,8,9,10,11,12,13] _ Jbh (by kernel_rfl) (List.Sublist.refl _) ?_
   refine Jz6 ?_
   refine qal ?_
   refine Xad ?_
   refine J6i ?_
   refine qbl ?_
   refine Jz6 ?_
   refine qal ?_
   refine Xad ?_
   refine J5r ?_
   refine qbl ?_
   refine qb7 ?_
   refine qcg ?_
   refine Jb8 (Jaa (Jan (Jaj ?_)))
   refine Xc2 ?_
   refine Xb2 ?_
   refine q_c (fun hc1=>?_) (fun hc1=>?_)
   ·
    rw [if_pos hc1] at hst
    refine Xbs ?_
    refine qdi ?_
    refine qaa ?_
    refine q_l rfl (Jjk p (ps.l.getD p.road.fr.toNat 0 - ps.l.getD p.road.to.toNat 0) _ _ hpI hE.ok) ?_
    refine qar ?_
    refine qad ?_
    refine Xa5 ?_
    exact Jau ⟨k + 1,by omega⟩ (by repeat (first | exact Off.refl | apply Off.upd rfl | apply Off.havoc rfl | apply Off.updL rfl | apply Off.left rfl)) (by dsimp only;rw [hst];first | exact (by repeat' (first | exact trivial | refine And.intro rfl ?_)) | (rw [← Int.sub_eq_add_neg];exact (by repeat' (first | exact trivial | refine And.intro rfl ?_)))) (by repeat (first | exact zs0 _ | exact zs1 _ | apply zs2 | apply zs3 | apply zs4 | apply zs5)) (Jac _) (by dsimp only;omega)
   rw [if_neg hc1,if_pos (by omega)] at hst
   refine Xbs ?_
   refine qdi ?_
   refine qaa ?_
   refine q_l rfl (Jh9 p (ps.l.getD p.road.fr.toNat 0 - ps.l.getD p.road.to.toNat 0) _ _ hpI hE.ok) ?_
   refine qa9 ?_
   refine qad ?_
   refine Xa5 ?_
   exact Jau ⟨k + 1,by omega⟩ (by repeat (first | exact Off.refl | apply Off.upd rfl | apply Off.havoc rfl | apply Off.updL rfl | apply Off.left rfl)) (by dsimp only;rw [hst];first | exact (by repeat' (first | exact trivial | refine And.intro rfl ?_)) | (rw [← Int.sub_eq_add_neg];exact (by repeat' (first | exact trivial | refine And.intro rfl ?_)))) (by repeat (first | exact zs0 _ | exact zs1 _ | apply zs2 | apply zs3 | apply zs4 | apply zs5)) (Jac _) (by dsimp only;omega)
  obtain rfl:k=x.l.length:=by omega
  refine qbk ?_
  refine qaa ?_
  refine Xau ?_
  refine q_i (L':=L) (R':=R) ?_
  have e:=Jun (F:=Jbp) (G:=Jbc) (a:=a) (s:=s) (ps:=ps.l) (v:=v.toNat) a.mine.roads.l.length a.mine.roads.l.length (Nat.le_refl _)
  rw [Int.toNat_of_nonneg hv.1] at e
  exact ⟨by rw [Jph,List.take_length,hxl,e],rfl,rfl⟩
theorem Jn6 (n:XNet) (a:XAir) (s:XSetting) (ps:Arr Int) (v:Int) (L:List Blk) (R:List Sl) (hpp:InR (Jiy n.pipes) R) (haa:InR (Jh1 n.at_) R) (hps:InR (isl ps) R) (hn:NetIs a s n) (ha:AirOk a) (hl:ps.l.length=a.mine.places.l.length) (hb:PresOk ps.l) (hv:0≤v∧v < a.mine.places.l.length):
    Tri Try.prog 81 [n.val,ps.val,.int .i64 v].toArray L R (fun w L' R'=>w=.int .i64 (Jgp a s ps.l v)∧L=L'∧R=R'):=by
  obtain ⟨x,hx⟩:=Jar (l:=n.at_.l) (k:=v.toNat) (by rw [hn.atl];omega)
  have hxl:=hn.at_ _ _ hx
  have hxI:=InR.arr haa hx
  have hnr:=ha.mine.roads
  have hatl:=hn.atl
  have hxn:x.l.length≤a.mine.roads.l.length:=by rw [hxl];exact Jf1 a _ _
  refine Jae 57 Try.call81 Try.func81 rfl rfl rfl ?_
  refine Xaj ?_
  intro b3
  refine Xai ?_
  refine Xaw ?_
  refine Xah ?_
  refine J5n ?_
  refine qa7 ?_
  refine qag ?_
  refine Xas ?_
  refine Jag [(1,Value.slice _ _ _),(2,Value.int _ _),(3,Value.pointer _),(7,Value.int _ _),(16,Value.slice _ _ _),(17,Value.int _ _),(18,Value.int _ _)] (by repeat' (first | exact trivial | refine And.intro rfl ?_)) fun tq0=>?_
  refine q_s [7,9,10,11,18,19,20,21,22,23,24,25,26,27,28,29,30,31,32,33,34,35,36,37,38,39,40,41,42,43,44,45,46,47,48,49,50,51,52,53,54,55] (fun g:{k:Nat // k≤x.l.length}=>[(7,.int .i64 (Jpp Jbc Jbp a s ps.l v a.mine.roads.l.length (x.l.take g.1))),(18,.int .i64 ((g.1:Nat):Int))]) (fun g=>x.l.length - g.1) (⟨0,by omega⟩) ?_
  rintro ⟨k,hk⟩ junk
  try dsimp only
  refine Xar ?_
  refine q_c (fun hc0=>?_) (fun hc0=>?_)
  ·
   obtain ⟨e,he⟩:=Jar (l:=x.l) (k:=k) (by omega)
   obtain ⟨i,p,hE⟩:=hn.entry ha (v:=v.toNat) (e:=e) (by rw [← hxl];exact List.mem_of_getElem? he)
   have hek:=hE.he
   have hpg:=hE.get
   have hpI:=InR.pipe hpp hpg
   have hro:=hE.road
   have hr1:=hro.fr
   have hr2:=hro.to
   have hef:=hE.fr
   have het:=hE.to
   have hi:=hE.hi
   have hsb:=Jjs (ps:=ps.l) (v:=v) (Jkl (s:=s) ha) (Jl9 (s:=s) ha) (by omega) (x.l.take k)
   have htl:(x.l.take k).length≤k:=List.length_take_le _ _
   have hst:=Jrl (F:=Jbc) (G:=Jbp) (a:=a) (s:=s) (ps:=ps.l) (v:=v) (n:=a.mine.roads.l.length) he
   rw [hE.num] at hst
   have hpf:=Jai (l:=ps.l) (k:=p.road.fr.toNat) 0 (by omega)
   have hpt:=Jai (l:=ps.l) (k:=p.road.to.toNat) 0 (by omega)
   have hbf:=hb.get p.road.fr.toNat
   have hbt:=hb.get p.road.to.toNat
   have hdf:Jca a ps.l i=ps.l.getD p.road.fr.toNat 0 - ps.l.getD p.road.to.toNat 0:=by rw [Jca,hef,het]
   have hfl:=(Jkl (s:=s) ha).bnd i hi (Jca a ps.l i)
   have hfh:=(Jl9 (s:=s) ha).bnd i hi (Jca a ps.l i)
   rw [← hE.drop,hdf] at hfl hfh
   rw [Jf2,if_neg hE.closed,hdf,← hE.drop,← hef] at hst
   have hends:=hE.ends
   rw [← hef,← het] at hends
   refine qbb ?_
   refine Xc1 ?_
   refine Xai ?_
   refine Xah ?_
   refine J6a ?_
   refine qdx ?_
   refine qaq ?_
   intro b10
   refine qak ?_
   refine qa4 ?_
   refine Ja5 tb [0,1,2,3,4,5,6,7,8,9,10,11,12,13] _ Jbh (by kernel_rfl) (List.Sublist.refl _) ?_
   refine Jz6 ?_
   refine qal ?_
   refine Xad ?_
   refine J6i ?_
   refine qbl ?_
   refine Jz6 ?_
   refine qal ?_
   refine Xad ?_
   refine J5r ?_
   refine qbl ?_
   refine qb7 ?_
   refine qcg ?_
   refine Jb8 (Jaa (Jan (Jaj ?_)))
   refine Xc2 ?_
   refine Xb2 ?_
   refine q_c (fun hc1=>?_) (fun hc1=>?_)
   ·
    rw [if_pos hc1] at hst
    refine Xbs ?_
    refine qdi ?_
    refine qaa ?_
    refine q_l rfl (Jh9 p (ps.l.getD p.road.fr.toNat 0 - ps.l.getD p.road.to.toNat 0) _ _ hpI hE.ok) ?_
    refine qar ?_
    refine qad ?_
    refine Xa5 ?_
    exact Jau ⟨k + 1,by omega⟩ (by repeat (first | exact Off.refl | apply Off.upd rfl | apply Off.havoc rfl | apply Off.updL rfl | apply Off.left rfl)) (by dsimp only;rw [hst];first | exact (by repeat' (first | exact trivial | refine And.intro rfl ?_)) | (rw [← Int.sub_eq_add_neg];exact (by repeat' (first | exact trivial | refine And.intro rfl ?_)))) (by repeat (first | exact zs0 _ | exact zs1 _ | apply zs2 | apply zs3 | apply zs4 | apply zs5)) (Jac _) (by dsimp only;omega)
   rw [if_neg hc1,if_pos (by omega)] at hst
   refine Xbs ?_
   refine qdi ?_
   refine qaa ?_
   refine q_l rfl (Jjk p (ps.l.getD p.road.fr.toNat 0 - ps.l.getD p.road.to.toNat 0) _ _ hpI hE.ok) ?_
   refine qa9 ?_
   refine qad ?_
   refine Xa5 ?_
   exact Jau ⟨k + 1,by omega⟩ (by repeat (first | exact Off.refl | apply Off.upd rfl | apply Off.havoc rfl | apply Off.updL rfl | apply Off.left rfl)) (by dsimp only;rw [hst];first | exact (by repeat' (first | exact trivial | refine And.intro rfl ?_)) | (rw [← Int.sub_eq_add_neg];exact (by repeat' (first | exact trivial | refine And.intro rfl ?_)))) (by repeat (first | exact zs0 _ | exact zs1 _ | apply zs2 | apply zs3 | apply zs4 | apply zs5)) (Jac _) (by dsimp only;omega)
  obtain rfl:k=x.l.length:=by omega
  refine qbk ?_
  refine qaa ?_
  refine Xau ?_
  refine q_i (L':=L) (R':=R) ?_
  have e:=Jun (F:=Jbc) (G:=Jbp) (a:=a) (s:=s) (ps:=ps.l) (v:=v.toNat) a.mine.roads.l.length a.mine.roads.l.length (Nat.le_refl _)
  rw [Int.toNat_of_nonneg hv.1] at e
  exact ⟨by rw [Jgp,List.take_length,hxl,e],rfl,rfl⟩
end Go.Proofs.Ytihompplndcdeaa
end
section
namespace Go.Proofs.Ytihompplndcdeaa
open Go.Aw Go
set_option maxRecDepth 20000
attribute [local irreducible] CJ LJ DJ Tri YV Gives Jdn Jaw Jbk Jdo RV Jay OwL.L
abbrev sgn (up:Bool):Int:=if up then 1 else -1
abbrev Jkh (up:Bool) (start:Int):Int:=if up then 70368744177664 - start else start + 70368744177664
structure First (g:Int→Bool) (start:Int) (up:Bool) (v:Int) (ok:Bool):Prop where
  yes:ok=true→∃m,0≤m∧m≤Jkh up start∧v=start + sgn up * m∧g v=true∧∀j,0≤j→j < m→g (start + sgn up * j)=false
  no:ok=false→v=0∧∀j,0≤j→j≤Jkh up start→g (start + sgn up * j)=false
def Stays (g:Int→Bool) (start:Int) (up:Bool):Prop:=∀i j,0≤i→i≤j→j≤Jkh up start→g (start + sgn up * i)=true→g (start + sgn up * j)=true
theorem Stays.no {g:Int→Bool} {start:Int} {up:Bool} (h:Stays g start up) {i j:Int} (h0:0≤i) (hij:i≤j) (hj:j≤Jkh up start) (hg:g (start + sgn up * j)=false):g (start + sgn up * i)=false:=by
  cases e:g (start + sgn up * i) with
  | false=>rfl
  | true=>rw [h i j h0 hij hj e] at hg;cases hg
theorem Jq8 {up:Bool} {z:Int} (h:0≤z∧z≤281474976710656):-281474976710656≤sgn up * z∧sgn up * z≤281474976710656:=by
  cases up <;> simp only [sgn] <;> simp <;> omega
theorem Jvb {up:Bool} {start z:Int} (hs:-70368744177664≤start∧start≤70368744177664) (h:0≤z∧z≤Jkh up start):-70368744177664≤start + sgn up * z∧start + sgn up * z≤70368744177664:=by
  cases up <;> simp only [sgn,Jkh] at h ⊢ <;> simp at h ⊢ <;> omega
theorem Jnz {up:Bool} {start:Int} (hs:-70368744177664≤start∧start≤70368744177664):0≤Jkh up start∧Jkh up start≤140737488355328:=by
  cases up <;> simp [Jkh] <;> omega
theorem Jpc (f : FuncId) (cap : Array Value) (LL : Int → List Blk) (g : Int → Bool) (start : Int) (up : Bool) (y : Int) (R : List Sl) (hs : -70368744177664 ≤ start ∧ start ≤ 70368744177664) (hm : Stays g start up)
    (hc:∀x y,-70368744177664≤x∧x≤70368744177664→Tri Try.prog f (.int .i64 x :: cap.toList).toArray (LL y) R (fun v L' R'=>v=.bool (g x)∧LL x=L'∧R=R')):
    Tri Try.prog 89 [.int .i64 start,.bool up,.func (.func f) #[] cap].toArray (LL y) R (fun v L' R'=>∃(z:Int) (ok:Bool) (y':Int),v=.tuple #[.int .i64 z,.bool ok]∧First g start up z ok∧LL y'=L'∧R=R'):=by
  have hro:=Jnz (up:=up) hs
  have h00:start + sgn up * 0=start:=by simp
  refine Jae 80 Try.call89 Try.func89 rfl rfl rfl ?_
  refine Xaf ?_
  refine Xc3 ?_
  refine Jax (Jap rfl) rfl ?_
  refine qaa ?_
  refine Jwj (Jfw rfl rfl (hc start y hs)) rfl rfl ?_
  rintro v L' R' ⟨rfl,rfl,rfl⟩
  refine qaf ?_
  refine q_c (fun hc0=>?_) (fun hc0=>?_)
  ·
   refine Xbb ?_
   refine qad ?_
   refine qaz ?_
   refine qbh ?_
   refine q_r (L':=LL start) (R':=R) (Jfb rfl (Jal (show _=Value.int _ _ from rfl)) (Jal (show _=Value.bool _ from rfl))) ?_
   exact ⟨start,true,start,rfl,⟨fun _=>⟨0,by omega,by omega,h00.symm,hc0,fun j h1 h2=>by omega⟩,fun h=>by cases h⟩,rfl,rfl⟩
  refine qbv ?_
  refine Xcb ?_
  refine qad ?_
  refine Xaw ?_
  refine qah ?_
  refine Xbu ?_
  refine Jfq [8,9,21,22] ((⟨fun _=>[(8,.int .i64 (sgn up)),(9,.int .i64 (Jkh up start))],fun _=>LL start,fun _=>R,fun _=>0⟩:Head Unit)) ?_ ?_
  ·
   skip
   refine q_c (fun hc1=>?_) (fun hc1=>?_)
   ·
    refine qay ?_
    refine Xam ?_
    refine qad ?_
    refine Xak ?_
    subst hc1;exact q_j ()
   refine Ja4 ?_
   subst hc1;exact q_j ()
  rintro u junk
  try dsimp only
  refine Xaf ?_
  refine Xb3 ?_
  refine Jfq [10,11,23,24,25,26,27,28,29,30,31,32,33,34,35,36,37,38] ((⟨fun g=>[(10,.int .i64 g.1.1),(11,.int .i64 g.1.2.1)],fun g=>LL g.1.2.2,fun _=>R,fun _=>0⟩:Head {q:Int×Int×Int // (0≤q.1∧q.1 < q.2.1∧q.2.1≤281474976710656)∧g (start + sgn up * q.1)=false∧(q.1=0∨q.1 < Jkh up start)∧(q.2.1 < Jkh up start→g (start + sgn up * q.2.1)=true)})) ?_ ?_
  ·
   refine Ja9 ?_
   refine Jcv [10,11,23,24,25,26,27,28,29,30,31,32,33,34,35,36,37,38] (by repeat (first | apply Off.upd rfl | apply Off.havoc rfl | refine Off.updL (t':=havoc _ _ _) rfl ?_ | exact Off.refl)) [(10,Value.int _ _),(11,Value.int _ _)] (by repeat' (first | exact trivial | refine And.intro rfl ?_)) fun tq0=>?_
   refine q_p [10,11,23,24,25,26,27,28,29,30,31,32,33,34,35,36,37,38] ((⟨fun g=>[(10,.int .i64 g.1.1),(11,.int .i64 g.1.2.1)],fun g=>LL g.1.2.2,fun _=>R,fun g=>(Jkh up start + 1 - g.1.1).toNat⟩:Head {q:Int×Int×Int // ((q.1=0∧q.2.1=1)∨(1≤q.1∧q.2.1=q.1 * 2))∧g (start + sgn up * q.1)=false∧(q.1=0∨q.1 < Jkh up start)})) (⟨(0,1,start),.inl ⟨rfl,rfl⟩,by rw [h00];exact hc0,.inl rfl⟩) ?_
   rintro ⟨⟨bad,good,y2⟩,hbg,hbf,hbr⟩ junk
   try dsimp only
   dsimp only at hbg hbf hbr
   have hgm:=Jq8 (up:=up) (z:=good) (by omega)
   refine Xap ?_
   refine qaa ?_
   refine Xa2 ?_
   refine Jej (k:=26) (show _=Value.bool _ from rfl) (fun hg4=>?_) (fun hg4=>?_)
   ·
    replace hg4:=qb hg4
    refine Jc0 (Jap rfl) rfl rfl ?_
    iterate 3 refine Jc0 (Jap (show _=Value.int _ _ from rfl)) rfl rfl ?_
    refine J5y ?_
    refine J4v ?_
    refine Jwj (Jfw rfl rfl (hc (start + sgn up * good) y2 (Jvb hs (by omega)))) rfl rfl ?_
    rintro v L' R' ⟨rfl,rfl,rfl⟩
    refine Jc0 (Jpy rfl) rfl rfl ?_
    refine J0u ?_
    refine qaf ?_
    refine q_c (fun hc2=>?_) (fun hc2=>?_)
    ·
     refine Ja4 (Jaa (Jan (Ja9 (Jaj ?_))))
     refine qaa ?_
     refine qad ?_
     refine qcs ?_
     refine Xcc ?_
     refine Xak ?_
     exact q_k ⟨(good,good * 2,start + sgn up * good),by dsimp only;omega,by simpa using hc2,by dsimp only;omega⟩
    refine Jcs (Jbv (Jcp (Jbf ?_)))
    exact Jiu ⟨(bad,good,_),by dsimp only;omega,hbf,hbr,fun h=>by first | (exfalso;have h':good < Jkh up start:=h;omega) | simpa using hc2⟩ (by repeat (first | exact Off.refl | apply Off.upd rfl | apply Off.havoc rfl | apply Off.updL rfl | apply Off.left rfl | apply Off.leftu rfl)) (by repeat' (first | exact trivial | refine And.intro rfl ?_)) (by repeat (first | exact zs0 _ | exact zs1 _ | apply zs2 | apply zs3 | apply zs4 | apply zs5)) (Jac _)
   replace hg4:=qb hg4
   iterate 8 refine Jga rfl rfl ?_
   refine J0u ?_
   refine qaf ?_
   refine Jb0 rfl ?_
   refine Jcs (Jbv (Jcp (Jbf ?_)))
   exact Jiu ⟨(bad,good,_),by dsimp only;omega,hbf,hbr,fun h=>by first | (exfalso;have h':good < Jkh up start:=h;omega) | simpa using hc2⟩ (by repeat (first | exact Off.refl | apply Off.upd rfl | apply Off.havoc rfl | apply Off.updL rfl | apply Off.left rfl | apply Off.leftu rfl)) (by repeat' (first | exact trivial | refine And.intro rfl ?_)) (by repeat (first | exact zs0 _ | exact zs1 _ | apply zs2 | apply zs3 | apply zs4 | apply zs5)) (Jac _)
  rintro ⟨⟨bad,good,y2⟩,hbg,hbf,hbr,hgt⟩ junk
  try dsimp only
  dsimp only at hbg hbf hbr hgt
  refine Xap ?_
  refine qaa ?_
  refine qbz ?_
  refine qaf ?_
  refine Jfq [6,7,11,42,43,44,45,46,47,48,49,50,51,52,53,54,55] ((⟨fun q=>[(11,.int .i64 q.1.1)],fun q=>LL q.1.2,fun _=>R,fun _=>0⟩:Head {q:Int×Int // bad < q.1∧q.1≤Jkh up start∧g (start + sgn up * q.1)=true})) ?_ ?_
  ·
   skip
   refine q_c (fun hc3=>?_) (fun hc3=>?_)
   ·
    refine Xbb ?_
    refine Xb3 ?_
    have hgm:=Jq8 (up:=up) (z:=Jkh up start) (by omega)
    refine Xbs ?_
    refine qaa ?_
    refine qbx ?_
    refine qah ?_
    refine Jej (k:=46) (show _=Value.bool _ from rfl) (fun hg4=>?_) (fun hg4=>?_)
    ·
     replace hg4:=qb hg4
     iterate 8 refine Jga rfl rfl ?_
     refine J0u ?_
     refine qaf ?_
     refine Jco rfl ?_
     refine Xaf ?_
     refine qaz ?_
     refine Jbr (Jaa (Jee (Jr9 ?_)))
     refine q_r (L':=LL _) (R':=R) (Jfb rfl (Jal (show _=Value.int _ _ from rfl)) (Jal (show _=Value.bool _ from rfl))) ?_
     refine ⟨0,false,_,rfl,⟨(fun h=>by cases h),fun _=>⟨rfl,fun j h1 h2=>?_⟩⟩,rfl,rfl⟩
     by_cases hj:j=0
     · rw [hj,h00];exact hc0
     · first
         | (exfalso;omega)
         | exact hm.no h1 h2 (Int.le_refl _) (by simpa using hc4)
    replace hg4:=qb hg4
    refine Jc0 (Jap rfl) rfl rfl ?_
    iterate 3 refine Jc0 (Jap (show _=Value.int _ _ from rfl)) rfl rfl ?_
    refine J5y ?_
    refine J4v ?_
    refine Jwj (Jfw rfl rfl (hc (start + sgn up * Jkh up start) y2 (Jvb hs (by omega)))) rfl rfl ?_
    rintro v L' R' ⟨rfl,rfl,rfl⟩
    refine Jc0 (Jpy rfl) rfl rfl ?_
    refine J0u ?_
    refine qaf ?_
    refine q_c (fun hc4=>?_) (fun hc4=>?_)
    ·
     refine Xaf ?_
     refine qaz ?_
     refine Jbr (Jaa (Jee (Jr9 ?_)))
     refine q_r (L':=LL _) (R':=R) (Jfb rfl (Jal (show _=Value.int _ _ from rfl)) (Jal (show _=Value.bool _ from rfl))) ?_
     refine ⟨0,false,_,rfl,⟨(fun h=>by cases h),fun _=>⟨rfl,fun j h1 h2=>?_⟩⟩,rfl,rfl⟩
     by_cases hj:j=0
     · rw [hj,h00];exact hc0
     · first
         | (exfalso;omega)
         | exact hm.no h1 h2 (Int.le_refl _) (by simpa using hc4)
    refine Ja4 ?_
    exact q_j ⟨(Jkh up start,start + sgn up * Jkh up start),by dsimp only;omega,by dsimp only;omega,by simpa using hc4⟩
   refine Ja4 ?_
   exact q_j ⟨(good,y2),by dsimp only;omega,by dsimp only;omega,hgt (by omega)⟩
  rintro ⟨⟨good2,y3⟩,h31,h32,h33⟩ junk
  try dsimp only
  dsimp only at h31 h32 h33
  refine Jan (Ja9 ?_)
  refine Jag [(0,Value.int _ _),(2,_),(8,Value.int _ _),(10,Value.int _ _),(11,Value.int _ _)] (by repeat' (first | exact trivial | refine And.intro rfl ?_)) fun tq1=>?_
  refine q_p [10,11,12,56,57,58,59,60,61,62,63,64,65,66,67,68,69,70,71,72,73,74] ((⟨fun q=>[(10,.int .i64 q.1.1),(11,.int .i64 q.1.2.1)],fun q=>LL q.1.2.2,fun _=>R,fun q=>(q.1.2.1 - q.1.1).toNat⟩:Head {q:Int×Int×Int // (0≤q.1∧q.1 < q.2.1∧q.2.1≤Jkh up start)∧g (start + sgn up * q.1)=false∧g (start + sgn up * q.2.1)=true})) (⟨(bad,good2,y3),by dsimp only;omega,hbf,h33⟩) ?_
  rintro ⟨⟨lo,hi,y4⟩,q1,q2,q3⟩ junk
  try dsimp only
  dsimp only at q1 q2 q3
  refine Xap ?_
  refine Xae ?_
  refine Xan ?_
  refine q_c (fun hc5=>?_) (fun hc5=>?_)
  ·
   obtain ⟨mid,hmid⟩:∃mid,mid=lo + (hi - lo).tdiv 2:=⟨_,rfl⟩
   have hmb:lo < mid∧mid < hi:=by rw [Int.tdiv_eq_ediv_of_nonneg (by omega)] at hmid;omega
   have hdv:0≤(hi - lo).tdiv 2∧(hi - lo).tdiv 2≤hi - lo:=by rw [Int.tdiv_eq_ediv_of_nonneg (by omega)];omega
   refine Ja4 (Jaa (Ja9 (Jan (Jaj ?_))))
   iterate 3 refine qaa ?_
   refine qa9 ?_
   refine qdd ?_
   refine qar ?_
   refine Xb3 ?_
   rw [← hmid]
   have hgm:=Jq8 (up:=up) (z:=mid) (by omega)
   refine qay ?_
   refine Jax (Jap rfl) rfl ?_
   iterate 3 refine qaa ?_
   refine qcm ?_
   refine qar ?_
   refine Jwj (Jfw rfl rfl (hc (start + sgn up * mid) y4 (Jvb hs (by omega)))) rfl rfl ?_
   rintro v L' R' ⟨rfl,rfl,rfl⟩
   refine qaf ?_
   refine q_c (fun hc6=>?_) (fun hc6=>?_)
   ·
    refine Xbs ?_
    refine qad ?_
    refine Jbr (Ja7 ?_)
    exact q_k ⟨(lo,mid,start + sgn up * mid),by dsimp only;omega,q2,hc6⟩
   refine Xbs ?_
   refine qad ?_
   refine Jbr (Ja7 ?_)
   exact q_k ⟨(mid,hi,start + sgn up * mid),by dsimp only;omega,hc6,q3⟩
  refine qc3 ?_
  have hgm:=Jq8 (up:=up) (z:=hi) (by omega)
  refine qay ?_
  iterate 3 refine qaa ?_
  refine qcm ?_
  refine qar ?_
  refine qad ?_
  refine Xa9 ?_
  refine q_r (L':=LL y4) (R':=R) (Jfb rfl (Jal (show _=Value.int _ _ from rfl)) (Jal (show _=Value.bool _ from rfl))) ?_
  exact ⟨start + sgn up * hi,true,y4,rfl,⟨fun _=>⟨hi,by omega,by omega,rfl,q3,fun j h1 h2=>hm.no h1 (show j≤lo by omega) (by omega) q2⟩,fun h=>by cases h⟩,rfl,rfl⟩
end Go.Proofs.Ytihompplndcdeaa
end
section
namespace Go.Proofs.Ytihompplndcdeaa
open Go.Aw Go
set_option maxRecDepth 20000
attribute [local irreducible] CJ LJ DJ Tri YV Gives Jdn Jaw Jbk Jdo RV Jay OwL.L
theorem Tri.lend1 {P : Program} {f : FuncId} {args : Array Value} {A : List Blk} {R : List Sl} {p : OwL Int} {T : TypeId} {u : Value} (hin : InB (p.L T Jad) A) (hok : p.ok 1 Jad)
    (h:Tri P f args [] (isl p.arr :: R) (fun v L' R'=>v=u∧[]=L'∧isl p.arr :: R=R')):Tri P f args A R (fun v L' R'=>v=u∧A=L'∧R=R'):=by
  have h2:=Tri.lend (S:=[isl p.arr]) (Post:=fun v L'=>v=u∧[]=L') (Spl.rest (L:=A)) (fun w G hh s hs=>by
    rw [List.mem_singleton.1 hs]
    exact Jdr hh hin hok (fun _=>rfl) (by decide) (fun s hs=>by cases hs)) (h.mono fun v L' R' ⟨a1,a2,a3⟩=>⟨⟨a1,a2⟩,a3⟩)
  exact h2.mono fun v L'' R' ⟨L',e,⟨a1,a2⟩,a3⟩=>⟨a1,by rw [← a2,List.append_nil] at e;exact e,a3⟩
theorem J6v {o:Ow} {l:List Int} {k:Nat} {y:Int}:(⟨o,l⟩:OwL Int).val=(⟨o,l.set k y⟩:OwL Int).val:=OwL.set_val.symm
structure HypsN (n:XNet) (a:XAir) (s:XSetting) (ps:List Int) (v:Int) (R:List Sl):Prop where
  pp:InR (Jiy n.pipes) R
  aa:InR (Jh1 n.at_) R
  is:NetIs a s n
  ok:AirOk a
  len:ps.length=a.mine.places.l.length
  pres:PresOk ps
  v:0≤v∧v < a.mine.places.l.length
theorem J2n {n:XNet} {a:XAir} {s:XSetting} {o:Ow} {ps:List Int} {v y:Int} {A:List Blk} {R:List Sl} (h:HypsN n a s ps v R) (hy:-70368744177664≤y∧y≤70368744177664) (hin:InB ((⟨o,ps.set v.toNat y⟩:OwL Int).L 3 Jad) A) (hok:(⟨o,ps.set v.toNat y⟩:OwL Int).ok 1 Jad):
    Tri Try.prog 80 [n.val,(⟨o,ps⟩:OwL Int).val,.int .i64 v].toArray A R (fun w L' R'=>w=.int .i64 (Jph a s (ps.set v.toNat y) v)∧A=L'∧R=R'):=by
  rw [J6v (k:=v.toNat) (y:=y)]
  exact Tri.lend1 hin hok (Jpk n a s (⟨o,ps.set v.toNat y⟩:OwL Int).arr v [] _ (h.pp.mono fun r hr=>Jab (.tail _ hr)) (h.aa.mono fun r hr=>Jab (.tail _ hr)) (Jab (.head _)) h.is h.ok (by simp [h.len]) (h.pres.set _ hy) h.v)
theorem Jz4 {n:XNet} {a:XAir} {s:XSetting} {o:Ow} {ps:List Int} {v y:Int} {A:List Blk} {R:List Sl} (h:HypsN n a s ps v R) (hy:-70368744177664≤y∧y≤70368744177664) (hin:InB ((⟨o,ps.set v.toNat y⟩:OwL Int).L 3 Jad) A) (hok:(⟨o,ps.set v.toNat y⟩:OwL Int).ok 1 Jad):
    Tri Try.prog 81 [n.val,(⟨o,ps⟩:OwL Int).val,.int .i64 v].toArray A R (fun w L' R'=>w=.int .i64 (Jgp a s (ps.set v.toNat y) v)∧A=L'∧R=R'):=by
  rw [J6v (k:=v.toNat) (y:=y)]
  exact Tri.lend1 hin hok (Jn6 n a s (⟨o,ps.set v.toNat y⟩:OwL Int).arr v [] _ (h.pp.mono fun r hr=>Jab (.tail _ hr)) (h.aa.mono fun r hr=>Jab (.tail _ hr)) (Jab (.head _)) h.is h.ok (by simp [h.len]) (h.pres.set _ hy) h.v)
abbrev J2f (a:XAir) (s:XSetting) (ps:List Int) (v:Int):Int→Bool:=fun x=>decide (0≤Jph a s (ps.set v.toNat x) v)
abbrev Jue (a:XAir) (s:XSetting) (ps:List Int) (v:Int):Int→Bool:=fun x=>decide (Jgp a s (ps.set v.toNat x) v≤0)
theorem Jxa {a:XAir} {s:XSetting} {ps:List Int} {v start:Int} (ha:AirOk a) (hv:v.toNat < ps.length):Stays (J2f a s ps v) start true:=by
  intro i j h0 hij hj hg
  rw [decide_eq_true_eq] at hg ⊢
  have:=Jx9 (s:=s) ha (Jrn (ps:=ps) hv (show start + sgn true * i≤start + sgn true * j by simp only [sgn];simp;omega))
  omega
theorem Juc {a:XAir} {s:XSetting} {ps:List Int} {v start:Int} (ha:AirOk a) (hv:v.toNat < ps.length):Stays (Jue a s ps v) start false:=by
  intro i j h0 hij hj hg
  rw [decide_eq_true_eq] at hg ⊢
  have:=Jwb (s:=s) ha (Jrn (ps:=ps) hv (show start + sgn false * j≤start + sgn false * i by simp only [sgn];simp;omega))
  omega
abbrev clL (b8 b5 b3:Nat) (n:XNet) (o:Ow) (ps:List Int) (v:Int) (L:List Blk) (y:Int):List Blk:=
  ⟨b8,[(⟨o,ps⟩:OwL Int).val],33⟩ :: ((⟨o,ps.set v.toNat y⟩:OwL Int).L 3 Jad ++ (⟨b5,[.int .i64 v],3⟩ :: ⟨b3,n.cells,124⟩ :: L))
theorem Jwr {b8 b5 b3:Nat} {n:XNet} {a:XAir} {s:XSetting} {o:Ow} {ps:List Int} {u:Int} {L:List Blk} {R:List Sl} (h:HypsN n a s ps u R) (hok:(⟨o,ps⟩:OwL Int).ok 1 Jad) (x y:Int) (hx:-70368744177664≤x∧x≤70368744177664):
    Tri Try.prog 91 [.int .i64 x,.pointer (some ⟨b8,0,none⟩),.pointer (some ⟨b5,0,none⟩),.pointer (some ⟨b3,0,none⟩)].toArray (clL b8 b5 b3 n o ps u L y) R (fun w L' R'=>w=.bool (J2f a s ps u x)∧clL b8 b5 b3 n o ps u L x=L'∧R=R'):=by
  have hv:=h.v
  have hlen:=h.len
  have hok2:∀z,(⟨o,ps.set u.toNat z⟩:OwL Int).ok 1 Jad:=fun z=>OwL.len_ok Jci hok (by simp)
  have hoky:=hok2 y
  have hget:=Jai (l:=ps.set u.toNat y) (k:=u.toNat) 0 (by simp;omega)
  refine Jae 15 Try.call91 Try.func91 rfl rfl rfl ?_
  refine Xbh ?_
  refine qam ?_
  refine qac ?_
  refine qac ?_
  refine qaa ?_
  refine J47 ?_
  refine J6e ?_
  rintro v L' R' ⟨rfl,rfl⟩
  refine qa4 ?_
  refine Jlf (by rw [List.set_set]) ?_
  refine qay ?_
  refine qbe ?_
  refine qac ?_
  refine qac ?_
  refine q_l rfl (J2n (o:=o) (y:=x) h hx (by repeat (first | exact Jcj | apply Jcl | apply Jdh)) (hok2 x)) ?_
  refine qbz ?_
  refine Xa9 ?_
  refine q_b (L':=clL b8 b5 b3 n o ps u L x) (R':=R) ?_
  exact ⟨rfl,rfl,rfl⟩
theorem Jrs (n:XNet) (a:XAir) (s:XSetting) (ps:Arr Int) (u:Int) (L:List Blk) (R:List Sl) (h:HypsN n a s ps.l u R) (hps:InR (isl ps) R):
    Tri Try.prog 79 [n.val,ps.val,.int .i64 u].toArray L R (fun w L' R'=>∃(z:Int) (ok:Bool),w=.tuple #[.int .i64 z,.bool ok]∧First (J2f a s ps.l u) (ps.l.getD u.toNat 0) true z ok∧L=L'∧R=R'):=by
  have hv:=h.v
  have hlen:=h.len
  have hnp:=h.ok.mine.places
  have hget:=Jai (l:=ps.l) (k:=u.toNat) 0 (by omega)
  have hb:=h.pres.get u.toNat
  have hst:=Jxa (s:=s) (start:=ps.l.getD u.toNat 0) h.ok (ps:=ps.l) (v:=u) (by omega)
  refine Jae 19 Try.call79 Try.func79 rfl rfl rfl ?_
  refine Xaj ?_
  intro b3
  refine Jx2 (v:=Value.int _ _) rfl rfl rfl ?_
  intro b5
  refine qad ?_
  refine Xct ?_
  refine qbm ?_
  refine J42 ?_
  rintro v L' R' ⟨o10,rfl,hok10,rfl,rfl⟩
  refine qaq ?_
  intro b8
  refine qcy ?_
  refine qam ?_
  refine qbm ?_
  refine qac ?_
  refine J5s ?_
  refine qa7 ?_
  refine Jax (Jy3 rfl) rfl ?_
  refine J6w (show _=clL b8 b5 b3 n o10 ps.l u L (ps.l.getD u.toNat 0) from by rw [clL,Jir];rfl) ?_
  refine Jaq rfl (Jpc 91 #[.pointer (some ⟨b8,0,none⟩),.pointer (some ⟨b5,0,none⟩),.pointer (some ⟨b3,0,none⟩)] (clL b8 b5 b3 n o10 ps.l u L) (J2f a s ps.l u) (ps.l.getD u.toNat 0) true (ps.l.getD u.toNat 0) _ hb hst (fun x y hx=>Jwr h hok10 x y hx)) rfl ?_
  rintro v L' R' ⟨z,ok,y',rfl,hF,rfl,rfl⟩
  refine Xa6 ?_
  refine qad ?_
  refine Xa9 ?_
  refine q_r (L':=L) (R':=R) (Jfb rfl (Jal (show _=Value.int _ _ from rfl)) (Jal (show _=Value.bool _ from rfl))) ?_
  exact ⟨z,ok,rfl,hF,rfl,rfl⟩
theorem Jqq {b8 b5 b3:Nat} {n:XNet} {a:XAir} {s:XSetting} {o:Ow} {ps:List Int} {u:Int} {L:List Blk} {R:List Sl} (h:HypsN n a s ps u R) (hok:(⟨o,ps⟩:OwL Int).ok 1 Jad) (x y:Int) (hx:-70368744177664≤x∧x≤70368744177664):
    Tri Try.prog 90 [.int .i64 x,.pointer (some ⟨b8,0,none⟩),.pointer (some ⟨b5,0,none⟩),.pointer (some ⟨b3,0,none⟩)].toArray (clL b8 b5 b3 n o ps u L y) R (fun w L' R'=>w=.bool (Jue a s ps u x)∧clL b8 b5 b3 n o ps u L x=L'∧R=R'):=by
  have hv:=h.v
  have hlen:=h.len
  have hok2:∀z,(⟨o,ps.set u.toNat z⟩:OwL Int).ok 1 Jad:=fun z=>OwL.len_ok Jci hok (by simp)
  have hoky:=hok2 y
  have hget:=Jai (l:=ps.set u.toNat y) (k:=u.toNat) 0 (by simp;omega)
  refine Jae 15 Try.call90 Try.func90 rfl rfl rfl ?_
  refine Xbh ?_
  refine qam ?_
  refine qac ?_
  refine qac ?_
  refine qaa ?_
  refine J47 ?_
  refine J6e ?_
  rintro v L' R' ⟨rfl,rfl⟩
  refine qa4 ?_
  refine Jlf (by rw [List.set_set]) ?_
  refine qay ?_
  refine qbe ?_
  refine qac ?_
  refine qac ?_
  refine q_l rfl (Jz4 (o:=o) (y:=x) h hx (by repeat (first | exact Jcj | apply Jcl | apply Jdh)) (hok2 x)) ?_
  refine qbx ?_
  refine Xa9 ?_
  refine q_b (L':=clL b8 b5 b3 n o ps u L x) (R':=R) ?_
  exact ⟨rfl,rfl,rfl⟩
theorem Jm9 (n:XNet) (a:XAir) (s:XSetting) (ps:Arr Int) (u:Int) (L:List Blk) (R:List Sl) (h:HypsN n a s ps.l u R) (hps:InR (isl ps) R):
    Tri Try.prog 78 [n.val,ps.val,.int .i64 u].toArray L R (fun w L' R'=>∃(z:Int) (ok:Bool),w=.tuple #[.int .i64 z,.bool ok]∧First (Jue a s ps.l u) (ps.l.getD u.toNat 0) false z ok∧L=L'∧R=R'):=by
  have hv:=h.v
  have hlen:=h.len
  have hnp:=h.ok.mine.places
  have hget:=Jai (l:=ps.l) (k:=u.toNat) 0 (by omega)
  have hb:=h.pres.get u.toNat
  have hst:=Juc (s:=s) (start:=ps.l.getD u.toNat 0) h.ok (ps:=ps.l) (v:=u) (by omega)
  refine Jae 19 Try.call78 Try.func78 rfl rfl rfl ?_
  refine Xaj ?_
  intro b3
  refine Jx2 (v:=Value.int _ _) rfl rfl rfl ?_
  intro b5
  refine qad ?_
  refine Xct ?_
  refine qbm ?_
  refine J42 ?_
  rintro v L' R' ⟨o10,rfl,hok10,rfl,rfl⟩
  refine qaq ?_
  intro b8
  refine qcy ?_
  refine qam ?_
  refine qbm ?_
  refine qac ?_
  refine J5s ?_
  refine qa7 ?_
  refine Jax (Jy3 rfl) rfl ?_
  refine J6w (show _=clL b8 b5 b3 n o10 ps.l u L (ps.l.getD u.toNat 0) from by rw [clL,Jir];rfl) ?_
  refine Jaq rfl (Jpc 90 #[.pointer (some ⟨b8,0,none⟩),.pointer (some ⟨b5,0,none⟩),.pointer (some ⟨b3,0,none⟩)] (clL b8 b5 b3 n o10 ps.l u L) (Jue a s ps.l u) (ps.l.getD u.toNat 0) false (ps.l.getD u.toNat 0) _ hb hst (fun x y hx=>Jqq h hok10 x y hx)) rfl ?_
  rintro v L' R' ⟨z,ok,y',rfl,hF,rfl,rfl⟩
  refine Xa6 ?_
  refine qad ?_
  refine Xa9 ?_
  refine q_r (L':=L) (R':=R) (Jfb rfl (Jal (show _=Value.int _ _ from rfl)) (Jal (show _=Value.bool _ from rfl))) ?_
  exact ⟨z,ok,rfl,hF,rfl,rfl⟩
end Go.Proofs.Ytihompplndcdeaa
end
section
namespace Go.Proofs.Ytihompplndcdeaa
open Go.Aw Go
set_option maxRecDepth 20000
attribute [local irreducible] CJ LJ DJ Tri YV Gives Jdn Jaw Jbk Jdo RV Jay OwL.L
end Go.Proofs.Ytihompplndcdeaa
end
section
namespace Go.Proofs.Ytihompplndcdeaa
open Go.Aw Go
set_option maxRecDepth 20000
attribute [local irreducible] CJ LJ DJ Tri YV Gives Jdn Jaw Jbk Jdo RV Jay OwL.L
theorem Jik {ps:List Int} (h:ps.findSome? Jb5=none):PresOk ps:=fun p hp=>by
  obtain ⟨i,hi⟩:=List.mem_iff_getElem?.1 hp
  exact Jss h i p hi
theorem Jjt {ps:List Int} (h:PresOk ps):ps.findSome? Jb5=none:=List.findSome?_eq_none_iff.2 fun p hp=>by
  have:=h p hp
  exact if_neg (by omega)
section
variable {a:XAir} {s:XSetting} {ps:Arr Int} {v:Int}
end
end Go.Proofs.Ytihompplndcdeaa
end
section
namespace Go.Proofs.Ytihompplndcdeaa
open Go.Aw Go
def Jkc (a : XAir) (fl : List Int) (v : Int) : Nat → Int
  | 0=>0
  | k + 1=>Jkc a fl v k + (if (a.mine.roads.l.getD k default).fr=v then fl.getD k 0 else if (a.mine.roads.l.getD k default).to=v then -(fl.getD k 0) else 0)
theorem Jsw {a : XAir} {x : XState} (ha : AirOk a) (hl : x.pres.l.length = a.mine.places.l.length) {v : Nat} (hv : v < a.mine.places.l.length) : ∀ k, k ≤ a.mine.roads.l.length → (Jdw a x k).getD v 0 = Jkc a x.flows.l (v : Int) k
  | 0,_=>by rw [Jdw,Jkc,List.getD_eq_getElem?_getD,List.getElem?_replicate];split <;> rfl
  | k + 1,hk=>by
    have ih:=Jsw ha hl hv k (by omega)
    have hln:=Jgd a x k
    have hro:=ha.mine.road k _ (Jai default (by omega))
    have h1:=hro.fr
    have h2:=hro.to
    have h3:=hro.ne
    rw [Jdw,Jkc]
    rw [Jel (by rw [List.length_set];omega),Jel (by omega),Jel (by omega)]
    by_cases hf:(a.mine.roads.l.getD k default).fr=(v:Int)
    · rw [if_neg (by omega),if_pos (by omega),if_pos hf,show (a.mine.roads.l.getD k default).fr.toNat=v from by omega,ih]
    · rw [if_neg hf]
      by_cases ht:(a.mine.roads.l.getD k default).to=(v:Int)
      · rw [if_pos (by omega), if_pos ht, if_neg (by omega), show (a.mine.roads.l.getD k default).to.toNat = v from by omega, ih]
        omega
      · rw [if_neg (by omega), if_neg (by omega), if_neg ht, ih]
        omega
theorem FitsF.still {a:XAir} {s:XSetting} {x:XState} (h:FitsF a s x) (ha:AirOk a) {v:Nat} (hv:v < a.mine.places.l.length) (hs:(a.mine.places.l.getD v default).surface=false):Jkc a x.flows.l (v:Int) a.mine.roads.l.length=0:=by
  have hp:=h.place v hv
  unfold Jcu at hp
  split at hp
  · cases hp
  · rename_i hn
    rw [h.flen,Jsw ha h.plen hv _ (Nat.le_refl _)] at hn
    rcases Int.decEq (Jkc a x.flows.l (v:Int) a.mine.roads.l.length) 0 with h0 | h0
    · exact absurd (.inr ⟨hs,h0⟩) hn
    · exact h0
end Go.Proofs.Ytihompplndcdeaa
end
