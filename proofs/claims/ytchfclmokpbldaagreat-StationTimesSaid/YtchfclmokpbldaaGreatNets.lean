/-
  Nets: NetS, NetW, Find, LeastW, RefUp, Bal, NetP, in one text. By an AI agent; no person has read it.
-/
import Derived.Test.YtchfclmokpbldaaGreatFits
import Derived.Test.YtchfclmokpbldaaGreatDraws
set_option linter.unusedVariables false
set_option linter.unusedSimpArgs false
section
variable {A9 B9:Prop}
theorem J6a (a:A9) (h:A9→B9:=by exact Jbu (Jav (show _=Value.slice _ _ _ from rfl)) rfl rfl rfl):B9:=h a
theorem J5e (a:A9) (h:A9→B9:=by exact Jax zL rfl):B9:=h a
theorem Ka6 (a:A9) (h:A9→B9:=by exact Jax (by first | exact Jae tb rfl rfl rfl rfl zt (i:=v.toNat) zj za | exact Jak tb rfl rfl rfl rfl (i:=v.toNat) zj za) rfl):B9:=h a
theorem Kaw (a:A9) (h:A9→B9:=by exact Jax (by first | exact Jae tb rfl rfl rfl rfl zt (i:=e.toNat) zj za | exact Jak tb rfl rfl rfl rfl (i:=e.toNat) zj za) rfl):B9:=h a
theorem Kak (a:A9) (h:A9→B9:=by exact Jbu (by first | exact Jae tb rfl rfl rfl rfl zt (i:=p.road.fr.toNat) zj za | exact Jak tb rfl rfl rfl rfl (i:=p.road.fr.toNat) zj za) rfl rfl rfl):B9:=h a
theorem Kcj (a:A9) (h:A9→B9:=by exact Jbu (by first | exact Jae tb rfl rfl rfl rfl zt (i:=p.road.to.toNat) zj za | exact Jak tb rfl rfl rfl rfl (i:=p.road.to.toNat) zj za) rfl rfl rfl):B9:=h a
theorem Kbz (a:A9) (h:A9→B9:=by exact Jdi zCa rfl rfl):B9:=h a
theorem J95 (a:A9) (h:A9→B9:=by exact Jdi zqa rfl rfl):B9:=h a
theorem Kbn (a:A9) (h:A9→B9:=by exact Jax (Jat tb ((⟨o,ps.set u.toNat y⟩:OwL Int)) _ rfl rfl ((show _=Value.slice _ _ _ from rfl).trans Kc9) rfl zg (i:=u.toNat) zj zu) rfl):B9:=h a
theorem Kam (a:A9) (h:A9→B9:=by exact Jd9 (Jar tb ((⟨o,ps.set u.toNat y⟩:OwL Int)) (x) rfl rfl rfl rfl zk zg (fun _=>rfl) zg ze zb zb)):B9:=h a
theorem J97 (a:A9) (h:A9→B9:=by exact Jgl (Jbm (f:=Jap) (xs:=ps) tb rfl rfl rfl ze rfl rfl (hps) (fun _=>rfl) za) rfl):B9:=h a
theorem J94 (a:A9) (h:A9→B9:=by exact Jax (by first | exact Jae tb rfl rfl rfl rfl zt (i:=u.toNat) zj za | exact Jak tb rfl rfl rfl rfl (i:=u.toNat) zj za) rfl):B9:=h a
end
section
namespace Go.Proofs.YtchfclmokpbldaaGreat
open Go.Aw Go
def Jha (a:XAir) (ps:List Int) (k:Nat):Int:=ps.getD (a.mine.roads.l.getD k default).fr.toNat 0 - ps.getD (a.mine.roads.l.getD k default).to.toNat 0
def Jke (F G:(Int→XSpan)→Int→Int) (a:XAir) (s:XSetting) (ps:List Int) (v:Int) (k:Nat):Int:=
  if (a.mine.roads.l.getD k default).closed=true then 0
  else if (a.mine.roads.l.getD k default).fr=v then F (Jcg a s k) (Jha a ps k)
  else if (a.mine.roads.l.getD k default).to=v then -(G (Jcg a s k) (Jha a ps k)) else 0
def Jvu (F G : (Int → XSpan) → Int → Int) (a : XAir) (s : XSetting) (ps : List Int) (v : Int) : Nat → Int
  | 0=>0
  | k + 1=>Jvu F G a s ps v k + Jke F G a s ps v k
def Jtm (a:XAir) (s:XSetting) (ps:List Int) (v:Int):Int:=Jvu Jdk Jcp a s ps v a.mine.roads.l.length
def Ji1 (a:XAir) (s:XSetting) (ps:List Int) (v:Int):Int:=Jvu Jcp Jdk a s ps v a.mine.roads.l.length
structure Ends (F:(Int→XSpan)→Int→Int) (a:XAir) (s:XSetting):Prop where
  bnd:∀k:Nat,k < a.mine.roads.l.length→∀p,-1048577≤F (Jcg a s k) p∧F (Jcg a s k) p≤1048577
theorem Jn7 {a:XAir} {s:XSetting} (ha:AirOk a):Ends Jdk a s:=⟨fun k hk p=>by have:=(Jma (s:=s) ha (r:=(k:Int)) za p).bnd;omega⟩
theorem Jlj {a:XAir} {s:XSetting} (ha:AirOk a):Ends Jcp a s:=⟨fun k hk p=>by have:=(Jk1 (s:=s) ha (r:=(k:Int)) za p).bnd;omega⟩
section
variable {F G:(Int→XSpan)→Int→Int} {a:XAir} {s:XSetting} {ps:List Int} {v:Int}
theorem Jm6 (hF:Ends F a s) (hG:Ends G a s) {k:Nat} (hk:k < a.mine.roads.l.length):-1048577≤Jke F G a s ps v k∧Jke F G a s ps v k≤1048577:=by
  have h1:=hF.bnd k hk (Jha a ps k)
  have h2:=hG.bnd k hk (Jha a ps k)
  unfold Jke
  split
  · omega
  · split
    · exact h1
    · split <;> omega
theorem Jw3 (hF : Ends F a s) (hG : Ends G a s) : ∀ k : Nat, k ≤ a.mine.roads.l.length → -(1048577 * (k : Int)) ≤ Jvu F G a s ps v k ∧ Jvu F G a s ps v k ≤ 1048577 * (k : Int)
  | 0,_=>by simp [Jvu]
  | k + 1,hk=>by
    have ih:=Jw3 hF hG k za
    have h:=Jm6 (ps:=ps) (v:=v) hF hG (k:=k) za
    rw [Jvu]
    omega
def Jra (F G : (Int → XSpan) → Int → Int) (a : XAir) (s : XSetting) (ps : List Int) (v : Int) (n : Nat) : List Int → Int
  | []=>0
  | e :: l=>Jra F G a s ps v n l + Jke F G a s ps v ((Jch a n).getD e.toNat 0)
theorem Jor (n:Nat) (l m:List Int):Jra F G a s ps v n (l ++ m)=Jra F G a s ps v n l + Jra F G a s ps v n m:=by
  induction l with
  | nil=>simp [Jra]
  | cons e l ih=>rw [List.cons_append,Jra,Jra,ih];omega
theorem Jij (a : XAir) {k : Nat} : ∀ {n : Nat}, k ≤ n → ∃ m, Jch a n = Jch a k ++ m
  | 0,h=>⟨[],by rw [show k=0 by omega];rfl⟩
  | n + 1,h=>by
    rcases Nat.lt_or_ge n k with h' | h'
    · exact ⟨[],by rw [show k=n + 1 by omega];simp⟩
    · obtain ⟨m, hm⟩ := Jij a (k := k) (n := n) h'
      rw [Jch]
      split
      · exact ⟨m,hm⟩
      · exact ⟨m ++ [n],by rw [hm,List.append_assoc]⟩
theorem Juz (a:XAir) {k n:Nat} (hk:k < n) (hc:¬ (a.mine.roads.l.getD k default).closed=true):(Jch a n).getD (Jch a k).length 0=k:=by
  obtain ⟨m,hm⟩:=Jij a (show k + 1≤n from hk)
  rw [hm,Jch,if_neg hc,List.append_assoc,List.getD_eq_getElem?_getD,List.getElem?_append_right (Nat.le_refl _)]
  simp
theorem Jwd (n : Nat) {v : Nat} : ∀ k, k ≤ n → Jra F G a s ps v n (Jxt a v k) = Jvu F G a s ps v k
  | 0,_=>rfl
  | k + 1,hk=>by
    have ih:=Jwd n (v:=v) k za
    rw [Jxt,Jvu]
    split
    · rename_i hc
      rw [ih,Jke,if_pos hc];omega
    · rename_i hc
      split
      · rename_i hv
        rw [Jor,ih,Jra,Jra,Int.toNat_natCast,Juz a za hc]
        omega
      · rename_i hv
        rw [ih,Jke,if_neg hc,if_neg (fun h=>hv (.inl h)),if_neg (fun h=>hv (.inr h))];omega
theorem Jn2 (a : XAir) {v : Nat} : ∀ k, ∀ e ∈ Jxt a v k, ∃ i : Nat, i < k ∧ e = ((Jch a i).length : Int) ∧ ¬ (a.mine.roads.l.getD i default).closed = true ∧ ((a.mine.roads.l.getD i default).fr = (v : Int) ∨ (a.mine.roads.l.getD i default).to = (v : Int))
  | 0,e,h=>by cases h
  | k + 1,e,h=>by
    rw [Jxt] at h
    split at h
    · obtain ⟨i,h1,h2⟩:=Jn2 a k e h;exact ⟨i,by omega,h2⟩
    · rename_i hc
      split at h
      · rename_i hv
        rcases List.mem_append.1 h with h | h
        · obtain ⟨i,h1,h2⟩:=Jn2 a k e h;exact ⟨i,by omega,h2⟩
        · rw [List.mem_singleton.1 h];exact ⟨k,by omega,rfl,hc,hv⟩
      · obtain ⟨i,h1,h2⟩:=Jn2 a k e h;exact ⟨i,by omega,h2⟩
end
structure MonoE (F:(Int→XSpan)→Int→Int) (a:XAir) (s:XSetting):Prop where
  mono:∀k:Nat,k < a.mine.roads.l.length→∀p q:Int,p≤q→F (Jcg a s k) p≤F (Jcg a s k) q
theorem Jzh {a:XAir} {s:XSetting} (ha:AirOk a):MonoE Jdk a s:=⟨fun k hk p q h=>Ju1 (s:=s) ha (r:=(k:Int)) za h⟩
theorem Jtv {a:XAir} {s:XSetting} (ha:AirOk a):MonoE Jcp a s:=⟨fun k hk p q h=>Jtg (s:=s) ha (r:=(k:Int)) za h⟩
structure Above (ps qs:List Int) (v:Int):Prop where
  own:ps.getD v.toNat 0≤qs.getD v.toNat 0
  rest:∀k:Nat,k≠v.toNat→qs.getD k 0≤ps.getD k 0
theorem Joo {F G : (Int → XSpan) → Int → Int} {a : XAir} {s : XSetting} {ps qs : List Int} {v : Int} (ha : AirOk a) (hF : MonoE F a s) (hG : MonoE G a s) (h : Above ps qs v) : ∀ k : Nat, k ≤ a.mine.roads.l.length → Jvu F G a s ps v k ≤ Jvu F G a s qs v k
  | 0,_=>Int.le_refl _
  | k + 1,hk=>by
    have ih:=Joo ha hF hG h k za
    have hro:=ha.mine.road k _ (Jau default za)
    have h1:=hro.fr
    have h2:=hro.to
    have h3:=hro.ne
    have ho:=h.own
    rw [Jvu,Jvu,Jke,Jke]
    split
    · omega
    · split
      · rename_i hf
        have hr:=h.rest (a.mine.roads.l.getD k default).to.toNat za
        have:=hF.mono k za (Jha a ps k) (Jha a qs k) (by rw [Jha,Jha,hf];omega)
        omega
      · split
        · rename_i hf ht
          have hr:=h.rest (a.mine.roads.l.getD k default).fr.toNat za
          have:=hG.mono k za (Jha a qs k) (Jha a ps k) (by rw [Jha,Jha,ht];omega)
          omega
        · omega
theorem J23 {a:XAir} {s:XSetting} {ps qs:List Int} {v:Int} (ha:AirOk a) (h:Above ps qs v):Jtm a s ps v≤Jtm a s qs v:=Joo ha (Jzh ha) (Jtv ha) h _ (Nat.le_refl _)
theorem J0a {a:XAir} {s:XSetting} {ps qs:List Int} {v:Int} (ha:AirOk a) (h:Above ps qs v):Ji1 a s ps v≤Ji1 a s qs v:=Joo ha (Jtv ha) (Jzh ha) h _ (Nat.le_refl _)
theorem Jhz {l:List Int} {k i:Nat} {v:Int} (hk:k < l.length):(l.set k v).getD i 0=if i=k then v else l.getD i 0:=by
  rw [List.getD_eq_getElem?_getD,List.getElem?_set,List.getD_eq_getElem?_getD]
  split
  · rename_i h;subst h;simp [hk]
  · rename_i h;rw [if_neg (fun e=>h e.symm)]
theorem Jug {ps:List Int} {v x y:Int} (hv:v.toNat < ps.length) (h:x≤y):Above (ps.set v.toNat x) (ps.set v.toNat y) v:=
  ⟨by rw [Jhz hv,Jhz hv,if_pos rfl,if_pos rfl];exact h,fun k hk=>by rw [Jhz hv,Jhz hv,if_neg hk,if_neg hk];exact Int.le_refl _⟩
theorem Jj8 {l:List Int} {k:Nat}:l.set k (l.getD k 0)=l:=by
  rcases Nat.lt_or_ge k l.length with h | h
  · have := Jau (l := l) (k := k) 0 h
    obtain ⟨_,h2⟩:=List.getElem?_eq_some_iff.1 this
    rw [← h2,List.set_getElem_self]
  · exact List.set_eq_of_length_le h
def PresOk (ps:List Int):Prop:=∀p∈ps,-70368744177664≤p∧p≤70368744177664
theorem PresOk.get {ps:List Int} (h:PresOk ps) (k:Nat):-70368744177664≤ps.getD k 0∧ps.getD k 0≤70368744177664:=by
  rcases Nat.lt_or_ge k ps.length with h' | h'
  · exact h _ (List.mem_of_getElem? (Jau (l:=ps) 0 h'))
  · rw [List.getD_eq_getElem?_getD,List.getElem?_eq_none h'];decide
theorem PresOk.set {ps:List Int} (h:PresOk ps) (k:Nat) {x:Int} (hx:-70368744177664≤x∧x≤70368744177664):PresOk (ps.set k x):=fun p hp=>by
  rcases List.mem_or_eq_of_mem_set hp with h1 | h1
  · exact h p h1
  · rw [h1];exact hx
end Go.Proofs.YtchfclmokpbldaaGreat
end
section
namespace Go.Proofs.YtchfclmokpbldaaGreat
open Go.Aw Go
set_option maxRecDepth 20000
attribute [local irreducible] CJ LJ DJ Tri YV Gives Jcj Ja1 Jbg Jci RV Ja2 OwL.L
structure Entry (n:XNet) (a:XAir) (s:XSetting) (v:Int) (e:Int) (i:Nat) (p:XPipe):Prop where
  hi:i < a.mine.roads.l.length
  he:0≤e∧e < n.pipes.l.length
  get:n.pipes.l[e.toNat]?=some p
  num:(Jch a a.mine.roads.l.length).getD e.toNat 0=i
  is:PipeIs a s i p
  ok:PipeOk p
  drop:Jk8 p=Jcg a s i
  closed:¬ (a.mine.roads.l.getD i default).closed=true
  ends:(a.mine.roads.l.getD i default).fr=v∨(a.mine.roads.l.getD i default).to=v
  fr:p.road.fr=(a.mine.roads.l.getD i default).fr
  to:p.road.to=(a.mine.roads.l.getD i default).to
  road:RoadOk a.mine.places.l.length (a.mine.roads.l.getD i default)
theorem NetIs.entry {n:XNet} {a:XAir} {s:XSetting} (hn:NetIs a s n) (ha:AirOk a) {v:Nat} {e:Int} (he:e∈Jxt a v a.mine.roads.l.length):∃(i:Nat) (p:XPipe),Entry n a s v e i p:=by
  obtain ⟨i,hi,rfl,hc,hv⟩:=Jn2 a _ e he
  have hget:=Juz a hi hc
  have hlt:(Jch a i).length < (Jch a a.mine.roads.l.length).length:=by
    obtain ⟨m,hm⟩:=Jij a (show i + 1≤a.mine.roads.l.length from hi)
    rw [hm,Jch,if_neg hc]
    simp only [List.length_append,List.length_singleton]
    omega
  have hg:(Jch a a.mine.roads.l.length)[(Jch a i).length]?=some i:=by rw [Jau 0 hlt,hget]
  have hnum:=congrArg (fun l=>l[(Jch a i).length]?) hn.nums
  simp only [List.getElem?_map,hg,Option.map_some] at hnum
  obtain ⟨p,hp,hpn⟩:=Option.map_eq_some_iff.1 hnum
  have hpi:=hn.pipe p (List.mem_of_getElem? hp)
  rw [hpn] at hpi
  have hlp:=(List.getElem?_eq_some_iff.1 hp).1
  refine ⟨i,p,hi,by omega,by rw [Int.toNat_natCast];exact hp,by rw [Int.toNat_natCast];exact hget,hpi,Ju6 ha za hpi,funext fun q=>Jys hpi q,hc,hv,?_,?_,ha.mine.road i _ (Jau default hi)⟩
  · rw [hpi.road,Int.toNat_natCast]
  · rw [hpi.road,Int.toNat_natCast]
section
variable {F G:(Int→XSpan)→Int→Int} {a:XAir} {s:XSetting} {ps:List Int} {v:Int}
theorem Jt5 {n:Nat} {l:List Int} {k:Nat} {e:Int} (he:l[k]?=some e):Jra F G a s ps v n (l.take (k + 1))=Jra F G a s ps v n (l.take k) + Jke F G a s ps v ((Jch a n).getD e.toNat 0):=by
  have:l.take (k + 1)=l.take k ++ [e]:=by rw [List.take_add_one,he];rfl
  rw [this,Jor,Jra,Jra];omega
theorem J2t {a:XAir} {n:Nat} (hn:1≤n) (i:Nat):(Jch a n).getD i 0 < n:=by
  rcases Nat.lt_or_ge i (Jch a n).length with h | h
  · have := List.mem_of_getElem? (Jau (l := Jch a n) 0 h)
    exact (Jj9.1 this).1
  · rw [List.getD_eq_getElem?_getD,List.getElem?_eq_none h];exact hn
theorem Jk3 (hF : Ends F a s) (hG : Ends G a s) (hn : 1 ≤ a.mine.roads.l.length) : ∀ l : List Int, -(1048577 * (l.length : Int)) ≤ Jra F G a s ps v a.mine.roads.l.length l ∧ Jra F G a s ps v a.mine.roads.l.length l ≤ 1048577 * (l.length : Int)
  | []=>by simp [Jra]
  | e :: l=>by
    have ih:=Jk3 hF hG hn l
    have h:=Jm6 (ps:=ps) (v:=v) hF hG (k:=(Jch a a.mine.roads.l.length).getD e.toNat 0) (J2t hn _)
    rw [Jra,List.length_cons]
    omega
end
theorem InR.arr {x:Arr (Arr Int)} {R:List Sl} (h:InR (Ji4 x) R) {i:Nat} {y:Arr Int} (hi:x.l[i]?=some y):InR (isl y) R:=
  h.sub (.deep (List.mem_map.2 ⟨y,List.mem_of_getElem? hi,rfl⟩) .here)
theorem Jq7 (n:XNet) (a:XAir) (s:XSetting) (ps:Arr Int) (v:Int) (L:List Blk) (R:List Sl) (hpp:InR (Jj5 n.pipes) R) (haa:InR (Ji4 n.at_) R) (hps:InR (isl ps) R) (hn:NetIs a s n) (ha:AirOk a) (hl:ps.l.length=a.mine.places.l.length) (hb:PresOk ps.l) (hv:0≤v∧v < a.mine.places.l.length):
    Tri Tryz.prog 241 [n.val,ps.val,.int .i64 v].toArray L R (fun w L' R'=>w=.int .i64 (Jtm a s ps.l v)∧L=L'∧R=R'):=by
  obtain ⟨x,hx⟩:=Jbr (l:=n.at_.l) (k:=v.toNat) (by rw [hn.atl];omega)
  have hxl:=hn.at_ _ _ hx
  have hxI:=InR.arr haa hx
  have hnr:=ha.mine.roads
  have hatl:=hn.atl
  have hxn:x.l.length≤a.mine.roads.l.length:=by rw [hxl];exact Jg6 a _ _
  refine Jad 57 Tryz.call241 Tryz.func241 rfl rfl rfl ?_
  refine Xaf ?_
  intro b3
  refine Xag ?_
  refine Xas ?_
  refine Xal ?_
  refine Ka6 ?_
  refine qa7 ?_
  refine Xdg ?_
  refine Jan [(1,Value.slice _ _ _),(2,Value.int _ _),(3,Value.pointer _),(7,Value.int _ _),(16,Value.slice _ _ _),(17,Value.int _ _),(18,Value.int _ _)] zh fun tq0=>?_
  refine q_s [7,9,10,11,18,19,20,21,22,23,24,25,26,27,28,29,30,31,32,33,34,35,36,37,38,39,40,41,42,43,44,45,46,47,48,49,50,51,52,53,54,55] (fun g:{k:Nat // k≤x.l.length}=>[(7,.int .i64 (Jra Jdk Jcp a s ps.l v a.mine.roads.l.length (x.l.take g.1))),(18,.int .i64 ((g.1:Nat):Int))]) (fun g=>x.l.length - g.1) (⟨0,by omega⟩) ?_
  rintro ⟨k,hk⟩ junk
  try dsimp only
  refine Xak ?_
  refine q_c (fun hc0=>?_) (fun hc0=>?_)
  ·
   obtain ⟨e,he⟩:=Jbr (l:=x.l) (k:=k) za
   obtain ⟨i,p,hE⟩:=hn.entry ha (v:=v.toNat) (e:=e) (by rw [← hxl];exact List.mem_of_getElem? he)
   have hek:=hE.he
   have hpg:=hE.get
   have hpI:=InR.pipe hpp hpg
   have hro:=hE.road
   have hr1:=hro.fr
   have hr2:=hro.to
   have hef:=hE.fr
   have het:=hE.to
   have hi:=hE.hi
   have hsb:=Jk3 (ps:=ps.l) (v:=v) (Jn7 (s:=s) ha) (Jlj (s:=s) ha) za (x.l.take k)
   have htl:(x.l.take k).length≤k:=List.length_take_le _ _
   have hst:=Jt5 (F:=Jdk) (G:=Jcp) (a:=a) (s:=s) (ps:=ps.l) (v:=v) (n:=a.mine.roads.l.length) he
   rw [hE.num] at hst
   have hpf:=Jau (l:=ps.l) (k:=p.road.fr.toNat) 0 za
   have hpt:=Jau (l:=ps.l) (k:=p.road.to.toNat) 0 za
   have hbf:=hb.get p.road.fr.toNat
   have hbt:=hb.get p.road.to.toNat
   have hdf:Jha a ps.l i=ps.l.getD p.road.fr.toNat 0 - ps.l.getD p.road.to.toNat 0:=by rw [Jha,hef,het]
   have hfl:=(Jn7 (s:=s) ha).bnd i hi (Jha a ps.l i)
   have hfh:=(Jlj (s:=s) ha).bnd i hi (Jha a ps.l i)
   rw [← hE.drop,hdf] at hfl hfh
   rw [Jke,if_neg hE.closed,hdf,← hE.drop,← hef] at hst
   have hends:=hE.ends
   rw [← hef,← het] at hends
   refine qbb ?_
   refine qa3 ?_
   refine qa7 ?_
   refine Xag ?_
   refine Xal ?_
   refine Kaw ?_
   refine qdx ?_
   refine qaq ?_
   intro b10
   refine Xcw ?_
   refine Jbf tb [0,1,2,3,4,5,6,7,8,9,10,11,12,13] _ Jby zc (List.Sublist.refl _) ?_
   refine J6a ?_
   refine Xdh ?_
   refine Kak ?_
   refine qbl ?_
   refine J6a ?_
   refine Xdh ?_
   refine Kcj ?_
   refine qbl ?_
   refine qb7 ?_
   refine qcg ?_
   refine Jaz (Jab (Jam (Jah ?_)))
   refine qab ?_
   refine Xal ?_
   refine Xbp ?_
   refine q_c (fun hc1=>?_) (fun hc1=>?_)
   ·
    rw [if_pos hc1] at hst
    refine Xa4 ?_
    refine qdi ?_
    refine qaa ?_
    refine q_l rfl (Jla p (ps.l.getD p.road.fr.toNat 0 - ps.l.getD p.road.to.toNat 0) _ _ hpI hE.ok) ?_
    refine qar ?_
    refine qad ?_
    refine Xbb ?_
    exact Jbl ⟨k + 1,by omega⟩ zm zra zi (Jac _) zy
   rw [if_neg hc1,if_pos za] at hst
   refine Xa4 ?_
   refine qdi ?_
   refine qaa ?_
   refine q_l rfl (Jjc p (ps.l.getD p.road.fr.toNat 0 - ps.l.getD p.road.to.toNat 0) _ _ hpI hE.ok) ?_
   refine qa9 ?_
   refine qad ?_
   refine Xbb ?_
   exact Jbl ⟨k + 1,by omega⟩ zm zra zi (Jac _) zy
  obtain rfl:k=x.l.length:=by omega
  refine qbk ?_
  refine qaa ?_
  refine Xah ?_
  refine q_i (L':=L) (R':=R) ?_
  have e:=Jwd (F:=Jdk) (G:=Jcp) (a:=a) (s:=s) (ps:=ps.l) (v:=v.toNat) a.mine.roads.l.length a.mine.roads.l.length (Nat.le_refl _)
  rw [Int.toNat_of_nonneg hv.1] at e
  exact ⟨by rw [Jtm,List.take_length,hxl,e],rfl,rfl⟩
theorem Joe (n:XNet) (a:XAir) (s:XSetting) (ps:Arr Int) (v:Int) (L:List Blk) (R:List Sl) (hpp:InR (Jj5 n.pipes) R) (haa:InR (Ji4 n.at_) R) (hps:InR (isl ps) R) (hn:NetIs a s n) (ha:AirOk a) (hl:ps.l.length=a.mine.places.l.length) (hb:PresOk ps.l) (hv:0≤v∧v < a.mine.places.l.length):
    Tri Tryz.prog 242 [n.val,ps.val,.int .i64 v].toArray L R (fun w L' R'=>w=.int .i64 (Ji1 a s ps.l v)∧L=L'∧R=R'):=by
  obtain ⟨x,hx⟩:=Jbr (l:=n.at_.l) (k:=v.toNat) (by rw [hn.atl];omega)
  have hxl:=hn.at_ _ _ hx
  have hxI:=InR.arr haa hx
  have hnr:=ha.mine.roads
  have hatl:=hn.atl
  have hxn:x.l.length≤a.mine.roads.l.length:=by rw [hxl];exact Jg6 a _ _
  refine Jad 57 Tryz.call242 Tryz.func242 rfl rfl rfl ?_
  refine Xaf ?_
  intro b3
  refine Xag ?_
  refine Xas ?_
  refine Xal ?_
  refine Ka6 ?_
  refine qa7 ?_
  refine Xdg ?_
  refine Jan [(1,Value.slice _ _ _),(2,Value.int _ _),(3,Value.pointer _),(7,Value.int _ _),(16,Value.slice _ _ _),(17,Value.int _ _),(18,Value.int _ _)] zh fun tq0=>?_
  refine q_s [7,9,10,11,18,19,20,21,22,23,24,25,26,27,28,29,30,31,32,33,34,35,36,37,38,39,40,41,42,43,44,45,46,47,48,49,50,51,52,53,54,55] (fun g:{k:Nat // k≤x.l.length}=>[(7,.int .i64 (Jra Jcp Jdk a s ps.l v a.mine.roads.l.length (x.l.take g.1))),(18,.int .i64 ((g.1:Nat):Int))]) (fun g=>x.l.length - g.1) (⟨0,by omega⟩) ?_
  rintro ⟨k,hk⟩ junk
  try dsimp only
  refine Xak ?_
  refine q_c (fun hc0=>?_) (fun hc0=>?_)
  ·
   obtain ⟨e,he⟩:=Jbr (l:=x.l) (k:=k) za
   obtain ⟨i,p,hE⟩:=hn.entry ha (v:=v.toNat) (e:=e) (by rw [← hxl];exact List.mem_of_getElem? he)
   have hek:=hE.he
   have hpg:=hE.get
   have hpI:=InR.pipe hpp hpg
   have hro:=hE.road
   have hr1:=hro.fr
   have hr2:=hro.to
   have hef:=hE.fr
   have het:=hE.to
   have hi:=hE.hi
   have hsb:=Jk3 (ps:=ps.l) (v:=v) (Jlj (s:=s) ha) (Jn7 (s:=s) ha) za (x.l.take k)
   have htl:(x.l.take k).length≤k:=List.length_take_le _ _
   have hst:=Jt5 (F:=Jcp) (G:=Jdk) (a:=a) (s:=s) (ps:=ps.l) (v:=v) (n:=a.mine.roads.l.length) he
   rw [hE.num] at hst
   have hpf:=Jau (l:=ps.l) (k:=p.road.fr.toNat) 0 za
   have hpt:=Jau (l:=ps.l) (k:=p.road.to.toNat) 0 za
   have hbf:=hb.get p.road.fr.toNat
   have hbt:=hb.get p.road.to.toNat
   have hdf:Jha a ps.l i=ps.l.getD p.road.fr.toNat 0 - ps.l.getD p.road.to.toNat 0:=by rw [Jha,hef,het]
   have hfl:=(Jlj (s:=s) ha).bnd i hi (Jha a ps.l i)
   have hfh:=(Jn7 (s:=s) ha).bnd i hi (Jha a ps.l i)
   rw [← hE.drop,hdf] at hfl hfh
   rw [Jke,if_neg hE.closed,hdf,← hE.drop,← hef] at hst
   have hends:=hE.ends
   rw [← hef,← het] at hends
   refine qbb ?_
   refine qa3 ?_
   refine qa7 ?_
   refine Xag ?_
   refine Xal ?_
   refine Kaw ?_
   refine qdx ?_
   refine qaq ?_
   intro b10
   refine Xcw ?_
   refine Jbf tb [0,1,2,3,4,5,6,7,8,9,10,11,12,13] _ Jby zc (List.Sublist.refl _) ?_
   refine J6a ?_
   refine Xdh ?_
   refine Kak ?_
   refine qbl ?_
   refine J6a ?_
   refine Xdh ?_
   refine Kcj ?_
   refine qbl ?_
   refine qb7 ?_
   refine qcg ?_
   refine Jaz (Jab (Jam (Jah ?_)))
   refine qab ?_
   refine Xal ?_
   refine Xbp ?_
   refine q_c (fun hc1=>?_) (fun hc1=>?_)
   ·
    rw [if_pos hc1] at hst
    refine Xa4 ?_
    refine qdi ?_
    refine qaa ?_
    refine q_l rfl (Jjc p (ps.l.getD p.road.fr.toNat 0 - ps.l.getD p.road.to.toNat 0) _ _ hpI hE.ok) ?_
    refine qar ?_
    refine qad ?_
    refine Xbb ?_
    exact Jbl ⟨k + 1,by omega⟩ zm zra zi (Jac _) zy
   rw [if_neg hc1,if_pos za] at hst
   refine Xa4 ?_
   refine qdi ?_
   refine qaa ?_
   refine q_l rfl (Jla p (ps.l.getD p.road.fr.toNat 0 - ps.l.getD p.road.to.toNat 0) _ _ hpI hE.ok) ?_
   refine qa9 ?_
   refine qad ?_
   refine Xbb ?_
   exact Jbl ⟨k + 1,by omega⟩ zm zra zi (Jac _) zy
  obtain rfl:k=x.l.length:=by omega
  refine qbk ?_
  refine qaa ?_
  refine Xah ?_
  refine q_i (L':=L) (R':=R) ?_
  have e:=Jwd (F:=Jcp) (G:=Jdk) (a:=a) (s:=s) (ps:=ps.l) (v:=v.toNat) a.mine.roads.l.length a.mine.roads.l.length (Nat.le_refl _)
  rw [Int.toNat_of_nonneg hv.1] at e
  exact ⟨by rw [Ji1,List.take_length,hxl,e],rfl,rfl⟩
end Go.Proofs.YtchfclmokpbldaaGreat
end
section
namespace Go.Proofs.YtchfclmokpbldaaGreat
open Go.Aw Go
set_option maxRecDepth 20000
attribute [local irreducible] CJ LJ DJ Tri YV Gives Jcj Ja1 Jbg Jci RV Ja2 OwL.L
abbrev sgn (up:Bool):Int:=if up then 1 else -1
abbrev Jlo (up:Bool) (start:Int):Int:=if up then 70368744177664 - start else start + 70368744177664
structure First (g:Int→Bool) (start:Int) (up:Bool) (v:Int) (ok:Bool):Prop where
  yes:ok=true→∃m,0≤m∧m≤Jlo up start∧v=start + sgn up * m∧g v=true∧∀j,0≤j→j < m→g (start + sgn up * j)=false
  no:ok=false→v=0∧∀j,0≤j→j≤Jlo up start→g (start + sgn up * j)=false
def Stays (g:Int→Bool) (start:Int) (up:Bool):Prop:=∀i j,0≤i→i≤j→j≤Jlo up start→g (start + sgn up * i)=true→g (start + sgn up * j)=true
theorem Stays.no {g:Int→Bool} {start:Int} {up:Bool} (h:Stays g start up) {i j:Int} (h0:0≤i) (hij:i≤j) (hj:j≤Jlo up start) (hg:g (start + sgn up * j)=false):g (start + sgn up * i)=false:=by
  cases e:g (start + sgn up * i) with
  | false=>rfl
  | true=>rw [h i j h0 hij hj e] at hg;cases hg
theorem Js4 {up:Bool} {z:Int} (h:0≤z∧z≤281474976710656):-281474976710656≤sgn up * z∧sgn up * z≤281474976710656:=by
  cases up <;> simp only [sgn] <;> simp <;> omega
theorem Jyi {up:Bool} {start z:Int} (hs:-70368744177664≤start∧start≤70368744177664) (h:0≤z∧z≤Jlo up start):-70368744177664≤start + sgn up * z∧start + sgn up * z≤70368744177664:=by
  cases up <;> simp only [sgn,Jlo] at h ⊢ <;> simp at h ⊢ <;> omega
theorem Joy {up:Bool} {start:Int} (hs:-70368744177664≤start∧start≤70368744177664):0≤Jlo up start∧Jlo up start≤140737488355328:=by
  cases up <;> simp [Jlo] <;> omega
theorem Jqh (f : FuncId) (cap : Array Value) (LL : Int → List Blk) (g : Int → Bool) (start : Int) (up : Bool) (y : Int) (R : List Sl) (hs : -70368744177664 ≤ start ∧ start ≤ 70368744177664) (hm : Stays g start up)
    (hc:∀x y,-70368744177664≤x∧x≤70368744177664→Tri Tryz.prog f (.int .i64 x :: cap.toList).toArray (LL y) R (fun v L' R'=>v=.bool (g x)∧LL x=L'∧R=R')):
    Tri Tryz.prog 278 [.int .i64 start,.bool up,.func (.func f) #[] cap].toArray (LL y) R (fun v L' R'=>∃(z:Int) (ok:Bool) (y':Int),v=.tuple #[.int .i64 z,.bool ok]∧First g start up z ok∧LL y'=L'∧R=R'):=by
  have hro:=Joy (up:=up) hs
  have h00:start + sgn up * 0=start:=by simp
  refine Jad 80 Tryz.call278 Tryz.func278 rfl rfl rfl ?_
  refine Xac ?_
  refine qaz ?_
  refine qaw ?_
  refine Jax (Jav rfl) rfl ?_
  refine qaa ?_
  refine Js1 (Jfs rfl rfl (hc start y hs)) rfl rfl ?_
  rintro v L' R' ⟨rfl,rfl,rfl⟩
  refine qaf ?_
  refine q_c (fun hc0=>?_) (fun hc0=>?_)
  ·
   refine Xbc ?_
   refine Xbm ?_
   refine qbh ?_
   refine q_r (L':=LL start) (R':=R) (Jcf rfl (Jaf (show _=Value.int _ _ from rfl)) (Jaf (show _=Value.bool _ from rfl))) ?_
   exact ⟨start,true,start,rfl,⟨fun _=>⟨0,by omega,by omega,h00.symm,hc0,fun j h1 h2=>by omega⟩,fun h=>by cases h⟩,rfl,rfl⟩
  refine qbv ?_
  refine Xcp ?_
  refine qad ?_
  refine Xas ?_
  refine qah ?_
  refine Xbd ?_
  refine Jj1 [8,9,21,22] ((⟨fun _=>[(8,.int .i64 (sgn up)),(9,.int .i64 (Jlo up start))],fun _=>LL start,fun _=>R,fun _=>0⟩:Head Unit)) ?_ ?_
  ·
   skip
   refine q_c (fun hc1=>?_) (fun hc1=>?_)
   ·
    refine Xa4 ?_
    refine qar ?_
    refine qad ?_
    refine Xbk ?_
    subst hc1;exact q_j ()
   refine Ja4 ?_
   subst hc1;exact q_j ()
  rintro u junk
  try dsimp only
  refine Xac ?_
  refine Xcd ?_
  refine Jj1 [10,11,23,24,25,26,27,28,29,30,31,32,33,34,35,36,37,38] ((⟨fun g=>[(10,.int .i64 g.1.1),(11,.int .i64 g.1.2.1)],fun g=>LL g.1.2.2,fun _=>R,fun _=>0⟩:Head {q:Int×Int×Int // (0≤q.1∧q.1 < q.2.1∧q.2.1≤281474976710656)∧g (start + sgn up * q.1)=false∧(q.1=0∨q.1 < Jlo up start)∧(q.2.1 < Jlo up start→g (start + sgn up * q.2.1)=true)})) ?_ ?_
  ·
   refine Jbd ?_
   refine Jfq [10,11,23,24,25,26,27,28,29,30,31,32,33,34,35,36,37,38] zN [(10,Value.int _ _),(11,Value.int _ _)] zh fun tq0=>?_
   refine q_p [10,11,23,24,25,26,27,28,29,30,31,32,33,34,35,36,37,38] ((⟨fun g=>[(10,.int .i64 g.1.1),(11,.int .i64 g.1.2.1)],fun g=>LL g.1.2.2,fun _=>R,fun g=>(Jlo up start + 1 - g.1.1).toNat⟩:Head {q:Int×Int×Int // ((q.1=0∧q.2.1=1)∨(1≤q.1∧q.2.1=q.1 * 2))∧g (start + sgn up * q.1)=false∧(q.1=0∨q.1 < Jlo up start)})) (⟨(0,1,start),.inl ⟨rfl,rfl⟩,by rw [h00];exact hc0,.inl rfl⟩) ?_
   rintro ⟨⟨bad,good,y2⟩,hbg,hbf,hbr⟩ junk
   try dsimp only
   dsimp only at hbg hbf hbr
   have hgm:=Js4 (up:=up) (z:=good) za
   refine Xbn ?_
   refine Xb0 ?_
   refine Jgh (k:=26) (show _=Value.bool _ from rfl) (fun hg4=>?_) (fun hg4=>?_)
   ·
    replace hg4:=qb hg4
    refine Jdi (Jav rfl) rfl rfl ?_
    iterate 3 refine Jdi (Jav (show _=Value.int _ _ from rfl)) rfl rfl ?_
    refine Kbz ?_
    refine J95 ?_
    refine Js1 (Jfs rfl rfl (hc (start + sgn up * good) y2 (Jyi hs za))) rfl rfl ?_
    rintro v L' R' ⟨rfl,rfl,rfl⟩
    refine Jdi (Jnf rfl) rfl rfl ?_
    refine J5e ?_
    refine qaf ?_
    refine q_c (fun hc2=>?_) (fun hc2=>?_)
    ·
     refine Ja4 (Jab (Jam (Jbd (Jah ?_))))
     refine qaa ?_
     refine qad ?_
     refine qcs ?_
     refine Xcx ?_
     refine Xbk ?_
     exact q_k ⟨(good,good * 2,start + sgn up * good),by dsimp only;omega,by simpa using hc2,by dsimp only;omega⟩
    refine Jcc (Jbt (Jco (Jbb ?_)))
    exact Js8 ⟨(bad,good,_),by dsimp only;omega,hbf,hbr,fun h=>by first | (exfalso;have h':good < Jlo up start:=h;omega) | simpa using hc2⟩ zMa zh zi (Jac _)
   replace hg4:=qb hg4
   iterate 8 refine Joa rfl rfl ?_
   refine J5e ?_
   refine qaf ?_
   refine Je9 rfl ?_
   refine Jcc (Jbt (Jco (Jbb ?_)))
   exact Js8 ⟨(bad,good,_),by dsimp only;omega,hbf,hbr,fun h=>by first | (exfalso;have h':good < Jlo up start:=h;omega) | simpa using hc2⟩ zMa zh zi (Jac _)
  rintro ⟨⟨bad,good,y2⟩,hbg,hbf,hbr,hgt⟩ junk
  try dsimp only
  dsimp only at hbg hbf hbr hgt
  refine Xbn ?_
  refine qaa ?_
  refine Xcq ?_
  refine Jj1 [6,7,11,42,43,44,45,46,47,48,49,50,51,52,53,54,55] ((⟨fun q=>[(11,.int .i64 q.1.1)],fun q=>LL q.1.2,fun _=>R,fun _=>0⟩:Head {q:Int×Int // bad < q.1∧q.1≤Jlo up start∧g (start + sgn up * q.1)=true})) ?_ ?_
  ·
   skip
   refine q_c (fun hc3=>?_) (fun hc3=>?_)
   ·
    refine Xbc ?_
    refine Xcd ?_
    have hgm:=Js4 (up:=up) (z:=Jlo up start) za
    refine Xa4 ?_
    refine qaa ?_
    refine qbx ?_
    refine qah ?_
    refine Jgh (k:=46) (show _=Value.bool _ from rfl) (fun hg4=>?_) (fun hg4=>?_)
    ·
     replace hg4:=qb hg4
     iterate 8 refine Joa rfl rfl ?_
     refine J5e ?_
     refine qaf ?_
     refine Jb2 rfl ?_
     refine Xac ?_
     refine qaz ?_
     refine Ja6 (Jab (Jcq (Jvk ?_)))
     refine q_r (L':=LL _) (R':=R) (Jcf rfl (Jaf (show _=Value.int _ _ from rfl)) (Jaf (show _=Value.bool _ from rfl))) ?_
     refine ⟨0,false,_,rfl,⟨(fun h=>by cases h),fun _=>⟨rfl,fun j h1 h2=>?_⟩⟩,rfl,rfl⟩
     by_cases hj:j=0
     · rw [hj,h00];exact hc0
     · first
         | (exfalso;omega)
         | exact hm.no h1 h2 (Int.le_refl _) zR
    replace hg4:=qb hg4
    refine Jdi (Jav rfl) rfl rfl ?_
    iterate 3 refine Jdi (Jav (show _=Value.int _ _ from rfl)) rfl rfl ?_
    refine Kbz ?_
    refine J95 ?_
    refine Js1 (Jfs rfl rfl (hc (start + sgn up * Jlo up start) y2 (Jyi hs za))) rfl rfl ?_
    rintro v L' R' ⟨rfl,rfl,rfl⟩
    refine Jdi (Jnf rfl) rfl rfl ?_
    refine J5e ?_
    refine qaf ?_
    refine q_c (fun hc4=>?_) (fun hc4=>?_)
    ·
     refine Xac ?_
     refine qaz ?_
     refine Ja6 (Jab (Jcq (Jvk ?_)))
     refine q_r (L':=LL _) (R':=R) (Jcf rfl (Jaf (show _=Value.int _ _ from rfl)) (Jaf (show _=Value.bool _ from rfl))) ?_
     refine ⟨0,false,_,rfl,⟨(fun h=>by cases h),fun _=>⟨rfl,fun j h1 h2=>?_⟩⟩,rfl,rfl⟩
     by_cases hj:j=0
     · rw [hj,h00];exact hc0
     · first
         | (exfalso;omega)
         | exact hm.no h1 h2 (Int.le_refl _) zR
    refine Ja4 ?_
    exact q_j ⟨(Jlo up start,start + sgn up * Jlo up start),by dsimp only;omega,by dsimp only;omega,by simpa using hc4⟩
   refine Ja4 ?_
   exact q_j ⟨(good,y2),by dsimp only;omega,by dsimp only;omega,hgt za⟩
  rintro ⟨⟨good2,y3⟩,h31,h32,h33⟩ junk
  try dsimp only
  dsimp only at h31 h32 h33
  refine Jam (Jbd ?_)
  refine Jan [(0,Value.int _ _),(2,_),(8,Value.int _ _),(10,Value.int _ _),(11,Value.int _ _)] zh fun tq1=>?_
  refine q_p [10,11,12,56,57,58,59,60,61,62,63,64,65,66,67,68,69,70,71,72,73,74] ((⟨fun q=>[(10,.int .i64 q.1.1),(11,.int .i64 q.1.2.1)],fun q=>LL q.1.2.2,fun _=>R,fun q=>(q.1.2.1 - q.1.1).toNat⟩:Head {q:Int×Int×Int // (0≤q.1∧q.1 < q.2.1∧q.2.1≤Jlo up start)∧g (start + sgn up * q.1)=false∧g (start + sgn up * q.2.1)=true})) (⟨(bad,good2,y3),by dsimp only;omega,hbf,h33⟩) ?_
  rintro ⟨⟨lo,hi,y4⟩,q1,q2,q3⟩ junk
  try dsimp only
  dsimp only at q1 q2 q3
  refine Xbn ?_
  refine Xad ?_
  refine Xbe ?_
  refine q_c (fun hc5=>?_) (fun hc5=>?_)
  ·
   obtain ⟨mid,hmid⟩:∃mid,mid=lo + (hi - lo).tdiv 2:=⟨_,rfl⟩
   have hmb:lo < mid∧mid < hi:=by rw [Int.tdiv_eq_ediv_of_nonneg za] at hmid;omega
   have hdv:0≤(hi - lo).tdiv 2∧(hi - lo).tdiv 2≤hi - lo:=by rw [Int.tdiv_eq_ediv_of_nonneg za];omega
   refine Ja4 (Jab (Jbd (Jam (Jah ?_))))
   iterate 3 refine qaa ?_
   refine qa9 ?_
   refine qdd ?_
   refine qar ?_
   refine Xcd ?_
   rw [← hmid]
   have hgm:=Js4 (up:=up) (z:=mid) za
   refine qay ?_
   refine Jax (Jav rfl) rfl ?_
   iterate 3 refine qaa ?_
   refine qcm ?_
   refine qar ?_
   refine Js1 (Jfs rfl rfl (hc (start + sgn up * mid) y4 (Jyi hs za))) rfl rfl ?_
   rintro v L' R' ⟨rfl,rfl,rfl⟩
   refine qaf ?_
   refine q_c (fun hc6=>?_) (fun hc6=>?_)
   ·
    refine Xa4 ?_
    refine qad ?_
    refine Ja6 (Jag ?_)
    exact q_k ⟨(lo,mid,start + sgn up * mid),by dsimp only;omega,q2,hc6⟩
   refine Xa4 ?_
   refine qad ?_
   refine Ja6 (Jag ?_)
   exact q_k ⟨(mid,hi,start + sgn up * mid),by dsimp only;omega,hc6,q3⟩
  refine qc3 ?_
  have hgm:=Js4 (up:=up) (z:=hi) za
  refine qay ?_
  iterate 3 refine qaa ?_
  refine qcm ?_
  refine qar ?_
  refine qad ?_
  refine Xa3 ?_
  refine q_r (L':=LL y4) (R':=R) (Jcf rfl (Jaf (show _=Value.int _ _ from rfl)) (Jaf (show _=Value.bool _ from rfl))) ?_
  exact ⟨start + sgn up * hi,true,y4,rfl,⟨fun _=>⟨hi,by omega,by omega,rfl,q3,fun j h1 h2=>hm.no h1 (show j≤lo by omega) za q2⟩,fun h=>by cases h⟩,rfl,rfl⟩
end Go.Proofs.YtchfclmokpbldaaGreat
end
section
namespace Go.Proofs.YtchfclmokpbldaaGreat
open Go.Aw Go
set_option maxRecDepth 20000
attribute [local irreducible] CJ LJ DJ Tri YV Gives Jcj Ja1 Jbg Jci RV Ja2 OwL.L
theorem Tri.lend1 {P : Program} {f : FuncId} {args : Array Value} {A : List Blk} {R : List Sl} {p : OwL Int} {T : TypeId} {u : Value} (hin : InB (p.L T Jap) A) (hok : p.ok 1 Jap)
    (h:Tri P f args [] (isl p.arr :: R) (fun v L' R'=>v=u∧[]=L'∧isl p.arr :: R=R')):Tri P f args A R (fun v L' R'=>v=u∧A=L'∧R=R'):=by
  have h2:=Tri.lend (S:=[isl p.arr]) (Post:=fun v L'=>v=u∧[]=L') (Spl.rest (L:=A)) (fun w G hh s hs=>by
    rw [List.mem_singleton.1 hs]
    exact Jn3 hh hin hok (fun _=>rfl) ze (fun s hs=>by cases hs)) (h.mono fun v L' R' ⟨a1,a2,a3⟩=>⟨⟨a1,a2⟩,a3⟩)
  exact h2.mono fun v L'' R' ⟨L',e,⟨a1,a2⟩,a3⟩=>⟨a1,by rw [← a2,List.append_nil] at e;exact e,a3⟩
theorem Kc9 {o:Ow} {l:List Int} {k:Nat} {y:Int}:(⟨o,l⟩:OwL Int).val=(⟨o,l.set k y⟩:OwL Int).val:=OwL.set_val.symm
structure HypsN (n:XNet) (a:XAir) (s:XSetting) (ps:List Int) (v:Int) (R:List Sl):Prop where
  pp:InR (Jj5 n.pipes) R
  aa:InR (Ji4 n.at_) R
  is:NetIs a s n
  ok:AirOk a
  len:ps.length=a.mine.places.l.length
  pres:PresOk ps
  v:0≤v∧v < a.mine.places.l.length
theorem J7w {n:XNet} {a:XAir} {s:XSetting} {o:Ow} {ps:List Int} {v y:Int} {A:List Blk} {R:List Sl} (h:HypsN n a s ps v R) (hy:-70368744177664≤y∧y≤70368744177664) (hin:InB ((⟨o,ps.set v.toNat y⟩:OwL Int).L 3 Jap) A) (hok:(⟨o,ps.set v.toNat y⟩:OwL Int).ok 1 Jap):
    Tri Tryz.prog 241 [n.val,(⟨o,ps⟩:OwL Int).val,.int .i64 v].toArray A R (fun w L' R'=>w=.int .i64 (Jtm a s (ps.set v.toNat y) v)∧A=L'∧R=R'):=by
  rw [Kc9 (k:=v.toNat) (y:=y)]
  exact Tri.lend1 hin hok (Jq7 n a s (⟨o,ps.set v.toNat y⟩:OwL Int).arr v [] _ (h.pp.mono fun r hr=>Jaa (.tail _ hr)) (h.aa.mono fun r hr=>Jaa (.tail _ hr)) (Jaa (.head _)) h.is h.ok (by simp [h.len]) (h.pres.set _ hy) h.v)
theorem J4q {n:XNet} {a:XAir} {s:XSetting} {o:Ow} {ps:List Int} {v y:Int} {A:List Blk} {R:List Sl} (h:HypsN n a s ps v R) (hy:-70368744177664≤y∧y≤70368744177664) (hin:InB ((⟨o,ps.set v.toNat y⟩:OwL Int).L 3 Jap) A) (hok:(⟨o,ps.set v.toNat y⟩:OwL Int).ok 1 Jap):
    Tri Tryz.prog 242 [n.val,(⟨o,ps⟩:OwL Int).val,.int .i64 v].toArray A R (fun w L' R'=>w=.int .i64 (Ji1 a s (ps.set v.toNat y) v)∧A=L'∧R=R'):=by
  rw [Kc9 (k:=v.toNat) (y:=y)]
  exact Tri.lend1 hin hok (Joe n a s (⟨o,ps.set v.toNat y⟩:OwL Int).arr v [] _ (h.pp.mono fun r hr=>Jaa (.tail _ hr)) (h.aa.mono fun r hr=>Jaa (.tail _ hr)) (Jaa (.head _)) h.is h.ok (by simp [h.len]) (h.pres.set _ hy) h.v)
abbrev J8b (a:XAir) (s:XSetting) (ps:List Int) (v:Int):Int→Bool:=fun x=>decide (0≤Jtm a s (ps.set v.toNat x) v)
abbrev Jx4 (a:XAir) (s:XSetting) (ps:List Int) (v:Int):Int→Bool:=fun x=>decide (Ji1 a s (ps.set v.toNat x) v≤0)
theorem J0v {a:XAir} {s:XSetting} {ps:List Int} {v start:Int} (ha:AirOk a) (hv:v.toNat < ps.length):Stays (J8b a s ps v) start true:=by
  intro i j h0 hij hj hg
  rw [decide_eq_true_eq] at hg ⊢
  have:=J23 (s:=s) ha (Jug (ps:=ps) hv (show start + sgn true * i≤start + sgn true * j by simp only [sgn];simp;omega))
  omega
theorem Jwx {a:XAir} {s:XSetting} {ps:List Int} {v start:Int} (ha:AirOk a) (hv:v.toNat < ps.length):Stays (Jx4 a s ps v) start false:=by
  intro i j h0 hij hj hg
  rw [decide_eq_true_eq] at hg ⊢
  have:=J0a (s:=s) ha (Jug (ps:=ps) hv (show start + sgn false * j≤start + sgn false * i by simp only [sgn];simp;omega))
  omega
abbrev clL (b8 b5 b3:Nat) (n:XNet) (o:Ow) (ps:List Int) (v:Int) (L:List Blk) (y:Int):List Blk:=
  ⟨b8,[(⟨o,ps⟩:OwL Int).val],40⟩ :: ((⟨o,ps.set v.toNat y⟩:OwL Int).L 3 Jap ++ (⟨b5,[.int .i64 v],3⟩ :: ⟨b3,n.cells,221⟩ :: L))
theorem J0j {b8 b5 b3:Nat} {n:XNet} {a:XAir} {s:XSetting} {o:Ow} {ps:List Int} {u:Int} {L:List Blk} {R:List Sl} (h:HypsN n a s ps u R) (hok:(⟨o,ps⟩:OwL Int).ok 1 Jap) (x y:Int) (hx:-70368744177664≤x∧x≤70368744177664):
    Tri Tryz.prog 280 [.int .i64 x,.pointer (some ⟨b8,0,none⟩),.pointer (some ⟨b5,0,none⟩),.pointer (some ⟨b3,0,none⟩)].toArray (clL b8 b5 b3 n o ps u L y) R (fun w L' R'=>w=.bool (J8b a s ps u x)∧clL b8 b5 b3 n o ps u L x=L'∧R=R'):=by
  have hv:=h.v
  have hlen:=h.len
  have hok2:∀z,(⟨o,ps.set u.toNat z⟩:OwL Int).ok 1 Jap:=fun z=>OwL.len_ok Jds hok zo
  have hoky:=hok2 y
  have hget:=Jau (l:=ps.set u.toNat y) (k:=u.toNat) 0 zF
  refine Jad 15 Tryz.call280 Tryz.func280 rfl rfl rfl ?_
  refine Xax ?_
  refine qam ?_
  refine qac ?_
  refine qac ?_
  refine qaa ?_
  refine Kbn ?_
  refine Kam ?_
  rintro v L' R' ⟨rfl,rfl⟩
  refine qa4 ?_
  refine Jcy (by rw [List.set_set]) ?_
  refine qay ?_
  refine qbe ?_
  refine qac ?_
  refine qac ?_
  refine q_l rfl (J7w (o:=o) (y:=x) h hx zZ (hok2 x)) ?_
  refine qbz ?_
  refine Xa3 ?_
  refine q_b (L':=clL b8 b5 b3 n o ps u L x) (R':=R) ?_
  exact ⟨rfl,rfl,rfl⟩
theorem Jui (n:XNet) (a:XAir) (s:XSetting) (ps:Arr Int) (u:Int) (L:List Blk) (R:List Sl) (h:HypsN n a s ps.l u R) (hps:InR (isl ps) R):
    Tri Tryz.prog 240 [n.val,ps.val,.int .i64 u].toArray L R (fun w L' R'=>∃(z:Int) (ok:Bool),w=.tuple #[.int .i64 z,.bool ok]∧First (J8b a s ps.l u) (ps.l.getD u.toNat 0) true z ok∧L=L'∧R=R'):=by
  have hv:=h.v
  have hlen:=h.len
  have hnp:=h.ok.mine.places
  have hget:=Jau (l:=ps.l) (k:=u.toNat) 0 za
  have hb:=h.pres.get u.toNat
  have hst:=J0v (s:=s) (start:=ps.l.getD u.toNat 0) h.ok (ps:=ps.l) (v:=u) za
  refine Jad 19 Tryz.call240 Tryz.func240 rfl rfl rfl ?_
  refine Xaf ?_
  intro b3
  refine Jwt (v:=Value.int _ _) rfl rfl rfl ?_
  intro b5
  refine Xbm ?_
  refine Xcy ?_
  refine J97 ?_
  rintro v L' R' ⟨o10,rfl,hok10,rfl,rfl⟩
  refine qaq ?_
  intro b8
  refine qcy ?_
  refine Xcy ?_
  refine qac ?_
  refine J94 ?_
  refine qa7 ?_
  refine Jax (Jr9 rfl) rfl ?_
  refine Kdl (show _=clL b8 b5 b3 n o10 ps.l u L (ps.l.getD u.toNat 0) from by rw [clL,Jj8];rfl) ?_
  refine Jaw rfl (Jqh 280 #[.pointer (some ⟨b8,0,none⟩),.pointer (some ⟨b5,0,none⟩),.pointer (some ⟨b3,0,none⟩)] (clL b8 b5 b3 n o10 ps.l u L) (J8b a s ps.l u) (ps.l.getD u.toNat 0) true (ps.l.getD u.toNat 0) _ hb hst (fun x y hx=>J0j h hok10 x y hx)) rfl ?_
  rintro v L' R' ⟨z,ok,y',rfl,hF,rfl,rfl⟩
  refine Xa5 ?_
  refine qad ?_
  refine Xa3 ?_
  refine q_r (L':=L) (R':=R) (Jcf rfl (Jaf (show _=Value.int _ _ from rfl)) (Jaf (show _=Value.bool _ from rfl))) ?_
  exact ⟨z,ok,rfl,hF,rfl,rfl⟩
theorem Jsr {b8 b5 b3:Nat} {n:XNet} {a:XAir} {s:XSetting} {o:Ow} {ps:List Int} {u:Int} {L:List Blk} {R:List Sl} (h:HypsN n a s ps u R) (hok:(⟨o,ps⟩:OwL Int).ok 1 Jap) (x y:Int) (hx:-70368744177664≤x∧x≤70368744177664):
    Tri Tryz.prog 279 [.int .i64 x,.pointer (some ⟨b8,0,none⟩),.pointer (some ⟨b5,0,none⟩),.pointer (some ⟨b3,0,none⟩)].toArray (clL b8 b5 b3 n o ps u L y) R (fun w L' R'=>w=.bool (Jx4 a s ps u x)∧clL b8 b5 b3 n o ps u L x=L'∧R=R'):=by
  have hv:=h.v
  have hlen:=h.len
  have hok2:∀z,(⟨o,ps.set u.toNat z⟩:OwL Int).ok 1 Jap:=fun z=>OwL.len_ok Jds hok zo
  have hoky:=hok2 y
  have hget:=Jau (l:=ps.set u.toNat y) (k:=u.toNat) 0 zF
  refine Jad 15 Tryz.call279 Tryz.func279 rfl rfl rfl ?_
  refine Xax ?_
  refine qam ?_
  refine qac ?_
  refine qac ?_
  refine qaa ?_
  refine Kbn ?_
  refine Kam ?_
  rintro v L' R' ⟨rfl,rfl⟩
  refine qa4 ?_
  refine Jcy (by rw [List.set_set]) ?_
  refine qay ?_
  refine qbe ?_
  refine qac ?_
  refine qac ?_
  refine q_l rfl (J4q (o:=o) (y:=x) h hx zZ (hok2 x)) ?_
  refine qbx ?_
  refine Xa3 ?_
  refine q_b (L':=clL b8 b5 b3 n o ps u L x) (R':=R) ?_
  exact ⟨rfl,rfl,rfl⟩
theorem Jpw (n:XNet) (a:XAir) (s:XSetting) (ps:Arr Int) (u:Int) (L:List Blk) (R:List Sl) (h:HypsN n a s ps.l u R) (hps:InR (isl ps) R):
    Tri Tryz.prog 239 [n.val,ps.val,.int .i64 u].toArray L R (fun w L' R'=>∃(z:Int) (ok:Bool),w=.tuple #[.int .i64 z,.bool ok]∧First (Jx4 a s ps.l u) (ps.l.getD u.toNat 0) false z ok∧L=L'∧R=R'):=by
  have hv:=h.v
  have hlen:=h.len
  have hnp:=h.ok.mine.places
  have hget:=Jau (l:=ps.l) (k:=u.toNat) 0 za
  have hb:=h.pres.get u.toNat
  have hst:=Jwx (s:=s) (start:=ps.l.getD u.toNat 0) h.ok (ps:=ps.l) (v:=u) za
  refine Jad 19 Tryz.call239 Tryz.func239 rfl rfl rfl ?_
  refine Xaf ?_
  intro b3
  refine Jwt (v:=Value.int _ _) rfl rfl rfl ?_
  intro b5
  refine Xbm ?_
  refine Xcy ?_
  refine J97 ?_
  rintro v L' R' ⟨o10,rfl,hok10,rfl,rfl⟩
  refine qaq ?_
  intro b8
  refine qcy ?_
  refine Xcy ?_
  refine qac ?_
  refine J94 ?_
  refine qa7 ?_
  refine Jax (Jr9 rfl) rfl ?_
  refine Kdl (show _=clL b8 b5 b3 n o10 ps.l u L (ps.l.getD u.toNat 0) from by rw [clL,Jj8];rfl) ?_
  refine Jaw rfl (Jqh 279 #[.pointer (some ⟨b8,0,none⟩),.pointer (some ⟨b5,0,none⟩),.pointer (some ⟨b3,0,none⟩)] (clL b8 b5 b3 n o10 ps.l u L) (Jx4 a s ps.l u) (ps.l.getD u.toNat 0) false (ps.l.getD u.toNat 0) _ hb hst (fun x y hx=>Jsr h hok10 x y hx)) rfl ?_
  rintro v L' R' ⟨z,ok,y',rfl,hF,rfl,rfl⟩
  refine Xa5 ?_
  refine qad ?_
  refine Xa3 ?_
  refine q_r (L':=L) (R':=R) (Jcf rfl (Jaf (show _=Value.int _ _ from rfl)) (Jaf (show _=Value.bool _ from rfl))) ?_
  exact ⟨z,ok,rfl,hF,rfl,rfl⟩
end Go.Proofs.YtchfclmokpbldaaGreat
end
section
namespace Go.Proofs.YtchfclmokpbldaaGreat
open Go.Aw Go
set_option maxRecDepth 20000
attribute [local irreducible] CJ LJ DJ Tri YV Gives Jcj Ja1 Jbg Jci RV Ja2 OwL.L
end Go.Proofs.YtchfclmokpbldaaGreat
end
section
namespace Go.Proofs.YtchfclmokpbldaaGreat
open Go.Aw Go
set_option maxRecDepth 20000
attribute [local irreducible] CJ LJ DJ Tri YV Gives Jcj Ja1 Jbg Jci RV Ja2 OwL.L
theorem Jjt {ps:List Int} (h:ps.findSome? Jc2=none):PresOk ps:=fun p hp=>by
  obtain ⟨i,hi⟩:=List.mem_iff_getElem?.1 hp
  exact Jvv h i p hi
theorem Jk2 {ps:List Int} (h:PresOk ps):ps.findSome? Jc2=none:=List.findSome?_eq_none_iff.2 fun p hp=>by
  have:=h p hp
  exact if_neg za
section
variable {a:XAir} {s:XSetting} {ps:Arr Int} {v:Int}
end
end Go.Proofs.YtchfclmokpbldaaGreat
end
section
namespace Go.Proofs.YtchfclmokpbldaaGreat
open Go.Aw Go
end Go.Proofs.YtchfclmokpbldaaGreat
end
