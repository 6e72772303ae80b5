/-
  Nets: NetS, NetW, Find, LeastW, RefUp, Bal, NetP, in one text. By an AI agent; no person has read it.
-/
import Derived.Test.YtchfclmokpbldaaGreatFits
import Derived.Test.YtchfclmokpbldaaGreatDraws
set_option linter.unusedVariables false
set_option linter.unusedSimpArgs false
section
variable {A9 B9:Prop}
theorem Kxe (a:A9) (h:A9→B9:=by exact Kv zKc rfl rfl rfl):B9:=h a
theorem Kye (a:A9) (h:A9→B9:=by exact Jx zL rfl):B9:=h a
theorem Ukf (a:A9) (h:A9→B9:=by exact Jx (by first | exact Jf tb rfl rfl rfl rfl zt (i:=v.toNat) zk za | exact Jk tb rfl rfl rfl rfl (i:=v.toNat) zk za) rfl):B9:=h a
theorem K7f (a:A9) (h:A9→B9:=by exact Jx (by first | exact Jf tb rfl rfl rfl rfl zt (i:=e.toNat) zk za | exact Jk tb rfl rfl rfl rfl (i:=e.toNat) zk za) rfl):B9:=h a
theorem Uff (a:A9) (h:A9→B9:=by exact Kv (by first | exact Jf tb rfl rfl rfl rfl zt (i:=p.road.fr.toNat) zk za | exact Jk tb rfl rfl rfl rfl (i:=p.road.fr.toNat) zk za) rfl rfl rfl):B9:=h a
theorem Jwf (a:A9) (h:A9→B9:=by exact Kv (by first | exact Jf tb rfl rfl rfl rfl zt (i:=p.road.to.toNat) zk za | exact Jk tb rfl rfl rfl rfl (i:=p.road.to.toNat) zk za) rfl rfl rfl):B9:=h a
theorem Vmf (a:A9) (h:A9→B9:=by exact Vp zCa rfl rfl):B9:=h a
theorem U7f (a:A9) (h:A9→B9:=by exact Vp zqa rfl rfl):B9:=h a
theorem Urf (a:A9) (h:A9→B9:=by exact Jx (Ju tb ((⟨o,ps.set u.toNat y⟩:OwL Int)) _ rfl rfl ((show _=Value.slice _ _ _ from rfl).trans Ydf) rfl zh (i:=u.toNat) zk zu) rfl):B9:=h a
theorem U0f (a:A9) (h:A9→B9:=by exact Ye (Jr tb ((⟨o,ps.set u.toNat y⟩:OwL Int)) (x) rfl rfl rfl rfl zj zh (fun _=>rfl) zh zc zb zb)):B9:=h a
theorem Vlf (a:A9) (h:A9→B9:=by exact Y9 (Km (f:=Jp) (xs:=ps) tb rfl rfl rfl zc rfl rfl (hps) (fun _=>rfl) za) rfl):B9:=h a
theorem Klf (a:A9) (h:A9→B9:=by exact Jx (by first | exact Jf tb rfl rfl rfl rfl zt (i:=u.toNat) zk za | exact Jk tb rfl rfl rfl rfl (i:=u.toNat) zk za) rfl):B9:=h a
end
section
namespace Go.Proofs.YtchfclmokpbldaaGreat
open Go.Aw Go
def Kka (a:XAir) (ps:List Int) (k:Nat):Int:=ps.getD (a.mine.roads.l.getD k default).fr.toNat 0 - ps.getD (a.mine.roads.l.getD k default).to.toNat 0
def Yqa (F G:(Int→XSpan)→Int→Int) (a:XAir) (s:XSetting) (ps:List Int) (v:Int) (k:Nat):Int:=
  if (a.mine.roads.l.getD k default).closed=true then 0
  else if (a.mine.roads.l.getD k default).fr=v then F (Uk a s k) (Kka a ps k)
  else if (a.mine.roads.l.getD k default).to=v then -(G (Uk a s k) (Kka a ps k)) else 0
def V4c (F G : (Int → XSpan) → Int → Int) (a : XAir) (s : XSetting) (ps : List Int) (v : Int) : Nat → Int
  | 0=>0
  | k + 1=>V4c F G a s ps v k + Yqa F G a s ps v k
def K4c (a:XAir) (s:XSetting) (ps:List Int) (v:Int):Int:=V4c Vk Up a s ps v a.mine.roads.l.length
def Vfa (a:XAir) (s:XSetting) (ps:List Int) (v:Int):Int:=V4c Up Vk a s ps v a.mine.roads.l.length
structure Ends (F:(Int→XSpan)→Int→Int) (a:XAir) (s:XSetting):Prop where
  bnd:∀k:Nat,k < a.mine.roads.l.length→∀p,-1048577≤F (Uk a s k) p∧F (Uk a s k) p≤1048577
theorem Unb {a:XAir} {s:XSetting} (ha:AirOk a):Ends Vk a s:=⟨fun k hk p=>by have:=(J1b (s:=s) ha (r:=(k:Int)) za p).bnd;omega⟩
theorem Zta {a:XAir} {s:XSetting} (ha:AirOk a):Ends Up a s:=⟨fun k hk p=>by have:=(Zda (s:=s) ha (r:=(k:Int)) za p).bnd;omega⟩
section
variable {F G:(Int→XSpan)→Int→Int} {a:XAir} {s:XSetting} {ps:List Int} {v:Int}
theorem Kkb (hF:Ends F a s) (hG:Ends G a s) {k:Nat} (hk:k < a.mine.roads.l.length):-1048577≤Yqa F G a s ps v k∧Yqa F G a s ps v k≤1048577:=by
  have h1:=hF.bnd k hk (Kka a ps k)
  have h2:=hG.bnd k hk (Kka a ps k)
  unfold Yqa
  split
  · omega
  · split
    · exact h1
    · split <;> omega
theorem Zpc (hF : Ends F a s) (hG : Ends G a s) : ∀ k : Nat, k ≤ a.mine.roads.l.length → -(1048577 * (k : Int)) ≤ V4c F G a s ps v k ∧ V4c F G a s ps v k ≤ 1048577 * (k : Int)
  | 0,_=>by simp [V4c]
  | k + 1,hk=>by
    have ih:=Zpc hF hG k za
    have h:=Kkb (ps:=ps) (v:=v) hF hG (k:=k) za
    rw [V4c]
    omega
def Y2b (F G : (Int → XSpan) → Int → Int) (a : XAir) (s : XSetting) (ps : List Int) (v : Int) (n : Nat) : List Int → Int
  | []=>0
  | e :: l=>Y2b F G a s ps v n l + Yqa F G a s ps v ((Uj a n).getD e.toNat 0)
theorem Vab (n:Nat) (l m:List Int):Y2b F G a s ps v n (l ++ m)=Y2b F G a s ps v n l + Y2b F G a s ps v n m:=by
  induction l with
  | nil=>simp [Y2b]
  | cons e l ih=>rw [List.cons_append,Y2b,Y2b,ih];omega
theorem U8a (a : XAir) {k : Nat} : ∀ {n : Nat}, k ≤ n → ∃ m, Uj a n = Uj a k ++ m
  | 0,h=>⟨[],by rw [show k=0 by omega];rfl⟩
  | n + 1,h=>by
    rcases Nat.lt_or_ge n k with h' | h'
    · exact ⟨[],by rw [show k=n + 1 by omega];simp⟩
    · obtain ⟨m, hm⟩ := U8a a (k := k) (n := n) h'
      rw [Uj]
      split
      · exact ⟨m,hm⟩
      · exact ⟨m ++ [n],by rw [hm,List.append_assoc]⟩
theorem V9c (a:XAir) {k n:Nat} (hk:k < n) (hc:¬ (a.mine.roads.l.getD k default).closed=true):(Uj a n).getD (Uj a k).length 0=k:=by
  obtain ⟨m,hm⟩:=U8a a (show k + 1≤n from hk)
  rw [hm,Uj,if_neg hc,List.append_assoc,List.getD_eq_getElem?_getD,List.getElem?_append_right (Nat.le_refl _)]
  simp
theorem Y2c (n : Nat) {v : Nat} : ∀ k, k ≤ n → Y2b F G a s ps v n (Jid a v k) = V4c F G a s ps v k
  | 0,_=>rfl
  | k + 1,hk=>by
    have ih:=Y2c n (v:=v) k za
    rw [Jid,V4c]
    split
    · rename_i hc
      rw [ih,Yqa,if_pos hc];omega
    · rename_i hc
      split
      · rename_i hv
        rw [Vab,ih,Y2b,Y2b,Int.toNat_natCast,V9c a za hc]
        omega
      · rename_i hv
        rw [ih,Yqa,if_neg hc,if_neg (fun h=>hv (.inl h)),if_neg (fun h=>hv (.inr h))];omega
theorem Ufb (a : XAir) {v : Nat} : ∀ k, ∀ e ∈ Jid a v k, ∃ i : Nat, i < k ∧ e = ((Uj a i).length : Int) ∧ ¬ (a.mine.roads.l.getD i default).closed = true ∧ ((a.mine.roads.l.getD i default).fr = (v : Int) ∨ (a.mine.roads.l.getD i default).to = (v : Int))
  | 0,e,h=>by cases h
  | k + 1,e,h=>by
    rw [Jid] at h
    split at h
    · obtain ⟨i,h1,h2⟩:=Ufb a k e h;exact ⟨i,by omega,h2⟩
    · rename_i hc
      split at h
      · rename_i hv
        rcases List.mem_append.1 h with h | h
        · obtain ⟨i,h1,h2⟩:=Ufb a k e h;exact ⟨i,by omega,h2⟩
        · rw [List.mem_singleton.1 h];exact ⟨k,by omega,rfl,hc,hv⟩
      · obtain ⟨i,h1,h2⟩:=Ufb a k e h;exact ⟨i,by omega,h2⟩
end
structure MonoE (F:(Int→XSpan)→Int→Int) (a:XAir) (s:XSetting):Prop where
  mono:∀k:Nat,k < a.mine.roads.l.length→∀p q:Int,p≤q→F (Uk a s k) p≤F (Uk a s k) q
theorem Kpd {a:XAir} {s:XSetting} (ha:AirOk a):MonoE Vk a s:=⟨fun k hk p q h=>V3c (s:=s) ha (r:=(k:Int)) za h⟩
theorem Vfc {a:XAir} {s:XSetting} (ha:AirOk a):MonoE Up a s:=⟨fun k hk p q h=>Jvc (s:=s) ha (r:=(k:Int)) za h⟩
structure Above (ps qs:List Int) (v:Int):Prop where
  own:ps.getD v.toNat 0≤qs.getD v.toNat 0
  rest:∀k:Nat,k≠v.toNat→qs.getD k 0≤ps.getD k 0
theorem Urb {F G : (Int → XSpan) → Int → Int} {a : XAir} {s : XSetting} {ps qs : List Int} {v : Int} (ha : AirOk a) (hF : MonoE F a s) (hG : MonoE G a s) (h : Above ps qs v) : ∀ k : Nat, k ≤ a.mine.roads.l.length → V4c F G a s ps v k ≤ V4c F G a s qs v k
  | 0,_=>Int.le_refl _
  | k + 1,hk=>by
    have ih:=Urb ha hF hG h k za
    have hro:=ha.mine.road k _ zsc
    have h1:=hro.fr
    have h2:=hro.to
    have h3:=hro.ne
    have ho:=h.own
    rw [V4c,V4c,Yqa,Yqa]
    split
    · omega
    · split
      · rename_i hf
        have hr:=h.rest (a.mine.roads.l.getD k default).to.toNat za
        have:=hF.mono k za (Kka a ps k) (Kka a qs k) (by rw [Kka,Kka,hf];omega)
        omega
      · split
        · rename_i hf ht
          have hr:=h.rest (a.mine.roads.l.getD k default).fr.toNat za
          have:=hG.mono k za (Kka a qs k) (Kka a ps k) (by rw [Kka,Kka,ht];omega)
          omega
        · omega
theorem Zdd {a:XAir} {s:XSetting} {ps qs:List Int} {v:Int} (ha:AirOk a) (h:Above ps qs v):K4c a s ps v≤K4c a s qs v:=Urb ha (Kpd ha) (Vfc ha) h _ (Nat.le_refl _)
theorem U8d {a:XAir} {s:XSetting} {ps qs:List Int} {v:Int} (ha:AirOk a) (h:Above ps qs v):Vfa a s ps v≤Vfa a s qs v:=Urb ha (Vfc ha) (Kpd ha) h _ (Nat.le_refl _)
theorem K9a {l:List Int} {k i:Nat} {v:Int} (hk:k < l.length):(l.set k v).getD i 0=if i=k then v else l.getD i 0:=by
  rw [List.getD_eq_getElem?_getD,List.getElem?_set,List.getD_eq_getElem?_getD]
  split
  · rename_i h;subst h;simp [hk]
  · rename_i h;rw [if_neg (fun e=>h e.symm)]
theorem Vmc {ps:List Int} {v x y:Int} (hv:v.toNat < ps.length) (h:x≤y):Above (ps.set v.toNat x) (ps.set v.toNat y) v:=
  ⟨by rw [K9a hv,K9a hv,if_pos rfl,if_pos rfl];exact h,fun k hk=>by rw [K9a hv,K9a hv,if_neg hk,if_neg hk];exact Int.le_refl _⟩
theorem Yja {l:List Int} {k:Nat}:l.set k (l.getD k 0)=l:=by
  rcases Nat.lt_or_ge k l.length with h | h
  · have := Jw (l := l) (k := k) 0 h
    obtain ⟨_,h2⟩:=List.getElem?_eq_some_iff.1 this
    rw [← h2,List.set_getElem_self]
  · exact List.set_eq_of_length_le h
def PresOk (ps:List Int):Prop:=∀p∈ps,-70368744177664≤p∧p≤70368744177664
theorem PresOk.get {ps:List Int} (h:PresOk ps) (k:Nat):-70368744177664≤ps.getD k 0∧ps.getD k 0≤70368744177664:=by
  rcases Nat.lt_or_ge k ps.length with h' | h'
  · exact h _ (List.mem_of_getElem? (Jw (l:=ps) 0 h'))
  · rw [List.getD_eq_getElem?_getD,List.getElem?_eq_none h'];decide
theorem PresOk.set {ps:List Int} (h:PresOk ps) (k:Nat) {x:Int} (hx:-70368744177664≤x∧x≤70368744177664):PresOk (ps.set k x):=fun p hp=>by
  rcases List.mem_or_eq_of_mem_set hp with h1 | h1
  · exact h p h1
  · rw [h1];exact hx
end Go.Proofs.YtchfclmokpbldaaGreat
end
section
namespace Go.Proofs.YtchfclmokpbldaaGreat
open Go.Aw Go
set_option maxRecDepth 20000
attribute [local irreducible] CJ LJ DJ Tri YV Gives Ui J0 Ke Uh RV J2 OwL.L
structure Entry (n:XNet) (a:XAir) (s:XSetting) (v:Int) (e:Int) (i:Nat) (p:XPipe):Prop where
  hi:i < a.mine.roads.l.length
  he:0≤e∧e < n.pipes.l.length
  get:n.pipes.l[e.toNat]?=some p
  num:(Uj a a.mine.roads.l.length).getD e.toNat 0=i
  is:PipeIs a s i p
  ok:PipeOk p
  drop:Zsa p=Uk a s i
  closed:¬ (a.mine.roads.l.getD i default).closed=true
  ends:(a.mine.roads.l.getD i default).fr=v∨(a.mine.roads.l.getD i default).to=v
  fr:p.road.fr=(a.mine.roads.l.getD i default).fr
  to:p.road.to=(a.mine.roads.l.getD i default).to
  road:RoadOk a.mine.places.l.length (a.mine.roads.l.getD i default)
theorem NetIs.entry {n:XNet} {a:XAir} {s:XSetting} (hn:NetIs a s n) (ha:AirOk a) {v:Nat} {e:Int} (he:e∈Jid a v a.mine.roads.l.length):∃(i:Nat) (p:XPipe),Entry n a s v e i p:=by
  obtain ⟨i,hi,rfl,hc,hv⟩:=Ufb a _ e he
  have hget:=V9c a hi hc
  have hlt:(Uj a i).length < (Uj a a.mine.roads.l.length).length:=by
    obtain ⟨m,hm⟩:=U8a a (show i + 1≤a.mine.roads.l.length from hi)
    rw [hm,Uj,if_neg hc]
    simp only [List.length_append,List.length_singleton]
    omega
  have hg:(Uj a a.mine.roads.l.length)[(Uj a i).length]?=some i:=by rw [Jw 0 hlt,hget]
  have hnum:=congrArg (fun l=>l[(Uj a i).length]?) hn.nums
  simp only [List.getElem?_map,hg,Option.map_some] at hnum
  obtain ⟨p,hp,hpn⟩:=Option.map_eq_some_iff.1 hnum
  have hpi:=hn.pipe p (List.mem_of_getElem? hp)
  rw [hpn] at hpi
  have hlp:=(List.getElem?_eq_some_iff.1 hp).1
  refine ⟨i,p,hi,by omega,by rw [Int.toNat_natCast];exact hp,by rw [Int.toNat_natCast];exact hget,hpi,V7c ha za hpi,funext fun q=>Ksd hpi q,hc,hv,?_,?_,ha.mine.road i _ (Jw default hi)⟩
  · rw [hpi.road,Int.toNat_natCast]
  · rw [hpi.road,Int.toNat_natCast]
section
variable {F G:(Int→XSpan)→Int→Int} {a:XAir} {s:XSetting} {ps:List Int} {v:Int}
theorem Ydc {n:Nat} {l:List Int} {k:Nat} {e:Int} (he:l[k]?=some e):Y2b F G a s ps v n (l.take (k + 1))=Y2b F G a s ps v n (l.take k) + Yqa F G a s ps v ((Uj a n).getD e.toNat 0):=by
  have:l.take (k + 1)=l.take k ++ [e]:=by rw [List.take_add_one,he];rfl
  rw [this,Vab,Y2b,Y2b];omega
theorem Zkd {a:XAir} {n:Nat} (hn:1≤n) (i:Nat):(Uj a n).getD i 0 < n:=by
  rcases Nat.lt_or_ge i (Uj a n).length with h | h
  · have := List.mem_of_getElem? (Jw (l := Uj a n) 0 h)
    exact (Yea.1 this).1
  · rw [List.getD_eq_getElem?_getD,List.getElem?_eq_none h];exact hn
theorem Zja (hF : Ends F a s) (hG : Ends G a s) (hn : 1 ≤ a.mine.roads.l.length) : ∀ l : List Int, -(1048577 * (l.length : Int)) ≤ Y2b F G a s ps v a.mine.roads.l.length l ∧ Y2b F G a s ps v a.mine.roads.l.length l ≤ 1048577 * (l.length : Int)
  | []=>by simp [Y2b]
  | e :: l=>by
    have ih:=Zja hF hG hn l
    have h:=Kkb (ps:=ps) (v:=v) hF hG (k:=(Uj a a.mine.roads.l.length).getD e.toNat 0) (Zkd hn _)
    rw [Y2b,List.length_cons]
    omega
end
theorem InR.arr {x:Arr (Arr Int)} {R:List Sl} (h:InR (Via x) R) {i:Nat} {y:Arr Int} (hi:x.l[i]?=some y):InR (isl y) R:=
  h.sub (.deep (List.mem_map.2 ⟨y,List.mem_of_getElem? hi,rfl⟩) .here)
theorem Zsb (n:XNet) (a:XAir) (s:XSetting) (ps:Arr Int) (v:Int) (L:List Blk) (R:List Sl) (hpp:InR (Yla n.pipes) R) (haa:InR (Via n.at_) R) (hps:InR (isl ps) R) (hn:NetIs a s n) (ha:AirOk a) (hl:ps.l.length=a.mine.places.l.length) (hb:PresOk ps.l) (hv:0≤v∧v < a.mine.places.l.length):
    Tri Tryz.prog 241 [n.val,ps.val,.int .i64 v].toArray L R (fun w L' R'=>w=.int .i64 (K4c a s ps.l v)∧L=L'∧R=R'):=by
  obtain ⟨x,hx⟩:=Kr (l:=n.at_.l) (k:=v.toNat) (by rw [hn.atl];omega)
  have hxl:=hn.at_ _ _ hx
  have hxI:=InR.arr haa hx
  have hnr:=ha.mine.roads
  have hatl:=hn.atl
  have hxn:x.l.length≤a.mine.roads.l.length:=by rw [hxl];exact J8a a _ _
  refine Jg 57 Tryz.call241 Tryz.func241 rfl rfl rfl ?_
  refine Xag ?_
  intro b3
  refine Xaf ?_
  refine Xas ?_
  refine Xam ?_
  refine Ukf ?_
  refine qa7 ?_
  refine Xc1 ?_
  refine Jo [(1,Value.slice _ _ _),(2,Value.int _ _),(3,Value.pointer _),(7,Value.int _ _),(16,Value.slice _ _ _),(17,Value.int _ _),(18,Value.int _ _)] zg fun tq0=>?_
  refine q_s [7,9,10,11,18,19,20,21,22,23,24,25,26,27,28,29,30,31,32,33,34,35,36,37,38,39,40,41,42,43,44,45,46,47,48,49,50,51,52,53,54,55] (fun g:{k:Nat // k≤x.l.length}=>[(7,.int .i64 (Y2b Vk Up a s ps.l v a.mine.roads.l.length (x.l.take g.1))),(18,.int .i64 ((g.1:Nat):Int))]) (fun g=>x.l.length - g.1) (⟨0,by omega⟩) ?_
  rintro ⟨k,hk⟩ junk
  try dsimp only
  refine Xak ?_
  refine q_c (fun hc0=>?_) (fun hc0=>?_)
  ·
   obtain ⟨e,he⟩:=Kr (l:=x.l) (k:=k) za
   obtain ⟨i,p,hE⟩:=hn.entry ha (v:=v.toNat) (e:=e) (by rw [← hxl];exact List.mem_of_getElem? he)
   have hek:=hE.he
   have hpg:=hE.get
   have hpI:=InR.pipe hpp hpg
   have hro:=hE.road
   have hr1:=hro.fr
   have hr2:=hro.to
   have hef:=hE.fr
   have het:=hE.to
   have hi:=hE.hi
   have hsb:=Zja (ps:=ps.l) (v:=v) (Unb (s:=s) ha) (Zta (s:=s) ha) za (x.l.take k)
   have htl:(x.l.take k).length≤k:=List.length_take_le _ _
   have hst:=Ydc (F:=Vk) (G:=Up) (a:=a) (s:=s) (ps:=ps.l) (v:=v) (n:=a.mine.roads.l.length) he
   rw [hE.num] at hst
   have hpf:=Jw (l:=ps.l) (k:=p.road.fr.toNat) 0 za
   have hpt:=Jw (l:=ps.l) (k:=p.road.to.toNat) 0 za
   have hbf:=hb.get p.road.fr.toNat
   have hbt:=hb.get p.road.to.toNat
   have hdf:Kka a ps.l i=ps.l.getD p.road.fr.toNat 0 - ps.l.getD p.road.to.toNat 0:=by rw [Kka,hef,het]
   have hfl:=(Unb (s:=s) ha).bnd i hi (Kka a ps.l i)
   have hfh:=(Zta (s:=s) ha).bnd i hi (Kka a ps.l i)
   rw [← hE.drop,hdf] at hfl hfh
   rw [Yqa,if_neg hE.closed,hdf,← hE.drop,← hef] at hst
   have hends:=hE.ends
   rw [← hef,← het] at hends
   refine qbb ?_
   refine qa3 ?_
   refine qa7 ?_
   refine Xaf ?_
   refine Xam ?_
   refine K7f ?_
   refine qdx ?_
   refine qaq ?_
   intro b10
   refine Xc2 ?_
   refine Kn tb [0,1,2,3,4,5,6,7,8,9,10,11,12,13] _ K1 ze (List.Sublist.refl _) ?_
   refine Kxe ?_
   refine Xdh ?_
   refine Uff ?_
   refine qbl ?_
   refine Kxe ?_
   refine Xdh ?_
   refine Jwf ?_
   refine qbl ?_
   refine qb7 ?_
   refine qcg ?_
   refine J1 (Jb (Jn (Jh ?_)))
   refine qab ?_
   refine Xam ?_
   refine Xcd ?_
   refine q_c (fun hc1=>?_) (fun hc1=>?_)
   ·
    rw [if_pos hc1] at hst
    refine Xa3 ?_
    refine qdi ?_
    refine qaa ?_
    refine q_l rfl zfc ?_
    refine qar ?_
    exact zod
   rw [if_neg hc1,if_pos za] at hst
   refine Xa3 ?_
   refine qdi ?_
   refine qaa ?_
   refine q_l rfl zgc ?_
   refine qa9 ?_
   exact zod
  obtain rfl:k=x.l.length:=by omega
  refine Xdi ?_
  refine Xah ?_
  refine q_i (L':=L) (R':=R) ?_
  have e:=Y2c (F:=Vk) (G:=Up) (a:=a) (s:=s) (ps:=ps.l) (v:=v.toNat) a.mine.roads.l.length a.mine.roads.l.length (Nat.le_refl _)
  rw [Int.toNat_of_nonneg hv.1] at e
  exact ⟨by rw [K4c,List.take_length,hxl,e],rfl,rfl⟩
theorem Vfb (n:XNet) (a:XAir) (s:XSetting) (ps:Arr Int) (v:Int) (L:List Blk) (R:List Sl) (hpp:InR (Yla n.pipes) R) (haa:InR (Via n.at_) R) (hps:InR (isl ps) R) (hn:NetIs a s n) (ha:AirOk a) (hl:ps.l.length=a.mine.places.l.length) (hb:PresOk ps.l) (hv:0≤v∧v < a.mine.places.l.length):
    Tri Tryz.prog 242 [n.val,ps.val,.int .i64 v].toArray L R (fun w L' R'=>w=.int .i64 (Vfa a s ps.l v)∧L=L'∧R=R'):=by
  obtain ⟨x,hx⟩:=Kr (l:=n.at_.l) (k:=v.toNat) (by rw [hn.atl];omega)
  have hxl:=hn.at_ _ _ hx
  have hxI:=InR.arr haa hx
  have hnr:=ha.mine.roads
  have hatl:=hn.atl
  have hxn:x.l.length≤a.mine.roads.l.length:=by rw [hxl];exact J8a a _ _
  refine Jg 57 Tryz.call242 Tryz.func242 rfl rfl rfl ?_
  refine Xag ?_
  intro b3
  refine Xaf ?_
  refine Xas ?_
  refine Xam ?_
  refine Ukf ?_
  refine qa7 ?_
  refine Xc1 ?_
  refine Jo [(1,Value.slice _ _ _),(2,Value.int _ _),(3,Value.pointer _),(7,Value.int _ _),(16,Value.slice _ _ _),(17,Value.int _ _),(18,Value.int _ _)] zg fun tq0=>?_
  refine q_s [7,9,10,11,18,19,20,21,22,23,24,25,26,27,28,29,30,31,32,33,34,35,36,37,38,39,40,41,42,43,44,45,46,47,48,49,50,51,52,53,54,55] (fun g:{k:Nat // k≤x.l.length}=>[(7,.int .i64 (Y2b Up Vk a s ps.l v a.mine.roads.l.length (x.l.take g.1))),(18,.int .i64 ((g.1:Nat):Int))]) (fun g=>x.l.length - g.1) (⟨0,by omega⟩) ?_
  rintro ⟨k,hk⟩ junk
  try dsimp only
  refine Xak ?_
  refine q_c (fun hc0=>?_) (fun hc0=>?_)
  ·
   obtain ⟨e,he⟩:=Kr (l:=x.l) (k:=k) za
   obtain ⟨i,p,hE⟩:=hn.entry ha (v:=v.toNat) (e:=e) (by rw [← hxl];exact List.mem_of_getElem? he)
   have hek:=hE.he
   have hpg:=hE.get
   have hpI:=InR.pipe hpp hpg
   have hro:=hE.road
   have hr1:=hro.fr
   have hr2:=hro.to
   have hef:=hE.fr
   have het:=hE.to
   have hi:=hE.hi
   have hsb:=Zja (ps:=ps.l) (v:=v) (Zta (s:=s) ha) (Unb (s:=s) ha) za (x.l.take k)
   have htl:(x.l.take k).length≤k:=List.length_take_le _ _
   have hst:=Ydc (F:=Up) (G:=Vk) (a:=a) (s:=s) (ps:=ps.l) (v:=v) (n:=a.mine.roads.l.length) he
   rw [hE.num] at hst
   have hpf:=Jw (l:=ps.l) (k:=p.road.fr.toNat) 0 za
   have hpt:=Jw (l:=ps.l) (k:=p.road.to.toNat) 0 za
   have hbf:=hb.get p.road.fr.toNat
   have hbt:=hb.get p.road.to.toNat
   have hdf:Kka a ps.l i=ps.l.getD p.road.fr.toNat 0 - ps.l.getD p.road.to.toNat 0:=by rw [Kka,hef,het]
   have hfl:=(Zta (s:=s) ha).bnd i hi (Kka a ps.l i)
   have hfh:=(Unb (s:=s) ha).bnd i hi (Kka a ps.l i)
   rw [← hE.drop,hdf] at hfl hfh
   rw [Yqa,if_neg hE.closed,hdf,← hE.drop,← hef] at hst
   have hends:=hE.ends
   rw [← hef,← het] at hends
   refine qbb ?_
   refine qa3 ?_
   refine qa7 ?_
   refine Xaf ?_
   refine Xam ?_
   refine K7f ?_
   refine qdx ?_
   refine qaq ?_
   intro b10
   refine Xc2 ?_
   refine Kn tb [0,1,2,3,4,5,6,7,8,9,10,11,12,13] _ K1 ze (List.Sublist.refl _) ?_
   refine Kxe ?_
   refine Xdh ?_
   refine Uff ?_
   refine qbl ?_
   refine Kxe ?_
   refine Xdh ?_
   refine Jwf ?_
   refine qbl ?_
   refine qb7 ?_
   refine qcg ?_
   refine J1 (Jb (Jn (Jh ?_)))
   refine qab ?_
   refine Xam ?_
   refine Xcd ?_
   refine q_c (fun hc1=>?_) (fun hc1=>?_)
   ·
    rw [if_pos hc1] at hst
    refine Xa3 ?_
    refine qdi ?_
    refine qaa ?_
    refine q_l rfl zgc ?_
    refine qar ?_
    exact zod
   rw [if_neg hc1,if_pos za] at hst
   refine Xa3 ?_
   refine qdi ?_
   refine qaa ?_
   refine q_l rfl zfc ?_
   refine qa9 ?_
   exact zod
  obtain rfl:k=x.l.length:=by omega
  refine Xdi ?_
  refine Xah ?_
  refine q_i (L':=L) (R':=R) ?_
  have e:=Y2c (F:=Up) (G:=Vk) (a:=a) (s:=s) (ps:=ps.l) (v:=v.toNat) a.mine.roads.l.length a.mine.roads.l.length (Nat.le_refl _)
  rw [Int.toNat_of_nonneg hv.1] at e
  exact ⟨by rw [Vfa,List.take_length,hxl,e],rfl,rfl⟩
end Go.Proofs.YtchfclmokpbldaaGreat
end
section
namespace Go.Proofs.YtchfclmokpbldaaGreat
open Go.Aw Go
set_option maxRecDepth 20000
attribute [local irreducible] CJ LJ DJ Tri YV Gives Ui J0 Ke Uh RV J2 OwL.L
abbrev sgn (up:Bool):Int:=if up then 1 else -1
abbrev Z9a (up:Bool) (start:Int):Int:=if up then 70368744177664 - start else start + 70368744177664
structure First (g:Int→Bool) (start:Int) (up:Bool) (v:Int) (ok:Bool):Prop where
  yes:ok=true→∃m,0≤m∧m≤Z9a up start∧v=start + sgn up * m∧g v=true∧∀j,0≤j→j < m→g (start + sgn up * j)=false
  no:ok=false→v=0∧∀j,0≤j→j≤Z9a up start→g (start + sgn up * j)=false
def Stays (g:Int→Bool) (start:Int) (up:Bool):Prop:=∀i j,0≤i→i≤j→j≤Z9a up start→g (start + sgn up * i)=true→g (start + sgn up * j)=true
theorem Stays.no {g:Int→Bool} {start:Int} {up:Bool} (h:Stays g start up) {i j:Int} (h0:0≤i) (hij:i≤j) (hj:j≤Z9a up start) (hg:g (start + sgn up * j)=false):g (start + sgn up * i)=false:=by
  cases e:g (start + sgn up * i) with
  | false=>rfl
  | true=>rw [h i j h0 hij hj e] at hg;cases hg
theorem Kyc {up:Bool} {z:Int} (h:0≤z∧z≤281474976710656):-281474976710656≤sgn up * z∧sgn up * z≤281474976710656:=by
  cases up <;> simp only [sgn] <;> simp <;> omega
theorem Kud {up:Bool} {start z:Int} (hs:-70368744177664≤start∧start≤70368744177664) (h:0≤z∧z≤Z9a up start):-70368744177664≤start + sgn up * z∧start + sgn up * z≤70368744177664:=by
  cases up <;> simp only [sgn,Z9a] at h ⊢ <;> simp at h ⊢ <;> omega
theorem Vmb {up:Bool} {start:Int} (hs:-70368744177664≤start∧start≤70368744177664):0≤Z9a up start∧Z9a up start≤140737488355328:=by
  cases up <;> simp [Z9a] <;> omega
theorem Z8b (f : FuncId) (cap : Array Value) (LL : Int → List Blk) (g : Int → Bool) (start : Int) (up : Bool) (y : Int) (R : List Sl) (hs : -70368744177664 ≤ start ∧ start ≤ 70368744177664) (hm : Stays g start up)
    (hc:∀x y,-70368744177664≤x∧x≤70368744177664→Tri Tryz.prog f (.int .i64 x :: cap.toList).toArray (LL y) R (fun v L' R'=>v=.bool (g x)∧LL x=L'∧R=R')):
    Tri Tryz.prog 278 [.int .i64 start,.bool up,.func (.func f) #[] cap].toArray (LL y) R (fun v L' R'=>∃(z:Int) (ok:Bool) (y':Int),v=.tuple #[.int .i64 z,.bool ok]∧First g start up z ok∧LL y'=L'∧R=R'):=by
  have hro:=Vmb (up:=up) hs
  have h00:start + sgn up * 0=start:=by simp
  refine Jg 80 Tryz.call278 Tryz.func278 rfl rfl rfl ?_
  refine Xab ?_
  refine qaz ?_
  refine qaw ?_
  refine Jx zDb rfl ?_
  refine qaa ?_
  refine K1c (Z6 rfl rfl (hc start y hs)) rfl rfl ?_
  rintro v L' R' ⟨rfl,rfl,rfl⟩
  refine qaf ?_
  refine q_c (fun hc0=>?_) (fun hc0=>?_)
  ·
   refine Xbc ?_
   refine Xbn ?_
   refine qbh ?_
   refine q_r (L':=LL start) (R':=R) zTc ?_
   exact ⟨start,true,start,rfl,⟨fun _=>⟨0,by omega,by omega,h00.symm,hc0,fun j h1 h2=>by omega⟩,fun h=>by cases h⟩,rfl,rfl⟩
  refine qbv ?_
  refine Xb6 ?_
  refine qad ?_
  refine Xas ?_
  refine qah ?_
  refine Xbd ?_
  refine Yka [8,9,21,22] ((⟨fun _=>[(8,.int .i64 (sgn up)),(9,.int .i64 (Z9a up start))],fun _=>LL start,fun _=>R,fun _=>0⟩:Head Unit)) ?_ ?_
  ·
   skip
   refine q_c (fun hc1=>?_) (fun hc1=>?_)
   ·
    refine Xa3 ?_
    refine qar ?_
    refine qad ?_
    refine Xbk ?_
    subst hc1;exact q_j ()
   refine J5 ?_
   subst hc1;exact q_j ()
  rintro u junk
  try dsimp only
  refine Xab ?_
  refine Xb3 ?_
  refine Yka [10,11,23,24,25,26,27,28,29,30,31,32,33,34,35,36,37,38] ((⟨fun g=>[(10,.int .i64 g.1.1),(11,.int .i64 g.1.2.1)],fun g=>LL g.1.2.2,fun _=>R,fun _=>0⟩:Head {q:Int×Int×Int // (0≤q.1∧q.1 < q.2.1∧q.2.1≤281474976710656)∧g (start + sgn up * q.1)=false∧(q.1=0∨q.1 < Z9a up start)∧(q.2.1 < Z9a up start→g (start + sgn up * q.2.1)=true)})) ?_ ?_
  ·
   refine Kg ?_
   refine Y4 [10,11,23,24,25,26,27,28,29,30,31,32,33,34,35,36,37,38] zK [(10,Value.int _ _),(11,Value.int _ _)] zg fun tq0=>?_
   refine q_p [10,11,23,24,25,26,27,28,29,30,31,32,33,34,35,36,37,38] ((⟨fun g=>[(10,.int .i64 g.1.1),(11,.int .i64 g.1.2.1)],fun g=>LL g.1.2.2,fun _=>R,fun g=>(Z9a up start + 1 - g.1.1).toNat⟩:Head {q:Int×Int×Int // ((q.1=0∧q.2.1=1)∨(1≤q.1∧q.2.1=q.1 * 2))∧g (start + sgn up * q.1)=false∧(q.1=0∨q.1 < Z9a up start)})) (⟨(0,1,start),.inl ⟨rfl,rfl⟩,by rw [h00];exact hc0,.inl rfl⟩) ?_
   rintro ⟨⟨bad,good,y2⟩,hbg,hbf,hbr⟩ junk
   try dsimp only
   dsimp only at hbg hbf hbr
   have hgm:=Kyc (up:=up) (z:=good) za
   refine qbi ?_
   refine Xbh ?_
   refine Xav ?_
   refine Jsa (k:=26) zdb (fun hg4=>?_) (fun hg4=>?_)
   ·
    replace hg4:=qb hg4
    refine Vp zDb rfl rfl ?_
    iterate 3 refine Vp (Jy zeb) rfl rfl ?_
    refine Vmf ?_
    refine U7f ?_
    refine K1c (Z6 rfl rfl (hc (start + sgn up * good) y2 (Kud hs za))) rfl rfl ?_
    rintro v L' R' ⟨rfl,rfl,rfl⟩
    refine Vp (Jnb rfl) rfl rfl ?_
    refine Kye ?_
    refine qaf ?_
    refine q_c (fun hc2=>?_) (fun hc2=>?_)
    ·
     refine J5 (Jb (Jn (Kg (Jh ?_))))
     refine qaa ?_
     refine qad ?_
     refine qcs ?_
     refine Xc3 ?_
     refine Xbk ?_
     exact q_k ⟨(good,good * 2,start + sgn up * good),by dsimp only;omega,by simpa using hc2,by dsimp only;omega⟩
    exact zrd
   replace hg4:=qb hg4
   iterate 8 refine Vjb rfl rfl ?_
   refine Kye ?_
   refine qaf ?_
   refine Zj rfl ?_
   exact zrd
  rintro ⟨⟨bad,good,y2⟩,hbg,hbf,hbr,hgt⟩ junk
  try dsimp only
  dsimp only at hbg hbf hbr hgt
  refine qbi ?_
  refine Xbh ?_
  refine Xcj ?_
  refine Yka [6,7,11,42,43,44,45,46,47,48,49,50,51,52,53,54,55] ((⟨fun q=>[(11,.int .i64 q.1.1)],fun q=>LL q.1.2,fun _=>R,fun _=>0⟩:Head {q:Int×Int // bad < q.1∧q.1≤Z9a up start∧g (start + sgn up * q.1)=true})) ?_ ?_
  ·
   skip
   refine q_c (fun hc3=>?_) (fun hc3=>?_)
   ·
    refine Xbc ?_
    refine Xb3 ?_
    have hgm:=Kyc (up:=up) (z:=Z9a up start) za
    refine Xa3 ?_
    refine qaa ?_
    refine qbx ?_
    refine qah ?_
    refine Jsa (k:=46) zdb (fun hg4=>?_) (fun hg4=>?_)
    ·
     replace hg4:=qb hg4
     iterate 8 refine Vjb rfl rfl ?_
     refine Kye ?_
     refine qaf ?_
     refine K3 rfl ?_
     refine Xab ?_
     refine qaz ?_
     refine J6 (Jb (Uo (Vqc ?_)))
     refine q_r (L':=LL _) (R':=R) zTc ?_
     refine ⟨0,false,_,rfl,⟨(fun h=>by cases h),fun _=>⟨rfl,fun j h1 h2=>?_⟩⟩,rfl,rfl⟩
     by_cases hj:j=0
     · rw [hj,h00];exact hc0
     · first
         | (exfalso;omega)
         | exact hm.no h1 h2 (Int.le_refl _) zQ
    replace hg4:=qb hg4
    refine Vp zDb rfl rfl ?_
    iterate 3 refine Vp (Jy zeb) rfl rfl ?_
    refine Vmf ?_
    refine U7f ?_
    refine K1c (Z6 rfl rfl (hc (start + sgn up * Z9a up start) y2 (Kud hs za))) rfl rfl ?_
    rintro v L' R' ⟨rfl,rfl,rfl⟩
    refine Vp (Jnb rfl) rfl rfl ?_
    refine Kye ?_
    refine qaf ?_
    refine q_c (fun hc4=>?_) (fun hc4=>?_)
    ·
     refine Xab ?_
     refine qaz ?_
     refine J6 (Jb (Uo (Vqc ?_)))
     refine q_r (L':=LL _) (R':=R) zTc ?_
     refine ⟨0,false,_,rfl,⟨(fun h=>by cases h),fun _=>⟨rfl,fun j h1 h2=>?_⟩⟩,rfl,rfl⟩
     by_cases hj:j=0
     · rw [hj,h00];exact hc0
     · first
         | (exfalso;omega)
         | exact hm.no h1 h2 (Int.le_refl _) zQ
    refine J5 ?_
    exact q_j ⟨(Z9a up start,start + sgn up * Z9a up start),by dsimp only;omega,by dsimp only;omega,by simpa using hc4⟩
   refine J5 ?_
   exact q_j ⟨(good,y2),by dsimp only;omega,by dsimp only;omega,hgt za⟩
  rintro ⟨⟨good2,y3⟩,h31,h32,h33⟩ junk
  try dsimp only
  dsimp only at h31 h32 h33
  refine Jn (Kg ?_)
  refine Jo [(0,Value.int _ _),(2,_),(8,Value.int _ _),(10,Value.int _ _),(11,Value.int _ _)] zg fun tq1=>?_
  refine q_p [10,11,12,56,57,58,59,60,61,62,63,64,65,66,67,68,69,70,71,72,73,74] ((⟨fun q=>[(10,.int .i64 q.1.1),(11,.int .i64 q.1.2.1)],fun q=>LL q.1.2.2,fun _=>R,fun q=>(q.1.2.1 - q.1.1).toNat⟩:Head {q:Int×Int×Int // (0≤q.1∧q.1 < q.2.1∧q.2.1≤Z9a up start)∧g (start + sgn up * q.1)=false∧g (start + sgn up * q.2.1)=true})) (⟨(bad,good2,y3),by dsimp only;omega,hbf,h33⟩) ?_
  rintro ⟨⟨lo,hi,y4⟩,q1,q2,q3⟩ junk
  try dsimp only
  dsimp only at q1 q2 q3
  refine Xce ?_
  refine Xad ?_
  refine Xbo ?_
  refine q_c (fun hc5=>?_) (fun hc5=>?_)
  ·
   obtain ⟨mid,hmid⟩:∃mid,mid=lo + (hi - lo).tdiv 2:=⟨_,rfl⟩
   have hmb:lo < mid∧mid < hi:=by rw [Int.tdiv_eq_ediv_of_nonneg za] at hmid;omega
   have hdv:0≤(hi - lo).tdiv 2∧(hi - lo).tdiv 2≤hi - lo:=by rw [Int.tdiv_eq_ediv_of_nonneg za];omega
   refine J5 (Jb (Kg (Jn (Jh ?_))))
   iterate 3 refine qaa ?_
   refine qa9 ?_
   refine qdd ?_
   refine qar ?_
   refine Xb3 ?_
   rw [← hmid]
   have hgm:=Kyc (up:=up) (z:=mid) za
   refine qay ?_
   refine Jx zDb rfl ?_
   iterate 3 refine qaa ?_
   refine qcm ?_
   refine qar ?_
   refine K1c (Z6 rfl rfl (hc (start + sgn up * mid) y4 (Kud hs za))) rfl rfl ?_
   rintro v L' R' ⟨rfl,rfl,rfl⟩
   refine qaf ?_
   refine q_c (fun hc6=>?_) (fun hc6=>?_)
   ·
    refine Xa3 ?_
    refine qad ?_
    refine J6 (Ji ?_)
    exact q_k ⟨(lo,mid,start + sgn up * mid),by dsimp only;omega,q2,hc6⟩
   refine Xa3 ?_
   refine qad ?_
   refine J6 (Ji ?_)
   exact q_k ⟨(mid,hi,start + sgn up * mid),by dsimp only;omega,hc6,q3⟩
  refine qc3 ?_
  have hgm:=Kyc (up:=up) (z:=hi) za
  refine qay ?_
  iterate 3 refine qaa ?_
  refine qcm ?_
  refine qar ?_
  refine qad ?_
  refine Xba ?_
  refine q_r (L':=LL y4) (R':=R) zTc ?_
  exact ⟨start + sgn up * hi,true,y4,rfl,⟨fun _=>⟨hi,by omega,by omega,rfl,q3,fun j h1 h2=>hm.no h1 (show j≤lo by omega) za q2⟩,fun h=>by cases h⟩,rfl,rfl⟩
end Go.Proofs.YtchfclmokpbldaaGreat
end
section
namespace Go.Proofs.YtchfclmokpbldaaGreat
open Go.Aw Go
set_option maxRecDepth 20000
attribute [local irreducible] CJ LJ DJ Tri YV Gives Ui J0 Ke Uh RV J2 OwL.L
theorem Tri.lend1 {P : Program} {f : FuncId} {args : Array Value} {A : List Blk} {R : List Sl} {p : OwL Int} {T : TypeId} {u : Value} (hin : InB (p.L T Jp) A) (hok : p.ok 1 Jp)
    (h:Tri P f args [] (isl p.arr :: R) (fun v L' R'=>v=u∧[]=L'∧isl p.arr :: R=R')):Tri P f args A R (fun v L' R'=>v=u∧A=L'∧R=R'):=by
  have h2:=Tri.lend (S:=[isl p.arr]) (Post:=fun v L'=>v=u∧[]=L') (Spl.rest (L:=A)) (fun w G hh s hs=>by
    rw [List.mem_singleton.1 hs]
    exact Z1a hh hin hok (fun _=>rfl) zc (fun s hs=>by cases hs)) (h.mono fun v L' R' ⟨a1,a2,a3⟩=>⟨⟨a1,a2⟩,a3⟩)
  exact zFd
theorem Ydf {o:Ow} {l:List Int} {k:Nat} {y:Int}:(⟨o,l⟩:OwL Int).val=(⟨o,l.set k y⟩:OwL Int).val:=OwL.set_val.symm
structure HypsN (n:XNet) (a:XAir) (s:XSetting) (ps:List Int) (v:Int) (R:List Sl):Prop where
  pp:InR (Yla n.pipes) R
  aa:InR (Via n.at_) R
  is:NetIs a s n
  ok:AirOk a
  len:ps.length=a.mine.places.l.length
  pres:PresOk ps
  v:0≤v∧v < a.mine.places.l.length
theorem Yie {n:XNet} {a:XAir} {s:XSetting} {o:Ow} {ps:List Int} {v y:Int} {A:List Blk} {R:List Sl} (h:HypsN n a s ps v R) (hy:-70368744177664≤y∧y≤70368744177664) (hin:InB ((⟨o,ps.set v.toNat y⟩:OwL Int).L 3 Jp) A) (hok:(⟨o,ps.set v.toNat y⟩:OwL Int).ok 1 Jp):
    Tri Tryz.prog 241 [n.val,(⟨o,ps⟩:OwL Int).val,.int .i64 v].toArray A R (fun w L' R'=>w=.int .i64 (K4c a s (ps.set v.toNat y) v)∧A=L'∧R=R'):=by
  rw [Ydf (k:=v.toNat) (y:=y)]
  exact Tri.lend1 hin hok (Zsb n a s (⟨o,ps.set v.toNat y⟩:OwL Int).arr v [] _ (h.pp.mono fun r hr=>Ja (.tail _ hr)) (h.aa.mono fun r hr=>Ja (.tail _ hr)) zpb h.is h.ok (by simp [h.len]) (h.pres.set _ hy) h.v)
theorem J5e {n:XNet} {a:XAir} {s:XSetting} {o:Ow} {ps:List Int} {v y:Int} {A:List Blk} {R:List Sl} (h:HypsN n a s ps v R) (hy:-70368744177664≤y∧y≤70368744177664) (hin:InB ((⟨o,ps.set v.toNat y⟩:OwL Int).L 3 Jp) A) (hok:(⟨o,ps.set v.toNat y⟩:OwL Int).ok 1 Jp):
    Tri Tryz.prog 242 [n.val,(⟨o,ps⟩:OwL Int).val,.int .i64 v].toArray A R (fun w L' R'=>w=.int .i64 (Vfa a s (ps.set v.toNat y) v)∧A=L'∧R=R'):=by
  rw [Ydf (k:=v.toNat) (y:=y)]
  exact Tri.lend1 hin hok (Vfb n a s (⟨o,ps.set v.toNat y⟩:OwL Int).arr v [] _ (h.pp.mono fun r hr=>Ja (.tail _ hr)) (h.aa.mono fun r hr=>Ja (.tail _ hr)) zpb h.is h.ok (by simp [h.len]) (h.pres.set _ hy) h.v)
abbrev Zpe (a:XAir) (s:XSetting) (ps:List Int) (v:Int):Int→Bool:=fun x=>decide (0≤K4c a s (ps.set v.toNat x) v)
abbrev Zkc (a:XAir) (s:XSetting) (ps:List Int) (v:Int):Int→Bool:=fun x=>decide (Vfa a s (ps.set v.toNat x) v≤0)
theorem U2d {a:XAir} {s:XSetting} {ps:List Int} {v start:Int} (ha:AirOk a) (hv:v.toNat < ps.length):Stays (Zpe a s ps v) start true:=by
  intro i j h0 hij hj hg
  rw [decide_eq_true_eq] at hg ⊢
  have:=Zdd (s:=s) ha (Vmc (ps:=ps) hv (show start + sgn true * i≤start + sgn true * j by simp only [sgn];simp;omega))
  omega
theorem Jkd {a:XAir} {s:XSetting} {ps:List Int} {v start:Int} (ha:AirOk a) (hv:v.toNat < ps.length):Stays (Zkc a s ps v) start false:=by
  intro i j h0 hij hj hg
  rw [decide_eq_true_eq] at hg ⊢
  have:=U8d (s:=s) ha (Vmc (ps:=ps) hv (show start + sgn false * j≤start + sgn false * i by simp only [sgn];simp;omega))
  omega
abbrev clL (b8 b5 b3:Nat) (n:XNet) (o:Ow) (ps:List Int) (v:Int) (L:List Blk) (y:Int):List Blk:=
  ⟨b8,[(⟨o,ps⟩:OwL Int).val],40⟩ :: ((⟨o,ps.set v.toNat y⟩:OwL Int).L 3 Jp ++ (⟨b5,[.int .i64 v],3⟩ :: ⟨b3,n.cells,221⟩ :: L))
theorem Vmd {b8 b5 b3:Nat} {n:XNet} {a:XAir} {s:XSetting} {o:Ow} {ps:List Int} {u:Int} {L:List Blk} {R:List Sl} (h:HypsN n a s ps u R) (hok:(⟨o,ps⟩:OwL Int).ok 1 Jp) (x y:Int) (hx:-70368744177664≤x∧x≤70368744177664):
    Tri Tryz.prog 280 [.int .i64 x,.pointer (some ⟨b8,0,none⟩),.pointer (some ⟨b5,0,none⟩),.pointer (some ⟨b3,0,none⟩)].toArray (clL b8 b5 b3 n o ps u L y) R (fun w L' R'=>w=.bool (Zpe a s ps u x)∧clL b8 b5 b3 n o ps u L x=L'∧R=R'):=by
  have hv:=h.v
  have hlen:=h.len
  have hok2:∀z,(⟨o,ps.set u.toNat z⟩:OwL Int).ok 1 Jp:=fun z=>OwL.len_ok Vx hok zo
  have hoky:=hok2 y
  have hget:=Jw (l:=ps.set u.toNat y) (k:=u.toNat) 0 zD
  refine Jg 15 Tryz.call280 Tryz.func280 rfl rfl rfl ?_
  refine Xbb ?_
  refine qam ?_
  refine qac ?_
  refine qac ?_
  refine qaa ?_
  refine Urf ?_
  refine U0f ?_
  rintro v L' R' ⟨rfl,rfl⟩
  refine qa4 ?_
  refine Uv (by rw [List.set_set]) ?_
  refine qay ?_
  refine qbe ?_
  refine qac ?_
  refine qac ?_
  refine q_l rfl (Yie (o:=o) (y:=x) h hx zO (hok2 x)) ?_
  refine qbz ?_
  refine Xba ?_
  refine q_b (L':=clL b8 b5 b3 n o ps u L x) (R':=R) ?_
  exact zpd
theorem Uec (n:XNet) (a:XAir) (s:XSetting) (ps:Arr Int) (u:Int) (L:List Blk) (R:List Sl) (h:HypsN n a s ps.l u R) (hps:InR (isl ps) R):
    Tri Tryz.prog 240 [n.val,ps.val,.int .i64 u].toArray L R (fun w L' R'=>∃(z:Int) (ok:Bool),w=.tuple #[.int .i64 z,.bool ok]∧First (Zpe a s ps.l u) (ps.l.getD u.toNat 0) true z ok∧L=L'∧R=R'):=by
  have hv:=h.v
  have hlen:=h.len
  have hnp:=h.ok.mine.places
  have hget:=Jw (l:=ps.l) (k:=u.toNat) 0 za
  have hb:=h.pres.get u.toNat
  have hst:=U2d (s:=s) (start:=ps.l.getD u.toNat 0) h.ok (ps:=ps.l) (v:=u) za
  refine Jg 19 Tryz.call240 Tryz.func240 rfl rfl rfl ?_
  refine Xag ?_
  intro b3
  refine Jpd (v:=Value.int _ _) rfl rfl rfl ?_
  intro b5
  refine Xbn ?_
  refine Xc4 ?_
  refine Vlf ?_
  rintro v L' R' ⟨o10,rfl,hok10,rfl,rfl⟩
  refine qaq ?_
  intro b8
  refine qcy ?_
  refine Xc4 ?_
  refine qac ?_
  refine Klf ?_
  refine qa7 ?_
  refine Jx (Kec rfl) rfl ?_
  refine Yaf zec ?_
  refine Js rfl (Z8b 280 #[.pointer (some ⟨b8,0,none⟩),.pointer (some ⟨b5,0,none⟩),.pointer (some ⟨b3,0,none⟩)] (clL b8 b5 b3 n o10 ps.l u L) (Zpe a s ps.l u) (ps.l.getD u.toNat 0) true (ps.l.getD u.toNat 0) _ hb hst (fun x y hx=>Vmd h hok10 x y hx)) rfl ?_
  exact zxd
theorem Kcc {b8 b5 b3:Nat} {n:XNet} {a:XAir} {s:XSetting} {o:Ow} {ps:List Int} {u:Int} {L:List Blk} {R:List Sl} (h:HypsN n a s ps u R) (hok:(⟨o,ps⟩:OwL Int).ok 1 Jp) (x y:Int) (hx:-70368744177664≤x∧x≤70368744177664):
    Tri Tryz.prog 279 [.int .i64 x,.pointer (some ⟨b8,0,none⟩),.pointer (some ⟨b5,0,none⟩),.pointer (some ⟨b3,0,none⟩)].toArray (clL b8 b5 b3 n o ps u L y) R (fun w L' R'=>w=.bool (Zkc a s ps u x)∧clL b8 b5 b3 n o ps u L x=L'∧R=R'):=by
  have hv:=h.v
  have hlen:=h.len
  have hok2:∀z,(⟨o,ps.set u.toNat z⟩:OwL Int).ok 1 Jp:=fun z=>OwL.len_ok Vx hok zo
  have hoky:=hok2 y
  have hget:=Jw (l:=ps.set u.toNat y) (k:=u.toNat) 0 zD
  refine Jg 15 Tryz.call279 Tryz.func279 rfl rfl rfl ?_
  refine Xbb ?_
  refine qam ?_
  refine qac ?_
  refine qac ?_
  refine qaa ?_
  refine Urf ?_
  refine U0f ?_
  rintro v L' R' ⟨rfl,rfl⟩
  refine qa4 ?_
  refine Uv (by rw [List.set_set]) ?_
  refine qay ?_
  refine qbe ?_
  refine qac ?_
  refine qac ?_
  refine q_l rfl (J5e (o:=o) (y:=x) h hx zO (hok2 x)) ?_
  refine qbx ?_
  refine Xba ?_
  refine q_b (L':=clL b8 b5 b3 n o ps u L x) (R':=R) ?_
  exact zpd
theorem Uwb (n:XNet) (a:XAir) (s:XSetting) (ps:Arr Int) (u:Int) (L:List Blk) (R:List Sl) (h:HypsN n a s ps.l u R) (hps:InR (isl ps) R):
    Tri Tryz.prog 239 [n.val,ps.val,.int .i64 u].toArray L R (fun w L' R'=>∃(z:Int) (ok:Bool),w=.tuple #[.int .i64 z,.bool ok]∧First (Zkc a s ps.l u) (ps.l.getD u.toNat 0) false z ok∧L=L'∧R=R'):=by
  have hv:=h.v
  have hlen:=h.len
  have hnp:=h.ok.mine.places
  have hget:=Jw (l:=ps.l) (k:=u.toNat) 0 za
  have hb:=h.pres.get u.toNat
  have hst:=Jkd (s:=s) (start:=ps.l.getD u.toNat 0) h.ok (ps:=ps.l) (v:=u) za
  refine Jg 19 Tryz.call239 Tryz.func239 rfl rfl rfl ?_
  refine Xag ?_
  intro b3
  refine Jpd (v:=Value.int _ _) rfl rfl rfl ?_
  intro b5
  refine Xbn ?_
  refine Xc4 ?_
  refine Vlf ?_
  rintro v L' R' ⟨o10,rfl,hok10,rfl,rfl⟩
  refine qaq ?_
  intro b8
  refine qcy ?_
  refine Xc4 ?_
  refine qac ?_
  refine Klf ?_
  refine qa7 ?_
  refine Jx (Kec rfl) rfl ?_
  refine Yaf zec ?_
  refine Js rfl (Z8b 279 #[.pointer (some ⟨b8,0,none⟩),.pointer (some ⟨b5,0,none⟩),.pointer (some ⟨b3,0,none⟩)] (clL b8 b5 b3 n o10 ps.l u L) (Zkc a s ps.l u) (ps.l.getD u.toNat 0) false (ps.l.getD u.toNat 0) _ hb hst (fun x y hx=>Kcc h hok10 x y hx)) rfl ?_
  exact zxd
end Go.Proofs.YtchfclmokpbldaaGreat
end
section
namespace Go.Proofs.YtchfclmokpbldaaGreat
open Go.Aw Go
set_option maxRecDepth 20000
attribute [local irreducible] CJ LJ DJ Tri YV Gives Ui J0 Ke Uh RV J2 OwL.L
end Go.Proofs.YtchfclmokpbldaaGreat
end
section
namespace Go.Proofs.YtchfclmokpbldaaGreat
open Go.Aw Go
set_option maxRecDepth 20000
attribute [local irreducible] CJ LJ DJ Tri YV Gives Ui J0 Ke Uh RV J2 OwL.L
theorem Vwa {ps:List Int} (h:ps.findSome? U3=none):PresOk ps:=fun p hp=>by
  obtain ⟨i,hi⟩:=List.mem_iff_getElem?.1 hp
  exact Vwc h i p hi
theorem Zca {ps:List Int} (h:PresOk ps):ps.findSome? U3=none:=List.findSome?_eq_none_iff.2 fun p hp=>by
  have:=h p hp
  exact if_neg za
section
variable {a:XAir} {s:XSetting} {ps:Arr Int} {v:Int}
end
end Go.Proofs.YtchfclmokpbldaaGreat
end
section
namespace Go.Proofs.YtchfclmokpbldaaGreat
open Go.Aw Go
end Go.Proofs.YtchfclmokpbldaaGreat
end
