import Derived.Test.YtihompplndcdeaaGreatFits
import Derived.Test.YtihompplndcdeaaGreatApp0
section
/-
  What an append to a full read-only slice gives. By an AI agent; no person has read it.
-/
namespace Go.Aw
open Go
section
variable {P:Program} {ρ:Operand→Value} {L:List Blk} {R:List Sl} {dst:Option Tmp} {ty:TypeId} {pos:String} {after:Array Edge} {guard:Option (Nat×Bool)} (tb:Tabs P) {T:TypeId} {x y:Operand}
theorem Jxf {n : Nat} : ∀ {rows : List (List Value)}, (∀ r ∈ rows, r.length = n) → rows.flatten.length = rows.length * n
  | [],_=>by simp
  | r :: rows,h=>by rw [List.flatten_cons,List.length_append,Jxf fun r hr=>h r (by simp [hr]),h r (by simp),List.length_cons,Nat.succ_mul];omega
end
end Go.Aw
end
section
/-
  A slice without its first elements; appending a read-only slice to an own one. By an AI agent; no person has read it.
-/
namespace Go.Proofs.YtihompplndcdeaaGreat
open Go.Aw Go
theorem Jx6 {P : Program} {ρ : Operand → Value} {L : List Blk} {R : List Sl} {dst : Option Tmp} {ty : TypeId} {pos : String} {after : Array Edge} {guard : Option (Nat × Bool)} (tb : Tabs P) {T : TypeId} {x y : Operand} {k : IntKind} {len cap m : Nat} {h : Int} {ar : Option Addr} {e n1 fl bt z k2 n2 fl2 bt2 z2}
    (hT:Jee tb.tab T=some ⟨.slice e,n1,fl,bt,z⟩) (hE:Jee tb.tab e=some ⟨k2,n2,fl2,bt2,z2⟩) (hx:ρ x=.slice ar len cap) (hy:ρ y=.int k h) (hh:h=(m:Int)) (h1:1≤m) (hn:m≤len):
    YV P ⟨dst,.slice T x (some y) none none,ty,pos,after,guard⟩ ρ L R (.slice (if cap=m then ar else ar.map (·.add (m * n2))) (len - m) (cap - m)):=fun _ w _=>by
  have hu:=Jdj (tb.ok _ _ hT) rfl
  have he:P.elem T=e:=by simp [Program.elem,hu]
  have hu':P.underlying T=some (.slice (P.elem T)):=by rw [he];exact hu
  have hs:=Go.Aw.run_sizeOf (tb.ok _ _ hE) w
  simp only at hs
  subst hh
  have h1:=run_slice_l (P:=P) w T ar len cap hu' k (m:Int) (by omega) (by omega)
  rw [he,hs,Result.andThen_ok,Int.toNat_natCast] at h1
  simp [execOp,hx,hy,run_sliceAt_slice w T _ _ _ _ hu',h1,sliced]
theorem J0u {w:World} {G:Nat→Prop} {wd len cap m:Nat} {a:Option Addr} {rows:List (List Value)} {subs:List Sl} (h:Rep w G (.mk wd a len cap rows subs)) (h1:1≤m) (hk:m≤len) (hp:0 < wd):Rep w G (.mk wd (if cap=m then a else a.map (·.add (m * wd))) (len - m) (cap - m) (rows.drop m) subs):=by
  cases h with
  | mk hl hc hm hw hr hs=>
    refine .mk (by simp;omega) (by omega) (by omega) (fun r hr=>hw r (List.mem_of_mem_drop hr)) ?_ hs
    rcases Nat.lt_or_ge m len with h2 | h2
    · rcases hr with h0 | ⟨b, off, ha, hg, Jlw⟩
      · exact .inl (by rw [h0];simp)
      · have hmw : 0 < m * wd := Nat.mul_pos h1 hp
        refine .inr ⟨b,off + m * wd,by rw [if_neg (by omega),ha,Option.map_some,Addr.add,if_neg (by omega)],hg,fun i j hi hj=>?_⟩
        have:=Jlw (i + m) j (by omega) hj
        have e:off + m * wd + i * wd + j=off + (i + m) * wd + j:=by rw [Nat.add_mul];omega
        rw [List.getElem?_drop,Nat.add_comm m i,← this,e]
    · exact .inl (List.drop_eq_nil_of_le (by omega))
abbrev J19 {α:Type} (y:Arr α) (m wd:Nat):Arr α:=⟨if y.cap=m then y.a else y.a.map (·.add (m * wd)),y.cap - m,y.l.drop m⟩
abbrev J71 {α:Type} (y:Arr α) (m:Nat):Arr α:=⟨y.a,y.cap,y.l.take m⟩
theorem J27 {α:Type} {P n code t L R} {Q:Jbp} {wd m:Nat} {f:α→List Value} {subs:List Sl} {y:Arr α} (hR:InR (y.sl wd f subs) R) (h1:1≤m) (hk:m≤y.l.length) (hp:0 < wd) (h:CJ P n code t L ((J19 y m wd).sl wd f subs :: R) Q):CJ P n code t L R Q:=by
  refine Jvz (s:=(J19 y m wd).sl wd f subs) (fun w G hh=>?_) h
  obtain ⟨r,hr,hs⟩:=hR
  have h2:=J0u ((hh r hr).sub hs) h1 hk hp
  have e1:y.l.length - m=(y.l.drop m).length:=by rw [List.length_drop]
  have e2:(y.l.map f).drop m=(y.l.drop m).map f:=by rw [List.map_drop]
  rw [e1,e2] at h2
  exact h2
section
variable {P:Program} {ρ:Operand→Value} {L:List Blk} {R:List Sl} {dst:Option Tmp} {ty:TypeId} {pos:String} {after:Array Edge} {guard:Option (Nat×Bool)} (tb:Tabs P) {T:TypeId} {x y:Operand}
theorem Jzd {α:Type} {f:α→List Value} {xs:Arr α} {n2:Nat} {subs:List Sl} (hR:InR (xs.sl n2 f subs) R) (h0:0 < n2) (hx0:0 < xs.l.length) {c:Ctx} {w:World} (hst:St c L R w):Jt2 L R xs.val xs.l.length n2 (xs.l.flatMap f):=by
  obtain ⟨ar,cap,l⟩:=xs
  dsimp only at hR hx0 ⊢
  have hw:∀r∈l.map f,r.length=n2:=by
    have hst':=hst
    obtain ⟨⟨G,hh,_⟩,_,_⟩:=hst'
    obtain ⟨r,hr,hsub⟩:=hR
    have hrep:=(hh.rep r hr).sub hsub
    cases hrep with
    | mk _ _ _ hw _ _=>exact hw
  have hf0:(l.map f).flatten=l.flatMap f:=Jld _
  have hfl:(l.map f).flatten.length=l.length * n2:=by rw [Jxf hw,List.length_map]
  have hsx:=Jxb (L:=L) hR h0 (fun c w hst=>by
    obtain ⟨⟨G,hh,_⟩,_,_⟩:=hst
    obtain ⟨r,hr,hsub⟩:=hR
    have hrep:=(hh.rep r hr).sub hsub
    cases hrep with
    | mk _ _ _ _ hm _=>
      rcases hm with h | ⟨b,off,ha,_⟩
      · have h' := congrArg List.length h
        simp at h'
        rw [h'] at hx0
        simp at hx0
      · exact ⟨b,off,ha⟩) hfl ⟨c,w,hst⟩
  rw [hf0] at hsx
  exact hsx
theorem Jsb {α : Type} {e n fl bt z k2 n2 fl2 bt2 z2} {f : α → List Value} (p : OwL α) (xs : Arr α) {subs : List Sl} {F : OwL α → List Blk} (hT : Jee tb.tab T = some ⟨.slice e, n, fl, bt, z⟩) (hE : Jee tb.tab e = some ⟨k2, n2, fl2, bt2, z2⟩) (hn2 : z2.length = n2) (h0 : 0 < n2)
    (hx:ρ x=p.val) (hy:ρ y=xs.val) (hok:p.ok n2 f) (hR:InR (xs.sl n2 f subs) R) (hseg:OSeg e f p L F) (h1:∀x,(f x).all (·.oneCell')=true) (hby:(p.l.length + xs.l.length) * (bt2 + 1)≤140737488355328):
    Gives P ⟨dst,.call ⟨.builtin .append,#[x,y],#[T,T]⟩,ty,pos,after,guard⟩ ρ L R (fun v L' R'=>∃o:Ow,v=(⟨o,p.l ++ xs.l⟩:OwL α).val∧(⟨o,p.l ++ xs.l⟩:OwL α).ok n2 f∧F ⟨o,p.l ++ xs.l⟩=L'∧R=R'):=by
  obtain ⟨A,B,hL,hF⟩:=hseg.split
  intro c w hst ac next Q kk
  have hb1:(p.l.length + xs.l.length) * bt2≤140737488355328:=Nat.le_trans (Nat.mul_le_mul_left _ (Nat.le_succ _)) hby
  have hb2:p.l.length + xs.l.length≤140737488355328:=Nat.le_trans (Nat.le_mul_of_pos_right _ (Nat.succ_pos _)) hby
  have hx':ρ x=p.o.val p.l.length:=by rw [hx,Ow.val_of_ok hok];rfl
  rcases Nat.eq_zero_or_pos xs.l.length with hz | hz
  · have hnil : xs.l = [] := List.eq_nil_of_length_eq_zero hz
    have hy':ρ y=.slice xs.a 0 xs.cap:=by rw [hy,Arr.val,hz]
    have hsame:F p=L:=by rw [hF,hL]
    cases ho:p.o with
    | nil=>
      have hu:=Jdj (tb.ok _ _ hT) rfl
      obtain ⟨ti,u,zv,i1,i2,i3,i4⟩:=Jc6 (tb.ok _ _ hE)
      have e1:execOp ρ ⟨dst,.call ⟨.builtin .append,#[x,y],#[T,T]⟩,ty,pos,after,guard⟩=(do pure (.value (← Builtin.append_ #[T,T] ty #[ρ x,ρ y]))):=by
        simp [execOp,resolve,invoke,builtin]
      have hr:=Jix w T ty e ti hu i1 xs.a xs.cap
      have hpl:p.l=[]:=by
        have hok':=hok
        rw [OwL.ok,ho] at hok'
        exact List.eq_nil_of_length_eq_zero hok'.1
      have hxn:ρ x=.slice none 0 0:=by rw [hx,OwL.val,ho,hpl];rfl
      refine Jde (w':=w) (v:=.slice none 0 0) ?_ (kk _ _ _ w ⟨.nil,by rw [hnil,hpl];rfl,by rw [hnil,hpl];exact ⟨rfl,rfl⟩,?_,rfl⟩ hst)
      · rw [e1, hxn, hy']
        simp only [Sem.run_bind,hr,Result.andThen_ok,Sem.run_pure]
      · rw [← hsame,hnil,List.append_nil,← ho]
    | own g cap spare=>
      have hcap:p.l.length≤cap:=by
        have hok':=hok
        rw [OwL.ok,ho] at hok'
        exact hok'.2.1
      have hxo:ρ x=.slice (some ⟨g,0,none⟩) p.l.length cap:=by rw [hx,OwL.val,ho];rfl
      refine Jlu (L:=L) (R:=R) (dst:=dst) (ty:=ty) (pos:=pos) (after:=after) (guard:=guard) tb hT hE hxo hy' hcap c w hst ac next Q ?_
      rintro v L' R' w' ⟨rfl,rfl,rfl⟩ hst'
      rw [hnil,List.append_nil] at kk
      exact kk _ _ _ w' ⟨p.o,by rw [OwL.val,ho];rfl,hok,hsame,rfl⟩ hst'
  · have hsh := Jzd (L := L) hR h0 hz hst
    rw [← hy] at hsh
    subst hL
    refine Jgu (dst:=dst) (ty:=ty) (pos:=pos) (after:=after) (guard:=guard) tb hT hE hn2 hx' hok (Ju8 A _ B) hsh hz (Jsd h1 _) (by omega) hb1 c w hst ac next Q ?_
    rintro v L' R' w' ⟨g,cap,spare,rfl,hok',rfl,rfl⟩ hst'
    have e:p.l.flatMap f ++ xs.l.flatMap f=(p.l ++ xs.l).flatMap f:=by simp
    rw [e] at hok'
    have hl:(p.l ++ xs.l).length=p.l.length + xs.l.length:=by simp
    refine kk _ _ _ w' ⟨.own g cap spare,?_,?_,?_,rfl⟩ hst'
    · rw [OwL.val];dsimp only;rw [hl];rfl
    · rw [OwL.ok];dsimp only;rw [hl];exact hok'
    · rw [hF,OwL.L];dsimp only;rw [← e]
end
end Go.Proofs.YtihompplndcdeaaGreat
end
