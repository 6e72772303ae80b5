/-
  Texts of one chapter, merged. By an AI agent; no person has read it.
-/
import Derived.Test.YtchfclmokpbldaaGreatSiteD
import Derived.Test.YtchfclmokpbldaaGreatFits
import Derived.Test.YtchfclmokpbldaaGreatAppR
import Derived.Test.YtchfclmokpbldaaGreatStatM
set_option linter.unusedVariables false
set_option linter.unusedSimpArgs false
set_option maxRecDepth 20000
namespace Go.Proofs.YtchfclmokpbldaaGreat
open Go.Aw Go
section
theorem Ufd {P : Program} {ρ : Operand → Value} {L : List Blk} {R : List Sl} {dst : Option Tmp} {ty : TypeId} {pos : String} {after : Array Edge} {guard : Option (Nat × Bool)} (tb : Tabs P) {T : TypeId} {x y : Operand} {k : IntKind} {len cap m : Nat} {h : Int} {ar : Option Addr} {e n1 fl bt z k2 n2 fl2 bt2 z2}
    (hT:V0 tb.tab T=some ⟨.slice e,n1,fl,bt,z⟩) (hE:V0 tb.tab e=some ⟨k2,n2,fl2,bt2,z2⟩) (hx:ρ x=.slice ar len cap) (hy:ρ y=.int k h) (hh:h=(m:Int)) (h1:1≤m) (hn:m≤len):
    YV P ⟨dst,.slice T x (some y) none none,ty,pos,after,guard⟩ ρ L R (.slice (if cap=m then ar else ar.map (·.add (m * n2))) (len - m) (cap - m)):=fun _ w _=>by
  have hu:=Ut (tb.ok _ _ hT) rfl
  have he:P.elem T=e:=by simp [Program.elem,hu]
  have hu':P.underlying T=some (.slice (P.elem T)):=by rw [he];exact hu
  have hs:=Go.Aw.run_sizeOf (tb.ok _ _ hE) w
  simp only at hs
  subst hh
  have h1:=run_slice_l (P:=P) w T ar len cap hu' k (m:Int) za za
  rw [he,hs,Result.andThen_ok,Int.toNat_natCast] at h1
  simp [execOp,hx,hy,run_sliceAt_slice w T _ _ _ _ hu',h1,sliced]
theorem V0c {w:World} {G:Nat→Prop} {wd len cap m:Nat} {a:Option Addr} {rows:List (List Value)} {subs:List Sl} (h:Rep w G (.mk wd a len cap rows subs)) (h1:1≤m) (hk:m≤len) (hp:0 < wd):Rep w G (.mk wd (if cap=m then a else a.map (·.add (m * wd))) (len - m) (cap - m) (rows.drop m) subs):=by
  cases h with
  | mk hl hc hm hw hr hs=>
    refine .mk zD za za (fun r hr=>hw r (List.mem_of_mem_drop hr)) ?_ hs
    rcases Nat.lt_or_ge m len with h2 | h2
    · rcases hr with h0 | ⟨b, off, ha, hg, Jkb⟩
      · exact .inl (by rw [h0];simp)
      · have hmw : 0 < m * wd := Nat.mul_pos h1 hp
        refine .inr ⟨b,off + m * wd,by rw [if_neg za,ha,Option.map_some,Addr.add,if_neg za],hg,fun i j hi hj=>?_⟩
        have:=Jkb (i + m) j za hj
        have e:off + m * wd + i * wd + j=off + (i + m) * wd + j:=by rw [Nat.add_mul];omega
        rw [List.getElem?_drop,Nat.add_comm m i,← this,e]
    · exact .inl (List.drop_eq_nil_of_le za)
abbrev Yp {α:Type} (y:Arr α) (m wd:Nat):Arr α:=⟨if y.cap=m then y.a else y.a.map (·.add (m * wd)),y.cap - m,y.l.drop m⟩
abbrev Zqa {α:Type} (y:Arr α) (m:Nat):Arr α:=⟨y.a,y.cap,y.l.take m⟩
theorem Yfa {α:Type} {P n code t L R} {Q:Kp} {wd m:Nat} {f:α→List Value} {subs:List Sl} {y:Arr α} (hR:InR (y.sl wd f subs) R) (h1:1≤m) (hk:m≤y.l.length) (hp:0 < wd) (h:CJ P n code t L ((Yp y m wd).sl wd f subs :: R) Q):CJ P n code t L R Q:=by
  refine Zec (s:=(Yp y m wd).sl wd f subs) (fun w G hh=>?_) h
  obtain ⟨r,hr,hs⟩:=hR
  have h2:=V0c ((hh r hr).sub hs) h1 hk hp
  have e1:y.l.length - m=(y.l.drop m).length:=by rw [List.length_drop]
  have e2:(y.l.map f).drop m=(y.l.drop m).map f:=by rw [List.map_drop]
  rw [e1,e2] at h2
  exact h2
section
variable {P:Program} {ρ:Operand→Value} {L:List Blk} {R:List Sl} {dst:Option Tmp} {ty:TypeId} {pos:String} {after:Array Edge} {guard:Option (Nat×Bool)} (tb:Tabs P) {T:TypeId} {x y:Operand}
theorem Zid {α:Type} {f:α→List Value} {xs:Arr α} {n2:Nat} {subs:List Sl} (hR:InR (xs.sl n2 f subs) R) (h0:0 < n2) (hx0:0 < xs.l.length) {c:Ctx} {w:World} (hst:St c L R w):Vqd L R xs.val xs.l.length n2 (xs.l.flatMap f):=by
  obtain ⟨ar,cap,l⟩:=xs
  dsimp only at hR hx0 ⊢
  have hw:∀r∈l.map f,r.length=n2:=by
    have hst':=hst
    obtain ⟨⟨G,hh,_⟩,_,_⟩:=hst'
    obtain ⟨r,hr,hsub⟩:=hR
    have hrep:=(hh.rep r hr).sub hsub
    cases hrep with
    | mk _ _ _ hw _ _=>exact hw
  have hf0:(l.map f).flatten=l.flatMap f:=Jeb _
  have hfl:(l.map f).flatten.length=l.length * n2:=by rw [Jyd hw,List.length_map]
  have hsx:=Kqd (L:=L) hR h0 (fun c w hst=>by
    obtain ⟨⟨G,hh,_⟩,_,_⟩:=hst
    obtain ⟨r,hr,hsub⟩:=hR
    have hrep:=(hh.rep r hr).sub hsub
    cases hrep with
    | mk _ _ _ _ hm _=>
      rcases hm with h | ⟨b,off,ha,_⟩
      · have h' := congrArg List.length h
        simp at h'
        rw [h'] at hx0
        simp at hx0
      · exact ⟨b,off,ha⟩) hfl ⟨c,w,hst⟩
  rw [hf0] at hsx
  exact hsx
theorem Yo {α : Type} {e n fl bt z k2 n2 fl2 bt2 z2} {f : α → List Value} (p : OwL α) (xs : Arr α) {subs : List Sl} {F : OwL α → List Blk} (hT : V0 tb.tab T = some ⟨.slice e, n, fl, bt, z⟩) (hE : V0 tb.tab e = some ⟨k2, n2, fl2, bt2, z2⟩) (hn2 : z2.length = n2) (h0 : 0 < n2)
    (hx:ρ x=p.val) (hy:ρ y=xs.val) (hok:p.ok n2 f) (hR:InR (xs.sl n2 f subs) R) (hseg:OSeg e f p L F) (h1:∀x,(f x).all (·.oneCell')=true) (hby:(p.l.length + xs.l.length) * (bt2 + 1)≤140737488355328):
    Gives P ⟨dst,.call ⟨.builtin .append,#[x,y],#[T,T]⟩,ty,pos,after,guard⟩ ρ L R (fun v L' R'=>∃o:Ow,v=(⟨o,p.l ++ xs.l⟩:OwL α).val∧(⟨o,p.l ++ xs.l⟩:OwL α).ok n2 f∧F ⟨o,p.l ++ xs.l⟩=L'∧R=R'):=by
  obtain ⟨A,B,hL,hF⟩:=hseg.split
  intro c w hst ac next Q kk
  have hb1:(p.l.length + xs.l.length) * bt2≤140737488355328:=Nat.le_trans (Nat.mul_le_mul_left _ (Nat.le_succ _)) hby
  have hb2:p.l.length + xs.l.length≤140737488355328:=Nat.le_trans (Nat.le_mul_of_pos_right _ (Nat.succ_pos _)) hby
  have hx':ρ x=p.o.val p.l.length:=by rw [hx,Ow.val_of_ok hok];rfl
  rcases Nat.eq_zero_or_pos xs.l.length with hz | hz
  · have hnil : xs.l = [] := List.eq_nil_of_length_eq_zero hz
    have hy':ρ y=.slice xs.a 0 xs.cap:=by rw [hy,Arr.val,hz]
    have hsame:F p=L:=by rw [hF,hL]
    cases ho:p.o with
    | nil=>
      have hu:=Ut (tb.ok _ _ hT) rfl
      obtain ⟨ti,u,zv,i1,i2,i3,i4⟩:=U4 (tb.ok _ _ hE)
      have e1:execOp ρ ⟨dst,.call ⟨.builtin .append,#[x,y],#[T,T]⟩,ty,pos,after,guard⟩=(do pure (.value (← Builtin.append_ #[T,T] ty #[ρ x,ρ y]))):=by
        simp [execOp,resolve,invoke,builtin]
      have hr:=V2a w T ty e ti hu i1 xs.a xs.cap
      have hpl:p.l=[]:=by
        have hok':=hok
        rw [OwL.ok,ho] at hok'
        exact List.eq_nil_of_length_eq_zero hok'.1
      have hxn:ρ x=.slice none 0 0:=by rw [hx,OwL.val,ho,hpl];rfl
      refine Vq (w':=w) (v:=.slice none 0 0) ?_ (kk _ _ _ w ⟨.nil,by rw [hnil,hpl];rfl,by rw [hnil,hpl];exact ⟨rfl,rfl⟩,?_,rfl⟩ hst)
      · rw [e1, hxn, hy']
        simp only [Sem.run_bind,hr,Result.andThen_ok,Sem.run_pure]
      · rw [← hsame,hnil,List.append_nil,← ho]
    | own g cap spare=>
      have hcap:p.l.length≤cap:=by
        have hok':=hok
        rw [OwL.ok,ho] at hok'
        exact hok'.2.1
      have hxo:ρ x=.slice (some ⟨g,0,none⟩) p.l.length cap:=by rw [hx,OwL.val,ho];rfl
      refine Koc (L:=L) (R:=R) (dst:=dst) (ty:=ty) (pos:=pos) (after:=after) (guard:=guard) tb hT hE hxo hy' hcap c w hst ac next Q ?_
      rintro v L' R' w' ⟨rfl,rfl,rfl⟩ hst'
      rw [hnil,List.append_nil] at kk
      exact kk _ _ _ w' ⟨p.o,by rw [OwL.val,ho];rfl,hok,hsame,rfl⟩ hst'
  · have hsh := Zid (L := L) hR h0 hz hst
    rw [← hy] at hsh
    subst hL
    refine Vua (dst:=dst) (ty:=ty) (pos:=pos) (after:=after) (guard:=guard) tb hT hE hn2 hx' hok (Z6d A _ B) hsh hz (J3d h1 _) za hb1 c w hst ac next Q ?_
    rintro v L' R' w' ⟨g,cap,spare,rfl,hok',rfl,rfl⟩ hst'
    have e:p.l.flatMap f ++ xs.l.flatMap f=(p.l ++ xs.l).flatMap f:=by simp
    rw [e] at hok'
    have hl:(p.l ++ xs.l).length=p.l.length + xs.l.length:=by simp
    refine kk _ _ _ w' ⟨.own g cap spare,?_,?_,?_,rfl⟩ hst'
    · rw [OwL.val];dsimp only;rw [hl];rfl
    · rw [OwL.ok];dsimp only;rw [hl];exact hok'
    · rw [hF,OwL.L];dsimp only;rw [← e]
end
end
section
section
variable {P:Program} {ρ:Operand→Value} {L:List Blk} {R:List Sl} {dst:Option Tmp} {ty:TypeId} {pos:String} {after:Array Edge} {guard:Option (Nat×Bool)} (tb:Tabs P) {T:TypeId} {x y z:Operand}
theorem Kbb {α:Type} {u:Arr α} {m wd:Nat} {h:Int} {k:IntKind} {e n1 fl bt z k2 n2 fl2 bt2 z2} (hT:V0 tb.tab T=some ⟨.slice e,n1,fl,bt,z⟩) (hE:V0 tb.tab e=some ⟨k2,n2,fl2,bt2,z2⟩) (hx:ρ x=u.val) (hy:ρ y=.int k h) (hh:h=(m:Int)) (h1:1≤m) (hn:m≤u.l.length) (hw:n2=wd):
    YV P ⟨dst,.slice T x (some y) none none,ty,pos,after,guard⟩ ρ L R (Yp u m wd).val:=by
  have h2:=Ufd (ρ:=ρ) (L:=L) (R:=R) (dst:=dst) (ty:=ty) (pos:=pos) (after:=after) (guard:=guard) tb hT hE hx hy hh h1 hn
  subst hw
  rw [Arr.val,List.length_drop];exact h2
theorem Jte {α:Type} {u:Arr α} {m q wd:Nat} {h l:Int} {k k3:IntKind} {e n1 fl bt zz k2 n2 fl2 bt2 z2} (hT:V0 tb.tab T=some ⟨.slice e,n1,fl,bt,zz⟩) (hE:V0 tb.tab e=some ⟨k2,n2,fl2,bt2,z2⟩) (hx:ρ x=u.val) (hy:ρ y=.int k l) (hz:ρ z=.int k3 h) (hl:l=(m:Int)) (hh:h=(m:Int) + (q:Int)) (h1:1≤m) (hn:m + q≤u.l.length) (hc:u.l.length≤u.cap) (hw:n2=wd):
    YV P ⟨dst,.slice T x (some y) (some z) none,ty,pos,after,guard⟩ ρ L R (Zqa (Yp u m wd) q).val:=fun _ w _=>by
  subst hw
  subst hl
  have hu:=Ut (tb.ok _ _ hT) rfl
  have he:P.elem T=e:=by simp [Program.elem,hu]
  have hu':P.underlying T=some (.slice (P.elem T)):=by rw [he];exact hu
  have hs:=Go.Aw.run_sizeOf (tb.ok _ _ hE) w
  simp only at hs
  have h3:=run_slice_lh (P:=P) w T u.a u.l.length u.cap hu' k k3 (m:Int) h za za za
  have e1:h.toNat - m=q:=by omega
  have e2:((u.l.drop m).take q).length=q:=by rw [List.length_take,List.length_drop];omega
  rw [he,hs,Result.andThen_ok,Int.toNat_natCast] at h3
  rw [Arr.val,Zqa,Yp,e2]
  simp [execOp,hx,hy,hz,run_sliceAt_slice w T _ _ _ _ hu',h3,sliced,e1]
end
theorem Yld {α:Type} {P n code t L R} {Q:Kp} {wd:Nat} {f:α→List Value} {subs:List Sl} {y:Arr α} (hR:InR (y.sl wd f subs) R) (h:y.l.length≤y.cap→CJ P n code t L R Q):CJ P n code t L R Q:=fun c a w hf hs=>by
  have hcap:y.l.length≤y.cap:=by
    have hst':=hs
    obtain ⟨⟨G,hh,_⟩,_,_⟩:=hst'
    obtain ⟨r,hr,hsub⟩:=hR
    have hrep:=(hh.rep r hr).sub hsub
    cases hrep with
    | mk _ hc _ _ _ _=>exact hc
  exact h hcap c a w hf hs
theorem Yid {α:Type} {P n code t L R} {Q:Kp} {wd m:Nat} {f:α→List Value} {subs:List Sl} {y:Arr α} (q:Nat) (hR:InR (y.sl wd f subs) R) (h1:1≤m) (hk:m≤y.l.length) (hp:0 < wd) (h:CJ P n code t L ((Zqa (Yp y m wd) q).sl wd f subs :: R) Q):CJ P n code t L R Q:=by
  refine Yfa hR h1 hk hp ?_
  refine Ukb q zpb ?_
  exact U2 (List.Sublist.refl _) (fun r hr=>by
    rcases List.mem_cons.1 hr with h | h
    · exact Ja (by rw [h];exact .head _)
    · exact Ja (.tail _ (.tail _ h))) h
end
section
section
variable {A9 B9:Prop}
theorem K9f (a:A9) (h:A9→B9:=by exact Kv zkb rfl rfl rfl):B9:=h a
end
theorem Tri.pperm {P:Program} {f:FuncId} {args:Array Value} {L:List Blk} {R:List Sl} {Post Post':Yn} (h:Tri P f args L R Post) (k:∀v L' R',Post v L' R'→∃L'',L'.Perm L''∧Post' v L'' R'):Tri P f args L R Post':=
  ⟨h.1,fun w G hh=>(h.2 w G hh).mono fun _ _ ⟨v,L',R',e,p,s⟩=>let ⟨L'',hp,p'⟩:=k v L' R' p;⟨v,L'',R',e,p',s.perm hp⟩⟩
attribute [local irreducible] CJ LJ DJ Tri YV Gives Ui J0 Ke Uh RV J2 OwL.L
theorem Jda (x:XSta) (pl:OwL XEntry) (b:Nat) (k z u:Int) (L:List Blk) (R:List Sl) (hk:pl.ok 4 XEntry.cells) (hn:pl.l.length≤400):
    Tri Tryz.prog 85 [.pointer (some ⟨b, 0, none⟩), .int .i64 k, .int .i64 z, .int .i64 u].toArray (⟨b, ({x with log := pl.arr} : XSta).cells, 54⟩ :: (pl.L 150 XEntry.cells ++ L)) R
      (fun v L' R'=>∃q:OwL XEntry,q.ok 4 XEntry.cells∧q.l=Vta pl.l ⟨x.time,k,z,u⟩∧⟨b,({x with log:=q.arr}:XSta).cells,54⟩ :: (q.L 150 XEntry.cells ++ L)=L'∧R=R'):=by
  refine Tri.pperm (Post:=fun v L' R'=>∃q:OwL XEntry,q.ok 4 XEntry.cells∧q.l=Vta pl.l ⟨x.time,k,z,u⟩∧(⟨b,({x with log:=q.arr}:XSta).cells,54⟩ :: (q.L 150 XEntry.cells ++ L)=L'∨q.L 150 XEntry.cells ++ (⟨b,({x with log:=q.arr}:XSta).cells,54⟩ :: L)=L')∧R=R') ?_ (fun v L' R' ⟨q,h1,h2,h3,h4⟩=>⟨_,by
    rcases h3 with rfl | rfl
    · exact List.Perm.refl _
    · exact List.perm_middle,q,h1,h2,rfl,h4⟩)
  refine Jg 44 Tryz.call85 Tryz.func85 rfl rfl rfl ?_
  refine Jn ?_
  refine Kj tb [9] [0,1,2,3,4,5,6,7,8,9,10,11,12,13] [14,15,16,17] (_) _ K1 ze zi (List.nil_sublist _) ?_
  refine V8 (Jy zGb) rfl rfl rfl rfl ?_
  refine qb3 ?_
  refine Kx zIb rfl rfl rfl rfl ?_
  refine Xar ?_
  refine qb3 ?_
  refine Kx zIb rfl rfl rfl rfl ?_
  refine Xar ?_
  iterate 3 refine qbf ?_
  refine Kx (Kb (qs:=[(0,(Value.int _ _).cells.toList),(1,(Value.int _ _).cells.toList),(2,(Value.int _ _).cells.toList),(3,(Value.int _ _).cells.toList)]) (out:=[_,_,_,_]) tb rfl rfl rfl rfl) rfl rfl rfl rfl ?_
  refine Y6c zvb rfl rfl rfl ?_
  rintro v L' R' ⟨b22,rfl,rfl,hR22⟩
  replace hR22:=hR22.symm;subst hR22
  refine Xcz ?_
  refine Yjb (J8 (f:=XEntry.cells) (p:=pl) (a:=⟨x.time,k,z,u⟩) tb rfl rfl rfl rfl (hk) zj zsb rfl zy) rfl rfl rfl ?_
  rintro v L' R' ⟨o23,rfl,hok23,rfl,rfl⟩
  refine qa1 ?_
  refine qcb ?_
  refine Xc0 ?_
  refine qb9 ?_
  have hql:(⟨o23,pl.l ++ [⟨x.time,k,z,u⟩]⟩:OwL XEntry).l.length=pl.l.length + 1:=by simp
  have hqe:(pl.l ++ [(⟨x.time,k,z,u⟩:XEntry)]).length=pl.l.length + 1:=by simp
  refine qay ?_
  refine qa6 ?_
  refine Jx zIb rfl ?_
  refine Xac ?_
  refine qa9 ?_
  refine Xat ?_
  refine qa5 ?_
  refine qaf ?_
  refine q_c (fun hc0=>?_) (fun hc0=>?_)
  ·
   obtain ⟨p1,hp1⟩:∃p1:OwL XEntry,p1=⟨o23,pl.l ++ [⟨x.time,k,z,u⟩]⟩:=⟨_,rfl⟩
   have hpl2:(pl.l ++ [(⟨x.time,k,z,u⟩:XEntry)]).length=p1.l.length:=by rw [hp1]
   rw [← hp1] at hok23 hql ⊢
   refine Kd (T:=150) (f:=XEntry.cells) (wd:=4) p1 [] zj (fun _=>rfl) zc hok23 (fun s hs=>by cases hs) ?_
   refine Uv zp ?_
   refine Yfa (y:=p1.arr) (m:=p1.l.length - 400) zpb za (by show p1.l.length - 400≤p1.l.length;omega) zc ?_
   have hdn:(Yp p1.arr (p1.l.length - 400) 4).l.length≤1000:=by show (p1.l.drop _).length≤_;rw [List.length_drop];omega
   refine qay ?_
   refine qa6 ?_
   refine qa6 ?_
   refine Jx zIb rfl ?_
   refine Xam ?_
   refine Jx (Kbb (m:=p1.l.length - 400) (wd:=4) (u:=p1.arr) tb rfl rfl rfl rfl za za (by show p1.l.length - 400≤p1.l.length;omega) rfl) rfl ?_
   refine Y9 (Km (f:=XEntry.cells) (xs:=Yp p1.arr (p1.l.length - 400) 4) tb rfl rfl rfl zc rfl rfl ((Ja (.head _))) (fun _=>rfl) za) rfl ?_
   rintro v L' R' ⟨o41,rfl,hok41,rfl,rfl⟩
   refine Jx zIb rfl ?_
   refine Xbp ?_
   refine qav ?_
   refine J6a (L':=(⟨o41,p1.l.drop (p1.l.length - 400)⟩:OwL XEntry).L 150 XEntry.cells ++ (⟨b,({x with log:=(⟨o41,p1.l.drop (p1.l.length - 400)⟩:OwL XEntry).arr}:XSta).cells,54⟩ :: L)) (R':=R) (Jrf rfl) ?hp ?hL ?hR
   case hp=>exact ⟨⟨o41,p1.l.drop (p1.l.length - 400)⟩,hok41,by show p1.l.drop _=_;rw [Vta,hql,hp1],.inr rfl,rfl⟩
   case hL=>exact zi
   case hR=>exact fun r hr=>Ja (.tail _ (.tail _ hr))
  refine J5 ?_
  refine J6a (L':=⟨b,({x with log:=(⟨o23,pl.l ++ [⟨x.time,k,z,u⟩]⟩:OwL XEntry).arr}:XSta).cells,54⟩ :: ((⟨o23,pl.l ++ [⟨x.time,k,z,u⟩]⟩:OwL XEntry).L 150 XEntry.cells ++ L)) (R':=R) (Jrf rfl) ?hp ?hL ?hR
  case hp=>exact ⟨⟨o23,pl.l ++ [⟨x.time,k,z,u⟩]⟩,hok23,by rw [Vta,show pl.l.length + 1 - 400=0 by omega,List.drop_zero],.inl rfl,rfl⟩
  case hL=>exact zi
  case hR=>exact Jc _
theorem StaIs.note {g:PSite} {p:PSta} {x:XSta} (h:StaIs g p x) {l:Arr XEntry} {k z u:Int} (hl:l.l=Vta x.log.l ⟨x.time,k,z,u⟩):StaIs g (Yi p k z u) ({x with log:=l}:XSta):={ h with log:=by rw [Yi,← h.log,← h.time];exact hl }
theorem Jaa (x:XSta) (t:Int) (L:List Blk) (R:List Sl):
    Tri Tryz.prog 81 [x.val,.int .i64 t].toArray L R (fun v L' R'=>v=.bool (decide (t < x.time∨2147483648 < t))∧L=L'∧R=R'):=by
  refine Jg 13 Tryz.call81 Tryz.func81 rfl rfl rfl ?_
  refine Xag ?_
  intro b2
  refine qaz ?_
  refine Xde ?_
  refine Xbg ?_
  apply J9 (G:=[_,_]) (j:=4) (cj:=9) rfl rfl zb rfl zdb rfl
  ·
   intro hg5
   replace hg5:=qb hg5
   refine Xbz ?_
   exact qai
  intro junk5
  refine Xba ?_
  refine q_b (L':=L) (R':=R) ?_
  exact ⟨by refine congrArg Value.bool ?_;rw [Bool.eq_iff_iff];simp,rfl,rfl⟩
def Zvd (x:XSwitch):Bool:=!x.closed || decide (x.shown= -1)
theorem Vub {l:List Int} {f:Int→Bool} (h:∀j:Nat,j < l.length→f (l.getD j 0)=false):l.any f=false:=by
  rw [List.any_eq_false]
  intro y hy
  obtain ⟨j,hj,rfl⟩:=List.getElem_of_mem hy
  have:=h j hj
  rw [List.getD_eq_getElem?_getD,List.getElem?_eq_getElem hj] at this
  rw [show (some l[j]).getD 0=l[j] from rfl] at this
  rw [this];decide
theorem Upe (f:XFeeder) (z:Int) (L:List Blk) (R:List Sl) (hf:FeederR f R) (hfe:feedE f.switches.l f.zones.l f.reply=0) (hz:0≤z∧z < f.zones.l.length):
    Tri Tryz.prog 159 [f.val,.int .i64 z].toArray L R (fun v L' R'=>v=.bool ((V1a f.switches.l f.zones.l f.reply (f.zones.l.getD z.toNat 0)).any fun k=>Zvd (f.switches.l.getD k.toNat default))∧L=L'∧R=R'):=by
  have hsR:=hf.sw
  have hzR:=hf.zn
  have hzg:=Jw (l:=f.zones.l) (k:=z.toNat) 0 za
  refine Jg 34 Tryz.call159 Tryz.func159 rfl rfl rfl ?_
  refine Xag ?_
  intro b2
  refine qaz ?_
  refine qco ?_
  refine Kn tb [0,1,2,3,4,5,8,6,7] _ K1 ze (List.Sublist.refl _) ?_
  refine K9f ?_
  refine Xb1 ?_
  refine Kv zFa rfl rfl rfl ?_
  refine qbl ?_
  refine qao ?_
  refine Yt rfl (Jrc f (f.zones.l.getD z.toNat 0) _ _ hf) rfl rfl ?_
  rintro v L' R' ⟨q,rfl,hqk,hql,rfl,rfl⟩
  refine ⟨zi,zw,?_⟩
  refine Kv ztb rfl rfl rfl ?_
  refine J1 (Jb (Kg ?_))
  refine Jo [(2,Value.pointer _),(14,Value.slice _ _ _),(15,Value.int _ _),(16,Value.int _ _)] zg fun tq0=>?_
  have hqm:∀y∈q.l,0≤y∧y < f.switches.l.length:=fun y hy=>by
    have:=Yab (sw:=f.switches.l) (zn:=f.zones.l) (rp:=f.reply) (s:=f.zones.l.getD z.toNat 0) (x:=y) (by rw [← hql];exact hy)
    omega
  refine Kd (T:=3) (f:=Jp) (wd:=1) q [] zj (fun _=>rfl) zc hqk (fun s hs=>by cases hs) ?_
  refine Uv zp ?_
  have hqR:InR (isl q.arr) (isl q.arr :: R):=Ja (.head _)
  have hqn:q.l.length≤32:=by rw [hql];exact Vtc
  have hsR2:=hsR.mono fun r hr=>Ja (R:=isl q.arr :: R) (.tail _ hr)
  refine q_s [4,6,7,16,17,18,19,20,21,22,23,24,25,26,27,28,29,30,31,32,33] (fun g:{k:Nat // k≤q.l.length∧∀j:Nat,j < k→Zvd (f.switches.l.getD (q.l.getD j 0).toNat default)=false}=>[(16,.int .i64 ((g.1:Nat):Int))]) (fun g=>q.l.length - g.1) (⟨0,by omega,fun j hj=>by omega⟩) ?_
  rintro ⟨k,hk,hal⟩ junk
  try dsimp only
  refine Xak ?_
  refine q_c (fun hc0=>?_) (fun hc0=>?_)
  ·
   have hqg:=Jw (l:=q.l) (k:=k) 0 za
   have hqr:=hqm _ (List.mem_of_getElem? hqg)
   have hsg:=Jw (l:=f.switches.l) (k:=(q.l.getD k 0).toNat) default za
   refine qbb ?_
   refine Jx zB rfl ?_
   refine qa7 ?_
   refine Xaf ?_
   refine Xam ?_
   refine Jx zUa rfl ?_
   refine qdw ?_
   refine qaq ?_
   intro b7
   refine Xb2 ?_
   refine Xcc ?_
   apply J9 (G:=[_,_,_]) (j:=3) (cj:=28) rfl rfl zb rfl zdb rfl
   ·
    exact zBd
   intro junk4
   refine qaf ?_
   refine q_c (fun hc1=>?_) (fun hc1=>?_)
   ·
    refine Xbb ?_
    refine qbt ?_
    refine Ks (L':=L) (R':=R) (Ya rfl zHc) ?hp ?hL ?hR
    case hp=>exact ⟨by rw [← hql,List.any_eq_true.2 ⟨_,List.mem_of_getElem? hqg,by rw [Zvd];simpa using hc1⟩],rfl,rfl⟩
    case hL=>exact zi
    case hR=>exact fun r hr=>Ja (.tail _ hr)
   refine Xax ?_
   exact Kf ⟨k + 1,by omega,fun j hj=>by
   rcases Nat.lt_or_ge j k with h | h
   · exact hal j h
   · obtain rfl : j = k := by omega
     rw [Zvd];simpa using hc1⟩ zm zg zi zqb zx
  refine qbk ?_
  refine Xba ?_
  refine Ks (L':=L) (R':=R) (Ya rfl zHc) ?hp ?hL ?hR
  case hp=>exact ⟨by rw [← hql,Vub fun j hj=>hal j za],rfl,rfl⟩
  case hL=>exact zi
  case hR=>exact fun r hr=>Ja (.tail _ hr)
theorem Z4d (g:PSite) (p:PSta) (x:XSta) (pc:OwL XCut) (pl:OwL XEntry) (b:Nat) (z:Int) (L:List Blk) (R:List Sl) (hI:Inv g p) (hx:StaIs g p ({x with cuts:=pc.arr,log:=pl.arr}:XSta)) (hf:FeederR x.feeder R) (hck:pc.ok 3 XCut.cells) (hlk:pl.ok 4 XEntry.cells) (hz:0≤z∧z < p.cuts.length):
    Tri Tryz.prog 156 [.pointer (some ⟨b, 0, none⟩), .int .i64 z].toArray (⟨b, ({x with cuts := pc.arr, log := pl.arr} : XSta).cells, 54⟩ :: (pl.L 150 XEntry.cells ++ (pc.L 71 XCut.cells ++ L))) R
      (fun v L' R'=>∃(f:XFeeder) (q:OwL XEntry) (S:List Sl),q.ok 4 XEntry.cells∧StaIs g (K3b g p z) ({x with cuts:=pc.arr,feeder:=f,log:=q.arr}:XSta)∧FeederR f (S ++ R)∧⟨b,({x with cuts:=pc.arr,feeder:=f,log:=q.arr}:XSta).cells,54⟩ :: (q.L 150 XEntry.cells ++ (pc.L 71 XCut.cells ++ L))=L'∧S ++ R=R'):=by
  have hcl:pc.l=p.cuts:=hx.cuts
  have hll:pl.l=p.log:=hx.log
  have hln:=hI.log
  have hzn:x.feeder.zones.l=g.zn:=hx.zn
  have hsw:x.feeder.switches.l=p.sw:=hx.sw
  have hrp:x.feeder.reply=g.rp:=hx.rp
  have htm:x.time=p.time:=hx.time
  have hzl:=hI.zlen
  have hcl2:=hI.clen
  have hfo:=hI.fok
  have hcb:z.toNat < pc.l.length:=by rw [hcl];omega
  have hzb:z.toNat < x.feeder.zones.l.length:=by rw [hzn];omega
  have hcg:=Jw (l:=pc.l) (k:=z.toNat) default hcb
  have hzg:=Jw (l:=x.feeder.zones.l) (k:=z.toNat) 0 hzb
  have hzr:=hfo.zr z.toNat za
  rw [← hzn,← hsw] at hzr
  obtain ⟨s,hs⟩:∃s,s=x.feeder.zones.l.getD z.toNat 0:=⟨_,rfl⟩
  rw [← hs] at hzg hzr
  have hsg:=Jw (l:=x.feeder.switches.l) (k:=s.toNat) default za
  obtain ⟨y,hy⟩:∃y,y=x.feeder.switches.l.getD s.toNat default:=⟨_,rfl⟩
  rw [← hy] at hsg
  obtain ⟨c,hc⟩:∃c,c=pc.l.getD z.toNat default:=⟨_,rfl⟩
  rw [← hc] at hcg
  have hcan:Jpc x.feeder.switches.l x.feeder.zones.l x.feeder.reply s x.time=0:=by
    rw [hzn,hsw,hrp,htm,Jpc,if_neg (by rw [hI.fe];decide),if_neg (by rw [hsw] at hzr;omega),if_pos hI.tok]
  have hsR:=hf.sw
  have hzR:=hf.zn
  dsimp only [XSta.cells]
  refine Jg 59 Tryz.call156 Tryz.func156 rfl rfl rfl ?_
  refine qae ?_
  refine Xdf ?_
  refine qa6 ?_
  refine Jx zIb rfl ?_
  refine Xam ?_
  refine Jx (Ju tb (pc) _ rfl rfl rfl rfl zh (i:=z.toNat) zk zu) rfl ?_
  refine qb0 ?_
  refine Jx (Kk tb (pc) rfl rfl rfl zj zh (fun _=>rfl) zh zb) rfl ?_
  refine Js rfl (Jda {x with cuts:=pc.arr} pl b 1 z c.reason _ _ hlk (by rw [hll];exact hln)) rfl ?_
  rintro v L' R' ⟨q,hqk,hql,rfl,rfl⟩
  dsimp only [XSta.cells]
  refine qam ?_
  refine qa6 ?_
  refine Jx zIb rfl ?_
  refine qab ?_
  refine Xam ?_
  refine Jx zFa rfl ?_
  refine qa7 ?_
  refine Xaf ?_
  refine qa6 ?_
  refine Jx zIb rfl ?_
  refine qab ?_
  refine Xam ?_
  refine Jx zGa rfl ?_
  refine Xbv ?_
  refine qaz ?_
  refine qa4 ?_
  refine Kn tb [0,1,2,3,4,5,6,7,8,9,10,11,12,13,14,15] _ K1 ze (List.Sublist.refl _) ?_
  refine Xbq ?_
  refine qal ?_
  refine K9f ?_
  refine qao ?_
  refine Xcr ?_
  refine Yt rfl (Kyb x.feeder s x.time _ _ hf) rfl rfl ?_
  rintro v L' R' ⟨pp,qq,rp,rfl,⟨hppk,hqqk⟩,hop,rfl,rfl⟩
  refine ⟨zi,zw,?_⟩
  refine Kv zDb rfl rfl rfl ?_
  refine Kv zNb rfl rfl rfl ?_
  refine Kv zNb rfl rfl rfl ?_
  refine qbr ?_
  intro b6
  refine Xdg ?_
  refine qc6 ?_
  refine qaa ?_
  refine Xaq ?_
  refine q_c (fun hc0=>?_) (fun hc0=>?_)
  ·
   exact absurd hcan hc0
  obtain ⟨hppl,hqql,rfl⟩:=hop hcan
  refine Kd (T:=76) (f:=XSwitch.cells) (wd:=5) pp [] zj (fun _=>rfl) zc hppk (fun s hs=>by cases hs) ?_
  refine Uv zp ?_
  refine Kd (T:=3) (f:=Jp) (wd:=1) qq [] zj (fun _=>rfl) zc hqqk (fun s hs=>by cases hs) ?_
  refine Uv zp ?_
  have hfR:FeederR ⟨pp.arr,qq.arr,x.feeder.reply⟩ ([isl qq.arr,Vhb pp.arr] ++ R):=⟨Ja (.tail _ (.head _)),Ja (.head _)⟩
  have hq0:q.l=(Yi p 1 z (p.cuts.getD z.toNat default).reason).log:=by rw [hql,Yi,← hll,← hcl,← hc,← htm]
  have hzs:g.zn.getD z.toNat 0=s:=by rw [hs,hzn]
  have hsy:p.sw.getD s.toNat default=y:=by rw [hy,hsw]
  have hpp:pp.l=Vl p.sw s p.time:=by rw [hppl,hsw,htm]
  refine qbv ?_
  refine qa6 ?_
  refine Jx zkb rfl ?_
  refine Jx zIb rfl ?_
  refine qab ?_
  refine Kca tb rfl rfl rfl rfl zA zb zb zb ?_
  refine qa4 ?_
  refine U2 (L':=⟨b,({x with cuts:=pc.arr,feeder:=⟨pp.arr,qq.arr,x.feeder.reply⟩,log:=q.arr}:XSta).cells,54⟩ :: (q.L 150 XEntry.cells ++ (pc.L 71 XCut.cells ++ L))) zi zqb ?_
  refine qay ?_
  refine qah ?_
  refine qaf ?_
  refine q_c (fun hc1=>?_) (fun hc1=>?_)
  ·
   refine qay ?_
   refine Xdf ?_
   refine Js rfl (Jda {x with cuts:=pc.arr,feeder:=⟨pp.arr,qq.arr,x.feeder.reply⟩} q b 2 s 0 _ _ hqk (by rw [hq0];exact (hI.note _ _ _).log)) rfl ?_
   rintro v L' R' ⟨q2,hq2k,hq2l,rfl,rfl⟩
   refine qav ?_
   refine J6a (L':=⟨b,({x with cuts:=pc.arr,feeder:=⟨pp.arr,qq.arr,x.feeder.reply⟩,log:=q2.arr}:XSta).cells,54⟩ :: (q2.L 150 XEntry.cells ++ (pc.L 71 XCut.cells ++ L))) (R':=[isl qq.arr,Vhb pp.arr] ++ R) (Jrf rfl) ?hp ?hL ?hR
   case hp=>
    have e:K3b g p z=Yi { Yi p 1 z (p.cuts.getD z.toNat default).reason with sw:=Vl p.sw s p.time } 2 s 0:=by rw [K3b,hzs,hsy,if_pos hc1]
    exact ⟨⟨pp.arr,qq.arr,x.feeder.reply⟩,q2,[isl qq.arr,Vhb pp.arr],hq2k,by
      rw [e]
      exact { hx with sw:=hpp,zn:=hqql.trans hzn,log:=by show q2.l=_;rw [hq2l,hq0,htm];rfl },hfR,rfl,rfl⟩
   case hL=>exact zi
   case hR=>exact Jc _
  refine J5 ?_
  refine J6a (L':=⟨b,({x with cuts:=pc.arr,feeder:=⟨pp.arr,qq.arr,x.feeder.reply⟩,log:=q.arr}:XSta).cells,54⟩ :: (q.L 150 XEntry.cells ++ (pc.L 71 XCut.cells ++ L))) (R':=[isl qq.arr,Vhb pp.arr] ++ R) (Jrf rfl) ?hp ?hL ?hR
  case hp=>
   have e:K3b g p z={ Yi p 1 z (p.cuts.getD z.toNat default).reason with sw:=Vl p.sw s p.time }:=by rw [K3b,hzs,hsy,if_neg (by rw [hc1];decide)]
   exact ⟨⟨pp.arr,qq.arr,x.feeder.reply⟩,q,[isl qq.arr,Vhb pp.arr],hqk,by
     rw [e]
     exact { hx with sw:=hpp,zn:=hqql.trans hzn,log:=hq0 },hfR,rfl,rfl⟩
  case hL=>exact zi
  case hR=>exact Jc _
end
end Go.Proofs.YtchfclmokpbldaaGreat
