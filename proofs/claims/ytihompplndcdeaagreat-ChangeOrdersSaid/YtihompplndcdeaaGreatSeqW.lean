import Derived.Test.YtihompplndcdeaaGreatApp0
import Derived.Test.YtihompplndcdeaaGreatBitS
section
/-
  Orders to doors; states that fit behind steps. By an AI agent; no person has read it.
-/
namespace Go.Proofs.YtihompplndcdeaaGreat
open Go.Aw Go
section
variable {A9 B9:Prop}
theorem J6p (a:A9) (h:A9→B9:=by exact Ja2 (by first | exact Jag tb rfl rfl rfl rfl (by first | assumption | exact zr (by simp)) (i:=d.toNat) (by first | rfl | omega | (simp;omega)) (by omega) | exact Jal tb rfl rfl rfl rfl (i:=d.toNat) (by first | rfl | omega | (simp;omega)) (by omega)) rfl):B9:=h a
end
theorem Jz6 {a:XAir} {s:XSetting} (h:FitOk a s):Jdq a s=true:=by
  rw [Jdq,if_neg (by rw [h.lf,h.ld];simp),Bool.and_eq_true]
  have e1:s.fans.l.findSome? Jgy=none:=List.findSome?_eq_none_iff.2 fun x hx=>by
    obtain ⟨i,hi⟩:=List.mem_iff_getElem?.1 hx
    have:=h.fan i x hi
    rw [Jgy,if_neg (by omega)]
  have e2:(List.range s.doors.l.length).findSome? (Jds a.doors.l s.doors.l)=none:=List.findSome?_eq_none_iff.2 fun i hi=>by
    rw [List.mem_range] at hi
    have hg:=Jan (l:=s.doors.l) (k:=i) 0 hi
    have hd:=Jan (l:=a.doors.l) (k:=i) default (by rw [← h.ld];exact hi)
    have:=h.door i _ _ hg hd
    rw [Jds,hg,hd]
    dsimp only
    rw [if_neg (by omega)]
  rw [e1,e2]
  exact ⟨rfl,rfl⟩
theorem J0j {a:XAir} {s t:Sts} (hs:Jdq a (mkS s)=true) (ht:Jdq a (mkS t)=true) (k:Int):Jdq a (mkS (Jja t s k))=true:=by
  have h1:=Je4 hs
  have h2:=Je4 ht
  have l1:=h1.lf
  have l2:=h1.ld
  have l3:=h2.lf
  have l4:=h2.ld
  have p1:=Jnh t s k
  dsimp only [mkS] at l1 l2 l3 l4
  refine Jz6 ⟨by show (Jja t s k).1.length=_;omega,by show (Jja t s k).2.length=_;omega,fun i x hx=>?_,fun i x d hx hd=>?_⟩
  · have hx : (Jja t s k).1[i]? = some x := hx
    rw [Jja] at hx
    split at hx
    · dsimp only at hx
      rw [List.getElem?_set] at hx
      split at hx
      · rename_i e
        split at hx
        · rename_i h3
          have:=h2.fan k.toNat _ (Jan 0 (show k.toNat < t.1.length by omega))
          have hx:=Option.some.inj hx
          have e2:t.1.getD k.toNat 0=x:=hx
          dsimp only [mkS] at this
          omega
        · cases hx
      · exact h1.fan i x hx
    · exact h1.fan i x hx
  · have hx : (Jja t s k).2[i]? = some x := hx
    rw [Jja] at hx
    split at hx
    · exact h1.door i x d hx hd
    · dsimp only at hx
      rw [List.getElem?_set] at hx
      split at hx
      · rename_i e
        split at hx
        · rename_i h3
          have:=h2.door i _ d (Jan 0 (show i < t.2.length by omega)) hd
          have hx:=Option.some.inj hx
          dsimp only [mkS] at this
          rw [e] at hx
          omega
        · cases hx
      · exact h1.door i x d hx hd
theorem Jm3 {a : XAir} {t : Sts} (ht : Jdq a (mkS t) = true) : ∀ (l : List Int) (d : Nat) (s : Sts), Jdq a (mkS s) = true → Jdq a (mkS (Jkw t l d s)) = true
  | [],_,_,h=>h
  | k :: r,d,s,h=>by
    rw [Jkw]
    split
    · exact Jm3 ht r _ _ (J0j h ht k)
    · exact Jm3 ht r _ _ h
theorem Jw8 (t : Sts) : ∀ (l : List Int) (d : Nat) (s : Sts), (Jkw t l d s).1.length = s.1.length ∧ (Jkw t l d s).2.length = s.2.length
  | [],_,_=>⟨rfl,rfl⟩
  | k :: r,d,s=>by
    have h1:=Jw8 t r (d / 2) (if d % 2=1 then Jja t s k else s)
    have h2:=Jnh t s k
    rw [Jkw]
    split at h1 <;> simp_all
theorem Jv4 {s t:Sts} {k:Int} (h:k∈Jn5 s t):0≤k∧k < s.1.length + s.2.length:=by
  rw [Jn5,List.mem_append] at h
  rcases h with h | h
  · obtain ⟨i,h1,h2,_⟩:=Jsc.1 h;omega
  · obtain ⟨z, h1, h2⟩ := List.mem_map.1 h
    obtain ⟨i,h3,h4,_⟩:=Jsc.1 h1;omega
set_option maxRecDepth 20000
attribute [local irreducible] CJ LJ DJ Tri YV Gives Jd5 Jbd Jbz Jd4 RV Jbf OwL.L
theorem Jpt (D:Arr XDoor) (st:Arr Int) (d x:Int) (L:List Blk) (R:List Sl) (hD:InR (dsl D) R) (hst:InR (isl st) R):
    Tri Tryz.prog 117 [D.val,st.val,.int .i64 d,.int .i64 x,.int .i64 0].toArray L R (fun v L' R'=>v=.int .i64 (if Jb1 D.l≠0 then Jb1 D.l else if st.l.length≠D.l.length then 11 else if d < 0∨(D.l.length:Int)≤d then 15 else if x < 0∨((D.l.getD d.toNat default).rests.l.length:Int)≤x then 1 else 0)∧L=L'∧R=R'):=by
  refine Jae 46 Tryz.call117 Tryz.func117 rfl rfl rfl ?_
  refine Xaj ?_
  refine qaw ?_
  refine qbm ?_
  refine q_l rfl (Jlm D _ _ hD) ?_
  refine Xbt ?_
  refine q_c (fun hc0=>?_) (fun hc0=>?_)
  ·
   refine Xd0 ?_
   refine q_i (L':=L) (R':=R) ?_
   exact ⟨by rw [if_pos hc0],rfl,rfl⟩
  refine qbb ?_
  refine Xat ?_
  refine Xat ?_
  refine qbq ?_
  refine Xbg ?_
  refine q_c (fun hc1=>?_) (fun hc1=>?_)
  ·
   refine Xd1 ?_
   refine q_i (L':=L) (R':=R) ?_
   exact ⟨by rw [if_neg hc0,if_pos (by omega)],rfl,rfl⟩
  refine Xc1 ?_
  refine Xa9 ?_
  apply Jbw (G:=[_,_,_,_]) (j:=2) (cj:=26) rfl rfl (by rfl) rfl (show _=Value.bool _ from rfl) rfl
  ·
   intro hg3
   replace hg3:=qb hg3
   refine qaa ?_
   refine Xat ?_
   refine qbz ?_
   exact qai
  intro junk3
  refine Xbg ?_
  refine q_c (fun hc2=>?_) (fun hc2=>?_)
  ·
   refine Xd1 ?_
   refine q_i (L':=L) (R':=R) ?_
   exact ⟨by rw [if_neg hc0,if_neg (by omega),if_pos (by omega)],rfl,rfl⟩
  have hdg:=Jan (l:=D.l) (k:=d.toNat) default (by omega)
  refine qae ?_
  refine Xbx ?_
  refine Xa9 ?_
  apply Jbw (G:=[_,_,_,_,_,_,_,_]) (j:=3) (cj:=36) rfl rfl (by rfl) rfl (show _=Value.bool _ from rfl) rfl
  ·
   intro hg4
   replace hg4:=qb hg4
   refine qaa ?_
   refine Xad ?_
   refine J6p ?_
   refine Xba ?_
   refine qag ?_
   refine qbz ?_
   exact qai
  intro junk4
  refine Xbg ?_
  refine q_c (fun hc3=>?_) (fun hc3=>?_)
  ·
   refine Xd1 ?_
   refine q_i (L':=L) (R':=R) ?_
   exact ⟨by rw [if_neg hc0,if_neg (by omega),if_neg (by omega),if_pos (by omega)],rfl,rfl⟩
  refine Ja3 (Jao (Jaa (Jam (Jaf ?_))))
  refine Xbe ?_
  refine q_i (L':=L) (R':=R) ?_
  exact ⟨by rw [if_neg hc0,if_neg (by omega),if_neg (by omega),if_neg (by omega)],rfl,rfl⟩
theorem Jsy (st:Arr Int) (d x:Int) (L:List Blk) (R:List Sl) (hst:InR (isl st) R) (hd:0≤d∧d < st.l.length) (hn:st.l.length≤1000):
    Tri Tryz.prog 118 [st.val,.int .i64 d,.int .i64 x].toArray L R (fun v L' R'=>∃p:OwL Int,v=p.val∧p.ok 1 Jad∧p.l=st.l.set d.toNat x∧p.L 3 Jad ++ L=L'∧R=R'):=by
  have hg:=Jan (l:=st.l) (k:=d.toNat) 0 (by omega)
  refine Jae 15 Tryz.call118 Tryz.func118 rfl rfl rfl ?_
  refine qae ?_
  refine Xbn ?_
  refine qbm ?_
  refine Jfo (Jcx (f:=Jad) (xs:=st) tb rfl rfl rfl (by decide) rfl rfl (hst) (fun _=>rfl) (by omega)) rfl ?_
  rintro v L' R' ⟨o9,rfl,hok9,rfl,rfl⟩
  refine Xbn ?_
  refine Xdh ?_
  refine Ja2 (Jak tb ((⟨o9,st.l⟩:OwL Int)) _ rfl rfl rfl rfl (by assumption) (i:=d.toNat) (by first | rfl | omega | (simp;omega)) (by first | omega | (dsimp only;omega) | (dsimp only;rw [List.length_set];omega) | (dsimp only;simp only [List.length_set];omega))) rfl ?_
  refine Jfa (Jas tb ((⟨o9,st.l⟩:OwL Int)) (x) rfl rfl rfl rfl (by repeat (first | apply OSeg.cons | exact OSeg.here | exact OSeg.last | exact OSeg.at (by assumption) | apply OSeg.app)) (by assumption) (fun _=>rfl) (by assumption) (by decide) (by rfl) (by rfl)) ?_
  rintro v L' R' ⟨rfl,rfl⟩
  refine qam ?_
  refine qbm ?_
  refine Xbi ?_
  refine q_r (L':=(⟨o9,st.l.set d.toNat x⟩:OwL Int).L 3 Jad ++ L) (R':=R) (Jdi rfl (Jah (show _=Value.slice _ _ _ from rfl))) ?_
  exact ⟨⟨o9,st.l.set d.toNat x⟩,by simp only [OwL.val,List.length_set],OwL.len_ok Jcc hok9 (by simp),rfl,rfl,rfl⟩
theorem Jtk {D:List XDoor} (h:Jb1 D=0) {d:Int} (hd:0≤d∧d < D.length) (ho:0≤(D.getD d.toNat default).other):(D.getD d.toNat default).other < D.length:=by
  have hg:=Jan (l:=D) (k:=d.toNat) default (by omega)
  have hp:=((Ji8 h).2 _ _ hg).2
  refine Int.not_le.1 fun hle=>hp ?_
  unfold Jj1
  omega
theorem J5f (D:Arr XDoor) (st:Arr Int) (d x:Int) (L:List Blk) (R:List Sl) (hD:InR (dsl D) R) (hst:InR (isl st) R):
    Tri Tryz.prog 99 [D.val,st.val,.int .i64 d,.int .i64 x].toArray L R (fun v L' R'=>∃p:OwL Int,v=.tuple #[p.val,.int .i64 (Jjp D.l st.l d x)]∧p.ok 1 Jad∧p.l=(if Jjp D.l st.l d x=0 then st.l.set d.toNat x else [])∧p.L 3 Jad ++ L=L'∧R=R'):=by
  refine Jae 42 Tryz.call99 Tryz.func99 rfl rfl rfl ?_
  refine qae ?_
  refine Xc2 ?_
  refine qbm ?_
  refine Xdh ?_
  refine q_l rfl (Jpt D st d x _ _ hD hst) ?_
  refine Xbt ?_
  refine q_c (fun hc0=>?_) (fun hc0=>?_)
  ·
   refine Xc1 ?_
   refine Xbs ?_
   refine q_r (L':=L) (R':=R) (Jc8 rfl (Jah (show _=Value.slice _ _ _ from rfl)) (Jah (show _=Value.int _ _ from rfl))) ?_
   have he:Jjp D.l st.l d x≠0∧Jjp D.l st.l d x=(if Jb1 D.l≠0 then Jb1 D.l else if st.l.length≠D.l.length then 11 else if d < 0∨(D.l.length:Int)≤d then 15 else if x < 0∨((D.l.getD d.toNat default).rests.l.length:Int)≤x then 1 else 0):=by
     rw [Jjp]
     revert hc0
     (repeat' split) <;> intro hc0 <;> first | exact ⟨hc0,rfl⟩ | exact absurd rfl hc0
   exact ⟨.nil,by rw [he.2];rfl,OwL.nil_ok,by rw [if_neg he.1],by rw [Jcl];rfl,rfl⟩
  have h4:Jb1 D.l=0∧st.l.length=D.l.length∧(0≤d∧d < D.l.length)∧0≤x∧x < ((D.l.getD d.toNat default).rests.l.length:Int):=by
    revert hc0
    (repeat' split) <;> intro hc0 <;> first | omega | (exfalso;exact hc0 (by decide))
  obtain ⟨z1,z2,z3,z4⟩:=h4
  have hdg:=Jan (l:=D.l) (k:=d.toNat) default (by omega)
  have hD16:=(Ji8 z1).1
  have hot:=Jtk z1 z3
  refine qbo ?_
  refine Xad ?_
  refine J6p ?_
  refine Xba ?_
  refine Xav ?_
  refine Xcp ?_
  apply Jcd (G:=[_,_]) (j:=2) (cj:=27) rfl rfl (by rfl) rfl (show _=Value.bool _ from rfl) rfl
  ·
   intro hg3
   replace hg3:=qb hg3
   refine qaa ?_
   refine qbz ?_
   exact qai
  intro junk3
  refine qah ?_
  apply Jcd (G:=[_,_,_,_,_]) (j:=6) (cj:=31) rfl rfl (by rfl) rfl (show _=Value.bool _ from rfl) rfl
  ·
   intro hg7
   replace hg7:=qb hg7
   have hsg:=Jan (l:=st.l) (k:=(D.l.getD d.toNat default).other.toNat) 0 (by omega)
   refine Xad ?_
   have hot2:=hot (by omega)
   refine Ja2 (by first | exact Jag tb rfl rfl rfl rfl (by first | assumption | exact zr (by simp)) (i:=(D.l.getD d.toNat default).other.toNat) (by first | rfl | omega | (simp;omega)) (by omega) | exact Jal tb rfl rfl rfl rfl (i:=(D.l.getD d.toNat default).other.toNat) (by first | rfl | omega | (simp;omega)) (by omega)) rfl ?_
   refine qa7 ?_
   refine qbq ?_
   exact qai
  intro junk7
  refine qaf ?_
  refine q_c (fun hc1=>?_) (fun hc1=>?_)
  ·
   refine Xcq ?_
   refine q_r (L':=L) (R':=R) (Jc8 rfl (Jah (show _=Value.slice _ _ _ from rfl)) (Jah (show _=Value.int _ _ from rfl))) ?_
   have he:Jjp D.l st.l d x=10:=by rw [Jjp,if_neg (by omega),if_neg (by omega),if_neg (by omega),if_neg (by omega),if_pos (by omega)]
   exact ⟨.nil,by rw [he];rfl,OwL.nil_ok,by rw [he];rfl,by rw [Jcl];rfl,rfl⟩
  refine qbv ?_
  refine Xdh ?_
  refine Jaq rfl (Jsy st d x _ _ hst (by omega) (by omega)) rfl ?_
  rintro v L' R' ⟨p,rfl,hpk,hpl,rfl,rfl⟩
  refine Xce ?_
  refine q_r (L':=p.L 3 Jad ++ L) (R':=R) (Jc8 rfl (Jah (show _=Value.slice _ _ _ from rfl)) (Jah (show _=Value.int _ _ from rfl))) ?_
  have he:Jjp D.l st.l d x=0:=by rw [Jjp,if_neg (by omega),if_neg (by omega),if_neg (by omega),if_neg (by omega),if_neg (by omega)]
  exact ⟨p,by rw [he] <;> rfl,hpk,by rw [he,if_pos rfl];exact hpl,rfl,rfl⟩
end Go.Proofs.YtihompplndcdeaaGreat
end
section
/-
  change.Sequence: what is seen of the air; a step done. By an AI agent; no person has read it.
-/
namespace Go.Proofs.YtihompplndcdeaaGreat
open Go.Aw Go
section
variable {A9 B9:Prop}
theorem J4e (a:A9) (h:A9→B9:=by exact Ja8 tb [] [0,1,2,3,4,5,6,7,8,9,10,11] [12] ([Blk.mk b8 _ _,Blk.mk bx _ _]) _ Jbn (by kernel_rfl) (by repeat (first | exact zs0 _ | exact zs1 _ | apply zs2 | apply zs3 | apply zs4 | apply zs5)) (List.nil_sublist _)):B9:=h a
theorem J5r (a:A9) (h:A9→B9:=by exact Jca (by first | exact Jag tb rfl rfl rfl rfl (by first | assumption | exact zr (by simp)) (i:=d) (by first | rfl | omega | (simp;omega)) (by omega) | exact Jal tb rfl rfl rfl rfl (i:=d) (by first | rfl | omega | (simp;omega)) (by omega)) rfl rfl rfl rfl):B9:=h a
theorem J52 (a:A9) (h:A9→B9:=by exact Jca (Jak tb ((⟨o18,s.doors.l⟩:OwL Int)) _ rfl rfl rfl rfl (by assumption) (i:=d) (by first | rfl | omega | (simp;omega)) (by first | omega | (dsimp only;omega) | (dsimp only;rw [List.length_set];omega) | (dsimp only;simp only [List.length_set];omega))) rfl rfl rfl rfl):B9:=h a
theorem J7u (a:A9) (h:A9→B9:=by exact Jpj (Jas tb ((⟨o18,s.doors.l⟩:OwL Int)) (t.doors.l.getD d 0) rfl rfl rfl rfl (by repeat (first | apply OSeg.cons | exact OSeg.here | exact OSeg.last | exact OSeg.at (by assumption) | apply OSeg.app)) (by assumption) (fun _=>rfl) (by assumption) (by decide) (by rfl) (by rfl)) rfl rfl):B9:=h a
theorem J8a (h:B9:=by exact ⟨(⟨o15,s.fans.l⟩:OwL Int),⟨o18,s.doors.l.set d (t.doors.l.getD d 0)⟩,by rw [hcn];simp only [OwL.val,List.length_set],⟨hok15,OwL.len_ok Jcc hok18 (by simp)⟩,fun _=>by rw [Jxl (t:=Jaj t) (s:=Jaj s) hk1,hdk],rfl,rfl⟩):B9:=h
end
theorem J9h:MapT Tryz.prog 98 3 84 (.slice none 0 0):=Jz8 (by kernel_rfl) (by kernel_rfl) (by kernel_rfl)
theorem J9l:MapT Tryz.prog 99 3 4 (.bool false):=Jz8 (by kernel_rfl) (by kernel_rfl) (by kernel_rfl)
set_option maxRecDepth 20000
attribute [local irreducible] CJ LJ DJ Tri YV Gives Jd5 Jbd Jbz Jd4 RV Jbf OwL.L
def Jng (a:XAir) (t:XSetting) (fc:Arr XFace) (st:Arr Int) (bf bd:Nat):List Value:=[a.mine.places.val,a.mine.roads.val,a.fans.val,a.doors.val,t.fans.val,t.doors.val,fc.val,st.val,.map (some bf),.map (some bd)]
def FlOk (a:XAir) (A:List Bool) (t:Sts) (l:List Int) (s0:Sts) (fm:List (Int×Value)) (R:List Sl):Prop:=
  ∀(d:Nat) (v:Value),Jrf fm (d:Int)=some v→∃x:Arr XSpan,v=x.val∧InR (Jl8 x) R∧x.l=flS a A (Jkw t l d s0)
theorem FlOk.nil {a:XAir} {A:List Bool} {t:Sts} {l:List Int} {s0:Sts} {R:List Sl}:FlOk a A t l s0 [] R:=fun d v h=>by cases h
theorem FlOk.mono {a:XAir} {A:List Bool} {t:Sts} {l:List Int} {s0:Sts} {fm:List (Int×Value)} {R R':List Sl} (h:FlOk a A t l s0 fm R) (k:∀r∈R,InR r R'):FlOk a A t l s0 fm R':=fun d v hv=>let ⟨x,h1,h2,h3⟩:=h d v hv;⟨x,h1,h2.mono k,h3⟩
theorem FlOk.put {a:XAir} {A:List Bool} {t:Sts} {l:List Int} {s0:Sts} {fm:List (Int×Value)} {R:List Sl} (h:FlOk a A t l s0 fm R) {d:Nat} {x:Arr XSpan} (hx:InR (Jl8 x) R) (he:x.l=flS a A (Jkw t l d s0)):FlOk a A t l s0 (Jwx fm (d:Int) x.val) R:=fun e v hv=>by
  rw [Jwq] at hv
  split at hv
  · rename_i hd
    obtain rfl:e=d:=by omega
    exact ⟨x,(Option.some.inj hv).symm,hx,he⟩
  · exact h e v hv
theorem FlOk.look {a:XAir} {A:List Bool} {t:Sts} {l:List Int} {s0:Sts} {fm:List (Int×Value)} {R:List Sl} (h:FlOk a A t l s0 fm R) (d:Nat):
    ∃(y:Arr XSpan) (b:Bool),(Value.tuple #[(Jrf fm (d:Int)).getD (.slice none 0 0),.bool (Jrf fm (d:Int)).isSome])=.tuple #[y.val,.bool b]∧(b=true→InR (Jl8 y) R∧y.l=flS a A (Jkw t l d s0)):=by
  cases hm:Jrf fm (d:Int) with
  | none=>exact ⟨⟨none,0,[]⟩,false,rfl,fun h=>by cases h⟩
  | some v=>
    obtain ⟨x,rfl,h2,h3⟩:=h d v hm
    exact ⟨x,true,rfl,fun _=>⟨h2,h3⟩⟩
abbrev Js7 (bx bf bd:Nat) (C:List Value) (fm dm:List (Int×Value)):List Blk:=[⟨bx,C,101⟩,mpB bf fm,mpB bd dm]
theorem Jxg (a:XAir) (t s:XSetting) (fc:Arr XFace) (st:Arr Int) (s0:Sts) (A:List Bool) (bx bf bd d:Nat) (fm dm:List (Int×Value)) (R:List Sl) (ha:AirR a R) (hs:SetR s R) (hA:Ja4 a=0→AiryIs a.mine A) (hsd:Jaj s=Jkw (Jaj t) st.l d s0) (hF:FlOk a A (Jaj t) st.l s0 fm R):
    Tri Tryz.prog 74 [.pointer (some ⟨bx, 0, none⟩), .int .i64 (d : Int), s.val].toArray (Js7 bx bf bd (Jng a t fc st bf bd) fm dm) R
      (fun w L' R'=>∃(x:Arr XSpan) (fm':List (Int×Value)) (S:List Sl),w=x.val∧InR (Jl8 x) (S ++ R)∧x.l=flS a A (Jaj s)∧FlOk a A (Jaj t) st.l s0 fm' (S ++ R)∧Js7 bx bf bd (Jng a t fc st bf bd) fm' dm=L'∧S ++ R=R'):=by
  obtain ⟨y,b,hy,hyb⟩:=hF.look d
  refine Jae 36 Tryz.call74 Tryz.func74 rfl rfl rfl ?_
  refine Xai ?_
  intro b5
  refine Xbn ?_
  refine qa6 ?_
  refine Ja2 (Jbi rfl) rfl ?_
  refine Xak ?_
  refine Ja2 (J06 J9h rfl rfl (show In1 (mpB bf fm) _ from (by repeat (first | exact zi0 | apply zi1 | apply zi2))) hy) rfl ?_
  refine Ja2 (Jar rfl) rfl ?_
  refine Xcr ?_
  refine Xb2 ?_
  refine Xc3 ?_
  refine q_c (fun hc0=>?_) (fun hc0=>?_)
  ·
   refine Jam ?_
   refine Jbb tb [0,1,2,3,4,5,6,7,8,9] ([Blk.mk b5 _ _,Blk.mk bx _ _]) Jbn (by kernel_rfl) (by repeat (first | exact zs0 _ | exact zs1 _ | apply zs2 | apply zs3 | apply zs4 | apply zs5)) ?_
   refine Xb4 ?_
   refine qal ?_
   refine Xb6 ?_
   refine Jcw rfl (Jj3 a s A _ _ ha hs hA) rfl rfl ?_
   rintro v L' R' ⟨p,rfl,hpk,hpl,rfl,rfl⟩
   refine qas ?_
   refine Jbu (Jar rfl) rfl rfl rfl ?_
   refine Jbu (Jcy rfl rfl) rfl rfl rfl ?_
   refine Jbu (Jcy rfl rfl) rfl rfl rfl ?_
   refine Jbu (Jcg (show _=Value.slice _ _ _ from rfl)) rfl rfl rfl ?_
   refine qbu ?_
   refine Jby (A:=[]) (wd:=2) [] (fun _=>rfl) (by decide) hpk (fun s hs=>by cases hs) ?_
   refine Jg5 (by simp only [List.nil_append];rfl) ?_
   have hpf:p.arr.l=flS a A (Jkw (Jaj t) st.l d s0):=by show p.l=_;rw [hpl,← hsd,Jzf]
   have hR1:∀r∈R,InR r (Jl8 p.arr :: R):=fun r hr=>Jab (.tail _ hr)
   refine Xdm ?_
   refine Ja2 (Jbi rfl) rfl ?_
   refine Xak ?_
   refine qbm ?_
   refine Jgt (Jqd (v:=p.arr.val) J9h rfl rfl rfl (show UpdM bf fm _ _ _ from (by repeat (first | exact UpdM.here | apply UpdM.cons | apply UpdM.app)))) rfl rfl ?_
   rintro v L' R' ⟨rfl,rfl⟩
   refine qam ?_
   refine qbm ?_
   refine Xbi ?_
   refine q_r (L':=Js7 bx bf bd (Jng a t fc st bf bd) (Jwx fm (d:Int) p.arr.val) dm) (R':=Jl8 p.arr :: R) (Jdi rfl (Jah (show _=Value.slice _ _ _ from rfl))) ?_
   exact ⟨p.arr,Jwx fm (d:Int) p.arr.val,[Jl8 p.arr],rfl,Jab (.head _),by rw [hpf,hsd],(hF.mono hR1).put (Jab (.head _)) hpf,rfl,rfl⟩
  refine Xdc ?_
  refine Xbi ?_
  refine q_r (L':=Js7 bx bf bd (Jng a t fc st bf bd) fm dm) (R':=R) (Jdi rfl (Jah (show _=Value.slice _ _ _ from rfl))) ?_
  exact ⟨y,fm,[],rfl,(hyb hc0).1,by rw [(hyb hc0).2,hsd],hF,rfl,rfl⟩
theorem Jz1 {t s:Sts} {k:Nat} (h:k < s.1.length):Jja t s (k:Int)=(s.1.set k (t.1.getD k 0),s.2):=by rw [Jja,if_pos (by omega),Int.toNat_natCast]
theorem Jxl {t s:Sts} {k:Nat} (h:s.1.length≤k):Jja t s (k:Int)=(s.1,s.2.set (k - s.1.length) (t.2.getD (k - s.1.length) 0)):=by
  rw [Jja,if_neg (by omega),show ((k:Int) - s.1.length).toNat=k - s.1.length by omega]
theorem J0l {D:List XDoor} {t s:Sts} {k:Nat} (h:k < s.1.length):Jst D t s (k:Int)=true:=by
  rw [Jst,show decide ((k:Int) < s.1.length)=true from decide_eq_true (by omega)];rfl
theorem Jje {D:List XDoor} {t s:Sts} {k:Nat} (h:s.1.length≤k):Jst D t s (k:Int)=(decide (t.2.getD (k - s.1.length) 0= -1) || decide (Jjp D s.2 (k - s.1.length:Int) (t.2.getD (k - s.1.length) 0)=0)):=by
  rw [Jst,show decide ((k:Int) < s.1.length)=false from decide_eq_false (by omega),show ((k:Int) - s.1.length).toNat=k - s.1.length by omega,Bool.false_or]
theorem J7n (a:XAir) (t s:XSetting) (fc:Arr XFace) (st:Arr Int) (bx bf bd k:Nat) (R:List Sl) (ha:AirR a R) (ht:SetR t R) (hs:SetR s R) (hk:k < s.fans.l.length + s.doors.l.length) (hf:t.fans.l.length=s.fans.l.length) (hd:t.doors.l.length=s.doors.l.length) (hn:s.fans.l.length≤8∧s.doors.l.length≤16):
    Tri Tryz.prog 73 [.pointer (some ⟨bx, 0, none⟩), s.val, .int .i64 (k : Int)].toArray [⟨bx, Jng a t fc st bf bd, 101⟩] R
      (fun w L' R'=>∃pf pd:OwL Int,w=.tuple #[.agg #[pf.val,pd.val],.bool (Jst a.doors.l (Jaj t) (Jaj s) (k:Int))]∧(pf.ok 1 Jad∧pd.ok 1 Jad)∧(Jst a.doors.l (Jaj t) (Jaj s) (k:Int)=true→(pf.l,pd.l)=Jja (Jaj t) (Jaj s) (k:Int))∧pd.L 3 Jad ++ (pf.L 3 Jad ++ [⟨bx,Jng a t fc st bf bd,101⟩])=L'∧R=R'):=by
  have hsf:=hs.fans
  have hsd:=hs.doors
  have htf:=ht.fans
  have htd:=ht.doors
  refine Jae 82 Tryz.call73 Tryz.func73 rfl rfl rfl ?_
  refine Xai ?_
  intro b4
  refine qaq ?_
  intro b6
  refine qaz ?_
  refine qa4 ?_
  refine Jbb tb [0,1,3,4,2,5,6,7,8] ([Blk.mk b4 _ _]) Jbn (by kernel_rfl) (by repeat (first | exact zs0 _ | exact zs1 _ | apply zs2 | apply zs3 | apply zs4 | apply zs5)) ?_
  refine Xae ?_
  refine Xae ?_
  refine Jlz (Jcx (f:=Jad) (xs:=s.fans) tb rfl rfl rfl (by decide) rfl rfl (hsf) (fun _=>rfl) (by omega)) rfl rfl rfl ?_
  rintro v L' R' ⟨o15,rfl,hok15,rfl,rfl⟩
  refine qa1 ?_
  refine Jlz (Jcx (f:=Jad) (xs:=s.doors) tb rfl rfl rfl (by decide) rfl rfl (hsd) (fun _=>rfl) (by omega)) rfl rfl rfl ?_
  rintro v L' R' ⟨o18,rfl,hok18,rfl,rfl⟩
  refine qa1 ?_
  refine qdq ?_
  refine qbr ?_
  intro b8
  refine qbg ?_
  refine qc6 ?_
  refine qaa ?_
  refine Xbd ?_
  refine q_c (fun hc0=>?_) (fun hc0=>?_)
  ·
   have hk1:k < s.fans.l.length:=by omega
   have hg1:=Jan (l:=s.fans.l) (k:=k) 0 hk1
   have hg2:=Jan (l:=t.fans.l) (k:=k) 0 (by omega)
   refine Jam ?_
   refine J4e ?_
   refine Xbk ?_
   refine qb3 ?_
   refine Jca (Jbi rfl) rfl rfl rfl rfl ?_
   refine qan ?_
   refine Xbk ?_
   refine Jca (by first | exact Jag tb rfl rfl rfl rfl (by first | assumption | exact zr (by simp)) (i:=k) (by first | rfl | omega | (simp;omega)) (by omega) | exact Jal tb rfl rfl rfl rfl (i:=k) (by first | rfl | omega | (simp;omega)) (by omega)) rfl rfl rfl rfl ?_
   refine qci ?_
   refine Jca (Jak tb ((⟨o15,s.fans.l⟩:OwL Int)) _ rfl rfl rfl rfl (by assumption) (i:=k) (by first | rfl | omega | (simp;omega)) (by first | omega | (dsimp only;omega) | (dsimp only;rw [List.length_set];omega) | (dsimp only;simp only [List.length_set];omega))) rfl rfl rfl rfl ?_
   refine qba ?_
   refine Jpj (Jas tb ((⟨o15,s.fans.l⟩:OwL Int)) (t.fans.l.getD k 0) rfl rfl rfl rfl (by repeat (first | apply OSeg.cons | exact OSeg.here | exact OSeg.last | exact OSeg.at (by assumption) | apply OSeg.app)) (by assumption) (fun _=>rfl) (by assumption) (by decide) (by rfl) (by rfl)) rfl rfl ?_
   rintro v L' R' ⟨rfl,rfl⟩
   refine qa1 ?_
   refine Jbt (Jaa (Jam (Jaf ?_)))
   refine Xd2 ?_
   refine Xcj ?_
   refine q_r (L':=(⟨o18,s.doors.l⟩:OwL Int).L 3 Jad ++ ((⟨o15,s.fans.l.set k (t.fans.l.getD k 0)⟩:OwL Int).L 3 Jad ++ [⟨bx,Jng a t fc st bf bd,101⟩])) (R':=R) (Jc8 rfl (Jax (row:=[_,_]) tb rfl rfl rfl (by repeat (first | exact zi0 | apply zi1 | apply zi2)) (by rfl) (by rfl)) (Jah (show _=Value.bool _ from rfl))) ?_
   exact ⟨⟨o15,s.fans.l.set k (t.fans.l.getD k 0)⟩,(⟨o18,s.doors.l⟩:OwL Int),by rw [J0l hk1];simp only [OwL.val,List.length_set],⟨OwL.len_ok Jcc hok15 (by simp),hok18⟩,fun _=>(Jz1 (t:=Jaj t) (s:=Jaj s) hk1).symm,rfl,rfl⟩
  have hk1:s.fans.l.length≤k:=by omega
  obtain ⟨d,hdk⟩:∃d,d=k - s.fans.l.length:=⟨_,rfl⟩
  have hg1:=Jan (l:=s.doors.l) (k:=d) 0 (by omega)
  have hg2:=Jan (l:=t.doors.l) (k:=d) 0 (by omega)
  refine qbv ?_
  refine qaa ?_
  refine Xab ?_
  refine qa9 ?_
  refine Xa5 ?_
  refine qa6 ?_
  refine Ja2 (Jbi rfl) rfl ?_
  refine Xd3 ?_
  refine Ja2 (by first | exact Jag tb rfl rfl rfl rfl (by first | assumption | exact zr (by simp)) (i:=d) (by first | rfl | omega | (simp;omega)) (by omega) | exact Jal tb rfl rfl rfl rfl (i:=d) (by first | rfl | omega | (simp;omega)) (by omega)) rfl ?_
  refine qa7 ?_
  refine Xbt ?_
  refine q_c (fun hc1=>?_) (fun hc1=>?_)
  ·
   refine Jam ?_
   refine Jbb tb [0,1,2,3,4,5,6,7,8,9,10,11,12,13,14] ([Blk.mk b4 _ _,Blk.mk bx _ _]) Jbn (by kernel_rfl) (by repeat (first | exact zs0 _ | exact zs1 _ | apply zs2 | apply zs3 | apply zs4 | apply zs5)) ?_
   refine Xb4 ?_
   refine Xd4 ?_
   refine Xa0 ?_
   refine qao ?_
   refine Jcw rfl (Tri.cast (J5f a.doors s.doors (d:Int) (t.doors.l.getD d 0) _ _ ha.doors hsd) (by rw [show ((d:Nat):Int)=(k:Int) - s.fans.l.length by omega];rfl)) rfl rfl ?_
   rintro v L' R' ⟨z,rfl,hzk,hzl,rfl,rfl⟩
   refine qas ?_
   refine Jbu (Jar rfl) rfl rfl rfl ?_
   refine Jbu (Jcy rfl rfl) rfl rfl rfl ?_
   refine Jbu (Jcy rfl rfl) rfl rfl rfl ?_
   refine Jbu (Jcg (show _=Value.slice _ _ _ from rfl)) rfl rfl rfl ?_
   refine qcg ?_
   refine Jbt (Jaa (Jam (Jaf ?_)))
   refine qaa ?_
   refine Xaw ?_
   refine q_c (fun hc2=>?_) (fun hc2=>?_)
   ·
    refine qae ?_
    refine Xd2 ?_
    refine Xcj ?_
    refine q_r (L':=(⟨o18,s.doors.l⟩:OwL Int).L 3 Jad ++ ((⟨o15,s.fans.l⟩:OwL Int).L 3 Jad ++ [⟨bx,Jng a t fc st bf bd,101⟩])) (R':=R) (Jc8 rfl (Jax (row:=[_,_]) tb rfl rfl rfl (by repeat (first | exact zi0 | apply zi1 | apply zi2)) (by rfl) (by rfl)) (Jah (show _=Value.bool _ from rfl))) ?_
    have hcn:Jst a.doors.l (Jaj t) (Jaj s) (k:Int)=false:=by
      rw [Jje (t:=Jaj t) (s:=Jaj s) hk1]
      dsimp only [Jaj]
      rw [← hdk,show ((k:Int) - (s.fans.l.length:Int))=(d:Int) by omega,decide_eq_false hc1,decide_eq_false hc2];rfl
    exact ⟨(⟨o15,s.fans.l⟩:OwL Int),(⟨o18,s.doors.l⟩:OwL Int),by rw [hcn] <;> rfl,⟨hok15,hok18⟩,fun h=>absurd (hcn.symm.trans h) (by decide),rfl,rfl⟩
   refine qcl ?_
   refine J4e ?_
   refine Xbk ?_
   refine qb3 ?_
   refine Jca (Jbi rfl) rfl rfl rfl rfl ?_
   refine qan ?_
   refine Xbk ?_
   refine J5r ?_
   refine qci ?_
   refine J52 ?_
   refine qba ?_
   refine J7u ?_
   rintro v L' R' ⟨rfl,rfl⟩
   refine qa1 ?_
   refine Jbt (Jaa (Jam (Jaf ?_)))
   refine Xd2 ?_
   refine Xbb ?_
   refine q_r (L':=(⟨o18,s.doors.l.set d (t.doors.l.getD d 0)⟩:OwL Int).L 3 Jad ++ ((⟨o15,s.fans.l⟩:OwL Int).L 3 Jad ++ [⟨bx,Jng a t fc st bf bd,101⟩])) (R':=R) (Jc8 rfl (Jax (row:=[_,_]) tb rfl rfl rfl (by repeat (first | exact zi0 | apply zi1 | apply zi2)) (by rfl) (by rfl)) (Jah (show _=Value.bool _ from rfl))) ?_
   have hcn:Jst a.doors.l (Jaj t) (Jaj s) (k:Int)=true:=by
     rw [Jje (t:=Jaj t) (s:=Jaj s) hk1]
     dsimp only [Jaj]
     rw [← hdk,show ((k:Int) - (s.fans.l.length:Int))=(d:Int) by omega]
     first
       | rw [decide_eq_true (Decidable.not_not.1 hc1)];rfl
       | rw [decide_eq_true (Decidable.not_not.1 hc2),Bool.or_true]
   exact J8a
  refine qcl ?_
  refine J4e ?_
  refine Xbk ?_
  refine qb3 ?_
  refine Jca (Jbi rfl) rfl rfl rfl rfl ?_
  refine qan ?_
  refine Xbk ?_
  refine J5r ?_
  refine qci ?_
  refine J52 ?_
  refine qba ?_
  refine J7u ?_
  rintro v L' R' ⟨rfl,rfl⟩
  refine qa1 ?_
  refine Jbt (Jaa (Jam (Jaf ?_)))
  refine Xd2 ?_
  refine Xbb ?_
  refine q_r (L':=(⟨o18,s.doors.l.set d (t.doors.l.getD d 0)⟩:OwL Int).L 3 Jad ++ ((⟨o15,s.fans.l⟩:OwL Int).L 3 Jad ++ [⟨bx,Jng a t fc st bf bd,101⟩])) (R':=R) (Jc8 rfl (Jax (row:=[_,_]) tb rfl rfl rfl (by repeat (first | exact zi0 | apply zi1 | apply zi2)) (by rfl) (by rfl)) (Jah (show _=Value.bool _ from rfl))) ?_
  have hcn:Jst a.doors.l (Jaj t) (Jaj s) (k:Int)=true:=by
    rw [Jje (t:=Jaj t) (s:=Jaj s) hk1]
    dsimp only [Jaj]
    rw [← hdk,show ((k:Int) - (s.fans.l.length:Int))=(d:Int) by omega]
    first
      | rw [decide_eq_true (Decidable.not_not.1 hc1)];rfl
      | rw [decide_eq_true (Decidable.not_not.1 hc2),Bool.or_true]
  exact J8a
end Go.Proofs.YtihompplndcdeaaGreat
end
