import Derived.Test.YtihompplndcdeaaGreatReach
section
/-
  certify.Lost, and the reference's fixed places. By an AI agent; no person has read it.
-/
namespace Go.Proofs.YtihompplndcdeaaGreat
open Go.Aw Go
set_option maxRecDepth 20000
attribute [local irreducible] CJ LJ DJ Tri YV Gives Jd5 Jbd Jbz Jd4 RV Jbf OwL.L
section
variable {A9 B9:Prop}
theorem J5c (a:A9) (h:A9→B9:=by exact Ja2 (Jak tb ((⟨o,l⟩:OwL Bool)) _ rfl rfl ((show _=Value.slice _ _ _ from rfl).trans (show Value.slice o.addr A.length o.cap=(⟨o,l⟩:OwL Bool).val by simp only [OwL.val,hll,hAl])) rfl (by assumption) (i:=k) (by first | rfl | omega | (simp;omega)) (by first | omega | (dsimp only;omega) | (dsimp only;rw [List.length_set];omega) | (dsimp only;simp only [List.length_set];omega))) rfl):B9:=h a
theorem J7w (a:A9) (h:A9→B9:=by exact Jfa (Jas tb ((⟨o,l⟩:OwL Bool)) (_) rfl rfl rfl rfl (by repeat (first | apply OSeg.cons | exact OSeg.here | exact OSeg.last | exact OSeg.at (by assumption) | apply OSeg.app)) (by assumption) (fun _=>rfl) (by assumption) (by decide) (by rfl) (by rfl))):B9:=h a
end
theorem AiryIs.length {m:XMine} {A:List Bool} (h:AiryIs m A):A.length=m.places.l.length:=by rw [h.len];simp [Jud]
theorem J2z {m:XMine} {A l:List Bool} (hA:AiryIs m A) (hl:l.length=m.places.l.length) (h:∀i:Nat,l.getD i false=true↔(i:Int)∈Jeu A m.places.l.length):l=A.map (!·):=by
  have hAl:=hA.length
  refine List.ext_getElem? fun i=>?_
  rcases Nat.lt_or_ge i m.places.l.length with hi | hi
  · rw [Jan (l := l) (k := i) false (by omega), List.getElem?_map, Jan (l := A) (k := i) false (by omega)]
    have h1:=h i
    rw [Jl6] at h1
    have h2:l.getD i false=true↔¬ A.getD i false=true:=h1.trans ⟨fun ⟨j,e,_,h3⟩=>by rw [show i=j from by omega];exact h3,fun h3=>⟨i,rfl,hi,h3⟩⟩
    simp only [Option.map_some,Option.some.injEq]
    cases ha:A.getD i false <;> cases hb:l.getD i false <;> simp_all
  · rw [List.getElem?_eq_none (by omega),List.getElem?_eq_none (by simp;omega)]
theorem Jm9 (m:XMine) (L:List Blk) (R:List Sl) (hm:MineR m R) (hok:MineOk m) (hv:Jbv m=0):
    Tri Tryz.prog 82 [m.val].toArray L R (fun w L' R'=>∃(p:OwL Bool) (A:List Bool) (S:List Sl),w=p.val∧p.ok 1 blc∧AiryIs m A∧p.l=A.map (!·)∧p.L 4 blc ++ L=L'∧S ++ R=R'):=by
  have hmp:=hm.places
  have hnp:=hok.places
  refine Jae 22 Tryz.call82 Tryz.func82 rfl rfl rfl ?_
  refine Xai ?_
  intro b1
  refine Xbn ?_
  refine Xab ?_
  refine qc7 ?_
  rintro v L' R' ⟨b9,rfl,rfl,hR9⟩
  replace hR9:=hR9.symm;subst hR9
  refine Xdo ?_
  refine Jg5 (Jf1 (f:=blc) (x:=false) rfl _) ?_
  refine qay ?_
  refine qbe ?_
  refine Jaq rfl (Jl9 m _ _ hm hok hv) rfl ?_
  rintro v L' R' ⟨p,A,S,rfl,hpk,hA,hpl,rfl,rfl⟩
  have hpn:=Jej A m.places.l.length
  rw [← hpl] at hpn
  refine qag ?_
  refine Xaz ?_
  refine Jai [(3,Value.slice _ _ _),(11,Value.slice _ _ _),(12,Value.int _ _),(13,Value.int _ _)] (by repeat' (first | exact trivial | refine And.intro rfl ?_)) fun tq0=>?_
  refine q_p [5,13,14,15,16,17,18,19,20] ((⟨fun q=>[(13,.int .i64 ((q.1.1:Nat):Int))],fun q=>p.L 3 Jad ++ ((⟨.own b9 m.places.l.length [],q.1.2⟩:OwL Bool).L 4 blc ++ (⟨b1,m.cells,31⟩ :: L)),fun _=>S ++ R,fun q=>p.l.length - q.1.1⟩:Head {q:Nat×List Bool // q.1≤p.l.length∧q.2.length=m.places.l.length∧∀i:Nat,q.2.getD i false=true↔∃j:Nat,j < q.1∧p.l[j]?=some (i:Int)})) (⟨(0,List.replicate m.places.l.length false),by dsimp only;omega,by simp,fun i=>⟨fun h=>(by simp [List.getD_eq_getElem?_getD,List.getElem?_replicate] at h;split at h <;> simp at h),fun ⟨j,hj,_⟩=>(by omega)⟩⟩) ?_
  rintro ⟨⟨k,l⟩,q1,hll,q3⟩ junk
  try dsimp only
  dsimp only at q1 hll q3
  have hkf:(⟨.own b9 m.places.l.length [],l⟩:OwL Bool).ok 1 blc:=by have:=Jen (f:=blc) (wd:=1) (b:=b9) (n:=m.places.l.length) (x:=false) Jdk (by simp only [maxLen];omega);exact OwL.len_ok Jdk this (by simp;exact hll)
  refine Xay ?_
  refine q_c (fun hc0=>?_) (fun hc0=>?_)
  ·
   have hg:=Jan (l:=p.l) (k:=k) 0 (by omega)
   have hmem:=List.mem_of_getElem? hg
   rw [hpl] at hmem
   obtain ⟨u,hve,hvl,hvA⟩:=Jl6.1 hmem
   rw [← hpl] at hve
   rw [hve] at hg
   have hlg:=Jan (l:=l) (k:=u) false (by omega)
   refine qbb ?_
   refine Ja2 (Jak tb (p) _ rfl rfl rfl rfl (by assumption) (i:=k) (by first | rfl | omega | (simp;omega)) (by first | omega | (dsimp only;omega) | (dsimp only;rw [List.length_set];omega) | (dsimp only;simp only [List.length_set];omega))) rfl ?_
   refine Ja2 (Jaz tb (p) rfl rfl rfl (by repeat (first | apply OSeg.cons | exact OSeg.here | exact OSeg.last | exact OSeg.at (by assumption) | apply OSeg.app)) (by assumption) (fun _=>rfl) (by assumption) (by rfl)) rfl ?_
   refine qad ?_
   refine Ja9 (Jaa (Jaf ?_))
   refine Xad ?_
   refine Ja2 (Jak tb ((⟨.own b9 m.places.l.length [],l⟩:OwL Bool)) _ rfl rfl ((show _=Value.slice _ _ _ from rfl).trans (Jed hll)) rfl (by assumption) (i:=u) (by first | rfl | omega | (simp;omega)) (by first | omega | (dsimp only;omega) | (dsimp only;rw [List.length_set];omega) | (dsimp only;simp only [List.length_set];omega))) rfl ?_
   refine Jfa (Jas tb ((⟨.own b9 m.places.l.length [],l⟩:OwL Bool)) (true) rfl rfl rfl rfl (by repeat (first | apply OSeg.cons | exact OSeg.here | exact OSeg.last | exact OSeg.at (by assumption) | apply OSeg.app)) (by assumption) (fun _=>rfl) (by assumption) (by decide) (by rfl) (by rfl)) ?_
   rintro v L' R' ⟨rfl,rfl⟩
   refine Xbj ?_
   exact Jat ⟨(k + 1,l.set u true),by dsimp only;omega,by simp;exact hll,fun i=>by
   dsimp only
   rw [Jfe (by omega)]
   split
   · rename_i e
     exact ⟨fun _=>⟨k,by omega,by rw [e];exact hg⟩,fun _=>rfl⟩
   · rename_i e
     refine (q3 i).trans ⟨fun ⟨j,h1,h2⟩=>⟨j,by omega,h2⟩,fun ⟨j,h1,h2⟩=>?_⟩
     rcases Nat.lt_or_ge j k with h4 | h4
     · exact ⟨j,h4,h2⟩
     · obtain rfl : j = k := by omega
       rw [hg] at h2
       exact absurd (by have:=Option.some.inj h2;omega) e⟩ (by repeat (first | exact Off.refl | apply Off.upd rfl | apply Off.havoc rfl | apply Off.updL rfl | apply Off.left rfl)) (by repeat' (first | exact trivial | refine And.intro rfl ?_)) (by repeat (first | exact zs0 _ | exact zs1 _ | apply zs2 | apply zs3 | apply zs4 | apply zs5)) (Jac _) (by dsimp only;omega)
  obtain rfl:k=p.l.length:=by omega
  have hlm:=J2z hA hll (fun i=>by
    rw [q3 i,← hpl,List.mem_iff_getElem?]
    exact ⟨fun ⟨j,_,h⟩=>⟨j,h⟩,fun ⟨j,h⟩=>⟨j,(List.getElem?_eq_some_iff.1 h).1,h⟩⟩)
  refine Xb5 ?_
  refine q_r (L':=(⟨.own b9 m.places.l.length [],l⟩:OwL Bool).L 4 blc ++ L) (R':=S ++ R) (Jdi rfl (Jah (show _=Value.slice _ _ _ from rfl))) ?_
  exact ⟨(⟨.own b9 m.places.l.length [],l⟩:OwL Bool),A,S,Jed hll,hkf,hA,hlm,rfl,rfl⟩
def J1d (m:XMine) (A:List Bool):List Bool:=(List.range m.places.l.length).map fun i=>!(A.getD i false) || (m.places.l.getD i default).surface
theorem Jnd {m:XMine} {A:List Bool} {i:Nat} (h:i < m.places.l.length):(J1d m A)[i]?=some (!(A.getD i false) || (m.places.l.getD i default).surface):=by
  rw [J1d,List.getElem?_map,List.getElem?_range h];rfl
theorem Jnt (m:XMine) (L:List Blk) (R:List Sl) (hm:MineR m R) (hok:MineOk m):
    Tri Tryz.prog 113 [m.val].toArray L R (fun w L' R'=>∃(p:OwL Bool) (A:List Bool),w=p.val∧p.ok 1 blc∧AiryIs m A∧p.l=J1d m A∧L ++ p.L 4 blc=L'∧R=R'):=by
  have hmp:=hm.places
  have hnp:=hok.places
  refine Jae 30 Tryz.call113 Tryz.func113 rfl rfl rfl ?_
  refine Xai ?_
  intro b1
  refine Xbn ?_
  refine qbe ?_
  refine Jaq rfl (Jrb m _ _ hm hok) rfl ?_
  rintro v L' R' ⟨p,rfl,hp,hA,rfl,rfl⟩
  simp only [List.append_assoc,List.cons_append,List.nil_append]
  have hAl:=hA.length
  obtain ⟨o,A⟩:=p
  dsimp only at hA hAl
  refine Xc9 ?_
  refine Jai [(1,Value.pointer _),(3,Value.slice _ _ _),(4,Value.int _ _)] (by repeat' (first | exact trivial | refine And.intro rfl ?_)) fun tq0=>?_
  refine q_p [4,7,8,9,10,11,12,13,14,15,16,17,18,19,20,21,22,23,24,25,26,27,28] ((⟨fun q=>[(4,.int .i64 ((q.1.1:Nat):Int))],fun q=>⟨b1,m.cells,31⟩ :: (L ++ (⟨o,q.1.2⟩:OwL Bool).L 4 blc),fun _=>R,fun q=>m.places.l.length - q.1.1⟩:Head {q:Nat×List Bool // q.1≤m.places.l.length∧q.2.length=m.places.l.length∧(⟨o,q.2⟩:OwL Bool).ok 1 blc∧∀i:Nat,q.2[i]?=if i < q.1 then (J1d m A)[i]? else A[i]?})) (⟨(0,A),by dsimp only;omega,hAl,hp,fun i=>by rw [if_neg (by dsimp only;omega)]⟩) ?_
  rintro ⟨⟨k,l⟩,q1,hll,hk,q3⟩ junk
  try dsimp only
  dsimp only at q1 hll hk q3
  refine Xcg ?_
  refine q_c (fun hc0=>?_) (fun hc0=>?_)
  ·
   have hpg:=Jan (l:=m.places.l) (k:=k) default (by omega)
   have hAg:=Jan (l:=A) (k:=k) false (by omega)
   have hlg:l[k]?=some (A.getD k false):=by rw [q3 k,if_neg (by omega)];exact hAg
   have hfk:=Jnd (m:=m) (A:=A) (i:=k) (by omega)
   refine Ja3 (Jaa (Jam (Ja1 (Jaf ?_))))
   refine Xad ?_
   refine Xad ?_
   refine J5c ?_
   refine Ja2 (Jaz tb ((⟨o,l⟩:OwL Bool)) rfl rfl rfl (by repeat (first | apply OSeg.cons | exact OSeg.here | exact OSeg.last | exact OSeg.at (by assumption) | apply OSeg.app)) (by assumption) (fun _=>rfl) (by assumption) (by rfl)) rfl ?_
   refine Xdx ?_
   refine Jfl (k:=20) (show _=Value.bool _ from rfl) (fun hg8=>?_) (fun hg8=>?_)
   ·
    replace hg8:=qb hg8
    iterate 6 refine Jfv rfl rfl ?_
    refine Ja2 (by first | exact Jco rfl rfl | exact Jb9 rfl rfl | exact Je9 rfl) rfl ?_
    refine J5c ?_
    refine J7w ?_
    rintro v L' R' ⟨rfl,rfl⟩
    refine Xa8 ?_
    have key:∀x:Bool,x=(!(A.getD k false) || (m.places.l.getD k default).surface)→∀i:Nat,(l.set k x)[i]?=if i < k + 1 then (J1d m A)[i]? else A[i]?:=fun x hx i=>by
      rw [List.getElem?_set]
      split
      · rename_i e;subst e;rw [if_pos (by omega),if_pos (by omega),hfk,hx]
      · rename_i e
        rw [q3 i]
        by_cases h:i < k
        · rw [if_pos h,if_pos (by omega)]
        · rw [if_neg h,if_neg (by omega)]
    first
      | have hx : true = (!(A.getD k false) || (m.places.l.getD k default).surface) := by rw [hg8]; rfl
        exact q_k ⟨(k + 1,l.set k true),by dsimp only;omega,by simp;exact hll,OwL.len_ok Jdk hk (by simp),key true hx⟩
      | have hx : (m.places.l.getD k default).surface = (!(A.getD k false) || (m.places.l.getD k default).surface) := by rw [hg8]; rfl
        exact q_k ⟨(k + 1,l.set k (m.places.l.getD k default).surface),by dsimp only;omega,by simp;exact hll,OwL.len_ok Jdk hk (by simp),key _ hx⟩
   replace hg8:=qb hg8
   refine Jct (Jcq tb rfl rfl rfl) rfl rfl ?_
   refine Jct (Jbo tb rfl rfl rfl (by repeat (first | exact zi0 | apply zi1 | apply zi2)) (by rfl)) rfl rfl ?_
   refine Jct (Jar (show _=Value.int _ _ from rfl)) rfl rfl ?_
   refine Jct (by first | exact Jag tb rfl rfl rfl rfl (by first | assumption | exact zr (by simp)) (i:=k) (by first | rfl | omega | (simp;omega)) (by omega) | exact Jal tb rfl rfl rfl rfl (i:=k) (by first | rfl | omega | (simp;omega)) (by omega)) rfl rfl ?_
   refine Jct (Jgd tb rfl rfl rfl) rfl rfl ?_
   refine Jct (by first | exact Jfm tb rfl rfl rfl (by first | assumption | exact zr (by simp)) (by assumption) (by rfl) | exact Jbo tb rfl rfl rfl (by repeat (first | exact zi0 | apply zi1 | apply zi2)) (by rfl) | exact Jbo tb rfl rfl rfl (by repeat (first | exact zi0 | apply zi1 | apply zi2)) (Jgf (by assumption)) | exact Jbo tb rfl rfl rfl (by repeat (first | exact zi0 | apply zi1 | apply zi2)) (Jfu (fun _=>rfl) (by assumption) rfl)) rfl rfl ?_
   refine Ja2 (by first | exact Jco rfl rfl | exact Jb9 rfl rfl | exact Je9 rfl) rfl ?_
   refine J5c ?_
   refine J7w ?_
   rintro v L' R' ⟨rfl,rfl⟩
   refine Xa8 ?_
   have key:∀x:Bool,x=(!(A.getD k false) || (m.places.l.getD k default).surface)→∀i:Nat,(l.set k x)[i]?=if i < k + 1 then (J1d m A)[i]? else A[i]?:=fun x hx i=>by
     rw [List.getElem?_set]
     split
     · rename_i e;subst e;rw [if_pos (by omega),if_pos (by omega),hfk,hx]
     · rename_i e
       rw [q3 i]
       by_cases h:i < k
       · rw [if_pos h,if_pos (by omega)]
       · rw [if_neg h,if_neg (by omega)]
   first
     | have hx : true = (!(A.getD k false) || (m.places.l.getD k default).surface) := by rw [hg8]; rfl
       exact q_k ⟨(k + 1,l.set k true),by dsimp only;omega,by simp;exact hll,OwL.len_ok Jdk hk (by simp),key true hx⟩
     | have hx : (m.places.l.getD k default).surface = (!(A.getD k false) || (m.places.l.getD k default).surface) := by rw [hg8]; rfl
       exact q_k ⟨(k + 1,l.set k (m.places.l.getD k default).surface),by dsimp only;omega,by simp;exact hll,OwL.len_ok Jdk hk (by simp),key _ hx⟩
  obtain rfl:k=m.places.l.length:=by omega
  have hlf:l=J1d m A:=by
    refine List.ext_getElem? fun i=>?_
    rw [q3 i]
    split
    · rfl
    · rw [List.getElem?_eq_none (by omega),List.getElem?_eq_none (by simp [J1d];omega)]
  refine Xb5 ?_
  refine q_r (L':=L ++ (⟨o,l⟩:OwL Bool).L 4 blc) (R':=R) (Jdi rfl (Jah (show _=Value.slice _ _ _ from rfl))) ?_
  exact ⟨⟨o,l⟩,A,(show Value.slice o.addr A.length o.cap=(⟨o,l⟩:OwL Bool).val by simp only [OwL.val,hll,hAl]),hk,hA,hlf,rfl,rfl⟩
end Go.Proofs.YtihompplndcdeaaGreat
end
section
/-
  Bounds, what certify.Check answers, and the reference's check. By an AI agent; no person has read it.
-/
namespace Go.Proofs.YtihompplndcdeaaGreat
open Go.Aw Go
set_option maxRecDepth 20000
attribute [local irreducible] CJ LJ DJ Tri YV Gives Jd5 Jbd Jbz Jd4 RV Jbf OwL.L
section
variable {A9 B9:Prop}
theorem J2h (a:A9) (h:A9→B9:=by exact Ja2 (by first | exact Jag tb rfl rfl rfl rfl (by first | assumption | exact zr (by simp)) (i:=k0) (by first | rfl | omega | (simp;omega)) (by omega) | exact Jal tb rfl rfl rfl rfl (i:=k0) (by first | rfl | omega | (simp;omega)) (by omega)) rfl):B9:=h a
theorem J1s (a:A9) (h:A9→B9:=by exact Ja2 (by first | exact Jco rfl rfl | exact Jb9 rfl rfl | exact Je9 rfl) rfl):B9:=h a
theorem J5a (h:B9:=by exact ⟨by rw [hck,Jf5 hp0 (by omega) (hnb.trans (if_pos (by omega)))];rfl,rfl,rfl⟩):B9:=h
theorem J8v (h:B9:=by exact ⟨by rw [Jdb,if_neg hc0,if_neg hff,if_neg (by omega),if_pos (by simp_all [Option.isSome_iff_ne_none])],rfl,rfl⟩):B9:=h
end
structure XBounds where
  low:Arr Int
  high:Arr Int
def XBounds.cells (s:XBounds):List Value:=[s.low.val,s.high.val]
abbrev XBounds.val (s:XBounds):Value:=.agg #[s.low.val,s.high.val]
structure BoundsR (s:XBounds) (R:List Sl):Prop where
  low:InR (isl s.low) R
  high:InR (isl s.high) R
def Jcp (a:XAir) (s:XSetting) (b:XBounds) (A:List Bool) (i:Nat):Option Int:=
  if (!(A.getD i false) || (a.mine.places.l.getD i default).surface)=true then (if b.low.l.getD i 0≠0∨b.high.l.getD i 0≠0 then some 12 else none)
  else (if Jps a s b.high.l (i:Int) < 0∨0 < Jg3 a s b.low.l (i:Int) then some 12 else none)
def Jdb (a:XAir) (s:XSetting) (b:XBounds) (A:List Bool):Int:=
  if Ja4 a≠0 then Ja4 a
  else if Jdq a s=false then 21
  else if b.low.l.length≠a.mine.places.l.length∨b.high.l.length≠a.mine.places.l.length then 11
  else if (b.low.l.findSome? Jcb).isSome=true∨(b.high.l.findSome? Jcb).isSome=true then 1
  else ((List.range a.mine.places.l.length).findSome? (Jcp a s b A)).getD 0
theorem Jko (m:XMine) (A:List Bool):(J1d m A).length=m.places.l.length:=by simp [J1d]
theorem Jl4 (x:Arr Int) (L:List Blk) (R:List Sl) (hx:InR (isl x) R):
    Tri Tryz.prog 112 [x.val].toArray L R (fun v L' R'=>v=.bool (x.l.findSome? Jcb).isNone∧L=L'∧R=R'):=by
  refine Jb7 Tryz.call112 hx fun hxn=>?_
  refine Jae 22 Tryz.call112 Tryz.func112 rfl rfl rfl ?_
  refine qae ?_
  refine Xb2 ?_
  refine Xas ?_
  refine Jai [(0,Value.slice _ _ _),(3,Value.int _ _)] (by repeat' (first | exact trivial | refine And.intro rfl ?_)) fun tq0=>?_
  refine q_s [2,3,4,5,6,7,8,9,10,11,12,13,14,15,16,17,18,19,20,21] (fun g:FS (Jcb) (x.l)=>[(3,.int .i64 ((g.1:Nat):Int))]) (fun g=>(x.l).length - g.1) ⟨0,Jey _ _⟩ ?_
  rintro ⟨k0,hk0,hp0⟩ junk
  try dsimp only
  refine Xcg ?_
  refine q_c (fun hc0=>?_) (fun hc0=>?_)
  ·
   obtain ⟨y,hy⟩:=Ja0 (l:=x.l) (k:=k0) (by omega)
   refine qbb ?_
   refine Xad ?_
   refine J2h ?_
   refine qa7 ?_
   refine Xa9 ?_
   apply Jbw (G:=[_,_,_,_,_]) (j:=5) (cj:=15) rfl rfl (by rfl) rfl (show _=Value.bool _ from rfl) rfl
   ·
    intro hg6
    replace hg6:=qb hg6
    refine Xad ?_
    refine J2h ?_
    refine qa7 ?_
    refine qa5 ?_
    exact qai
   intro junk6
   refine qaf ?_
   refine q_c (fun hc1=>?_) (fun hc1=>?_)
   ·
    refine qae ?_
    refine Xdk ?_
    refine q_b (L':=L) (R':=R) ?_
    exact ⟨by rw [Jdt hp0 hy (if_pos (by omega))];rfl,rfl,rfl⟩
   refine Xa1 ?_
   exact q_k ⟨k0 + 1,Jeo hp0 hy (if_neg (by omega))⟩
  have hn0:=Jel hp0 (by omega)
  refine qbk ?_
  refine Xbb ?_
  refine q_b (L':=L) (R':=R) ?_
  exact ⟨by rw [hn0];rfl,rfl,rfl⟩
theorem Ju7 (a:XAir) (s:XSetting) (b:XBounds) (A:List Bool) (L:List Blk) (R:List Sl) (hm:AirR a R) (hs:SetR s R) (hb:BoundsR b R) (hA:Ja4 a=0→AiryIs a.mine A):
    Tri Tryz.prog 94 [a.val,s.val,b.val].toArray L R (fun v L' R'=>v=.int .i64 (Jdb a s b A)∧L=L'∧R=R'):=by
  have hmp:=hm.places
  have hbl:=hb.low
  have hbh:=hb.high
  refine Jb7 Tryz.call94 hbl fun hbln=>?_
  refine Jb7 Tryz.call94 hbh fun hbhn=>?_
  refine Jb7 Tryz.call94 hmp fun hmpn=>?_
  refine Jae 88 Tryz.call94 Tryz.func94 rfl rfl rfl ?_
  refine Xai ?_
  intro b3
  refine qax ?_
  intro b4
  refine qax ?_
  intro b5
  refine Xa5 ?_
  refine qa8 ?_
  refine q_l rfl (Jes a _ _ hm) ?_
  refine Xbt ?_
  refine q_c (fun hc0=>?_) (fun hc0=>?_)
  ·
   refine Xd0 ?_
   refine q_i (L':=L) (R':=R) ?_
   exact ⟨by rw [Jdb,if_pos hc0],rfl,rfl⟩
  have h0:Ja4 a=0:=by omega
  have hok:=Jeg h0
  have hAA:=hA h0
  refine Xdp ?_
  refine q_l rfl (Jdg a s _ _ hm hs) ?_
  refine Xbc ?_
  refine q_c (fun hc1=>?_) (fun hc1=>?_)
  ·
   refine Xbl ?_
   refine q_i (L':=L) (R':=R) ?_
   exact ⟨by rw [Jdb,if_neg hc0,if_pos (by simpa [Jdn,h0] using hc1)],rfl,rfl⟩
  have hf0:Jdq a s=true:=by simpa [Jdn,h0] using hc1
  have hfo:=Je4 hf0
  have hff:¬ Jdq a s=false:=by rw [hf0];decide
  refine qbv ?_
  refine Xa7 ?_
  refine Xa5 ?_
  refine Xab ?_
  refine qaa ?_
  refine Xcp ?_
  apply Jbw (G:=[_,_,_,_,_]) (j:=5) (cj:=29) rfl rfl (by rfl) rfl (show _=Value.bool _ from rfl) rfl
  ·
   intro hg6
   replace hg6:=qb hg6
   refine Xab ?_
   refine qaa ?_
   refine qbq ?_
   exact qai
  intro junk6
  refine qaf ?_
  refine q_c (fun hc2=>?_) (fun hc2=>?_)
  ·
   refine Xbl ?_
   refine q_i (L':=L) (R':=R) ?_
   exact ⟨by rw [Jdb,if_neg hc0,if_neg hff,if_pos (by omega)],rfl,rfl⟩
  have hln:b.low.l.length=a.mine.places.l.length:=by omega
  have hhn:b.high.l.length=a.mine.places.l.length:=by omega
  refine qbo ?_
  refine Xaa ?_
  refine q_l rfl (Jl4 b.low _ _ hbl) ?_
  refine Xdx ?_
  refine Jfl (k:=40) (show _=Value.bool _ from rfl) (fun hg5=>?_) (fun hg5=>?_)
  ·
   replace hg5:=qb hg5
   iterate 4 refine Jfv rfl rfl ?_
   refine J1s ?_
   refine qaf ?_
   refine Jcu rfl ?_
   refine Xbl ?_
   refine q_i (L':=L) (R':=R) ?_
   exact J8v
  replace hg5:=qb hg5
  refine Jct (Jcq tb rfl rfl rfl) rfl rfl ?_
  refine Jct (Jbo tb rfl rfl rfl (by repeat (first | exact zi0 | apply zi1 | apply zi2)) (by rfl)) rfl rfl ?_
  refine Jnf rfl (Jl4 b.high _ _ hbh) rfl rfl ?_
  rintro v L' R' ⟨rfl,rfl,rfl⟩
  refine Jct (Jpe rfl) rfl rfl ?_
  refine J1s ?_
  refine qaf ?_
  refine q_c (fun hc3=>?_) (fun hc3=>?_)
  ·
   refine Xbl ?_
   refine q_i (L':=L) (R':=R) ?_
   exact J8v
  have hr:¬ (b.low.l.findSome? Jcb).isSome=true∧¬ (b.high.l.findSome? Jcb).isSome=true:=by simp_all
  refine qbv ?_
  refine Xbu ?_
  refine Jaq rfl (Jnt a.mine _ _ hm.mineR hok.mine) rfl ?_
  rintro v L' R' ⟨p,A2,rfl,hpk,hA2,hpl,rfl,rfl⟩
  obtain rfl:A=A2:=hAA.unique hA2
  have hfx:p.l.length=a.mine.places.l.length:=by rw [hpl];exact Jko a.mine A
  have hplb:PresOk b.low.l:=Jgb (by simpa using hr.1)
  have hphb:PresOk b.high.l:=Jgb (by simpa using hr.2)
  have hck:Jdb a s b A=((List.range a.mine.places.l.length).findSome? (Jcp a s b A)).getD 0:=by rw [Jdb,if_neg hc0,if_neg hff,if_neg (by omega),if_neg (fun h=>h.elim hr.1 hr.2)]
  refine Xdo ?_
  refine Jg1 fun c w hst=>⟨_,_,hst.perm List.perm_append_comm,?_⟩
  refine qay ?_
  refine Xas ?_
  refine Jai [(3,Value.pointer _),(4,Value.pointer _),(5,Value.pointer _),(8,Value.int _ _),(9,Value.slice _ _ _),(10,Value.int _ _)] (by repeat' (first | exact trivial | refine And.intro rfl ?_)) fun tq0=>?_
  refine q_s [6,10,49,50,51,52,53,54,55,56,57,58,59,60,61,62,63,64,65,66,67,68,69,70,71,72,73,74,75,76,77,78,79,80,81,82,83,84,85,86,87] (fun g:FSR (Jcp a s b A) (a.mine.places.l.length)=>[(10,.int .i64 ((g.1:Nat):Int))]) (fun g=>(a.mine.places.l.length) - g.1) ⟨0,Je3 _ _⟩ ?_
  rintro ⟨k0,hk0,hp0⟩ junk
  try dsimp only
  refine Xec ?_
  refine Xao ?_
  refine q_c (fun hc4=>?_) (fun hc4=>?_)
  ·
   have hpg:p.l[k0]?=some (!(A.getD k0 false) || (a.mine.places.l.getD k0 default).surface):=by rw [hpl];exact Jnd (by omega)
   have hlg:=Jan (l:=b.low.l) (k:=k0) 0 (by omega)
   have hhg:=Jan (l:=b.high.l) (k:=k0) 0 (by omega)
   refine Ja3 (Jaa (Jam (Ja1 (Jam (Jam (Jaf ?_))))))
   refine Xad ?_
   refine Ja2 (Jak tb (p) _ rfl rfl rfl rfl (by assumption) (i:=k0) (by first | rfl | omega | (simp;omega)) (by first | omega | (dsimp only;omega) | (dsimp only;rw [List.length_set];omega) | (dsimp only;simp only [List.length_set];omega))) rfl ?_
   refine Ja2 (Jaz tb (p) rfl rfl rfl (by repeat (first | apply OSeg.cons | exact OSeg.here | exact OSeg.last | exact OSeg.at (by assumption) | apply OSeg.app)) (by assumption) (fun _=>rfl) (by assumption) (by rfl)) rfl ?_
   refine qaf ?_
   refine q_c (fun hc5=>?_) (fun hc5=>?_)
   ·
    have hnb:Jcp a s b A k0=if b.low.l.getD k0 0≠0∨b.high.l.getD k0 0≠0 then some 12 else none:=by rw [Jcp,if_pos (by simpa using hc5)]
    refine qbi ?_
    refine Xak ?_
    refine J2h ?_
    refine qa7 ?_
    refine Xcp ?_
    apply Jbw (G:=[_,_,_,_,_,_]) (j:=6) (cj:=64) rfl rfl (by rfl) rfl (show _=Value.bool _ from rfl) rfl
    ·
     intro hg7
     replace hg7:=qb hg7
     refine Xak ?_
     refine J2h ?_
     refine qa7 ?_
     refine qbq ?_
     exact qai
    intro junk7
    refine qaf ?_
    refine q_c (fun hc6=>?_) (fun hc6=>?_)
    ·
     refine Xaj ?_
     refine Ja9 (Jaa (Jc5 (Ja7 (Ja7 (Jay (Ja7 (Jcm (Jay (Ja7 ?_)))))))))
     refine q_i (L':=L) (R':=R) ?_
     exact J5a
    refine Ja3 (Jaa (Jb6 (Jbk (Ja6 (Jaa (Jaf ?_))))))
    refine Xah ?_
    exact q_k ⟨k0 + 1,Jdy hp0 (by omega) (hnb.trans (if_neg (by omega)))⟩
   have hnb:Jcp a s b A k0=if Jps a s b.high.l (k0:Int) < 0∨0 < Jg3 a s b.low.l (k0:Int) then some 12 else none:=by rw [Jcp,if_neg (by simpa using hc5)]
   refine qbv ?_
   refine Xap ?_
   refine Xak ?_
   refine q_l rfl (Jq1 a s b.high _ _ _ hm hs hbh hok hfo hhn hphb) ?_
   refine Xa9 ?_
   refine Jfl (k:=79) (show _=Value.bool _ from rfl) (fun hg8=>?_) (fun hg8=>?_)
   ·
    replace hg8:=qb hg8
    iterate 7 refine Jfv rfl rfl ?_
    refine J1s ?_
    refine qaf ?_
    refine Jcu rfl ?_
    refine Xbv ?_
    refine q_i (L':=L) (R':=R) ?_
    exact J5a
   replace hg8:=qb hg8
   refine Jct (Jbh (row:=[_,_,_,_]) tb rfl rfl rfl (by repeat (first | exact zi0 | apply zi1 | apply zi2)) (by rfl) (by rfl)) rfl rfl ?_
   refine Jct (Jbh (row:=[_,_]) tb rfl rfl rfl (by repeat (first | exact zi0 | apply zi1 | apply zi2)) (by rfl) (by rfl)) rfl rfl ?_
   refine Jct (Jcq tb rfl rfl rfl) rfl rfl ?_
   refine Jct (Jbo tb rfl rfl rfl (by repeat (first | exact zi0 | apply zi1 | apply zi2)) (by rfl)) rfl rfl ?_
   refine Jct (Jar (show _=Value.int _ _ from rfl)) rfl rfl ?_
   refine Jnf rfl (Jod a s b.low _ _ _ hm hs hbl hok hfo hln hplb) rfl rfl ?_
   rintro v L' R' ⟨rfl,rfl,rfl⟩
   refine Jct (Jlh rfl rfl) rfl rfl ?_
   refine J1s ?_
   refine qaf ?_
   refine q_c (fun hc7=>?_) (fun hc7=>?_)
   ·
    refine Xbv ?_
    refine q_i (L':=L) (R':=R) ?_
    exact J5a
   refine Xa1 ?_
   exact q_k ⟨k0 + 1,Jdy hp0 (by omega) (hnb.trans (if_neg (by omega)))⟩
  have hn0:=Je8 hp0 (by omega)
  refine Xcu ?_
  refine q_i (L':=L) (R':=R) ?_
  exact ⟨by rw [hck,hn0];rfl,rfl,rfl⟩
end Go.Proofs.YtihompplndcdeaaGreat
end
