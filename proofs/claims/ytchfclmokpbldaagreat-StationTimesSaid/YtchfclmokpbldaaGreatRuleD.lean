import Derived.Test.YtchfclmokpbldaaGreatSiteS
import Derived.Test.YtchfclmokpbldaaGreatFans
import Derived.Test.YtchfclmokpbldaaGreatRestP
import Derived.Test.YtchfclmokpbldaaGreatRuleP
set_option linter.unusedVariables false
set_option linter.unusedSimpArgs false
section
/-
  Sites without errors. Plain. By an AI agent; no person has read it.
-/
namespace Go.Proofs.YtchfclmokpbldaaGreat
open Go.Aw Go
theorem Jyd {e:Int} (h:nzO e=none):e=0:=by
  rw [nzO] at h
  split at h
  · assumption
  · cases h
theorem J61 {e x:Int} (h:nzO e=some x):x≠0:=by
  rw [nzO] at h
  split at h
  · cases h
  · cases h;assumption
structure SiteOk (s:XSite):Prop where
  air:Jbx s.air=0
  len:s.sensors.l.length≤64∧s.conds.l.length≤64∧s.zones.l.length≤16∧s.persons.l.length≤64
  sens:∀i:Nat,i < s.sensors.l.length→Je7 s.air s.sensors.l i=none
  cond:∀c∈s.conds.l,Jbn s.sensors.l s.air.mine.roads.l.length c=0
  zone:∀z∈s.zones.l,Jd6 s.conds.l.length s.air.mine.roads.l.length z=0
  pers:∀p∈s.persons.l,1≤p∧p≤3
theorem J3g {a:XAir} {S:List XSens} {i:Nat} {e:Int} (h:Je7 a S i=some e):e≠0:=by
  rw [Je7] at h
  split at h
  · cases h;assumption
  split at h
  · cases h;decide
  split at h
  · cases h;decide
  · cases h
theorem Jez {s:XSite} (h:Jb1 s=0):SiteOk s:=by
  rw [Jb1] at h
  split at h
  · omega
  split at h
  · omega
  split at h
  · omega
  split at h
  · omega
  split at h
  · omega
  rename_i h1 h2 h3 h4 h5
  refine ⟨by omega,by omega,fun i hi=>?_,fun c hc=>?_,fun z hz=>?_,fun p hp=>?_⟩
  · have h3' : Jcd s.air s.sensors.l = 0 := by omega
    exact Jda (f:=Je7 s.air s.sensors.l) (fun x e hx=>J3g hx) h3' i (List.mem_range.2 hi)
  · have h4' : Jgr s = 0 := by omega
    exact Jyd (Jda (f:=fun c=>nzO (Jbn s.sensors.l s.air.mine.roads.l.length c)) (fun x e hx=>J61 hx) h4' c hc)
  · have h5' : Jee s = 0 := by omega
    exact Jyd (Jda (f:=fun z=>nzO (Jd6 s.conds.l.length s.air.mine.roads.l.length z)) (fun x e hx=>J61 hx) h5' z hz)
  · have:=Jda (f:=fun p:Int=>if p < 1∨3 < p then some 19 else none) (fun x e hx=>by
      split at hx
      · cases hx;decide
      · cases hx) h p hp
    split at this
    · cases this
    · omega
theorem Jia {α β:Type} {f:α→Option β} {l:List α} (h:∀x∈l,f x=none):l.findSome? f=none:=List.findSome?_eq_none_iff.2 h
theorem SiteOk.err {s:XSite} (h:SiteOk s):Jb1 s=0:=by
  have h1:=h.air
  have h2:=h.len
  have e1:Jcd s.air s.sensors.l=0:=by rw [Jcd,Jia (fun i hi=>h.sens i (List.mem_range.1 hi))];rfl
  have e2:Jgr s=0:=by rw [Jgr,Jia (fun c hc=>by rw [nzO,if_pos (h.cond c hc)])];rfl
  have e3:Jee s=0:=by rw [Jee,Jia (fun z hz=>by rw [nzO,if_pos (h.zone z hz)])];rfl
  have e4:Jfw s=0:=by rw [Jfw,Jia (fun p hp=>if_neg (by have:=h.pers p hp;omega))];rfl
  rw [Jb1,if_neg za,if_neg za,if_neg za,if_neg za,if_neg za,e4]
theorem Jst {S:List XSens} {n:Nat} {c:XCond} (h:Jbn S n c=0):(1≤c.kind∧c.kind≤5)∧(0≤c.value∧c.value≤1099511627776)∧(c.kind=1→Jfo c.level)∧
    (c.kind=5→0≤c.target∧c.target < n)∧(c.kind≠5→0≤c.target∧c.target < S.length)∧(c.kind=3→(S.getD c.target.toNat default).kind=5):=by
  rw [Jbn] at h
  split at h
  · omega
  rename_i h1
  split at h
  · omega
  rename_i h2
  have h3:Jbh S n c=0:=by omega
  have h4:c.kind=1→Jfo c.level:=fun hk=>by
    rw [if_pos hk,Jf1] at h
    split at h
    · assumption
    · omega
  rw [Jbh] at h3
  split at h3
  · split at h3
    · exact ⟨by omega,by omega,h4,by omega,by omega,by omega⟩
    · omega
  split at h3
  · split at h3
    · rename_i h5
      exact ⟨by omega,by omega,h4,by omega,by omega,fun _=>h5.2⟩
    · omega
  split at h3
  · split at h3
    · exact ⟨by omega,by omega,h4,by omega,by omega,by omega⟩
    · omega
  · omega
structure WrO {α:Type} (l0:List α) (g:Nat→α) (i:Nat) (l:List α):Prop where
  len:l.length=l0.length
  don:∀j:Nat,j < i→l[j]?=some (g j)
  old:∀j:Nat,i≤j→l[j]?=l0[j]?
theorem WrO.zero {α:Type} {l0:List α} {g:Nat→α}:WrO l0 g 0 l0:=⟨rfl,fun j hj=>by omega,fun j _=>rfl⟩
theorem WrO.next {α:Type} {l0:List α} {g:Nat→α} {i:Nat} {l:List α} (h:WrO l0 g i l) (hi:i < l0.length) {x:α} (hx:x=g i):WrO l0 g (i + 1) (l.set i x):=by
  have hl:=h.len
  refine ⟨by simp [hl],fun j hj=>?_,fun j h1=>?_⟩
  · rw [List.getElem?_set]
    split
    · rename_i e;rw [if_pos za,hx,e]
    · exact h.don j za
  · rw [List.getElem?_set_ne za]
    exact h.old j za
theorem WrO.stay {α:Type} {l0:List α} {g:Nat→α} {i:Nat} {l:List α} (h:WrO l0 g i l) (hx:l0[i]?=some (g i)):WrO l0 g (i + 1) l:=by
  refine ⟨h.len,fun j hj=>?_,fun j h1=>h.old j za⟩
  rcases Nat.lt_or_ge j i with h1 | h1
  · exact h.don j h1
  · obtain rfl : j = i := by omega
    rw [h.old j (Nat.le_refl _),hx]
theorem WrO.done {α:Type} {l0:List α} {g:Nat→α} {l:List α} (h:WrO l0 g l0.length l):l=(List.range l0.length).map g:=by
  have hl:=h.len
  refine List.ext_getElem? fun j=>?_
  rcases Nat.lt_or_ge j l0.length with hj | hj
  · rw [h.don j hj,List.getElem?_map,List.getElem?_range hj];rfl
  · rw [List.getElem?_eq_none za,List.getElem?_eq_none zF]
end Go.Proofs.YtchfclmokpbldaaGreat
end
section
/-
  Restoring power: restore.ready, and the reference's. By an AI agent; no person has read it.
-/
namespace Go.Proofs.YtchfclmokpbldaaGreat
open Go.Aw Go
set_option maxRecDepth 20000
attribute [local irreducible] CJ LJ DJ Tri YV Gives Jcj Ja1 Jbg Jci RV Ja2 OwL.L
section
variable {A9 B9:Prop}
theorem Kbh (a:A9) (h:A9→B9:=by exact Jbu (by first | exact Jae tb rfl rfl rfl rfl zt (i:=k.toNat) zj za | exact Jak tb rfl rfl rfl rfl (i:=k.toNat) zj za) rfl rfl rfl):B9:=h a
theorem Kbk (a:A9) (h:A9→B9:=by exact Jbu (by first | exact Jae tb rfl rfl rfl rfl zt (i:=(z.roads.l.getD j 0).toNat) zj za | exact Jak tb rfl rfl rfl rfl (i:=(z.roads.l.getD j 0).toNat) zj za) rfl rfl rfl):B9:=h a
end
theorem J51 {s:XSite} (h:SiteOk s) {r:XRoad} (hr:r∈s.air.mine.roads.l):(1≤r.len∧r.len≤100000)∧(1≤r.area∧r.area≤1000):=by
  have h1:Jdc s.air.mine=0:=by
    have:=h.air
    rw [Jbx] at this
    split at this
    · exact this
    · rename_i h2;exact Decidable.not_not.1 h2
  unfold Jdc at h1
  split at h1
  · cases h1
  split at h1
  · rename_i e he
    subst h1
    obtain ⟨x,_,hx⟩:=List.exists_of_findSome?_eq_some he
    unfold Jh3 at hx
    split at hx <;> cases hx
  have hall:=Jda (f:=Jeq s.air.mine.places.l.length) (fun x e hx he=>by
    subst he
    unfold Jeq at hx
    split at hx
    · cases hx
    · split at hx <;> cases hx) h1
  have:=hall r hr
  unfold Jeq at this
  split at this
  · cases this
  split at this
  · cases this
  rename_i h2
  omega
theorem J4o {s:XSite} (h:SiteOk s) {z:XZone} (hz:z∈s.zones.l):(0≤z.hold∧z.hold≤100000)∧(0≤z.fresh∧z.fresh≤100)∧∀i:Nat,i < z.roads.l.length→0≤z.roads.l.getD i 0∧z.roads.l.getD i 0 < s.air.mine.roads.l.length:=by
  have:=h.zone z hz
  rw [Jd6] at this
  split at this
  · omega
  split at this
  · cases this
  rename_i h1
  split at this
  · cases this
  rename_i h2
  refine ⟨by omega,by omega,fun i hi=>?_⟩
  have:¬ Jdx s.air.mine.roads.l.length z.roads.l i:=fun hb=>h2 ⟨i,hi,hb⟩
  rw [Jdx] at this
  omega
theorem J55 {s:XSite} (h:SiteOk s) {z:XZone} (hz:z∈s.zones.l):z.roads.l.length≤128:=by
  have:=h.zone z hz
  rw [Jd6] at this
  split at this
  · omega
  split at this
  · cases this
  split at this
  · cases this
  rename_i h2
  have hb:∀i:Nat,i < z.roads.l.length→¬ Jdx s.air.mine.roads.l.length z.roads.l i:=fun i hi hb=>h2 ⟨i,hi,hb⟩
  have up:∀i:Nat,i < z.roads.l.length→(i:Int)≤z.roads.l.getD i 0:=by
    intro i
    induction i with
    | zero=>intro hi;have:=hb 0 hi;rw [Jdx] at this;omega
    | succ i ih=>
      intro hi
      have h1:=ih za
      have h2:=hb (i + 1) hi
      rw [Jdx,Nat.add_sub_cancel] at h2
      omega
  have hn:=(Jeo h.air).mine.roads
  rcases Nat.lt_or_ge 128 z.roads.l.length with h3 | h3
  · have h4 := up 128 h3
    have h5:=hb 128 h3
    rw [Jdx] at h5
    omega
  · exact h3
def Jhg (s:XSite) (fl:List XSpan) (z:XZone) (sec r:Int):Prop:=¬ Jr1 (s.air.mine.roads.l.getD r.toNat default) (fl.getD r.toNat default) z.fresh sec
instance (s:XSite) (fl:List XSpan) (z:XZone) (sec r:Int):Decidable (Jhg s fl z sec r):=by unfold Jhg;infer_instance
def Jkr (s:XSite) (fl:List XSpan) (c:XCut) (z:XZone) (t:Int):Int:=
  if c.off=false then 10
  else if (c.clear < 0∨t < c.clear)∨t - c.clear < z.hold then 20
  else if∃r∈z.roads.l,Jhg s fl z (t - c.clear) r then 20 else 0
def readyE (s:XSite) (c:List XCut) (fl:List XSpan) (k t:Int):Int:=
  if k < 0∨(c.length:Int)≤k then 17 else Jkr s fl (c.getD k.toNat default) (s.zones.l.getD k.toNat default) t
theorem J6n {s:XSite} {fl:List XSpan} {c:XCut} {z:XZone} {t:Int} (h1:c.off=true) (h2:¬ ((c.clear < 0∨t < c.clear)∨t - c.clear < z.hold)) (h3:∀j:Nat,j < z.roads.l.length→¬ Jhg s fl z (t - c.clear) (z.roads.l.getD j 0)):Jkr s fl c z t=0:=by
  rw [Jkr,if_neg (by rw [h1];decide),if_neg h2,if_neg]
  rintro ⟨r,hr,hw⟩
  obtain ⟨j,hj,rfl⟩:=List.getElem_of_mem hr
  have:=h3 j hj
  rw [List.getD_eq_getElem?_getD,List.getElem?_eq_getElem hj] at this
  exact this hw
theorem J3o {s:XSite} {fl:List XSpan} {c:XCut} {z:XZone} {t r:Int} (h1:c.off=true) (h2:¬ ((c.clear < 0∨t < c.clear)∨t - c.clear < z.hold)) (hr:r∈z.roads.l) (h3:Jhg s fl z (t - c.clear) r):Jkr s fl c z t=20:=by
  rw [Jkr,if_neg (by rw [h1];decide),if_neg h2,if_pos ⟨r,hr,h3⟩]
structure RestA (s:XSite) (c:Arr XCut) (fl:Arr XSpan) (R:List Sl):Prop where
  site:SiteR s R
  cuts:InR (Jp3 c) R
  flows:InR (J06 fl) R
theorem Jo9 (s:XSite) (c:Arr XCut) (fl:Arr XSpan) (k t:Int) (L:List Blk) (R:List Sl) (h:RestA s c fl R) (hok:SiteOk s) (hlen:c.l.length=s.zones.l.length∧fl.l.length=s.air.mine.roads.l.length) (ht:0≤t∧t≤2147483648):
    Tri Tryz.prog 163 [s.val,c.val,fl.val,.int .i64 k,.int .i64 t].toArray L R (fun v L' R'=>v=.int .i64 (readyE s c.l fl.l k t)∧L=L'∧R=R'):=by
  have hcR:=h.cuts
  have hfR:=h.flows
  have hzR:=h.site.zones
  have hrR:=h.site.air.roads
  have hsl:=hok.len
  refine Jad 80 Tryz.call163 Tryz.func163 rfl rfl rfl ?_
  refine Xaf ?_
  intro b5
  refine Xas ?_
  refine Xb0 ?_
  apply Ja7 (G:=[_,_,_,_]) (j:=2) (cj:=17) rfl rfl zb rfl (show _=Value.bool _ from rfl) rfl
  ·
   intro hg3
   replace hg3:=qb hg3
   refine qaa ?_
   refine Xao ?_
   refine qbz ?_
   exact qai
  intro junk3
  refine qaf ?_
  refine q_c (fun hc0=>?_) (fun hc0=>?_)
  ·
   refine Xa7 ?_
   refine q_i (L':=L) (R':=R) ?_
   exact ⟨by rw [readyE,if_pos za],rfl,rfl⟩
  have hcg:=Jau (l:=c.l) (k:=k.toNat) default za
  have hzg:=Jau (l:=s.zones.l) (k:=k.toNat) default za
  have he:readyE s c.l fl.l k t=Jkr s fl.l (c.l.getD k.toNat default) (s.zones.l.getD k.toNat default) t:=by rw [readyE,if_neg za]
  obtain ⟨z,hz⟩:∃z,z=s.zones.l.getD k.toNat default:=⟨_,rfl⟩
  obtain ⟨x,hx⟩:∃x,x=c.l.getD k.toNat default:=⟨_,rfl⟩
  rw [← hz] at hzg he
  rw [← hx] at hcg he
  have hzr:=J4o hok (List.mem_of_getElem? hzg)
  have hzl:=J55 hok (List.mem_of_getElem? hzg)
  have hzroR:InR (isl z.roads) R:=InR.zroads hzR hzg
  refine qcl ?_
  refine Jbf tb [0,1,2,3,4,5,6,7,8,9,10,11,12] _ Jby zc (List.Sublist.refl _) ?_
  refine Jbu (Jav (show _=Value.slice _ _ _ from rfl)) rfl rfl rfl ?_
  refine qao ?_
  refine Kbh ?_
  refine qdv ?_
  refine Xbo ?_
  refine Kbh ?_
  refine qdp ?_
  refine qbr ?_
  intro b11
  refine qbr ?_
  intro b12
  refine qbg ?_
  refine qbg ?_
  refine qc6 ?_
  refine Xaa ?_
  refine Xbd ?_
  refine q_c (fun hc1=>?_) (fun hc1=>?_)
  ·
   refine Xa7 ?_
   refine q_i (L':=L) (R':=R) ?_
   exact ⟨by rw [he,Jkr,if_pos zI],rfl,rfl⟩
  have hoff:x.off=true:=by simpa using hc1
  refine qbo ?_
  refine Xbi ?_
  apply Ja7 (G:=[_,_,_,_]) (j:=3) (cj:=38) rfl rfl zb rfl (show _=Value.bool _ from rfl) rfl
  ·
   intro hg4
   replace hg4:=qb hg4
   refine Xal ?_
   refine qa5 ?_
   exact qai
  intro junk4
  refine qah ?_
  apply Ja7 (G:=[_,_,_,_,_,_,_]) (j:=9) (cj:=44) rfl rfl zb rfl (show _=Value.bool _ from rfl) rfl
  ·
   intro hg10
   replace hg10:=qb hg10
   refine qaa ?_
   refine Xaa ?_
   refine qa9 ?_
   refine Xcg ?_
   exact qai
  intro junk10
  refine qaf ?_
  refine q_c (fun hc2=>?_) (fun hc2=>?_)
  ·
   refine Xa7 ?_
   refine q_i (L':=L) (R':=R) ?_
   exact ⟨by rw [he,Jkr,if_neg (by rw [hoff];decide),if_pos za],rfl,rfl⟩
  refine Xcm ?_
  refine Jan [(2,Value.slice _ _ _),(4,Value.int _ _),(5,Value.pointer _),(11,Value.pointer _),(12,Value.pointer _),(54,Value.slice _ _ _),(55,Value.int _ _),(56,Value.int _ _)] zh fun tq0=>?_
  refine q_s [10,14,56,57,58,59,60,61,62,63,64,65,66,67,68,69,70,71,72,73,74,75,76,77,78,79] (fun g:{j:Nat // j≤z.roads.l.length∧∀m:Nat,m < j→¬ Jhg s fl.l z (t - x.clear) (z.roads.l.getD m 0)}=>[(56,.int .i64 ((g.1:Nat):Int))]) (fun g=>z.roads.l.length - g.1) (⟨0,by omega,fun m hm=>by omega⟩) ?_
  rintro ⟨j,hj,hal⟩ junk
  try dsimp only
  refine Xak ?_
  refine q_c (fun hc3=>?_) (fun hc3=>?_)
  ·
   have hjg:=Jau (l:=z.roads.l) (k:=j) 0 za
   have hjr:=hzr.2.2 j za
   have hrg:=Jau (l:=s.air.mine.roads.l) (k:=(z.roads.l.getD j 0).toNat) default za
   have hfg:=Jau (l:=fl.l) (k:=(z.roads.l.getD j 0).toNat) default za
   have hrr:=J51 hok (List.mem_of_getElem? hrg)
   refine qbb ?_
   refine Jax zta rfl ?_
   refine qa7 ?_
   refine Xcd ?_
   refine Jbf tb [0,1,2,3,4,5,6,7,8,9,10,11,12,13,14,15,16,17,18] _ Jby zc (List.Sublist.refl _) ?_
   iterate 3 refine qal ?_
   refine qat ?_
   refine qao ?_
   refine Kbk ?_
   refine Jbu zEa rfl rfl rfl ?_
   refine Jbu (Jav (show _=Value.slice _ _ _ from rfl)) rfl rfl rfl ?_
   refine qao ?_
   refine Kbk ?_
   refine qdo ?_
   refine Xbo ?_
   refine Xan ?_
   refine qb7 ?_
   refine q_d rfl (Jv1 (s.air.mine.roads.l.getD (z.roads.l.getD j 0).toNat default) (fl.l.getD (z.roads.l.getD j 0).toNat default) z.fresh (t - x.clear) _ _ hrr.1 hrr.2 hzr.2.1 za) ?_
   refine Jbu (Jnf rfl) rfl rfl rfl ?_
   refine qbu ?_
   refine q_c (fun hc4=>?_) (fun hc4=>?_)
   ·
    refine Xby ?_
    refine q_i (L':=L) (R':=R) ?_
    exact ⟨by rw [he,J3o hoff za (List.mem_of_getElem? hjg) (by rw [Jhg];simpa using hc4)],rfl,rfl⟩
   refine Xay ?_
   exact Jbl (⟨j + 1,by omega,fun m hm=>by
   rcases Nat.lt_or_ge m j with h | h
   · exact hal m h
   · obtain rfl : m = j := by omega
     rw [Jhg];simpa using hc4⟩) zm zh zi (Jac _) zy
  refine Xb9 ?_
  refine q_i (L':=L) (R':=R) ?_
  exact ⟨by rw [he,J6n hoff za (fun m hm=>hal m za)],rfl,rfl⟩
end Go.Proofs.YtchfclmokpbldaaGreat
end
section
/-
  Restoring power: Ready, Ask and Confirm. By an AI agent; no person has read it.
-/
namespace Go.Proofs.YtchfclmokpbldaaGreat
open Go.Aw Go
set_option maxRecDepth 20000
attribute [local irreducible] CJ LJ DJ Tri YV Gives Jcj Ja1 Jbg Jci RV Ja2 OwL.L
section
variable {A9 B9:Prop}
theorem Jjj (a:A9) (h:A9→B9:=by exact Jax (Jal (row:=[_,_,_,_,_]) tb rfl rfl rfl zf zb zb) rfl):B9:=h a
theorem J07 (a:A9) (h:A9→B9:=by exact Jax (Jal (row:=[_,_,_,_,_,_,_,_]) tb rfl rfl rfl zf zb zb) rfl):B9:=h a
end
structure XRest where
  zone:Int
  first:Int
  second:Int
  step:Int
  time:Int
  deriving DecidableEq
def XRest.cells (x:XRest):List Value:=[.int .i64 x.zone,.int .i64 x.first,.int .i64 x.second,.int .i64 x.step,.int .i64 x.time]
abbrev XRest.val (x:XRest):Value:=.agg #[.int .i64 x.zone,.int .i64 x.first,.int .i64 x.second,.int .i64 x.step,.int .i64 x.time]
def noRest:XRest:=⟨-1,-1,-1,0,0⟩
def sharedE (s:XSite) (nc nf:Nat) (t:Int):Int:=if Jb1 s≠0 then Jb1 s else if ¬ (nc=s.zones.l.length∧nf=s.air.mine.roads.l.length) then 11 else if t < 0∨2147483648 < t then 8 else 0
theorem Jif (s:XSite) (c:Arr XCut) (fl:Arr XSpan) (t:Int) (L:List Blk) (R:List Sl) (h:RestA s c fl R):
    Tri Tryz.prog 162 [s.val,c.val,fl.val,.int .i64 t].toArray L R (fun v L' R'=>v=.int .i64 (sharedE s c.l.length fl.l.length t)∧L=L'∧R=R'):=by
  refine Jad 37 Tryz.call162 Tryz.func162 rfl rfl rfl ?_
  refine Xaf ?_
  intro b4
  refine Xas ?_
  refine J07 ?_
  refine q_l rfl (Jgp s _ _ h.site) ?_
  refine Xa9 ?_
  refine q_c (fun hc0=>?_) (fun hc0=>?_)
  ·
   refine Xdl ?_
   refine q_i (L':=L) (R':=R) ?_
   exact ⟨by rw [sharedE,if_pos hc0],rfl,rfl⟩
  refine qbo ?_
  refine Xao ?_
  refine Xab ?_
  refine Xbu ?_
  apply Ja7 (G:=[_,_,_,_,_,_,_,_]) (j:=6) (cj:=21) rfl rfl zb rfl (show _=Value.bool _ from rfl) rfl
  ·
   intro hg7
   replace hg7:=qb hg7
   refine Xao ?_
   iterate 3 refine qab ?_
   refine qac ?_
   refine qag ?_
   refine qbq ?_
   exact qai
  intro junk7
  refine qaf ?_
  refine q_c (fun hc1=>?_) (fun hc1=>?_)
  ·
   refine Xa7 ?_
   refine q_i (L':=L) (R':=R) ?_
   exact ⟨by rw [sharedE,if_neg za,if_pos za],rfl,rfl⟩
  refine qbo ?_
  refine Xb0 ?_
  apply Ja7 (G:=[_,_]) (j:=2) (cj:=33) rfl rfl zb rfl (show _=Value.bool _ from rfl) rfl
  ·
   intro hg3
   replace hg3:=qb hg3
   refine Xb5 ?_
   exact qai
  intro junk3
  refine qaf ?_
  refine q_c (fun hc2=>?_) (fun hc2=>?_)
  ·
   refine Xa7 ?_
   refine q_i (L':=L) (R':=R) ?_
   exact ⟨by rw [sharedE,if_neg za,if_neg za,if_pos za],rfl,rfl⟩
  refine Xcf ?_
  refine q_i (L':=L) (R':=R) ?_
  exact ⟨by rw [sharedE,if_neg za,if_neg za,if_neg za],rfl,rfl⟩
theorem Jl7 {s:XSite} {nc nf:Nat} {t:Int} (h:sharedE s nc nf t=0):SiteOk s∧(nc=s.zones.l.length∧nf=s.air.mine.roads.l.length)∧0≤t∧t≤2147483648:=by
  rw [sharedE] at h
  split at h
  · omega
  rename_i h1
  split at h
  · omega
  split at h
  · omega
  exact ⟨Jez (Decidable.not_not.1 h1),by omega,by omega⟩
theorem Jsp (L:List Blk) (R:List Sl):Tri Tryz.prog 77 ([]:List Value).toArray L R (fun v L' R'=>v=noRest.val∧L=L'∧R=R'):=by
  refine Jad 2 Tryz.call77 Tryz.func77 rfl rfl rfl ?_
  refine qae ?_
  refine qaq ?_
  intro b0
  refine qam ?_
  refine Jax (Jbc (qs:=[(0,(Value.int _ _).cells.toList),(1,(Value.int _ _).cells.toList),(2,(Value.int _ _).cells.toList)]) (out:=[_,_,_,_,_]) tb rfl rfl rfl rfl) rfl ?_
  refine Xbq ?_
  refine q_r (L':=L) (R':=R) (Jec rfl (Jao (row:=[_,_,_,_,_]) tb rfl rfl rfl zf zb zb)) ?_
  exact ⟨rfl,rfl,rfl⟩
def askE (s:XSite) (c:List XCut) (fl:List XSpan) (r:XRest) (p k t:Int):Int:=
  if sharedE s c.length fl.length t≠0 then sharedE s c.length fl.length t
  else if r.zone≠-1 then 10
  else if p < 0∨(s.persons.l.length:Int)≤p∨s.persons.l.getD p.toNat 0≠1 then 19
  else readyE s c fl k t
def askR (s:XSite) (c:List XCut) (fl:List XSpan) (r:XRest) (p k t:Int):XRest:=if askE s c fl r p k t=0 then ⟨k,p,-1,1,t⟩ else r
theorem Js7 {s:XSite} {c:List XCut} {fl:List XSpan} {r:XRest} {p k t e:Int} (h:askE s c fl r p k t=e) (he:e≠0):askR s c fl r p k t=r:=by rw [askR,if_neg za]
theorem J7o (s:XSite) (c:Arr XCut) (fl:Arr XSpan) (r:XRest) (p k t:Int) (L:List Blk) (R:List Sl) (h:RestA s c fl R):
    Tri Tryz.prog 84 [s.val,c.val,fl.val,r.val,.int .i64 p,.int .i64 k,.int .i64 t].toArray L R (fun v L' R'=>v=.tuple #[(askR s c.l fl.l r p k t).val,.int .i64 (askE s c.l fl.l r p k t)]∧L=L'∧R=R'):=by
  have hpR:=h.site.persons
  refine Jad 64 Tryz.call84 Tryz.func84 rfl rfl rfl ?_
  refine Xaf ?_
  intro b7
  refine qax ?_
  intro b10
  refine qaq ?_
  intro b14
  refine Xas ?_
  refine J07 ?_
  refine qbm ?_
  refine Xau ?_
  refine q_l rfl (Jif s c fl t _ _ h) ?_
  refine Xa9 ?_
  refine q_c (fun hc0=>?_) (fun hc0=>?_)
  ·
   refine qae ?_
   refine Jjj ?_
   refine Xbz ?_
   refine q_r (L':=L) (R':=R) (Jcf rfl (Jao (row:=[_,_,_,_,_]) tb rfl rfl rfl zf zb zb) (Jaf (show _=Value.int _ _ from rfl))) ?_
   have he:askE s c.l fl.l r p k t=sharedE s c.l.length fl.l.length t:=by rw [askE,if_pos hc0]
   exact ⟨by rw [Js7 he hc0,he],rfl,rfl⟩
  obtain ⟨hok,hln,ht⟩:=Jl7 (s:=s) (nc:=c.l.length) (nf:=fl.l.length) (t:=t) za
  refine Xce ?_
  refine Xaq ?_
  refine q_c (fun hc1=>?_) (fun hc1=>?_)
  ·
   refine qae ?_
   refine Jjj ?_
   refine Xa0 ?_
   refine q_r (L':=L) (R':=R) (Jcf rfl (Jao (row:=[_,_,_,_,_]) tb rfl rfl rfl zf zb zb) (Jaf (show _=Value.int _ _ from rfl))) ?_
   have he:askE s c.l fl.l r p k t=10:=by rw [askE,if_neg hc0,if_pos hc1]
   exact ⟨by rw [Js7 he za,he],rfl,rfl⟩
  refine qbo ?_
  refine Xb0 ?_
  apply Ja7 (G:=[_,_,_,_,_]) (j:=2) (cj:=33) rfl rfl zb rfl (show _=Value.bool _ from rfl) rfl
  ·
   intro hg3
   replace hg3:=qb hg3
   refine qaa ?_
   refine Xab ?_
   refine qbz ?_
   exact qai
  intro junk3
  refine qah ?_
  apply Ja7 (G:=[_,_,_,_,_,_,_]) (j:=9) (cj:=40) rfl rfl zb rfl (show _=Value.bool _ from rfl) rfl
  ·
   intro hg10
   replace hg10:=qb hg10
   have hpg:=Jau (l:=s.persons.l) (k:=p.toNat) 0 za
   refine Xal ?_
   refine Jax zbb rfl ?_
   refine Xb4 ?_
   refine qbq ?_
   exact qai
  intro junk10
  refine qaf ?_
  refine q_c (fun hc2=>?_) (fun hc2=>?_)
  ·
   refine qae ?_
   refine Jjj ?_
   refine Xa0 ?_
   refine q_r (L':=L) (R':=R) (Jcf rfl (Jao (row:=[_,_,_,_,_]) tb rfl rfl rfl zf zb zb) (Jaf (show _=Value.int _ _ from rfl))) ?_
   have he:askE s c.l fl.l r p k t=19:=by rw [askE,if_neg hc0,if_neg hc1,if_pos za]
   exact ⟨by rw [Js7 he za,he],rfl,rfl⟩
  have he:askE s c.l fl.l r p k t=readyE s c.l fl.l k t:=by rw [askE,if_neg hc0,if_neg hc1,if_neg za]
  refine qbo ?_
  refine J07 ?_
  refine qbm ?_
  refine Xau ?_
  refine qaa ?_
  refine q_l rfl (Jo9 s c fl k t _ _ h hok hln ht) ?_
  refine Xa9 ?_
  refine q_c (fun hc3=>?_) (fun hc3=>?_)
  ·
   refine qae ?_
   refine Jjj ?_
   refine Xbz ?_
   refine q_r (L':=L) (R':=R) (Jcf rfl (Jao (row:=[_,_,_,_,_]) tb rfl rfl rfl zf zb zb) (Jaf (show _=Value.int _ _ from rfl))) ?_
   exact ⟨by rw [Js7 he hc3,he],rfl,rfl⟩
  refine qbv ?_
  iterate 3 refine qaa ?_
  refine Jax (Jbc (qs:=[(0,(Value.int _ _).cells.toList),(1,(Value.int _ _).cells.toList),(2,(Value.int _ _).cells.toList),(3,(Value.int _ _).cells.toList),(4,(Value.int _ _).cells.toList)]) (out:=[_,_,_,_,_]) tb rfl rfl rfl rfl) rfl ?_
  refine Xbl ?_
  refine q_r (L':=L) (R':=R) (Jcf rfl (Jao (row:=[_,_,_,_,_]) tb rfl rfl rfl zf zb zb) (Jaf (show _=Value.int _ _ from rfl))) ?_
  exact ⟨by rw [askR,if_pos za,he,show readyE s c.l fl.l k t=0 by omega],rfl,rfl⟩
def Jty (r:XRest) (t:Int):Prop:=t < r.time∨r.time < t - 600
instance (r:XRest) (t:Int):Decidable (Jty r t):=by unfold Jty;infer_instance
theorem Jzl (r:XRest) (t:Int) (L:List Blk) (R:List Sl) (ht:0≤t∧t≤2147483648):
    Tri Tryz.prog 164 [r.val,.int .i64 t].toArray L R (fun v L' R'=>v=.bool (decide (Jty r t))∧L=L'∧R=R'):=by
  refine Jad 16 Tryz.call164 Tryz.func164 rfl rfl rfl ?_
  refine Xaf ?_
  intro b2
  refine qaz ?_
  refine Xdi ?_
  refine Xbi ?_
  apply Ja7 (G:=[_,_,_,_,_]) (j:=4) (cj:=9) rfl rfl zb rfl (show _=Value.bool _ from rfl) rfl
  ·
   intro hg5
   replace hg5:=qb hg5
   refine Xal ?_
   refine qa9 ?_
   refine qaj ?_
   exact qai
  intro junk5
  refine Xa3 ?_
  refine q_b (L':=L) (R':=R) ?_
  exact ⟨by refine congrArg Value.bool ?_;rw [Bool.eq_iff_iff,decide_eq_true_iff (p:=Jty r t),Jty];simp,rfl,rfl⟩
def Je5 (s:XSite) (r:XRest) (p:Int):Prop:=
  p < 0∨(s.persons.l.length:Int)≤p∨p=r.first∨r.first < 0∨(s.persons.l.length:Int)≤r.first∨s.persons.l.getD p.toNat 0=s.persons.l.getD r.first.toNat 0
instance (s:XSite) (r:XRest) (p:Int):Decidable (Je5 s r p):=by unfold Je5;infer_instance
def confirmE (s:XSite) (c:List XCut) (fl:List XSpan) (r:XRest) (p t:Int):Int:=
  if sharedE s c.length fl.length t≠0 then sharedE s c.length fl.length t
  else if r.zone= -1∨r.step≠1 then 10
  else if Je5 s r p then 19
  else if Jty r t then 8
  else readyE s c fl r.zone t
def confirmR (s:XSite) (c:List XCut) (fl:List XSpan) (r:XRest) (p t:Int):XRest:=if confirmE s c fl r p t=0 then ⟨r.zone,r.first,p,2,t⟩ else r
theorem Jdb {s:XSite} {c:List XCut} {fl:List XSpan} {r:XRest} {p t e:Int} (h:confirmE s c fl r p t=e) (he:e≠0):confirmR s c fl r p t=r:=by rw [confirmR,if_neg za]
theorem Jxs (s:XSite) (c:Arr XCut) (fl:Arr XSpan) (r:XRest) (p t:Int) (L:List Blk) (R:List Sl) (h:RestA s c fl R):
    Tri Tryz.prog 86 [s.val,c.val,fl.val,r.val,.int .i64 p,.int .i64 t].toArray L R (fun v L' R'=>v=.tuple #[(confirmR s c.l fl.l r p t).val,.int .i64 (confirmE s c.l fl.l r p t)]∧L=L'∧R=R'):=by
  have hpR:=h.site.persons
  refine Jad 102 Tryz.call86 Tryz.func86 rfl rfl rfl ?_
  refine Xaf ?_
  intro b6
  refine qax ?_
  intro b9
  refine qaq ?_
  intro b12
  refine Xas ?_
  refine J07 ?_
  refine qbm ?_
  refine Xau ?_
  refine q_l rfl (Jif s c fl t _ _ h) ?_
  refine Xa9 ?_
  refine q_c (fun hc0=>?_) (fun hc0=>?_)
  ·
   refine qae ?_
   refine Jjj ?_
   refine Xbz ?_
   refine q_r (L':=L) (R':=R) (Jcf rfl (Jao (row:=[_,_,_,_,_]) tb rfl rfl rfl zf zb zb) (Jaf (show _=Value.int _ _ from rfl))) ?_
   have he:confirmE s c.l fl.l r p t=sharedE s c.l.length fl.l.length t:=by rw [confirmE,if_pos hc0]
   exact ⟨by rw [Jdb he hc0,he],rfl,rfl⟩
  obtain ⟨hok,hln,ht⟩:=Jl7 (s:=s) (nc:=c.l.length) (nf:=fl.l.length) (t:=t) za
  refine Xce ?_
  refine Xb7 ?_
  apply Ja7 (G:=[_,_,_]) (j:=3) (cj:=30) rfl rfl zb rfl (show _=Value.bool _ from rfl) rfl
  ·
   intro hg4
   replace hg4:=qb hg4
   refine Xaa ?_
   refine qbq ?_
   exact qai
  intro junk4
  refine qaf ?_
  refine q_c (fun hc1=>?_) (fun hc1=>?_)
  ·
   refine qae ?_
   refine Jjj ?_
   refine Xa0 ?_
   refine q_r (L':=L) (R':=R) (Jcf rfl (Jao (row:=[_,_,_,_,_]) tb rfl rfl rfl zf zb zb) (Jaf (show _=Value.int _ _ from rfl))) ?_
   have he:confirmE s c.l fl.l r p t=10:=by rw [confirmE,if_neg hc0,if_pos za]
   exact ⟨by rw [Jdb he za,he],rfl,rfl⟩
  refine qbv ?_
  refine Xab ?_
  refine qad ?_
  refine qco ?_
  refine Jbf tb [0,1,2,3,4,5,6,7,8,9,10,11,12,13,14,15,16,17,18,19,20,21,22,23,24,25,26,27,28,29,30,31,32,33,34,35,36,37,38,39] _ Jby zc (List.Sublist.refl _) ?_
  refine qao ?_
  refine Jbu (Jm9 rfl rfl) rfl rfl rfl ?_
  refine qb2 ?_
  refine Jdw (k:=41) (show _=Value.bool _ from rfl) (fun hg2=>?_) (fun hg2=>?_)
  ·
   replace hg2:=qb hg2
   iterate 3 refine qap ?_
   refine Xbj ?_
   iterate 4 refine qap ?_
   refine Xbj ?_
   iterate 3 refine qap ?_
   refine Xbj ?_
   iterate 4 refine qap ?_
   refine Xbj ?_
   iterate 14 refine qap ?_
   refine Xbx ?_
   refine Jb2 rfl ?_
   refine qae ?_
   refine Jjj ?_
   refine Xa0 ?_
   refine q_r (L':=L) (R':=R) (Jcf rfl (Jao (row:=[_,_,_,_,_]) tb rfl rfl rfl zf zb zb) (Jaf (show _=Value.int _ _ from rfl))) ?_
   have he:confirmE s c.l fl.l r p t=19:=by rw [confirmE,if_neg hc0,if_neg za,if_pos zS]
   exact ⟨by rw [Jdb he za,he],rfl,rfl⟩
  replace hg2:=qb hg2
  refine qao ?_
  refine qao ?_
  refine Jbu (Jq3 rfl rfl) rfl rfl rfl ?_
  refine Xbj ?_
  refine Jdw (k:=46) (show _=Value.bool _ from rfl) (fun hg7=>?_) (fun hg7=>?_)
  ·
   replace hg7:=qb hg7
   iterate 4 refine qap ?_
   refine Xbj ?_
   iterate 3 refine qap ?_
   refine Xbj ?_
   iterate 4 refine qap ?_
   refine Xbj ?_
   iterate 14 refine qap ?_
   refine Xbx ?_
   refine Jb2 rfl ?_
   refine qae ?_
   refine Jjj ?_
   refine Xa0 ?_
   refine q_r (L':=L) (R':=R) (Jcf rfl (Jao (row:=[_,_,_,_,_]) tb rfl rfl rfl zf zb zb) (Jaf (show _=Value.int _ _ from rfl))) ?_
   have he:confirmE s c.l fl.l r p t=19:=by rw [confirmE,if_neg hc0,if_neg za,if_pos zS]
   exact ⟨by rw [Jdb he za,he],rfl,rfl⟩
  replace hg7:=qb hg7
  refine qao ?_
  refine Xan ?_
  refine Jbu (Jhx rfl rfl) rfl rfl rfl ?_
  refine Xbj ?_
  refine Jdw (k:=52) (show _=Value.bool _ from rfl) (fun hg13=>?_) (fun hg13=>?_)
  ·
   replace hg13:=qb hg13
   iterate 3 refine qap ?_
   refine Xbj ?_
   iterate 4 refine qap ?_
   refine Xbj ?_
   iterate 14 refine qap ?_
   refine Xbx ?_
   refine Jb2 rfl ?_
   refine qae ?_
   refine Jjj ?_
   refine Xa0 ?_
   refine q_r (L':=L) (R':=R) (Jcf rfl (Jao (row:=[_,_,_,_,_]) tb rfl rfl rfl zf zb zb) (Jaf (show _=Value.int _ _ from rfl))) ?_
   have he:confirmE s c.l fl.l r p t=19:=by rw [confirmE,if_neg hc0,if_neg za,if_pos zS]
   exact ⟨by rw [Jdb he za,he],rfl,rfl⟩
  replace hg13:=qb hg13
  refine Xan ?_
  refine Jbu (Jm9 rfl rfl) rfl rfl rfl ?_
  refine Xbj ?_
  refine Jdw (k:=57) (show _=Value.bool _ from rfl) (fun hg18=>?_) (fun hg18=>?_)
  ·
   replace hg18:=qb hg18
   iterate 4 refine qap ?_
   refine Xbj ?_
   iterate 14 refine qap ?_
   refine Xbx ?_
   refine Jb2 rfl ?_
   refine qae ?_
   refine Jjj ?_
   refine Xa0 ?_
   refine q_r (L':=L) (R':=R) (Jcf rfl (Jao (row:=[_,_,_,_,_]) tb rfl rfl rfl zf zb zb) (Jaf (show _=Value.int _ _ from rfl))) ?_
   have he:confirmE s c.l fl.l r p t=19:=by rw [confirmE,if_neg hc0,if_neg za,if_pos zS]
   exact ⟨by rw [Jdb he za,he],rfl,rfl⟩
  replace hg18:=qb hg18
  refine Xbo ?_
  refine Jbu (Jq3 rfl rfl) rfl rfl rfl ?_
  refine Xbj ?_
  refine Jdw (k:=63) (show _=Value.bool _ from rfl) (fun hg24=>?_) (fun hg24=>?_)
  ·
   replace hg24:=qb hg24
   iterate 14 refine qap ?_
   refine Xbx ?_
   refine Jb2 rfl ?_
   refine qae ?_
   refine Jjj ?_
   refine Xa0 ?_
   refine q_r (L':=L) (R':=R) (Jcf rfl (Jao (row:=[_,_,_,_,_]) tb rfl rfl rfl zf zb zb) (Jaf (show _=Value.int _ _ from rfl))) ?_
   have he:confirmE s c.l fl.l r p t=19:=by rw [confirmE,if_neg hc0,if_neg za,if_pos zS]
   exact ⟨by rw [Jdb he za,he],rfl,rfl⟩
  replace hg24:=qb hg24
  have hpg:=Jau (l:=s.persons.l) (k:=p.toNat) 0 za
  have hqg:=Jau (l:=s.persons.l) (k:=r.first.toNat) 0 za
  refine Xbo ?_
  refine Jbu zbb rfl rfl rfl ?_
  refine qce ?_
  refine qbl ?_
  refine Xan ?_
  refine Xan ?_
  refine Jbu (by first | exact Jae tb rfl rfl rfl rfl zt (i:=r.first.toNat) zj za | exact Jak tb rfl rfl rfl rfl (i:=r.first.toNat) zj za) rfl rfl rfl ?_
  refine qce ?_
  refine qbl ?_
  refine Jbu (Jhx rfl rfl) rfl rfl rfl ?_
  refine Xbx ?_
  refine q_c (fun hc2=>?_) (fun hc2=>?_)
  ·
   refine qae ?_
   refine Jjj ?_
   refine Xa0 ?_
   refine q_r (L':=L) (R':=R) (Jcf rfl (Jao (row:=[_,_,_,_,_]) tb rfl rfl rfl zf zb zb) (Jaf (show _=Value.int _ _ from rfl))) ?_
   have he:confirmE s c.l fl.l r p t=19:=by rw [confirmE,if_neg hc0,if_neg za,if_pos zS]
   exact ⟨by rw [Jdb he za,he],rfl,rfl⟩
  have hbp:¬ Je5 s r p:=by rw [Je5];omega
  refine qbo ?_
  refine Jjj ?_
  refine qaa ?_
  refine q_l rfl (Jzl r t _ _ ht) ?_
  refine qaf ?_
  refine q_c (fun hc3=>?_) (fun hc3=>?_)
  ·
   refine qae ?_
   refine Jjj ?_
   refine Xa0 ?_
   refine q_r (L':=L) (R':=R) (Jcf rfl (Jao (row:=[_,_,_,_,_]) tb rfl rfl rfl zf zb zb) (Jaf (show _=Value.int _ _ from rfl))) ?_
   have he:confirmE s c.l fl.l r p t=8:=by rw [confirmE,if_neg hc0,if_neg za,if_neg hbp,if_pos zca]
   exact ⟨by rw [Jdb he za,he],rfl,rfl⟩
  have he:confirmE s c.l fl.l r p t=readyE s c.l fl.l r.zone t:=by rw [confirmE,if_neg hc0,if_neg za,if_neg hbp,if_neg zca]
  refine qbo ?_
  refine J07 ?_
  refine qbm ?_
  refine qbm ?_
  refine Xal ?_
  refine q_l rfl (Jo9 s c fl r.zone t _ _ h hok hln ht) ?_
  refine Xa9 ?_
  refine q_c (fun hc4=>?_) (fun hc4=>?_)
  ·
   refine qae ?_
   refine Jjj ?_
   refine Xbz ?_
   refine q_r (L':=L) (R':=R) (Jcf rfl (Jao (row:=[_,_,_,_,_]) tb rfl rfl rfl zf zb zb) (Jaf (show _=Value.int _ _ from rfl))) ?_
   exact ⟨by rw [Jdb he hc4,he],rfl,rfl⟩
  refine qbv ?_
  refine Jjj ?_
  refine qaq ?_
  intro b17
  refine Xa2 ?_
  refine Xbw ?_
  refine Xbh ?_
  refine Xbh ?_
  refine Xbh ?_
  refine qam ?_
  refine Jjj ?_
  refine Xbl ?_
  refine q_r (L':=L) (R':=R) (Jcf rfl (Jao (row:=[_,_,_,_,_]) tb rfl rfl rfl zf zb zb) (Jaf (show _=Value.int _ _ from rfl))) ?_
  exact ⟨by rw [confirmR,if_pos za,he,show readyE s c.l fl.l r.zone t=0 by omega],rfl,rfl⟩
end Go.Proofs.YtchfclmokpbldaaGreat
end
section
/-
  Rules that are put together are right. Plain. By an AI agent; no person has read it.
-/
namespace Go.Proofs.YtchfclmokpbldaaGreat
open Go.Aw Go
end Go.Proofs.YtchfclmokpbldaaGreat
end
