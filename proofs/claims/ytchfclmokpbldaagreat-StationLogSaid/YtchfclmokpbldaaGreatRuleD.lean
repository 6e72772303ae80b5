/-
  Texts of one chapter, merged. By an AI agent; no person has read it.
-/
import Derived.Test.YtchfclmokpbldaaGreatSiteS
import Derived.Test.YtchfclmokpbldaaGreatFans
import Derived.Test.YtchfclmokpbldaaGreatRestP
import Derived.Test.YtchfclmokpbldaaGreatRuleP
set_option linter.unusedVariables false
set_option linter.unusedSimpArgs false
set_option maxRecDepth 20000
namespace Go.Proofs.YtchfclmokpbldaaGreat
open Go.Aw Go
section
theorem K4d {e:Int} (h:nzO e=none):e=0:=by
  rw [nzO] at h
  split at h
  · assumption
  · cases h
theorem Vxe {e x:Int} (h:nzO e=some x):x≠0:=by
  rw [nzO] at h
  split at h
  · cases h
  · cases h;assumption
structure SiteOk (s:XSite):Prop where
  air:Ky s.air=0
  len:s.sensors.l.length≤64∧s.conds.l.length≤64∧s.zones.l.length≤16∧s.persons.l.length≤64
  sens:∀i:Nat,i < s.sensors.l.length→Zk s.air s.sensors.l i=none
  cond:∀c∈s.conds.l,Ko s.sensors.l s.air.mine.roads.l.length c=0
  zone:∀z∈s.zones.l,Yj s.conds.l.length s.air.mine.roads.l.length z=0
  pers:∀p∈s.persons.l,1≤p∧p≤3
theorem Jue {a:XAir} {S:List XSens} {i:Nat} {e:Int} (h:Zk a S i=some e):e≠0:=by
  rw [Zk] at h
  split at h
  · cases h;assumption
  split at h
  · cases h;decide
  split at h
  · cases h;decide
  · cases h
theorem Za {s:XSite} (h:K2 s=0):SiteOk s:=by
  rw [K2] at h
  split at h
  · omega
  split at h
  · omega
  split at h
  · omega
  split at h
  · omega
  split at h
  · omega
  rename_i h1 h2 h3 h4 h5
  refine ⟨by omega,by omega,fun i hi=>?_,fun c hc=>?_,fun z hz=>?_,fun p hp=>?_⟩
  · have h3' : Ue s.air s.sensors.l = 0 := by omega
    exact Vc (f:=Zk s.air s.sensors.l) (fun x e hx=>Jue hx) h3' i (List.mem_range.2 hi)
  · have h4' : Jya s = 0 := by omega
    exact K4d (Vc (f:=fun c=>nzO (Ko s.sensors.l s.air.mine.roads.l.length c)) (fun x e hx=>Vxe hx) h4' c hc)
  · have h5' : Ym s = 0 := by omega
    exact K4d (Vc (f:=fun z=>nzO (Yj s.conds.l.length s.air.mine.roads.l.length z)) (fun x e hx=>Vxe hx) h5' z hz)
  · have:=Vc (f:=fun p:Int=>if p < 1∨3 < p then some 19 else none) (fun x e hx=>by
      split at hx
      · cases hx;decide
      · cases hx) h p hp
    split at this
    · cases this
    · omega
theorem Uma {α β:Type} {f:α→Option β} {l:List α} (h:∀x∈l,f x=none):l.findSome? f=none:=List.findSome?_eq_none_iff.2 h
theorem SiteOk.err {s:XSite} (h:SiteOk s):K2 s=0:=by
  have h1:=h.air
  have h2:=h.len
  have e1:Ue s.air s.sensors.l=0:=by rw [Ue,Uma (fun i hi=>h.sens i (List.mem_range.1 hi))];rfl
  have e2:Jya s=0:=by rw [Jya,Uma (fun c hc=>by rw [nzO,if_pos (h.cond c hc)])];rfl
  have e3:Ym s=0:=by rw [Ym,Uma (fun z hz=>by rw [nzO,if_pos (h.zone z hz)])];rfl
  have e4:Z9 s=0:=by rw [Z9,Uma (fun p hp=>if_neg (by have:=h.pers p hp;omega))];rfl
  rw [K2,if_neg za,if_neg za,if_neg za,if_neg za,if_neg za,e4]
theorem Jgc {S:List XSens} {n:Nat} {c:XCond} (h:Ko S n c=0):(1≤c.kind∧c.kind≤5)∧(0≤c.value∧c.value≤1099511627776)∧(c.kind=1→Z0 c.level)∧
    (c.kind=5→0≤c.target∧c.target < n)∧(c.kind≠5→0≤c.target∧c.target < S.length)∧(c.kind=3→(S.getD c.target.toNat default).kind=5):=by
  rw [Ko] at h
  split at h
  · omega
  rename_i h1
  split at h
  · omega
  rename_i h2
  have h3:Ki S n c=0:=by omega
  have h4:c.kind=1→Z0 c.level:=fun hk=>by
    rw [if_pos hk,Jga] at h
    split at h
    · assumption
    · omega
  rw [Ki] at h3
  split at h3
  · split at h3
    · exact ⟨by omega,by omega,h4,by omega,by omega,by omega⟩
    · omega
  split at h3
  · split at h3
    · rename_i h5
      exact ⟨by omega,by omega,h4,by omega,by omega,fun _=>h5.2⟩
    · omega
  split at h3
  · split at h3
    · exact ⟨by omega,by omega,h4,by omega,by omega,by omega⟩
    · omega
  · omega
structure WrO {α:Type} (l0:List α) (g:Nat→α) (i:Nat) (l:List α):Prop where
  len:l.length=l0.length
  don:∀j:Nat,j < i→l[j]?=some (g j)
  old:∀j:Nat,i≤j→l[j]?=l0[j]?
theorem WrO.zero {α:Type} {l0:List α} {g:Nat→α}:WrO l0 g 0 l0:=⟨rfl,fun j hj=>by omega,fun j _=>rfl⟩
theorem WrO.next {α:Type} {l0:List α} {g:Nat→α} {i:Nat} {l:List α} (h:WrO l0 g i l) (hi:i < l0.length) {x:α} (hx:x=g i):WrO l0 g (i + 1) (l.set i x):=by
  have hl:=h.len
  refine ⟨by simp [hl],fun j hj=>?_,fun j h1=>?_⟩
  · rw [List.getElem?_set]
    split
    · rename_i e;rw [if_pos za,hx,e]
    · exact h.don j za
  · rw [List.getElem?_set_ne za]
    exact h.old j za
theorem WrO.stay {α:Type} {l0:List α} {g:Nat→α} {i:Nat} {l:List α} (h:WrO l0 g i l) (hx:l0[i]?=some (g i)):WrO l0 g (i + 1) l:=by
  refine ⟨h.len,fun j hj=>?_,fun j h1=>h.old j za⟩
  rcases Nat.lt_or_ge j i with h1 | h1
  · exact h.don j h1
  · obtain rfl : j = i := by omega
    rw [h.old j (Nat.le_refl _),hx]
theorem WrO.done {α:Type} {l0:List α} {g:Nat→α} {l:List α} (h:WrO l0 g l0.length l):l=(List.range l0.length).map g:=by
  have hl:=h.len
  refine List.ext_getElem? fun j=>?_
  rcases Nat.lt_or_ge j l0.length with hj | hj
  · rw [h.don j hj,List.getElem?_map,List.getElem?_range hj];rfl
  · rw [List.getElem?_eq_none za,List.getElem?_eq_none zD]
end
section
attribute [local irreducible] CJ LJ DJ Tri YV Gives Ui J0 Ke Uh RV J2 OwL.L
section
variable {A9 B9:Prop}
theorem Vuf (a:A9) (h:A9→B9:=by exact Kv (by first | exact Jf tb rfl rfl rfl rfl zt (i:=k.toNat) zk za | exact Jk tb rfl rfl rfl rfl (i:=k.toNat) zk za) rfl rfl rfl):B9:=h a
theorem Vwf (a:A9) (h:A9→B9:=by exact Kv (by first | exact Jf tb rfl rfl rfl rfl zt (i:=(z.roads.l.getD j 0).toNat) zk za | exact Jk tb rfl rfl rfl rfl (i:=(z.roads.l.getD j 0).toNat) zk za) rfl rfl rfl):B9:=h a
end
theorem Ume {s:XSite} (h:SiteOk s) {r:XRoad} (hr:r∈s.air.mine.roads.l):(1≤r.len∧r.len≤100000)∧(1≤r.area∧r.area≤1000):=by
  have h1:Vf s.air.mine=0:=by
    have:=h.air
    rw [Ky] at this
    split at this
    · exact this
    · rename_i h2;exact Decidable.not_not.1 h2
  unfold Vf at h1
  split at h1
  · cases h1
  split at h1
  · rename_i e he
    subst h1
    obtain ⟨x,_,hx⟩:=List.exists_of_findSome?_eq_some he
    unfold Uxa at hx
    split at hx <;> cases hx
  have hall:=Vc (f:=Y2 s.air.mine.places.l.length) (fun x e hx he=>by
    subst he
    unfold Y2 at hx
    split at hx
    · cases hx
    · split at hx <;> cases hx) h1
  have:=hall r hr
  unfold Y2 at this
  split at this
  · cases this
  split at this
  · cases this
  rename_i h2
  omega
theorem Ute {s:XSite} (h:SiteOk s) {z:XZone} (hz:z∈s.zones.l):(0≤z.hold∧z.hold≤100000)∧(0≤z.fresh∧z.fresh≤100)∧∀i:Nat,i < z.roads.l.length→0≤z.roads.l.getD i 0∧z.roads.l.getD i 0 < s.air.mine.roads.l.length:=by
  have:=h.zone z hz
  rw [Yj] at this
  split at this
  · omega
  split at this
  · cases this
  rename_i h1
  split at this
  · cases this
  rename_i h2
  refine ⟨by omega,by omega,fun i hi=>?_⟩
  have:¬ V4 s.air.mine.roads.l.length z.roads.l i:=fun hb=>h2 ⟨i,hi,hb⟩
  rw [V4] at this
  omega
theorem Kle {s:XSite} (h:SiteOk s) {z:XZone} (hz:z∈s.zones.l):z.roads.l.length≤128:=by
  have:=h.zone z hz
  rw [Yj] at this
  split at this
  · omega
  split at this
  · cases this
  split at this
  · cases this
  rename_i h2
  have hb:∀i:Nat,i < z.roads.l.length→¬ V4 s.air.mine.roads.l.length z.roads.l i:=fun i hi hb=>h2 ⟨i,hi,hb⟩
  have up:∀i:Nat,i < z.roads.l.length→(i:Int)≤z.roads.l.getD i 0:=by
    intro i
    induction i with
    | zero=>intro hi;have:=hb 0 hi;rw [V4] at this;omega
    | succ i ih=>
      intro hi
      have h1:=ih za
      have h2:=hb (i + 1) hi
      rw [V4,Nat.add_sub_cancel] at h2
      omega
  have hn:=(Zs h.air).mine.roads
  rcases Nat.lt_or_ge 128 z.roads.l.length with h3 | h3
  · have h4 := up 128 h3
    have h5:=hb 128 h3
    rw [V4] at h5
    omega
  · exact h3
def Koa (s:XSite) (fl:List XSpan) (z:XZone) (sec r:Int):Prop:=¬ Kvc (s.air.mine.roads.l.getD r.toNat default) (fl.getD r.toNat default) z.fresh sec
instance (s:XSite) (fl:List XSpan) (z:XZone) (sec r:Int):Decidable (Koa s fl z sec r):=by unfold Koa;infer_instance
def Zaa (s:XSite) (fl:List XSpan) (c:XCut) (z:XZone) (t:Int):Int:=
  if c.off=false then 10
  else if (c.clear < 0∨t < c.clear)∨t - c.clear < z.hold then 20
  else if∃r∈z.roads.l,Koa s fl z (t - c.clear) r then 20 else 0
def readyE (s:XSite) (c:List XCut) (fl:List XSpan) (k t:Int):Int:=
  if k < 0∨(c.length:Int)≤k then 17 else Zaa s fl (c.getD k.toNat default) (s.zones.l.getD k.toNat default) t
theorem Kie {s:XSite} {fl:List XSpan} {c:XCut} {z:XZone} {t:Int} (h1:c.off=true) (h2:¬ ((c.clear < 0∨t < c.clear)∨t - c.clear < z.hold)) (h3:∀j:Nat,j < z.roads.l.length→¬ Koa s fl z (t - c.clear) (z.roads.l.getD j 0)):Zaa s fl c z t=0:=by
  rw [Zaa,if_neg (by rw [h1];decide),if_neg h2,if_neg]
  rintro ⟨r,hr,hw⟩
  obtain ⟨j,hj,rfl⟩:=List.getElem_of_mem hr
  have:=h3 j hj
  rw [List.getD_eq_getElem?_getD,List.getElem?_eq_getElem hj] at this
  exact this hw
theorem Yod {s:XSite} {fl:List XSpan} {c:XCut} {z:XZone} {t r:Int} (h1:c.off=true) (h2:¬ ((c.clear < 0∨t < c.clear)∨t - c.clear < z.hold)) (hr:r∈z.roads.l) (h3:Koa s fl z (t - c.clear) r):Zaa s fl c z t=20:=by
  rw [Zaa,if_neg (by rw [h1];decide),if_neg h2,if_pos ⟨r,hr,h3⟩]
structure RestA (s:XSite) (c:Arr XCut) (fl:Arr XSpan) (R:List Sl):Prop where
  site:SiteR s R
  cuts:InR (Kwc c) R
  flows:InR (Vzd fl) R
theorem Yfb (s:XSite) (c:Arr XCut) (fl:Arr XSpan) (k t:Int) (L:List Blk) (R:List Sl) (h:RestA s c fl R) (hok:SiteOk s) (hlen:c.l.length=s.zones.l.length∧fl.l.length=s.air.mine.roads.l.length) (ht:0≤t∧t≤2147483648):
    Tri Tryz.prog 163 [s.val,c.val,fl.val,.int .i64 k,.int .i64 t].toArray L R (fun v L' R'=>v=.int .i64 (readyE s c.l fl.l k t)∧L=L'∧R=R'):=by
  have hcR:=h.cuts
  have hfR:=h.flows
  have hzR:=h.site.zones
  have hrR:=h.site.air.roads
  have hsl:=hok.len
  refine Jg 80 Tryz.call163 Tryz.func163 rfl rfl rfl ?_
  refine Xag ?_
  intro b5
  refine Xas ?_
  refine Xb5 ?_
  apply J9 (G:=[_,_,_,_]) (j:=2) (cj:=17) rfl rfl zb rfl zdb rfl
  ·
   intro hg3
   replace hg3:=qb hg3
   refine qaa ?_
   refine Xap ?_
   exact zid
  intro junk3
  refine qaf ?_
  refine q_c (fun hc0=>?_) (fun hc0=>?_)
  ·
   refine Xa5 ?_
   refine q_i (L':=L) (R':=R) ?_
   exact ⟨by rw [readyE,if_pos za],rfl,rfl⟩
  have hcg:=Jw (l:=c.l) (k:=k.toNat) default za
  have hzg:=Jw (l:=s.zones.l) (k:=k.toNat) default za
  have he:readyE s c.l fl.l k t=Zaa s fl.l (c.l.getD k.toNat default) (s.zones.l.getD k.toNat default) t:=by rw [readyE,if_neg za]
  obtain ⟨z,hz⟩:∃z,z=s.zones.l.getD k.toNat default:=⟨_,rfl⟩
  obtain ⟨x,hx⟩:∃x,x=c.l.getD k.toNat default:=⟨_,rfl⟩
  rw [← hz] at hzg he
  rw [← hx] at hcg he
  have hzr:=Ute hok (List.mem_of_getElem? hzg)
  have hzl:=Kle hok (List.mem_of_getElem? hzg)
  have hzroR:InR (isl z.roads) R:=InR.zroads hzR hzg
  refine qcl ?_
  refine Kn tb [0,1,2,3,4,5,6,7,8,9,10,11,12] _ K1 ze (List.Sublist.refl _) ?_
  refine Kv zKc rfl rfl rfl ?_
  refine qao ?_
  refine Vuf ?_
  refine qdv ?_
  refine Xb1 ?_
  refine Vuf ?_
  refine qdp ?_
  refine qbr ?_
  intro b11
  refine qbr ?_
  intro b12
  refine qbg ?_
  refine qbg ?_
  refine qc6 ?_
  refine Xaa ?_
  refine Xbd ?_
  refine q_c (fun hc1=>?_) (fun hc1=>?_)
  ·
   refine Xa5 ?_
   refine q_i (L':=L) (R':=R) ?_
   exact ⟨by rw [he,Zaa,if_pos zH],rfl,rfl⟩
  have hoff:x.off=true:=by simpa using hc1
  refine qbo ?_
  refine Xbg ?_
  apply J9 (G:=[_,_,_,_]) (j:=3) (cj:=38) rfl rfl zb rfl zdb rfl
  ·
   intro hg4
   replace hg4:=qb hg4
   refine Xam ?_
   refine qa5 ?_
   exact qai
  intro junk4
  refine qah ?_
  apply J9 (G:=[_,_,_,_,_,_,_]) (j:=9) (cj:=44) rfl rfl zb rfl zdb rfl
  ·
   intro hg10
   replace hg10:=qb hg10
   refine qaa ?_
   refine Xaa ?_
   refine qa9 ?_
   exact znd
  intro junk10
  refine qaf ?_
  refine q_c (fun hc2=>?_) (fun hc2=>?_)
  ·
   refine Xa5 ?_
   refine q_i (L':=L) (R':=R) ?_
   exact ⟨by rw [he,Zaa,if_neg (by rw [hoff];decide),if_pos za],rfl,rfl⟩
  refine Xcl ?_
  refine Jo [(2,Value.slice _ _ _),(4,Value.int _ _),(5,Value.pointer _),(11,Value.pointer _),(12,Value.pointer _),(54,Value.slice _ _ _),(55,Value.int _ _),(56,Value.int _ _)] zg fun tq0=>?_
  refine q_s [10,14,56,57,58,59,60,61,62,63,64,65,66,67,68,69,70,71,72,73,74,75,76,77,78,79] (fun g:{j:Nat // j≤z.roads.l.length∧∀m:Nat,m < j→¬ Koa s fl.l z (t - x.clear) (z.roads.l.getD m 0)}=>[(56,.int .i64 ((g.1:Nat):Int))]) (fun g=>z.roads.l.length - g.1) (⟨0,by omega,fun m hm=>by omega⟩) ?_
  rintro ⟨j,hj,hal⟩ junk
  try dsimp only
  refine Xak ?_
  refine q_c (fun hc3=>?_) (fun hc3=>?_)
  ·
   have hjg:=Jw (l:=z.roads.l) (k:=j) 0 za
   have hjr:=hzr.2.2 j za
   have hrg:=Jw (l:=s.air.mine.roads.l) (k:=(z.roads.l.getD j 0).toNat) default za
   have hfg:=Jw (l:=fl.l) (k:=(z.roads.l.getD j 0).toNat) default za
   have hrr:=Ume hok (List.mem_of_getElem? hrg)
   refine qbb ?_
   refine Jx zta rfl ?_
   refine qa7 ?_
   refine Xb3 ?_
   refine Kn tb [0,1,2,3,4,5,6,7,8,9,10,11,12,13,14,15,16,17,18] _ K1 ze (List.Sublist.refl _) ?_
   iterate 3 refine qal ?_
   refine qat ?_
   refine qao ?_
   refine Vwf ?_
   refine Kv zTa rfl rfl rfl ?_
   refine Kv zKc rfl rfl rfl ?_
   refine qao ?_
   refine Vwf ?_
   refine qdo ?_
   refine Xb1 ?_
   refine Xan ?_
   refine qb7 ?_
   refine q_d rfl (Jjd (s.air.mine.roads.l.getD (z.roads.l.getD j 0).toNat default) (fl.l.getD (z.roads.l.getD j 0).toNat default) z.fresh (t - x.clear) _ _ hrr.1 hrr.2 hzr.2.1 za) ?_
   refine Kv (Jnb rfl) rfl rfl rfl ?_
   refine qbu ?_
   refine q_c (fun hc4=>?_) (fun hc4=>?_)
   ·
    refine Xbw ?_
    refine q_i (L':=L) (R':=R) ?_
    exact ⟨by rw [he,Yod hoff za (List.mem_of_getElem? hjg) (by rw [Koa];simpa using hc4)],rfl,rfl⟩
   refine Xax ?_
   exact Kf (⟨j + 1,by omega,fun m hm=>by
   rcases Nat.lt_or_ge m j with h | h
   · exact hal m h
   · obtain rfl : m = j := by omega
     rw [Koa];simpa using hc4⟩) zm zg zi zqb zx
  refine Xb7 ?_
  refine q_i (L':=L) (R':=R) ?_
  exact ⟨by rw [he,Kie hoff za (fun m hm=>hal m za)],rfl,rfl⟩
end
section
attribute [local irreducible] CJ LJ DJ Tri YV Gives Ui J0 Ke Uh RV J2 OwL.L
section
variable {A9 B9:Prop}
theorem Yaa (a:A9) (h:A9→B9:=by exact Jx zob rfl):B9:=h a
theorem Jwe (a:A9) (h:A9→B9:=by exact Jx zmb rfl):B9:=h a
end
structure XRest where
  zone:Int
  first:Int
  second:Int
  step:Int
  time:Int
  deriving DecidableEq
def XRest.cells (x:XRest):List Value:=[.int .i64 x.zone,.int .i64 x.first,.int .i64 x.second,.int .i64 x.step,.int .i64 x.time]
abbrev XRest.val (x:XRest):Value:=.agg #[.int .i64 x.zone,.int .i64 x.first,.int .i64 x.second,.int .i64 x.step,.int .i64 x.time]
def noRest:XRest:=⟨-1,-1,-1,0,0⟩
def sharedE (s:XSite) (nc nf:Nat) (t:Int):Int:=if K2 s≠0 then K2 s else if ¬ (nc=s.zones.l.length∧nf=s.air.mine.roads.l.length) then 11 else if t < 0∨2147483648 < t then 8 else 0
theorem U1a (s:XSite) (c:Arr XCut) (fl:Arr XSpan) (t:Int) (L:List Blk) (R:List Sl) (h:RestA s c fl R):
    Tri Tryz.prog 162 [s.val,c.val,fl.val,.int .i64 t].toArray L R (fun v L' R'=>v=.int .i64 (sharedE s c.l.length fl.l.length t)∧L=L'∧R=R'):=by
  refine Jg 37 Tryz.call162 Tryz.func162 rfl rfl rfl ?_
  refine Xag ?_
  intro b4
  refine Xas ?_
  refine Jwe ?_
  refine q_l rfl (Jwa s _ _ h.site) ?_
  refine Xa7 ?_
  refine q_c (fun hc0=>?_) (fun hc0=>?_)
  ·
   refine Xdl ?_
   refine q_i (L':=L) (R':=R) ?_
   exact ⟨by rw [sharedE,if_pos hc0],rfl,rfl⟩
  refine qbo ?_
  refine Xap ?_
  refine Xac ?_
  refine Xbx ?_
  apply J9 (G:=[_,_,_,_,_,_,_,_]) (j:=6) (cj:=21) rfl rfl zb rfl zdb rfl
  ·
   intro hg7
   replace hg7:=qb hg7
   refine Xap ?_
   iterate 3 refine qab ?_
   refine qac ?_
   refine qag ?_
   exact zfd
  intro junk7
  refine qaf ?_
  refine q_c (fun hc1=>?_) (fun hc1=>?_)
  ·
   refine Xa5 ?_
   refine q_i (L':=L) (R':=R) ?_
   exact ⟨by rw [sharedE,if_neg za,if_pos za],rfl,rfl⟩
  refine qbo ?_
  refine Xb5 ?_
  apply J9 (G:=[_,_]) (j:=2) (cj:=33) rfl rfl zb rfl zdb rfl
  ·
   exact zdd
  intro junk3
  refine qaf ?_
  refine q_c (fun hc2=>?_) (fun hc2=>?_)
  ·
   refine Xa5 ?_
   refine q_i (L':=L) (R':=R) ?_
   exact ⟨by rw [sharedE,if_neg za,if_neg za,if_pos za],rfl,rfl⟩
  refine Xcf ?_
  refine q_i (L':=L) (R':=R) ?_
  exact ⟨by rw [sharedE,if_neg za,if_neg za,if_neg za],rfl,rfl⟩
theorem Jdb {s:XSite} {nc nf:Nat} {t:Int} (h:sharedE s nc nf t=0):SiteOk s∧(nc=s.zones.l.length∧nf=s.air.mine.roads.l.length)∧0≤t∧t≤2147483648:=by
  rw [sharedE] at h
  split at h
  · omega
  rename_i h1
  split at h
  · omega
  split at h
  · omega
  exact ⟨Za (Decidable.not_not.1 h1),by omega,by omega⟩
theorem J2c (L:List Blk) (R:List Sl):Tri Tryz.prog 77 ([]:List Value).toArray L R (fun v L' R'=>v=noRest.val∧L=L'∧R=R'):=by
  refine Jg 2 Tryz.call77 Tryz.func77 rfl rfl rfl ?_
  refine qae ?_
  refine qaq ?_
  intro b0
  refine qam ?_
  refine Jx (Kb (qs:=[(0,(Value.int _ _).cells.toList),(1,(Value.int _ _).cells.toList),(2,(Value.int _ _).cells.toList)]) (out:=[_,_,_,_,_]) tb rfl rfl rfl rfl) rfl ?_
  refine Xbr ?_
  refine q_r (L':=L) (R':=R) (Ya rfl zlb) ?_
  exact zpd
def askE (s:XSite) (c:List XCut) (fl:List XSpan) (r:XRest) (p k t:Int):Int:=
  if sharedE s c.length fl.length t≠0 then sharedE s c.length fl.length t
  else if r.zone≠-1 then 10
  else if p < 0∨(s.persons.l.length:Int)≤p∨s.persons.l.getD p.toNat 0≠1 then 19
  else readyE s c fl k t
def askR (s:XSite) (c:List XCut) (fl:List XSpan) (r:XRest) (p k t:Int):XRest:=if askE s c fl r p k t=0 then ⟨k,p,-1,1,t⟩ else r
theorem Jec {s:XSite} {c:List XCut} {fl:List XSpan} {r:XRest} {p k t e:Int} (h:askE s c fl r p k t=e) (he:e≠0):askR s c fl r p k t=r:=by rw [askR,if_neg za]
theorem Zle (s:XSite) (c:Arr XCut) (fl:Arr XSpan) (r:XRest) (p k t:Int) (L:List Blk) (R:List Sl) (h:RestA s c fl R):
    Tri Tryz.prog 84 [s.val,c.val,fl.val,r.val,.int .i64 p,.int .i64 k,.int .i64 t].toArray L R (fun v L' R'=>v=.tuple #[(askR s c.l fl.l r p k t).val,.int .i64 (askE s c.l fl.l r p k t)]∧L=L'∧R=R'):=by
  have hpR:=h.site.persons
  refine Jg 64 Tryz.call84 Tryz.func84 rfl rfl rfl ?_
  refine Xag ?_
  intro b7
  refine qax ?_
  intro b10
  refine qaq ?_
  intro b14
  refine Xas ?_
  refine Jwe ?_
  refine qbm ?_
  refine Xau ?_
  refine q_l rfl (U1a s c fl t _ _ h) ?_
  refine Xa7 ?_
  refine q_c (fun hc0=>?_) (fun hc0=>?_)
  ·
   refine qae ?_
   refine Yaa ?_
   refine Xby ?_
   refine q_r (L':=L) (R':=R) zOc ?_
   have he:askE s c.l fl.l r p k t=sharedE s c.l.length fl.l.length t:=by rw [askE,if_pos hc0]
   exact ⟨by rw [Jec he hc0,he],rfl,rfl⟩
  obtain ⟨hok,hln,ht⟩:=Jdb (s:=s) (nc:=c.l.length) (nf:=fl.l.length) (t:=t) za
  refine qbo ?_
  refine Xaa ?_
  refine Xaq ?_
  refine q_c (fun hc1=>?_) (fun hc1=>?_)
  ·
   refine qae ?_
   refine Yaa ?_
   refine Xaz ?_
   refine q_r (L':=L) (R':=R) zOc ?_
   have he:askE s c.l fl.l r p k t=10:=by rw [askE,if_neg hc0,if_pos hc1]
   exact ⟨by rw [Jec he za,he],rfl,rfl⟩
  refine qbo ?_
  refine Xb5 ?_
  apply J9 (G:=[_,_,_,_,_]) (j:=2) (cj:=33) rfl rfl zb rfl zdb rfl
  ·
   exact zRd
  intro junk3
  refine qah ?_
  apply J9 (G:=[_,_,_,_,_,_,_]) (j:=9) (cj:=40) rfl rfl zb rfl zdb rfl
  ·
   intro hg10
   replace hg10:=qb hg10
   have hpg:=Jw (l:=s.persons.l) (k:=p.toNat) 0 za
   refine Xam ?_
   refine Jx zab rfl ?_
   refine Xbv ?_
   exact zfd
  intro junk10
  refine qaf ?_
  refine q_c (fun hc2=>?_) (fun hc2=>?_)
  ·
   refine qae ?_
   refine Yaa ?_
   refine Xaz ?_
   refine q_r (L':=L) (R':=R) zOc ?_
   have he:askE s c.l fl.l r p k t=19:=by rw [askE,if_neg hc0,if_neg hc1,if_pos za]
   exact ⟨by rw [Jec he za,he],rfl,rfl⟩
  have he:askE s c.l fl.l r p k t=readyE s c.l fl.l k t:=by rw [askE,if_neg hc0,if_neg hc1,if_neg za]
  refine qbo ?_
  refine Jwe ?_
  refine qbm ?_
  refine Xau ?_
  refine qaa ?_
  refine q_l rfl (Yfb s c fl k t _ _ h hok hln ht) ?_
  refine Xa7 ?_
  refine q_c (fun hc3=>?_) (fun hc3=>?_)
  ·
   refine qae ?_
   refine Yaa ?_
   refine Xby ?_
   refine q_r (L':=L) (R':=R) zOc ?_
   exact ⟨by rw [Jec he hc3,he],rfl,rfl⟩
  refine qbv ?_
  iterate 3 refine qaa ?_
  refine Jx (Kb (qs:=[(0,(Value.int _ _).cells.toList),(1,(Value.int _ _).cells.toList),(2,(Value.int _ _).cells.toList),(3,(Value.int _ _).cells.toList),(4,(Value.int _ _).cells.toList)]) (out:=[_,_,_,_,_]) tb rfl rfl rfl rfl) rfl ?_
  refine Xbl ?_
  refine q_r (L':=L) (R':=R) zOc ?_
  exact ⟨by rw [askR,if_pos za,he,show readyE s c.l fl.l k t=0 by omega],rfl,rfl⟩
def Ujc (r:XRest) (t:Int):Prop:=t < r.time∨r.time < t - 600
instance (r:XRest) (t:Int):Decidable (Ujc r t):=by unfold Ujc;infer_instance
theorem Jud (r:XRest) (t:Int) (L:List Blk) (R:List Sl) (ht:0≤t∧t≤2147483648):
    Tri Tryz.prog 164 [r.val,.int .i64 t].toArray L R (fun v L' R'=>v=.bool (decide (Ujc r t))∧L=L'∧R=R'):=by
  refine Jg 16 Tryz.call164 Tryz.func164 rfl rfl rfl ?_
  refine Xag ?_
  intro b2
  refine qaz ?_
  refine Xde ?_
  refine Xbg ?_
  apply J9 (G:=[_,_,_,_,_]) (j:=4) (cj:=9) rfl rfl zb rfl zdb rfl
  ·
   intro hg5
   replace hg5:=qb hg5
   refine Xam ?_
   refine qa9 ?_
   exact zyd
  intro junk5
  refine Xba ?_
  refine q_b (L':=L) (R':=R) ?_
  exact ⟨by refine congrArg Value.bool ?_;rw [Bool.eq_iff_iff,decide_eq_true_iff (p:=Ujc r t),Ujc];simp,rfl,rfl⟩
def Zd (s:XSite) (r:XRest) (p:Int):Prop:=
  p < 0∨(s.persons.l.length:Int)≤p∨p=r.first∨r.first < 0∨(s.persons.l.length:Int)≤r.first∨s.persons.l.getD p.toNat 0=s.persons.l.getD r.first.toNat 0
instance (s:XSite) (r:XRest) (p:Int):Decidable (Zd s r p):=by unfold Zd;infer_instance
def confirmE (s:XSite) (c:List XCut) (fl:List XSpan) (r:XRest) (p t:Int):Int:=
  if sharedE s c.length fl.length t≠0 then sharedE s c.length fl.length t
  else if r.zone= -1∨r.step≠1 then 10
  else if Zd s r p then 19
  else if Ujc r t then 8
  else readyE s c fl r.zone t
def confirmR (s:XSite) (c:List XCut) (fl:List XSpan) (r:XRest) (p t:Int):XRest:=if confirmE s c fl r p t=0 then ⟨r.zone,r.first,p,2,t⟩ else r
theorem Ve {s:XSite} {c:List XCut} {fl:List XSpan} {r:XRest} {p t e:Int} (h:confirmE s c fl r p t=e) (he:e≠0):confirmR s c fl r p t=r:=by rw [confirmR,if_neg za]
theorem Z8c (s:XSite) (c:Arr XCut) (fl:Arr XSpan) (r:XRest) (p t:Int) (L:List Blk) (R:List Sl) (h:RestA s c fl R):
    Tri Tryz.prog 86 [s.val,c.val,fl.val,r.val,.int .i64 p,.int .i64 t].toArray L R (fun v L' R'=>v=.tuple #[(confirmR s c.l fl.l r p t).val,.int .i64 (confirmE s c.l fl.l r p t)]∧L=L'∧R=R'):=by
  have hpR:=h.site.persons
  refine Jg 102 Tryz.call86 Tryz.func86 rfl rfl rfl ?_
  refine Xag ?_
  intro b6
  refine qax ?_
  intro b9
  refine qaq ?_
  intro b12
  refine Xas ?_
  refine Jwe ?_
  refine qbm ?_
  refine Xau ?_
  refine q_l rfl (U1a s c fl t _ _ h) ?_
  refine Xa7 ?_
  refine q_c (fun hc0=>?_) (fun hc0=>?_)
  ·
   refine qae ?_
   refine Yaa ?_
   refine Xby ?_
   refine q_r (L':=L) (R':=R) zOc ?_
   have he:confirmE s c.l fl.l r p t=sharedE s c.l.length fl.l.length t:=by rw [confirmE,if_pos hc0]
   exact ⟨by rw [Ve he hc0,he],rfl,rfl⟩
  obtain ⟨hok,hln,ht⟩:=Jdb (s:=s) (nc:=c.l.length) (nf:=fl.l.length) (t:=t) za
  refine Xct ?_
  refine qah ?_
  apply J9 (G:=[_,_,_]) (j:=3) (cj:=30) rfl rfl zb rfl zdb rfl
  ·
   intro hg4
   replace hg4:=qb hg4
   refine Xaa ?_
   exact zfd
  intro junk4
  refine qaf ?_
  refine q_c (fun hc1=>?_) (fun hc1=>?_)
  ·
   refine qae ?_
   refine Yaa ?_
   refine Xaz ?_
   refine q_r (L':=L) (R':=R) zOc ?_
   have he:confirmE s c.l fl.l r p t=10:=by rw [confirmE,if_neg hc0,if_pos za]
   exact ⟨by rw [Ve he za,he],rfl,rfl⟩
  refine qbv ?_
  refine Xac ?_
  refine qad ?_
  refine qco ?_
  refine Kn tb [0,1,2,3,4,5,6,7,8,9,10,11,12,13,14,15,16,17,18,19,20,21,22,23,24,25,26,27,28,29,30,31,32,33,34,35,36,37,38,39] _ K1 ze (List.Sublist.refl _) ?_
  refine qao ?_
  refine Kv zlc rfl rfl rfl ?_
  refine qb2 ?_
  refine Vd (k:=41) zdb (fun hg2=>?_) (fun hg2=>?_)
  ·
   replace hg2:=qb hg2
   iterate 3 refine qap ?_
   refine Xbf ?_
   iterate 4 refine qap ?_
   refine Xbf ?_
   exact zTd
  replace hg2:=qb hg2
  refine qao ?_
  refine qao ?_
  refine Kv (Zob rfl rfl) rfl rfl rfl ?_
  refine Xbf ?_
  refine Vd (k:=46) zdb (fun hg7=>?_) (fun hg7=>?_)
  ·
   replace hg7:=qb hg7
   iterate 4 refine qap ?_
   refine Xbf ?_
   exact zTd
  replace hg7:=qb hg7
  refine qao ?_
  refine Xan ?_
  refine Kv zRb rfl rfl rfl ?_
  refine Xbf ?_
  refine Vd (k:=52) zdb (fun hg13=>?_) (fun hg13=>?_)
  ·
   replace hg13:=qb hg13
   exact zTd
  replace hg13:=qb hg13
  refine Xan ?_
  refine Kv zlc rfl rfl rfl ?_
  refine Xbf ?_
  refine Vd (k:=57) zdb (fun hg18=>?_) (fun hg18=>?_)
  ·
   replace hg18:=qb hg18
   iterate 4 refine qap ?_
   refine Xbf ?_
   exact zYc
  replace hg18:=qb hg18
  refine Xb1 ?_
  refine Kv (Zob rfl rfl) rfl rfl rfl ?_
  refine Xbf ?_
  refine Vd (k:=63) zdb (fun hg24=>?_) (fun hg24=>?_)
  ·
   replace hg24:=qb hg24
   exact zYc
  replace hg24:=qb hg24
  have hpg:=Jw (l:=s.persons.l) (k:=p.toNat) 0 za
  have hqg:=Jw (l:=s.persons.l) (k:=r.first.toNat) 0 za
  refine Xb1 ?_
  refine Kv zab rfl rfl rfl ?_
  refine qce ?_
  refine qbl ?_
  refine Xan ?_
  refine Xan ?_
  refine Kv (by first | exact Jf tb rfl rfl rfl rfl zt (i:=r.first.toNat) zk za | exact Jk tb rfl rfl rfl rfl (i:=r.first.toNat) zk za) rfl rfl rfl ?_
  refine qce ?_
  refine qbl ?_
  refine Kv zRb rfl rfl rfl ?_
  refine Xbu ?_
  refine q_c (fun hc2=>?_) (fun hc2=>?_)
  ·
   refine qae ?_
   refine Yaa ?_
   refine Xaz ?_
   refine q_r (L':=L) (R':=R) zOc ?_
   have he:confirmE s c.l fl.l r p t=19:=by rw [confirmE,if_neg hc0,if_neg za,if_pos zS]
   exact ⟨by rw [Ve he za,he],rfl,rfl⟩
  have hbp:¬ Zd s r p:=by rw [Zd];omega
  refine qbo ?_
  refine Yaa ?_
  refine qaa ?_
  refine q_l rfl (Jud r t _ _ ht) ?_
  refine qaf ?_
  refine q_c (fun hc3=>?_) (fun hc3=>?_)
  ·
   refine qae ?_
   refine Yaa ?_
   refine Xaz ?_
   refine q_r (L':=L) (R':=R) zOc ?_
   have he:confirmE s c.l fl.l r p t=8:=by rw [confirmE,if_neg hc0,if_neg za,if_neg hbp,if_pos zca]
   exact ⟨by rw [Ve he za,he],rfl,rfl⟩
  have he:confirmE s c.l fl.l r p t=readyE s c.l fl.l r.zone t:=by rw [confirmE,if_neg hc0,if_neg za,if_neg hbp,if_neg zca]
  refine qbo ?_
  refine Jwe ?_
  refine qbm ?_
  refine qbm ?_
  refine Xam ?_
  refine q_l rfl (Yfb s c fl r.zone t _ _ h hok hln ht) ?_
  refine Xa7 ?_
  refine q_c (fun hc4=>?_) (fun hc4=>?_)
  ·
   refine qae ?_
   refine Yaa ?_
   refine Xby ?_
   refine q_r (L':=L) (R':=R) zOc ?_
   exact ⟨by rw [Ve he hc4,he],rfl,rfl⟩
  refine qbv ?_
  refine Yaa ?_
  refine qaq ?_
  intro b17
  refine Xa0 ?_
  refine Xbh ?_
  refine Xbj ?_
  refine Xbj ?_
  refine Xbj ?_
  refine qam ?_
  refine Yaa ?_
  refine Xbl ?_
  refine q_r (L':=L) (R':=R) zOc ?_
  exact ⟨by rw [confirmR,if_pos za,he,show readyE s c.l fl.l r.zone t=0 by omega],rfl,rfl⟩
end
section
end
end Go.Proofs.YtchfclmokpbldaaGreat
