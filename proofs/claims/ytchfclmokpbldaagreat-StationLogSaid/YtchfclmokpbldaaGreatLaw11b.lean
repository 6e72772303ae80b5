/-
  Texts of one chapter, merged. By an AI agent; no person has read it.
-/
import Derived.Test.YtchfclmokpbldaaGreatCongrS
import Derived.Test.YtchfclmokpbldaaGreatNets
import Derived.Test.YtchfclmokpbldaaGreatFits
import Derived.Test.YtchfclmokpbldaaGreatAnal
import Derived.Test.YtchfclmokpbldaaGreatRel
import Derived.Test.YtchfclmokpbldaaGreatCflowR
set_option linter.unusedVariables false
set_option linter.unusedSimpArgs false
set_option maxRecDepth 20000
namespace Go.Proofs.YtchfclmokpbldaaGreat
open Go.Aw Go
section
attribute [local irreducible] CJ LJ DJ Tri YV Gives Ui J0 Ke Uh RV J2 OwL.L
section
variable {A9 B9:Prop}
theorem Zic (a:A9) (h:A9→B9:=by exact Jx zL rfl):B9:=h a
theorem Vke (a:A9) (h:A9→B9:=by exact Vp zKb rfl rfl):B9:=h a
theorem Ubf (a:A9) (h:A9→B9:=by exact Jx zB rfl):B9:=h a
end
structure XSens where
  address:Int
  kind:Int
  target:Int
  offset:Int
  scale:Int
  error:Int
  drift:Int
  life:Int
  deriving Inhabited
def XSens.cells (s:XSens):List Value:=[.int .i64 s.address,.int .i64 s.kind,.int .i64 s.target,.int .i64 s.offset,.int .i64 s.scale,.int .i64 s.error,.int .i64 s.drift,.int .i64 s.life]
abbrev XSens.val (s:XSens):Value:=.agg #[.int .i64 s.address,.int .i64 s.kind,.int .i64 s.target,.int .i64 s.offset,.int .i64 s.scale,.int .i64 s.error,.int .i64 s.drift,.int .i64 s.life]
structure XMeas where
  sensor:Int
  time:Int
  span:XSpan
  deriving Inhabited
def XMeas.cells (m:XMeas):List Value:=[.int .i64 m.sensor,.int .i64 m.time,.int .i64 m.span.low,.int .i64 m.span.high]
abbrev XMeas.val (m:XMeas):Value:=.agg #[.int .i64 m.sensor,.int .i64 m.time,.int .i64 m.span.low,.int .i64 m.span.high]
abbrev Vyd (x:Arr XSens):Sl:=x.sl 8 XSens.cells []
abbrev Vn (x:Arr XMeas):Sl:=x.sl 4 XMeas.cells []
theorem K8a (lo hi:Int) (x:Arr Int) (L:List Blk) (R:List Sl) (hx:InR (isl x) R) (hn:x.l.length≤100):
    Tri Tryz.prog 174 [.int .i64 lo,.int .i64 hi,x.val].toArray L R (fun v L' R'=>v=.bool (decide (∀n∈x.l,lo≤n∧n≤hi))∧L=L'∧R=R'):=by
  refine Jg 24 Tryz.call174 Tryz.func174 rfl rfl rfl ?_
  refine Xbb ?_
  refine qaw ?_
  refine Xbt ?_
  refine Jo [(0,Value.int _ _),(1,Value.int _ _),(9,Value.slice _ _ _),(10,Value.int _ _),(11,Value.int _ _)] zg fun tq0=>?_
  refine q_s [6,8,11,12,13,14,15,16,17,18,19,20,21,22,23] (fun g:{k:Nat // k≤x.l.length∧∀n∈x.l.take k,lo≤n∧n≤hi}=>[(11,.int .i64 ((g.1:Nat):Int))]) (fun g=>x.l.length - g.1) (⟨0,by omega,by simp⟩) ?_
  rintro ⟨k,hk,hal⟩ junk
  try dsimp only
  refine Xak ?_
  refine q_c (fun hc0=>?_) (fun hc0=>?_)
  ·
   have h1:=Jw (l:=x.l) (k:=k) 0 za
   refine qbb ?_
   refine Ubf ?_
   refine qa7 ?_
   refine Xat ?_
   refine Xb5 ?_
   apply J9 (G:=[_,_,_]) (j:=3) (cj:=18) rfl rfl zb rfl zdb rfl
   ·
    intro hg4
    replace hg4:=qb hg4
    refine Xbh ?_
    refine qa5 ?_
    exact qai
   intro junk4
   refine qaf ?_
   refine q_c (fun hc1=>?_) (fun hc1=>?_)
   ·
    refine Xbb ?_
    refine qbt ?_
    refine q_b (L':=L) (R':=R) ?_
    exact ⟨by rw [decide_eq_false (fun h=>by have:=h _ (List.mem_of_getElem? h1);omega)],rfl,rfl⟩
   refine Xax ?_
   exact Kf (⟨k + 1,by omega,fun n hn=>by
   rw [List.take_add_one,h1] at hn
   simp only [Option.toList_some,List.mem_append,List.mem_singleton] at hn
   rcases hn with h | h
   · exact hal n h
   · omega⟩) zm zg zi zqb zx
  refine qbk ?_
  refine Xba ?_
  refine q_b (L':=L) (R':=R) ?_
  exact ⟨by rw [decide_eq_true (fun n hn=>by rw [List.take_of_length_le za] at hal;exact hal n hn)],rfl,rfl⟩
def Zb (s:XSens):Prop:=(0≤s.address∧s.address≤255)∧0≤s.target∧(-1000000≤s.offset∧s.offset≤1000000)∧(-1000000≤s.scale∧s.scale≤1000000)∧(0≤s.error∧s.error≤1000000)∧(0≤s.drift∧s.drift≤1000000)∧(1≤s.life∧s.life≤1000000)
instance (s:XSens):Decidable (Zb s):=by unfold Zb;infer_instance
def Uy (s:XSens):Int:=if ¬ (1≤s.kind∧s.kind≤6) then 5 else if Zb s then 0 else 1
theorem Ura (s:XSens) (L:List Blk) (R:List Sl):
    Tri Tryz.prog 97 [s.val].toArray L R (fun v L' R'=>v=.int .i64 (Uy s)∧L=L'∧R=R'):=by
  refine Jg 44 Tryz.call97 Tryz.func97 rfl rfl rfl ?_
  refine Xag ?_
  intro b1
  refine qad ?_
  refine J6 (Jb (Jn (Kg (Jn (Jh ?_)))))
  refine Xaa ?_
  refine qcx ?_
  rintro v L' R' ⟨b6,rfl,rfl,hR6⟩
  replace hR6:=hR6.symm;subst hR6
  refine Jua (wd:=1) (len:=1) (cap:=1) (rows:=[Jp s.kind]) (subs:=[]) rfl zc zc (fun r hr=>by rw [List.mem_singleton.1 hr];rfl) zc rfl (fun s hs=>by cases hs) ?_
  refine q_l rfl (K8a 1 6 ⟨some ⟨b6,0,none⟩,1,[s.kind]⟩ _ _ zpb zo) ?_
  refine qb4 ?_
  refine Xao ?_
  refine q_c (fun hc0=>?_) (fun hc0=>?_)
  ·
   refine Xa6 ?_
   refine Ks (L':=L) (R':=R) zVc ?hp ?hL ?hR
   case hp=>exact ⟨by simp at hc0;rw [Uy,if_pos za],rfl,rfl⟩
   case hL=>exact zi
   case hR=>exact fun r h=>Ja (by simp [h])
  refine Xb8 ?_
  refine qcx ?_
  rintro v L' R' ⟨b12,rfl,rfl,hR12⟩
  replace hR12:=hR12.symm;subst hR12
  refine Jua (wd:=1) (len:=1) (cap:=1) (rows:=[Jp s.address]) (subs:=[]) rfl zc zc (fun r hr=>by rw [List.mem_singleton.1 hr];rfl) zc rfl (fun s hs=>by cases hs) ?_
  refine q_l rfl (K8a 0 255 ⟨some ⟨b12,0,none⟩,1,[s.address]⟩ _ _ zpb zo) ?_
  refine Xcc ?_
  refine Jsa (k:=15) zdb (fun hg6=>?_) (fun hg6=>?_)
  ·
   replace hg6:=qb hg6
   iterate 3 refine Vjb rfl rfl ?_
   refine Zic ?_
   refine qah ?_
   ·
    skip
    iterate 7 refine Vjb rfl rfl ?_
    refine Zic ?_
    refine Xao ?_
    refine K3 rfl ?_
    refine Xa6 ?_
    refine Ks (L':=L) (R':=R) zVc ?hp ?hL ?hR
    case hp=>exact ⟨by rw [Uy,if_neg zba,if_neg zwa],rfl,rfl⟩
    case hL=>exact zi
    case hR=>exact fun r h=>Ja (by simp [h])
  replace hg6:=qb hg6
  refine Vp zzb rfl rfl ?_
  refine Vke ?_
  refine Vp zlc rfl rfl ?_
  refine Zic ?_
  refine qah ?_
  refine Jsa (k:=20) zdb (fun hg11=>?_) (fun hg11=>?_)
  ·
   replace hg11:=qb hg11
   iterate 7 refine Vjb rfl rfl ?_
   refine Zic ?_
   refine Xao ?_
   refine K3 rfl ?_
   refine Xa6 ?_
   refine Ks (L':=L) (R':=R) zVc ?hp ?hL ?hR
   case hp=>exact ⟨by rw [Uy,if_neg zba,if_neg zwa],rfl,rfl⟩
   case hL=>exact zi
   case hR=>exact fun r h=>Ja (by simp [h])
  replace hg11:=qb hg11
  refine Vp zzb rfl rfl ?_
  refine Vke ?_
  refine Vp zzb rfl rfl ?_
  refine Vke ?_
  refine K1c znb rfl rfl ?_
  rintro v L' R' ⟨b25,rfl,rfl,hR25⟩
  replace hR25:=hR25.symm;subst hR25
  refine Jua (wd:=1) (len:=2) (cap:=2) (rows:=[Jp s.offset,Jp s.scale]) (subs:=[]) rfl zc zc (fun r hr=>by simp only [List.mem_cons,List.not_mem_nil,or_false] at hr;rcases hr with rfl | rfl <;> rfl) zc rfl (fun s hs=>by cases hs) ?_
  refine Udb rfl (K8a (-1000000) 1000000 ⟨some ⟨b25,0,none⟩,2,[s.offset,s.scale]⟩ _ _ zpb zo) rfl rfl ?_
  rintro v L' R' ⟨rfl,rfl,rfl⟩
  refine Vp (Jnb rfl) rfl rfl ?_
  refine Zic ?_
  refine Xao ?_
  refine q_c (fun hc1=>?_) (fun hc1=>?_)
  ·
   refine Xa6 ?_
   refine Ks (L':=L) (R':=R) zVc ?hp ?hL ?hR
   case hp=>exact ⟨by rw [Uy,if_neg zba,if_neg zwa],rfl,rfl⟩
   case hL=>exact zi
   case hR=>exact fun r h=>Ja (by simp [h])
  refine qae ?_
  refine Xbe ?_
  refine Y9 znb rfl ?_
  rintro v L' R' ⟨b34,rfl,rfl,hR34⟩
  replace hR34:=hR34.symm;subst hR34
  refine Jua (wd:=1) (len:=2) (cap:=2) (rows:=[Jp s.error,Jp s.drift]) (subs:=[]) rfl zc zc (fun r hr=>by simp only [List.mem_cons,List.not_mem_nil,or_false] at hr;rcases hr with rfl | rfl <;> rfl) zc rfl (fun s hs=>by cases hs) ?_
  refine q_l rfl (K8a 0 1000000 ⟨some ⟨b34,0,none⟩,2,[s.error,s.drift]⟩ _ _ zpb zo) ?_
  refine Xcc ?_
  refine Jsa (k:=37) zdb (fun hg8=>?_) (fun hg8=>?_)
  ·
   replace hg8:=qb hg8
   iterate 5 refine Vjb rfl rfl ?_
   refine Zic ?_
   refine Xao ?_
   refine K3 rfl ?_
   refine Xa6 ?_
   refine Ks (L':=L) (R':=R) zVc ?hp ?hL ?hR
   case hp=>exact ⟨by rw [Uy,if_neg zba,if_neg zPa],rfl,rfl⟩
   case hL=>exact zi
   case hR=>exact fun r h=>Ja (by simp [h])
  replace hg8:=qb hg8
  refine Vp zzb rfl rfl ?_
  refine Vke ?_
  refine K1c zJb rfl rfl ?_
  rintro v L' R' ⟨b40,rfl,rfl,hR40⟩
  replace hR40:=hR40.symm;subst hR40
  refine Jua (wd:=1) (len:=1) (cap:=1) (rows:=[Jp s.life]) (subs:=[]) rfl zc zc (fun r hr=>by rw [List.mem_singleton.1 hr];rfl) zc rfl (fun s hs=>by cases hs) ?_
  refine Udb rfl (K8a 1 1000000 ⟨some ⟨b40,0,none⟩,1,[s.life]⟩ _ _ zpb zo) rfl rfl ?_
  rintro v L' R' ⟨rfl,rfl,rfl⟩
  refine Vp (Jnb rfl) rfl rfl ?_
  refine Zic ?_
  refine Xao ?_
  refine q_c (fun hc2=>?_) (fun hc2=>?_)
  ·
   refine Xa6 ?_
   refine Ks (L':=L) (R':=R) zVc ?hp ?hL ?hR
   case hp=>exact ⟨by rw [Uy,if_neg zba,if_neg zPa],rfl,rfl⟩
   case hL=>exact zi
   case hR=>exact fun r h=>Ja (by simp [h])
  refine J5 (Ji (Jb (Jn (Jh ?_))))
  refine Xah ?_
  refine Ks (L':=L) (R':=R) zVc ?hp ?hL ?hR
  case hp=>exact ⟨by simp at hc0 hg6 hc1 hg8 hc2;rw [Uy,if_neg za,if_pos (by rw [Zb];omega)],rfl,rfl⟩
  case hL=>exact zi
  case hR=>exact fun r h=>Ja (by simp [h])
theorem Jce (k:Int) (L:List Blk) (R:List Sl):
    Tri Tryz.prog 98 [.int .i64 k].toArray L R (fun v L' R'=>v=.bool (decide (k=4∨k=5∨k=6))∧L=L'∧R=R'):=by
  refine Jg 13 Tryz.call98 Tryz.func98 rfl rfl rfl ?_
  refine Xbb ?_
  refine Xde ?_
  refine qbn ?_
  refine qah ?_
  apply J9 (G:=[_,_]) (j:=2) (cj:=5) rfl rfl zb rfl zdb rfl
  ·
   intro hg3
   replace hg3:=qb hg3
   refine qaa ?_
   refine qbn ?_
   exact qai
  intro junk3
  refine qah ?_
  apply J9 (G:=[_,_]) (j:=6) (cj:=9) rfl rfl zb rfl zdb rfl
  ·
   intro hg7
   replace hg7:=qb hg7
   refine qaa ?_
   refine qbn ?_
   exact qai
  intro junk7
  refine Xba ?_
  refine q_b (L':=L) (R':=R) ?_
  exact ⟨by refine congrArg Value.bool ?_;rw [Bool.eq_iff_iff];simp;omega,rfl,rfl⟩
def U6d (s:XSens) (m:XMeas) (t:Int):Int:=(s.drift * (t - m.time) + 999).tdiv 1000
def J9c (s:XSens) (m:XMeas) (t:Int):Prop:=Uy s≠0∨m.sensor < 0∨m.span=nothingS∨t < m.time∨s.life < t - m.time
instance (s:XSens) (m:XMeas) (t:Int):Decidable (J9c s m t):=by unfold J9c;infer_instance
def Yre (s:XSens) (m:XMeas) (t:Int):XSpan:=⟨m.span.low - U6d s m t,m.span.high + U6d s m t⟩
def atS (s:XSens) (m:XMeas) (t:Int):XSpan:=
  if J9c s m t then nothingS else if s.kind=4∨s.kind=5∨s.kind=6 then m.span
  else if s.kind=1∨s.kind=2 then ⟨max (Yre s m t).low 0,max (Yre s m t).high 0⟩ else Yre s m t
def Kna (m:XMeas):Prop:=(0≤m.time∧m.time≤2147483648)∧(-1125899906842624≤m.span.low∧m.span.low≤1125899906842624)∧(-1125899906842624≤m.span.high∧m.span.high≤1125899906842624)
theorem Z3c {s:XSens} {m:XMeas} {t:Int} (h:¬ J9c s m t):(0≤s.drift * (t - m.time)∧s.drift * (t - m.time)≤1000000000000)∧0≤U6d s m t∧U6d s m t≤1000000001:=by
  rw [J9c] at h
  have he:Uy s=0:=by omega
  rw [Uy] at he
  split at he
  · omega
  split at he
  · rename_i hs
    rw [Zb] at hs
    have h1:0≤t - m.time∧t - m.time≤1000000:=by omega
    have h2:0≤s.drift∧s.drift≤1000000:=by omega
    have h3:0≤s.drift * (t - m.time):=Int.mul_nonneg h2.1 h1.1
    have h4:s.drift * (t - m.time)≤1000000 * 1000000:=Int.mul_le_mul h2.2 h1.2 h1.1 zc
    refine ⟨⟨h3,by omega⟩,?_⟩
    rw [U6d,Int.tdiv_eq_ediv_of_nonneg za]
    omega
  · omega
theorem Kdc {a b:XSpan}:a=b↔a.low=b.low∧a.high=b.high:=by
  cases a;cases b;simp
theorem V1e (s:XSens) (m:XMeas) (t:Int) (L:List Blk) (R:List Sl) (hm:Kna m) (ht:0≤t∧t≤2147483648):
    Tri Tryz.prog 33 [s.val,m.val,.int .i64 t].toArray L R (fun v L' R'=>v=(atS s m t).val∧L=L'∧R=R'):=by
  rw [Kna] at hm
  refine Jg 83 Tryz.call33 Tryz.func33 rfl rfl rfl ?_
  refine Xag ?_
  intro b3
  refine qax ?_
  intro b4
  refine qaq ?_
  intro b6
  refine qam ?_
  refine q_l rfl (K6 _ _) ?_
  refine qaq ?_
  intro b7
  refine Xa9 ?_
  refine Jx zmb rfl ?_
  refine q_l rfl (Ura s _ _) ?_
  refine Xbx ?_
  apply J9 (G:=[_,_,_]) (j:=3) (cj:=14) rfl rfl zb rfl zdb rfl
  ·
   intro hg4
   replace hg4:=qb hg4
   exact znd
  intro junk4
  refine qah ?_
  apply J9 (G:=[_,_,_,_]) (j:=8) (cj:=19) rfl rfl zb rfl zdb rfl
  ·
   intro hg9
   replace hg9:=qb hg9
   refine Xdp ?_
   refine qbe ?_
   refine Jx (Utb V0e rfl rfl) rfl ?_
   exact qai
  intro junk9
  refine qah ?_
  apply J9 (G:=[_,_,_,_]) (j:=14) (cj:=25) rfl rfl zb rfl zdb rfl
  ·
   intro hg15
   replace hg15:=qb hg15
   refine qaa ?_
   exact znd
  intro junk15
  refine qah ?_
  apply J9 (G:=[_,_,_,_,_,_,_]) (j:=20) (cj:=31) rfl rfl zb rfl zdb rfl
  ·
   intro hg21
   replace hg21:=qb hg21
   refine qaa ?_
   refine Xaa ?_
   refine qa9 ?_
   exact zgd
  intro junk21
  refine qaf ?_
  refine q_c (fun hc0=>?_) (fun hc0=>?_)
  ·
   refine qae ?_
   refine qbe ?_
   refine qak ?_
   refine qbh ?_
   refine q_r (L':=L) (R':=R) zBc ?_
   have hgo:J9c s m t:=by simp [nothingS] at hc0;rw [J9c,Kdc];simp only [nothingS];omega
   exact ⟨by rw [atS,if_pos hgo];try rfl,rfl,rfl⟩
  have hgo:¬ J9c s m t:=by simp [nothingS] at hc0;rw [J9c,Kdc];simp only [nothingS];omega
  obtain ⟨hb1,hb2⟩:=Z3c hgo
  rw [U6d] at hb2
  refine qbo ?_
  refine Xaa ?_
  refine q_l rfl (Jce _ _ _) ?_
  refine qaf ?_
  refine q_c (fun hc1=>?_) (fun hc1=>?_)
  ·
   refine Xc5 ?_
   refine qbe ?_
   refine qak ?_
   refine qbh ?_
   refine q_r (L':=L) (R':=R) zBc ?_
   exact ⟨by rw [atS,if_neg hgo,if_pos zH],rfl,rfl⟩
  refine qbv ?_
  refine Xam ?_
  refine Xaa ?_
  refine qa9 ?_
  refine qcm ?_
  refine qar ?_
  refine qdd ?_
  refine Xaf ?_
  refine qab ?_
  refine Xam ?_
  refine qa9 ?_
  refine qab ?_
  refine Xam ?_
  refine qar ?_
  refine qcd ?_
  refine qaq ?_
  intro b9
  refine Xa9 ?_
  refine Xbm ?_
  refine qah ?_
  apply J9 (G:=[_,_,_]) (j:=3) (cj:=69) rfl rfl zb rfl zdb rfl
  ·
   exact zBd
  intro junk4
  refine qaf ?_
  refine q_c (fun hc2=>?_) (fun hc2=>?_)
  ·
   refine qay ?_
   refine Xaa ?_
   refine Jx zkc rfl ?_
   refine Xaa ?_
   refine Jx zkc rfl ?_
   refine Xbj ?_
   refine Xbj ?_
   refine qam ?_
   refine Xdc ?_
   refine q_r (L':=L) (R':=R) zBc ?_
   exact ⟨by rw [atS,if_neg hgo,if_neg zH,if_pos za];try rfl,rfl,rfl⟩
  refine qbv ?_
  refine Xdc ?_
  refine q_r (L':=L) (R':=R) zBc ?_
  exact ⟨by rw [atS,if_neg hgo,if_neg zH,if_neg za];try rfl,rfl,rfl⟩
def Kvb (l:List XSpan) (z:XSpan) (k:Nat):XSpan:=(l.take k).foldl (fun o x=>⟨max o.low x.low,min o.high x.high⟩) z
theorem Zzc {l:List XSpan} {z:XSpan} {k:Nat} {x:XSpan} (h:l[k]?=some x):Kvb l z (k + 1)=⟨max (Kvb l z k).low x.low,min (Kvb l z k).high x.high⟩:=by
  rw [Kvb,List.take_add_one,h,List.foldl_append];rfl
def V3b (x y:XSpan):XSpan:=⟨max x.low y.low,min x.high y.high⟩
def Jgd (x y:XSpan):XSpan:=if (V3b x y).high < (V3b x y).low then nothingS else V3b x y
theorem Vqe {x y:XSpan}:Kvb [x,y] x 2=V3b x y:=by simp [Kvb,V3b]
theorem Kve (x y:XSpan) (p:Arr XSpan) (L:List Blk) (R:List Sl) (hp:InR (Vzd p) R) (he:p.l=[x,y]):
    Tri Tryz.prog 195 [p.val].toArray L R (fun v L' R'=>v=.tuple #[(Jgd x y).val,.bool (decide ((V3b x y).low≤(V3b x y).high))]∧L=L'∧R=R'):=by
  have hpl:p.l.length=2:=by rw [he];rfl
  have hp0:p.l[0]?=some x:=by rw [he];rfl
  refine Jg 40 Tryz.call195 Tryz.func195 rfl rfl rfl ?_
  refine qae ?_
  refine qaq ?_
  intro b2
  refine qaz ?_
  refine qaw ?_
  refine Xap ?_
  refine Xcd ?_
  refine q_c (fun hc0=>?_) (fun hc0=>?_)
  ·
   refine qae ?_
   refine q_l rfl (K6 _ _) ?_
   refine qak ?_
   refine qaz ?_
   refine qbh ?_
   refine q_r (L':=L) (R':=R) (Ug rfl zhb zHc) ?_
   exact absurd hc0 za
  refine qbv ?_
  refine qbm ?_
  refine qdt ?_
  refine Xdq ?_
  intro b4
  refine Xa9 ?_
  refine Xbt ?_
  refine Jo [(2,Value.pointer _),(4,Value.pointer _),(14,Value.slice _ _ _),(15,Value.int _ _),(16,Value.int _ _)] zg fun tq0=>?_
  refine q_p [6,16,17,18,19,20,21,22,23,24,25,26,27,28,29,30,31,32] ((⟨fun g=>[(16,.int .i64 ((g.1:Nat):Int))],fun g=>⟨b4,(Kvb p.l x g.1).cells,90⟩ :: ⟨b2,[.int .i64 0,.int .i64 0],90⟩ :: L,fun _=>R,fun g=>p.l.length - g.1⟩:Head {g:Nat // g≤p.l.length})) (⟨0,by omega⟩) ?_
  rintro ⟨k,hk⟩ junk
  try dsimp only
  refine Xak ?_
  refine q_c (fun hc1=>?_) (fun hc1=>?_)
  ·
   have h1:=Jw (l:=p.l) (k:=k) default za
   have hms:=Zzc (z:=x) h1
   refine qbb ?_
   refine Ubf ?_
   refine Xdq ?_
   intro b6
   refine qak ?_
   refine qaf ?_
   refine Kj tb [27,28,29] [0,1,2,3,4,5,6,7,8,9,10] [11,12,13] (_) _ K1 ze zi zha ?_
   refine Xar ?_
   refine Xar ?_
   refine Kx zkc rfl rfl rfl rfl ?_
   refine Xar ?_
   refine Xc6 ?_
   refine V8 (J0c rfl rfl) rfl rfl rfl rfl ?_
   refine qan ?_
   refine qba ?_
   refine qb6 ?_
   refine qal ?_
   refine qb6 ?_
   refine Xc7 ?_
   exact Kf ⟨k + 1,by omega⟩ zm zg (by dsimp only;rw [hms];exact zs3 (zs2 (zs0 _))) zqb zx
  obtain rfl:k=p.l.length:=by omega
  have hmm:Kvb p.l x p.l.length=V3b x y:=by rw [hpl,he];exact Vqe
  rw [hmm]
  refine qcf ?_
  refine Xaa ?_
  refine Xa1 ?_
  refine qaf ?_
  refine q_c (fun hc2=>?_) (fun hc2=>?_)
  ·
   refine qae ?_
   refine q_l rfl (K6 _ _) ?_
   refine qak ?_
   refine qaz ?_
   refine qbh ?_
   refine q_r (L':=L) (R':=R) (Ug rfl zhb zHc) ?_
   exact ⟨by rw [Jgd,if_pos za,decide_eq_false za],rfl,rfl⟩
  refine qbv ?_
  refine qbe ?_
  refine qak ?_
  refine Xba ?_
  refine q_r (L':=L) (R':=R) (Ug rfl zhb zHc) ?_
  exact ⟨by rw [Jgd,if_neg za,decide_eq_true za],rfl,rfl⟩
end
section
attribute [local irreducible] CJ LJ DJ Tri YV Gives Ui J0 Ke Uh RV J2 OwL.L
end
section
attribute [local irreducible] CJ LJ DJ Tri YV Gives Ui J0 Ke Uh RV J2 OwL.L
end
section
theorem Tri.lendU {P : Program} {f : FuncId} {args : Array Value} {A : List Blk} {R S : List Sl} {u : Value}
    (hS:∀w,∀G:Nat→Prop,Holds (A ++ []) G R w→∀s∈S,Rep w (fun b=>G b∨∃e∈A,e.b=b) s)
    (h:Tri P f args [] (S ++ R) (fun v L' R'=>v=u∧[]=L'∧S ++ R=R')):Tri P f args A R (fun v L' R'=>v=u∧A=L'∧R=R'):=by
  have h2:=Tri.lend (S:=S) (Post:=fun v L'=>v=u∧[]=L') (Spl.rest (L:=A)) hS (h.mono fun v L' R' ⟨a1,a2,a3⟩=>⟨⟨a1,a2⟩,a3⟩)
  exact zFd
attribute [local irreducible] CJ LJ DJ Tri YV Gives Ui J0 Ke Uh RV J2 OwL.L
theorem Jne (x:Arr Int) (a:Int) (L:List Blk) (R:List Sl) (hx:InR (isl x) R):
    Tri Tryz.prog 235 [x.val,.int .i64 a].toArray L R (fun v L' R'=>∃r:Int,v=.int .i64 r∧(0≤r↔a∈x.l)∧L=L'∧R=R'):=by
  refine V3a Tryz.call235 hx fun hcap=>?_
  refine Jg 19 Tryz.call235 Tryz.func235 rfl rfl rfl ?_
  refine Xab ?_
  refine qaw ?_
  refine Xbt ?_
  refine Jo [(0,Value.slice _ _ _),(1,Value.int _ _),(7,Value.int _ _),(8,Value.int _ _)] zg fun tq0=>?_
  refine q_s [4,5,8,9,10,11,12,13,14,15,16,17,18] (fun g:{k:Nat // k≤x.l.length∧∀j:Nat,j < k→x.l.getD j 0≠a}=>[(8,.int .i64 ((g.1:Nat):Int))]) (fun g=>x.l.length - g.1) (⟨0,by omega,fun j hj=>by omega⟩) ?_
  rintro ⟨k,hk,hal⟩ junk
  try dsimp only
  refine Xak ?_
  refine q_c (fun hc0=>?_) (fun hc0=>?_)
  ·
   have hg:=Jw (l:=x.l) (k:=k) 0 za
   refine Xa2 ?_
   refine Xat ?_
   refine Xau ?_
   refine Jx zB rfl ?_
   refine qa7 ?_
   refine Xcd ?_
   refine q_c (fun hc1=>?_) (fun hc1=>?_)
   ·
    refine Xdj ?_
    refine qbt ?_
    refine q_i (L':=L) (R':=R) ?_
    exact ⟨k,rfl,⟨fun _=>by rw [hc1];exact List.mem_of_getElem? hg,fun _=>by omega⟩,rfl,rfl⟩
   refine Xax ?_
   exact Kf (⟨k + 1,by omega,fun j hj=>by
   rcases Nat.lt_or_ge j k with h | h
   · exact hal j h
   · obtain rfl : j = k := by omega
     exact fun h=>hc1 h.symm⟩) zm zg zi zqb zx
  refine Xb7 ?_
  refine q_i (L':=L) (R':=R) ?_
  refine ⟨-1,rfl,⟨fun h=>by omega,fun h=>?_⟩,rfl,rfl⟩
  obtain ⟨j,hj,rfl⟩:=List.getElem_of_mem h
  have:=hal j za
  rw [List.getD_eq_getElem?_getD,List.getElem?_eq_getElem hj] at this
  exact absurd rfl this
theorem V8c (x:Arr Int) (a:Int) (L:List Blk) (R:List Sl) (hx:InR (isl x) R):
    Tri Tryz.prog 169 [x.val,.int .i64 a].toArray L R (fun v L' R'=>v=.bool (decide (a∈x.l))∧L=L'∧R=R'):=by
  refine Jg 9 Tryz.call169 Tryz.func169 rfl rfl rfl ?_
  refine Xbb ?_
  refine qam ?_
  refine Xau ?_
  refine Js rfl (Jne x a _ _ hx) rfl ?_
  exact zwd
end
section
attribute [local irreducible] CJ LJ DJ Tri YV Gives Ui J0 Ke Uh RV J2 OwL.L
theorem Jxe (m:XMine):∃A,AiryIs m A:=by
  refine ⟨(List.range (Ure m).length).map fun i=>@decide (∃j:Nat,j < (Ure m).length∧(Ure m).getD j false=true∧Conn m j i) (Classical.propDecidable _),by simp,fun i hi=>?_⟩
  rw [List.getD_eq_getElem?_getD,List.getElem?_map,List.getElem?_range hi]
  exact ⟨fun h=>@of_decide_eq_true _ (Classical.propDecidable _) h,fun h=>@decide_eq_true _ (Classical.propDecidable _) h⟩
end
end Go.Proofs.YtchfclmokpbldaaGreat
