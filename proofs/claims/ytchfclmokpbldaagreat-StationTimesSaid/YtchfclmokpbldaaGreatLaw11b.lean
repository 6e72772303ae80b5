import Derived.Test.YtchfclmokpbldaaGreatCongrS
import Derived.Test.YtchfclmokpbldaaGreatNets
import Derived.Test.YtchfclmokpbldaaGreatFits
import Derived.Test.YtchfclmokpbldaaGreatAnal
import Derived.Test.YtchfclmokpbldaaGreatRel
import Derived.Test.YtchfclmokpbldaaGreatCflowR
set_option linter.unusedVariables false
set_option linter.unusedSimpArgs false
section
/-
  What measurements say later: sensor.Check, window.At, window.Meet. By an AI agent; no person has read it.
-/
namespace Go.Proofs.YtchfclmokpbldaaGreat
open Go.Aw Go
set_option maxRecDepth 20000
attribute [local irreducible] CJ LJ DJ Tri YV Gives Jcj Ja1 Jbg Jci RV Ja2 OwL.L
section
variable {A9 B9:Prop}
theorem Jwj (a:A9) (h:A9→B9:=by exact Jax zL rfl):B9:=h a
theorem J6l (a:A9) (h:A9→B9:=by exact Jdi (Jbz tb rfl rfl rfl zf zb) rfl rfl):B9:=h a
theorem Kbp (a:A9) (h:A9→B9:=by exact Jax zC rfl):B9:=h a
end
structure XSens where
  address:Int
  kind:Int
  target:Int
  offset:Int
  scale:Int
  error:Int
  drift:Int
  life:Int
  deriving Inhabited
def XSens.cells (s:XSens):List Value:=[.int .i64 s.address,.int .i64 s.kind,.int .i64 s.target,.int .i64 s.offset,.int .i64 s.scale,.int .i64 s.error,.int .i64 s.drift,.int .i64 s.life]
abbrev XSens.val (s:XSens):Value:=.agg #[.int .i64 s.address,.int .i64 s.kind,.int .i64 s.target,.int .i64 s.offset,.int .i64 s.scale,.int .i64 s.error,.int .i64 s.drift,.int .i64 s.life]
structure XMeas where
  sensor:Int
  time:Int
  span:XSpan
  deriving Inhabited
def XMeas.cells (m:XMeas):List Value:=[.int .i64 m.sensor,.int .i64 m.time,.int .i64 m.span.low,.int .i64 m.span.high]
abbrev XMeas.val (m:XMeas):Value:=.agg #[.int .i64 m.sensor,.int .i64 m.time,.int .i64 m.span.low,.int .i64 m.span.high]
abbrev J05 (x:Arr XSens):Sl:=x.sl 8 XSens.cells []
abbrev Jde (x:Arr XMeas):Sl:=x.sl 4 XMeas.cells []
theorem Jhq (lo hi:Int) (x:Arr Int) (L:List Blk) (R:List Sl) (hx:InR (isl x) R) (hn:x.l.length≤100):
    Tri Tryz.prog 174 [.int .i64 lo,.int .i64 hi,x.val].toArray L R (fun v L' R'=>v=.bool (decide (∀n∈x.l,lo≤n∧n≤hi))∧L=L'∧R=R'):=by
  refine Jad 24 Tryz.call174 Tryz.func174 rfl rfl rfl ?_
  refine Xax ?_
  refine qaw ?_
  refine Xbv ?_
  refine Jan [(0,Value.int _ _),(1,Value.int _ _),(9,Value.slice _ _ _),(10,Value.int _ _),(11,Value.int _ _)] zh fun tq0=>?_
  refine q_s [6,8,11,12,13,14,15,16,17,18,19,20,21,22,23] (fun g:{k:Nat // k≤x.l.length∧∀n∈x.l.take k,lo≤n∧n≤hi}=>[(11,.int .i64 ((g.1:Nat):Int))]) (fun g=>x.l.length - g.1) (⟨0,by omega,by simp⟩) ?_
  rintro ⟨k,hk,hal⟩ junk
  try dsimp only
  refine Xak ?_
  refine q_c (fun hc0=>?_) (fun hc0=>?_)
  ·
   have h1:=Jau (l:=x.l) (k:=k) 0 za
   refine qbb ?_
   refine Kbp ?_
   refine qa7 ?_
   refine Xat ?_
   refine Xb0 ?_
   apply Ja7 (G:=[_,_,_]) (j:=3) (cj:=18) rfl rfl zb rfl (show _=Value.bool _ from rfl) rfl
   ·
    intro hg4
    replace hg4:=qb hg4
    refine Xbw ?_
    refine qa5 ?_
    exact qai
   intro junk4
   refine qaf ?_
   refine q_c (fun hc1=>?_) (fun hc1=>?_)
   ·
    refine Xca ?_
    refine q_b (L':=L) (R':=R) ?_
    exact ⟨by rw [decide_eq_false (fun h=>by have:=h _ (List.mem_of_getElem? h1);omega)],rfl,rfl⟩
   refine Xay ?_
   exact Jbl (⟨k + 1,by omega,fun n hn=>by
   rw [List.take_add_one,h1] at hn
   simp only [Option.toList_some,List.mem_append,List.mem_singleton] at hn
   rcases hn with h | h
   · exact hal n h
   · omega⟩) zm zh zi (Jac _) zy
  refine Xdf ?_
  refine q_b (L':=L) (R':=R) ?_
  exact ⟨by rw [decide_eq_true (fun n hn=>by rw [List.take_of_length_le za] at hal;exact hal n hn)],rfl,rfl⟩
def Je0 (s:XSens):Prop:=(0≤s.address∧s.address≤255)∧0≤s.target∧(-1000000≤s.offset∧s.offset≤1000000)∧(-1000000≤s.scale∧s.scale≤1000000)∧(0≤s.error∧s.error≤1000000)∧(0≤s.drift∧s.drift≤1000000)∧(1≤s.life∧s.life≤1000000)
instance (s:XSens):Decidable (Je0 s):=by unfold Je0;infer_instance
def Jcx (s:XSens):Int:=if ¬ (1≤s.kind∧s.kind≤6) then 5 else if Je0 s then 0 else 1
theorem Jh5 (s:XSens) (L:List Blk) (R:List Sl):
    Tri Tryz.prog 97 [s.val].toArray L R (fun v L' R'=>v=.int .i64 (Jcx s)∧L=L'∧R=R'):=by
  refine Jad 44 Tryz.call97 Tryz.func97 rfl rfl rfl ?_
  refine Xaf ?_
  intro b1
  refine qad ?_
  refine Ja6 (Jab (Jam (Jbd (Jam (Jah ?_)))))
  refine Xaa ?_
  refine qcx ?_
  rintro v L' R' ⟨b6,rfl,rfl,hR6⟩
  replace hR6:=hR6.symm;subst hR6
  refine Jhr (wd:=1) (len:=1) (cap:=1) (rows:=[Jap s.kind]) (subs:=[]) rfl ze ze (fun r hr=>by rw [List.mem_singleton.1 hr];rfl) ze rfl (fun s hs=>by cases hs) ?_
  refine q_l rfl (Jhq 1 6 ⟨some ⟨b6,0,none⟩,1,[s.kind]⟩ _ _ (Jaa (.head _)) zo) ?_
  refine qb4 ?_
  refine Xap ?_
  refine q_c (fun hc0=>?_) (fun hc0=>?_)
  ·
   refine Xa8 ?_
   refine Jbw (L':=L) (R':=R) (Jec rfl (Jaf (show _=Value.int _ _ from rfl))) ?hp ?hL ?hR
   case hp=>exact ⟨by simp at hc0;rw [Jcx,if_pos za],rfl,rfl⟩
   case hL=>exact zi
   case hR=>exact fun r h=>Jaa zw
  refine Xb3 ?_
  refine qcx ?_
  rintro v L' R' ⟨b12,rfl,rfl,hR12⟩
  replace hR12:=hR12.symm;subst hR12
  refine Jhr (wd:=1) (len:=1) (cap:=1) (rows:=[Jap s.address]) (subs:=[]) rfl ze ze (fun r hr=>by rw [List.mem_singleton.1 hr];rfl) ze rfl (fun s hs=>by cases hs) ?_
  refine q_l rfl (Jhq 0 255 ⟨some ⟨b12,0,none⟩,1,[s.address]⟩ _ _ (Jaa (.head _)) zo) ?_
  refine Xcl ?_
  refine Jgh (k:=15) (show _=Value.bool _ from rfl) (fun hg6=>?_) (fun hg6=>?_)
  ·
   replace hg6:=qb hg6
   iterate 3 refine Joa rfl rfl ?_
   refine Jwj ?_
   refine qah ?_
   ·
    skip
    iterate 7 refine Joa rfl rfl ?_
    refine Jwj ?_
    refine Xap ?_
    refine Jb2 rfl ?_
    refine Xa8 ?_
    refine Jbw (L':=L) (R':=R) (Jec rfl (Jaf (show _=Value.int _ _ from rfl))) ?hp ?hL ?hR
    case hp=>exact ⟨by rw [Jcx,if_neg zba,if_neg zwa],rfl,rfl⟩
    case hL=>exact zi
    case hR=>exact fun r h=>Jaa zw
  replace hg6:=qb hg6
  refine Jdi (Jc5 tb rfl rfl rfl) rfl rfl ?_
  refine J6l ?_
  refine Jdi (Jm9 rfl rfl) rfl rfl ?_
  refine Jwj ?_
  refine qah ?_
  refine Jgh (k:=20) (show _=Value.bool _ from rfl) (fun hg11=>?_) (fun hg11=>?_)
  ·
   replace hg11:=qb hg11
   iterate 7 refine Joa rfl rfl ?_
   refine Jwj ?_
   refine Xap ?_
   refine Jb2 rfl ?_
   refine Xa8 ?_
   refine Jbw (L':=L) (R':=R) (Jec rfl (Jaf (show _=Value.int _ _ from rfl))) ?hp ?hL ?hR
   case hp=>exact ⟨by rw [Jcx,if_neg zba,if_neg zwa],rfl,rfl⟩
   case hL=>exact zi
   case hR=>exact fun r h=>Jaa zw
  replace hg11:=qb hg11
  refine Jdi (Jc5 tb rfl rfl rfl) rfl rfl ?_
  refine J6l ?_
  refine Jdi (Jc5 tb rfl rfl rfl) rfl rfl ?_
  refine J6l ?_
  refine Js1 (Ja0 (qs:=[(0,(Value.int _ _).cells.toList),(1,(Value.int _ _).cells.toList)]) (out:=[_,_]) tb rfl rfl rfl rfl rfl rfl rfl) rfl rfl ?_
  rintro v L' R' ⟨b25,rfl,rfl,hR25⟩
  replace hR25:=hR25.symm;subst hR25
  refine Jhr (wd:=1) (len:=2) (cap:=2) (rows:=[Jap s.offset,Jap s.scale]) (subs:=[]) rfl ze ze (fun r hr=>by simp only [List.mem_cons,List.not_mem_nil,or_false] at hr;rcases hr with rfl | rfl <;> rfl) ze rfl (fun s hs=>by cases hs) ?_
  refine Jn1 rfl (Jhq (-1000000) 1000000 ⟨some ⟨b25,0,none⟩,2,[s.offset,s.scale]⟩ _ _ (Jaa (.head _)) zo) rfl rfl ?_
  rintro v L' R' ⟨rfl,rfl,rfl⟩
  refine Jdi (Jnf rfl) rfl rfl ?_
  refine Jwj ?_
  refine Xap ?_
  refine q_c (fun hc1=>?_) (fun hc1=>?_)
  ·
   refine Xa8 ?_
   refine Jbw (L':=L) (R':=R) (Jec rfl (Jaf (show _=Value.int _ _ from rfl))) ?hp ?hL ?hR
   case hp=>exact ⟨by rw [Jcx,if_neg zba,if_neg zwa],rfl,rfl⟩
   case hL=>exact zi
   case hR=>exact fun r h=>Jaa zw
  refine qae ?_
  refine Xa1 ?_
  refine Jgl (Ja0 (qs:=[(0,(Value.int _ _).cells.toList),(1,(Value.int _ _).cells.toList)]) (out:=[_,_]) tb rfl rfl rfl rfl rfl rfl rfl) rfl ?_
  rintro v L' R' ⟨b34,rfl,rfl,hR34⟩
  replace hR34:=hR34.symm;subst hR34
  refine Jhr (wd:=1) (len:=2) (cap:=2) (rows:=[Jap s.error,Jap s.drift]) (subs:=[]) rfl ze ze (fun r hr=>by simp only [List.mem_cons,List.not_mem_nil,or_false] at hr;rcases hr with rfl | rfl <;> rfl) ze rfl (fun s hs=>by cases hs) ?_
  refine q_l rfl (Jhq 0 1000000 ⟨some ⟨b34,0,none⟩,2,[s.error,s.drift]⟩ _ _ (Jaa (.head _)) zo) ?_
  refine Xcl ?_
  refine Jgh (k:=37) (show _=Value.bool _ from rfl) (fun hg8=>?_) (fun hg8=>?_)
  ·
   replace hg8:=qb hg8
   iterate 5 refine Joa rfl rfl ?_
   refine Jwj ?_
   refine Xap ?_
   refine Jb2 rfl ?_
   refine Xa8 ?_
   refine Jbw (L':=L) (R':=R) (Jec rfl (Jaf (show _=Value.int _ _ from rfl))) ?hp ?hL ?hR
   case hp=>exact ⟨by rw [Jcx,if_neg zba,if_neg zQa],rfl,rfl⟩
   case hL=>exact zi
   case hR=>exact fun r h=>Jaa zw
  replace hg8:=qb hg8
  refine Jdi (Jc5 tb rfl rfl rfl) rfl rfl ?_
  refine J6l ?_
  refine Js1 (Ja0 (qs:=[(0,(Value.int _ _).cells.toList)]) (out:=[_]) tb rfl rfl rfl rfl rfl rfl rfl) rfl rfl ?_
  rintro v L' R' ⟨b40,rfl,rfl,hR40⟩
  replace hR40:=hR40.symm;subst hR40
  refine Jhr (wd:=1) (len:=1) (cap:=1) (rows:=[Jap s.life]) (subs:=[]) rfl ze ze (fun r hr=>by rw [List.mem_singleton.1 hr];rfl) ze rfl (fun s hs=>by cases hs) ?_
  refine Jn1 rfl (Jhq 1 1000000 ⟨some ⟨b40,0,none⟩,1,[s.life]⟩ _ _ (Jaa (.head _)) zo) rfl rfl ?_
  rintro v L' R' ⟨rfl,rfl,rfl⟩
  refine Jdi (Jnf rfl) rfl rfl ?_
  refine Jwj ?_
  refine Xap ?_
  refine q_c (fun hc2=>?_) (fun hc2=>?_)
  ·
   refine Xa8 ?_
   refine Jbw (L':=L) (R':=R) (Jec rfl (Jaf (show _=Value.int _ _ from rfl))) ?hp ?hL ?hR
   case hp=>exact ⟨by rw [Jcx,if_neg zba,if_neg zQa],rfl,rfl⟩
   case hL=>exact zi
   case hR=>exact fun r h=>Jaa zw
  refine Ja4 (Jag (Jab (Jam (Jah ?_))))
  refine Xah ?_
  refine Jbw (L':=L) (R':=R) (Jec rfl (Jaf (show _=Value.int _ _ from rfl))) ?hp ?hL ?hR
  case hp=>exact ⟨by simp at hc0 hg6 hc1 hg8 hc2;rw [Jcx,if_neg za,if_pos (by rw [Je0];omega)],rfl,rfl⟩
  case hL=>exact zi
  case hR=>exact fun r h=>Jaa zw
theorem J17 (k:Int) (L:List Blk) (R:List Sl):
    Tri Tryz.prog 98 [.int .i64 k].toArray L R (fun v L' R'=>v=.bool (decide (k=4∨k=5∨k=6))∧L=L'∧R=R'):=by
  refine Jad 13 Tryz.call98 Tryz.func98 rfl rfl rfl ?_
  refine Xax ?_
  refine Xdi ?_
  refine Xb7 ?_
  apply Ja7 (G:=[_,_]) (j:=2) (cj:=5) rfl rfl zb rfl (show _=Value.bool _ from rfl) rfl
  ·
   intro hg3
   replace hg3:=qb hg3
   refine qaa ?_
   refine qbn ?_
   exact qai
  intro junk3
  refine qah ?_
  apply Ja7 (G:=[_,_]) (j:=6) (cj:=9) rfl rfl zb rfl (show _=Value.bool _ from rfl) rfl
  ·
   intro hg7
   replace hg7:=qb hg7
   refine qaa ?_
   refine qbn ?_
   exact qai
  intro junk7
  refine Xa3 ?_
  refine q_b (L':=L) (R':=R) ?_
  exact ⟨by refine congrArg Value.bool ?_;rw [Bool.eq_iff_iff];simp;omega,rfl,rfl⟩
def J0i (s:XSens) (m:XMeas) (t:Int):Int:=(s.drift * (t - m.time) + 999).tdiv 1000
def Jsv (s:XSens) (m:XMeas) (t:Int):Prop:=Jcx s≠0∨m.sensor < 0∨m.span=nothingS∨t < m.time∨s.life < t - m.time
instance (s:XSens) (m:XMeas) (t:Int):Decidable (Jsv s m t):=by unfold Jsv;infer_instance
def J84 (s:XSens) (m:XMeas) (t:Int):XSpan:=⟨m.span.low - J0i s m t,m.span.high + J0i s m t⟩
def atS (s:XSens) (m:XMeas) (t:Int):XSpan:=
  if Jsv s m t then nothingS else if s.kind=4∨s.kind=5∨s.kind=6 then m.span
  else if s.kind=1∨s.kind=2 then ⟨max (J84 s m t).low 0,max (J84 s m t).high 0⟩ else J84 s m t
def Jhj (m:XMeas):Prop:=(0≤m.time∧m.time≤2147483648)∧(-1125899906842624≤m.span.low∧m.span.low≤1125899906842624)∧(-1125899906842624≤m.span.high∧m.span.high≤1125899906842624)
theorem Jxk {s:XSens} {m:XMeas} {t:Int} (h:¬ Jsv s m t):(0≤s.drift * (t - m.time)∧s.drift * (t - m.time)≤1000000000000)∧0≤J0i s m t∧J0i s m t≤1000000001:=by
  rw [Jsv] at h
  have he:Jcx s=0:=by omega
  rw [Jcx] at he
  split at he
  · omega
  split at he
  · rename_i hs
    rw [Je0] at hs
    have h1:0≤t - m.time∧t - m.time≤1000000:=by omega
    have h2:0≤s.drift∧s.drift≤1000000:=by omega
    have h3:0≤s.drift * (t - m.time):=Int.mul_nonneg h2.1 h1.1
    have h4:s.drift * (t - m.time)≤1000000 * 1000000:=Int.mul_le_mul h2.2 h1.2 h1.1 ze
    refine ⟨⟨h3,by omega⟩,?_⟩
    rw [J0i,Int.tdiv_eq_ediv_of_nonneg za]
    omega
  · omega
theorem Jtb {a b:XSpan}:a=b↔a.low=b.low∧a.high=b.high:=by
  cases a;cases b;simp
theorem J60 (s:XSens) (m:XMeas) (t:Int) (L:List Blk) (R:List Sl) (hm:Jhj m) (ht:0≤t∧t≤2147483648):
    Tri Tryz.prog 33 [s.val,m.val,.int .i64 t].toArray L R (fun v L' R'=>v=(atS s m t).val∧L=L'∧R=R'):=by
  rw [Jhj] at hm
  refine Jad 83 Tryz.call33 Tryz.func33 rfl rfl rfl ?_
  refine Xaf ?_
  intro b3
  refine qax ?_
  intro b4
  refine qaq ?_
  intro b6
  refine qam ?_
  refine q_l rfl (Jb5 _ _) ?_
  refine qaq ?_
  intro b7
  refine Xba ?_
  refine Jax (Jal (row:=[_,_,_,_,_,_,_,_]) tb rfl rfl rfl zf zb zb) rfl ?_
  refine q_l rfl (Jh5 s _ _) ?_
  refine Xbu ?_
  apply Ja7 (G:=[_,_,_]) (j:=3) (cj:=14) rfl rfl zb rfl (show _=Value.bool _ from rfl) rfl
  ·
   intro hg4
   replace hg4:=qb hg4
   refine Xcg ?_
   exact qai
  intro junk4
  refine qah ?_
  apply Ja7 (G:=[_,_,_,_]) (j:=8) (cj:=19) rfl rfl zb rfl (show _=Value.bool _ from rfl) rfl
  ·
   intro hg9
   replace hg9:=qb hg9
   refine Xds ?_
   refine qbe ?_
   refine Jax (Jpr J63 rfl rfl) rfl ?_
   exact qai
  intro junk9
  refine qah ?_
  apply Ja7 (G:=[_,_,_,_]) (j:=14) (cj:=25) rfl rfl zb rfl (show _=Value.bool _ from rfl) rfl
  ·
   intro hg15
   replace hg15:=qb hg15
   refine qaa ?_
   refine Xcg ?_
   exact qai
  intro junk15
  refine qah ?_
  apply Ja7 (G:=[_,_,_,_,_,_,_]) (j:=20) (cj:=31) rfl rfl zb rfl (show _=Value.bool _ from rfl) rfl
  ·
   intro hg21
   replace hg21:=qb hg21
   refine qaa ?_
   refine Xaa ?_
   refine qa9 ?_
   refine Xbg ?_
   exact qai
  intro junk21
  refine qaf ?_
  refine q_c (fun hc0=>?_) (fun hc0=>?_)
  ·
   refine qae ?_
   refine qbe ?_
   refine qak ?_
   refine qbh ?_
   refine q_r (L':=L) (R':=R) (Jec rfl (Jao (row:=[_,_]) tb rfl rfl rfl zf zb zb)) ?_
   have hgo:Jsv s m t:=by simp [nothingS] at hc0;rw [Jsv,Jtb];simp only [nothingS];omega
   exact ⟨by rw [atS,if_pos hgo];try rfl,rfl,rfl⟩
  have hgo:¬ Jsv s m t:=by simp [nothingS] at hc0;rw [Jsv,Jtb];simp only [nothingS];omega
  obtain ⟨hb1,hb2⟩:=Jxk hgo
  rw [J0i] at hb2
  refine Xce ?_
  refine q_l rfl (J17 _ _ _) ?_
  refine qaf ?_
  refine q_c (fun hc1=>?_) (fun hc1=>?_)
  ·
   refine Xcz ?_
   refine qbe ?_
   refine qak ?_
   refine qbh ?_
   refine q_r (L':=L) (R':=R) (Jec rfl (Jao (row:=[_,_]) tb rfl rfl rfl zf zb zb)) ?_
   exact ⟨by rw [atS,if_neg hgo,if_pos zI],rfl,rfl⟩
  refine qbv ?_
  refine Xal ?_
  refine Xaa ?_
  refine qa9 ?_
  refine qcm ?_
  refine qar ?_
  refine qdd ?_
  refine Xag ?_
  refine qab ?_
  refine Xal ?_
  refine qa9 ?_
  refine qab ?_
  refine Xal ?_
  refine qar ?_
  refine qcd ?_
  refine qaq ?_
  intro b9
  refine Xba ?_
  refine Xaa ?_
  refine Xb7 ?_
  apply Ja7 (G:=[_,_,_]) (j:=3) (cj:=69) rfl rfl zb rfl (show _=Value.bool _ from rfl) rfl
  ·
   intro hg4
   replace hg4:=qb hg4
   refine Xaa ?_
   refine qbn ?_
   exact qai
  intro junk4
  refine qaf ?_
  refine q_c (fun hc2=>?_) (fun hc2=>?_)
  ·
   refine qay ?_
   refine Xaa ?_
   refine Jax (Jih rfl rfl) rfl ?_
   refine Xaa ?_
   refine Jax (Jih rfl rfl) rfl ?_
   refine Xbh ?_
   refine Xbh ?_
   refine qam ?_
   refine Xda ?_
   refine q_r (L':=L) (R':=R) (Jec rfl (Jao (row:=[_,_]) tb rfl rfl rfl zf zb zb)) ?_
   exact ⟨by rw [atS,if_neg hgo,if_neg zI,if_pos za];try rfl,rfl,rfl⟩
  refine qbv ?_
  refine Xda ?_
  refine q_r (L':=L) (R':=R) (Jec rfl (Jao (row:=[_,_]) tb rfl rfl rfl zf zb zb)) ?_
  exact ⟨by rw [atS,if_neg hgo,if_neg zI,if_neg za];try rfl,rfl,rfl⟩
def Jm7 (l:List XSpan) (z:XSpan) (k:Nat):XSpan:=(l.take k).foldl (fun o x=>⟨max o.low x.low,min o.high x.high⟩) z
theorem Jw7 {l:List XSpan} {z:XSpan} {k:Nat} {x:XSpan} (h:l[k]?=some x):Jm7 l z (k + 1)=⟨max (Jm7 l z k).low x.low,min (Jm7 l z k).high x.high⟩:=by
  rw [Jm7,List.take_add_one,h,List.foldl_append];rfl
def Jpp (x y:XSpan):XSpan:=⟨max x.low y.low,min x.high y.high⟩
def Jx1 (x y:XSpan):XSpan:=if (Jpp x y).high < (Jpp x y).low then nothingS else Jpp x y
theorem J6v {x y:XSpan}:Jm7 [x,y] x 2=Jpp x y:=by simp [Jm7,Jpp]
theorem J5t (x y:XSpan) (p:Arr XSpan) (L:List Blk) (R:List Sl) (hp:InR (J06 p) R) (he:p.l=[x,y]):
    Tri Tryz.prog 195 [p.val].toArray L R (fun v L' R'=>v=.tuple #[(Jx1 x y).val,.bool (decide ((Jpp x y).low≤(Jpp x y).high))]∧L=L'∧R=R'):=by
  have hpl:p.l.length=2:=by rw [he];rfl
  have hp0:p.l[0]?=some x:=by rw [he];rfl
  refine Jad 40 Tryz.call195 Tryz.func195 rfl rfl rfl ?_
  refine qae ?_
  refine qaq ?_
  intro b2
  refine qaz ?_
  refine Xdr ?_
  refine Xbp ?_
  refine q_c (fun hc0=>?_) (fun hc0=>?_)
  ·
   refine qae ?_
   refine q_l rfl (Jb5 _ _) ?_
   refine qak ?_
   refine qaz ?_
   refine qbh ?_
   refine q_r (L':=L) (R':=R) (Jcf rfl (Jao (row:=[_,_]) tb rfl rfl rfl zf zb zb) (Jaf (show _=Value.bool _ from rfl))) ?_
   exact absurd hc0 za
  refine qbv ?_
  refine qbm ?_
  refine qdt ?_
  refine Xdt ?_
  intro b4
  refine Xba ?_
  refine Xbv ?_
  refine Jan [(2,Value.pointer _),(4,Value.pointer _),(14,Value.slice _ _ _),(15,Value.int _ _),(16,Value.int _ _)] zh fun tq0=>?_
  refine q_p [6,16,17,18,19,20,21,22,23,24,25,26,27,28,29,30,31,32] ((⟨fun g=>[(16,.int .i64 ((g.1:Nat):Int))],fun g=>⟨b4,(Jm7 p.l x g.1).cells,90⟩ :: ⟨b2,[.int .i64 0,.int .i64 0],90⟩ :: L,fun _=>R,fun g=>p.l.length - g.1⟩:Head {g:Nat // g≤p.l.length})) (⟨0,by omega⟩) ?_
  rintro ⟨k,hk⟩ junk
  try dsimp only
  refine Xak ?_
  refine q_c (fun hc1=>?_) (fun hc1=>?_)
  ·
   have h1:=Jau (l:=p.l) (k:=k) default za
   have hms:=Jw7 (z:=x) h1
   refine qbb ?_
   refine Kbp ?_
   refine Xdt ?_
   intro b6
   refine qak ?_
   refine qaf ?_
   refine Jbk tb [27,28,29] [0,1,2,3,4,5,6,7,8,9,10] [11,12,13] (_) _ Jby zc zi zha ?_
   refine Xar ?_
   refine Xar ?_
   refine Jbv (Jih rfl rfl) rfl rfl rfl rfl ?_
   refine Xar ?_
   refine Xc1 ?_
   refine Jd2 (Js0 rfl rfl) rfl rfl rfl rfl ?_
   refine qan ?_
   refine qba ?_
   refine qb6 ?_
   refine qal ?_
   refine qb6 ?_
   refine Xc3 ?_
   exact Jbl ⟨k + 1,by omega⟩ zm zh (by dsimp only;rw [hms];exact zs3 (zs2 (zs0 _))) (Jac _) zy
  obtain rfl:k=p.l.length:=by omega
  have hmm:Jm7 p.l x p.l.length=Jpp x y:=by rw [hpl,he];exact J6v
  rw [hmm]
  refine qcf ?_
  refine Xa1 ?_
  refine qa5 ?_
  refine qaf ?_
  refine q_c (fun hc2=>?_) (fun hc2=>?_)
  ·
   refine qae ?_
   refine q_l rfl (Jb5 _ _) ?_
   refine qak ?_
   refine qaz ?_
   refine qbh ?_
   refine q_r (L':=L) (R':=R) (Jcf rfl (Jao (row:=[_,_]) tb rfl rfl rfl zf zb zb) (Jaf (show _=Value.bool _ from rfl))) ?_
   exact ⟨by rw [Jx1,if_pos za,decide_eq_false za],rfl,rfl⟩
  refine qbv ?_
  refine qbe ?_
  refine qak ?_
  refine Xa3 ?_
  refine q_r (L':=L) (R':=R) (Jcf rfl (Jao (row:=[_,_]) tb rfl rfl rfl zf zb zb) (Jaf (show _=Value.bool _ from rfl))) ?_
  exact ⟨by rw [Jx1,if_neg za,decide_eq_true za],rfl,rfl⟩
end Go.Proofs.YtchfclmokpbldaaGreat
end
section
/-
  Statements about chapter 10: what they share. By an AI agent; no person has read it.
-/
namespace Go.Proofs.YtchfclmokpbldaaGreat
open Go.Aw Go
set_option maxRecDepth 20000
attribute [local irreducible] CJ LJ DJ Tri YV Gives Jcj Ja1 Jbg Jci RV Ja2 OwL.L
end Go.Proofs.YtchfclmokpbldaaGreat
end
section
/-
  Statements about chapter 11: what they share. By an AI agent; no person has read it.
-/
namespace Go.Proofs.YtchfclmokpbldaaGreat
open Go.Aw Go
set_option maxRecDepth 20000
attribute [local irreducible] CJ LJ DJ Tri YV Gives Jcj Ja1 Jbg Jci RV Ja2 OwL.L
end Go.Proofs.YtchfclmokpbldaaGreat
end
section
/-
  Whether a list has a number: slices.Index, Contains, the reference's Has. By an AI agent; no person has read it.
-/
namespace Go.Proofs.YtchfclmokpbldaaGreat
open Go.Aw Go
theorem Tri.lendU {P : Program} {f : FuncId} {args : Array Value} {A : List Blk} {R S : List Sl} {u : Value}
    (hS:∀w,∀G:Nat→Prop,Holds (A ++ []) G R w→∀s∈S,Rep w (fun b=>G b∨∃e∈A,e.b=b) s)
    (h:Tri P f args [] (S ++ R) (fun v L' R'=>v=u∧[]=L'∧S ++ R=R')):Tri P f args A R (fun v L' R'=>v=u∧A=L'∧R=R'):=by
  have h2:=Tri.lend (S:=S) (Post:=fun v L'=>v=u∧[]=L') (Spl.rest (L:=A)) hS (h.mono fun v L' R' ⟨a1,a2,a3⟩=>⟨⟨a1,a2⟩,a3⟩)
  exact h2.mono fun v L'' R' ⟨L',e,⟨a1,a2⟩,a3⟩=>⟨a1,by rw [← a2,List.append_nil] at e;exact e,a3⟩
set_option maxRecDepth 20000
attribute [local irreducible] CJ LJ DJ Tri YV Gives Jcj Ja1 Jbg Jci RV Ja2 OwL.L
theorem J2y (x:Arr Int) (a:Int) (L:List Blk) (R:List Sl) (hx:InR (isl x) R):
    Tri Tryz.prog 235 [x.val,.int .i64 a].toArray L R (fun v L' R'=>∃r:Int,v=.int .i64 r∧(0≤r↔a∈x.l)∧L=L'∧R=R'):=by
  refine Jgv Tryz.call235 hx fun hcap=>?_
  refine Jad 19 Tryz.call235 Tryz.func235 rfl rfl rfl ?_
  refine Xac ?_
  refine qaw ?_
  refine Xbv ?_
  refine Jan [(0,Value.slice _ _ _),(1,Value.int _ _),(7,Value.int _ _),(8,Value.int _ _)] zh fun tq0=>?_
  refine q_s [4,5,8,9,10,11,12,13,14,15,16,17,18] (fun g:{k:Nat // k≤x.l.length∧∀j:Nat,j < k→x.l.getD j 0≠a}=>[(8,.int .i64 ((g.1:Nat):Int))]) (fun g=>x.l.length - g.1) (⟨0,by omega,fun j hj=>by omega⟩) ?_
  rintro ⟨k,hk,hal⟩ junk
  try dsimp only
  refine Xak ?_
  refine q_c (fun hc0=>?_) (fun hc0=>?_)
  ·
   have hg:=Jau (l:=x.l) (k:=k) 0 za
   refine Xa6 ?_
   refine Xat ?_
   refine Xau ?_
   refine Jax zC rfl ?_
   refine qa7 ?_
   refine Xbp ?_
   refine q_c (fun hc1=>?_) (fun hc1=>?_)
   ·
    refine Xdj ?_
    refine qbt ?_
    refine q_i (L':=L) (R':=R) ?_
    exact ⟨k,rfl,⟨fun _=>by rw [hc1];exact List.mem_of_getElem? hg,fun _=>by omega⟩,rfl,rfl⟩
   refine Xay ?_
   exact Jbl (⟨k + 1,by omega,fun j hj=>by
   rcases Nat.lt_or_ge j k with h | h
   · exact hal j h
   · obtain rfl : j = k := by omega
     exact fun h=>hc1 h.symm⟩) zm zh zi (Jac _) zy
  refine Xb9 ?_
  refine q_i (L':=L) (R':=R) ?_
  refine ⟨-1,rfl,⟨fun h=>by omega,fun h=>?_⟩,rfl,rfl⟩
  obtain ⟨j,hj,rfl⟩:=List.getElem_of_mem h
  have:=hal j za
  rw [List.getD_eq_getElem?_getD,List.getElem?_eq_getElem hj] at this
  exact absurd rfl this
theorem Jum (x:Arr Int) (a:Int) (L:List Blk) (R:List Sl) (hx:InR (isl x) R):
    Tri Tryz.prog 169 [x.val,.int .i64 a].toArray L R (fun v L' R'=>v=.bool (decide (a∈x.l))∧L=L'∧R=R'):=by
  refine Jad 9 Tryz.call169 Tryz.func169 rfl rfl rfl ?_
  refine Xax ?_
  refine qam ?_
  refine Xau ?_
  refine Jaw rfl (J2y x a _ _ hx) rfl ?_
  rintro v L' R' ⟨r,rfl,hr,rfl,rfl⟩
  refine qbz ?_
  refine Xa3 ?_
  refine q_b (L':=L) (R':=R) ?_
  exact ⟨congrArg Value.bool (decide_eq_decide.2 hr),rfl,rfl⟩
end Go.Proofs.YtchfclmokpbldaaGreat
end
section
/-
  Statements about chapter 11: errors; bounds as arguments. By an AI agent; no person has read it.
-/
namespace Go.Proofs.YtchfclmokpbldaaGreat
open Go.Aw Go
set_option maxRecDepth 20000
attribute [local irreducible] CJ LJ DJ Tri YV Gives Jcj Ja1 Jbg Jci RV Ja2 OwL.L
theorem J3z (m:XMine):∃A,AiryIs m A:=by
  refine ⟨(List.range (J4m m).length).map fun i=>@decide (∃j:Nat,j < (J4m m).length∧(J4m m).getD j false=true∧Conn m j i) (Classical.propDecidable _),by simp,fun i hi=>?_⟩
  rw [List.getD_eq_getElem?_getD,List.getElem?_map,List.getElem?_range hi]
  exact ⟨fun h=>@of_decide_eq_true _ (Classical.propDecidable _) h,fun h=>@decide_eq_true _ (Classical.propDecidable _) h⟩
end Go.Proofs.YtchfclmokpbldaaGreat
end
