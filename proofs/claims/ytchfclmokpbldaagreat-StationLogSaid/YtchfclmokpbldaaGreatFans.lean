/-
  Fans: FanN, FanS, FanW, Pipe, Search, AirS, Inner, Ref09, in one text. By an AI agent; no person has read it.
-/
import Derived.Test.YtchfclmokpbldaaGreatChecks
set_option linter.unusedVariables false
set_option linter.unusedSimpArgs false
section
namespace Go.Proofs.YtchfclmokpbldaaGreat
open Go.Aw Go
set_option maxRecDepth 20000
attribute [local irreducible] CJ LJ DJ Tri YV Gives Ui J0 Ke Uh RV J2
theorem Yxd (x y:Int) (L:List Blk) (R:List Sl) (hx:0≤x) (hx2:x≤2199023255552) (hy:0≤y) (hy2:y≤4194304):
    Tri Tryz.prog 303 [.int .u64 x,.int .u64 y].toArray L R (fun v L' R'=>v=.tuple #[.int .u64 0,.int .u64 (x * y)]∧L=L'∧R=R'):=by
  have e1:y % 4294967296=y:=by omega
  have e2:y / 4294967296=0:=by omega
  have b0:0≤x % 4294967296 * y:=Int.mul_nonneg za hy
  have b1:x % 4294967296 * y≤4294967296 * 4194304:=Int.mul_le_mul za hy2 hy za
  have c0:0≤x / 4294967296 * y:=Int.mul_nonneg za hy
  have c1:x / 4294967296 * y≤512 * 4194304:=Int.mul_le_mul za hy2 hy za
  have d0:0≤x * y:=Int.mul_nonneg hx hy
  have d1:x * y≤2199023255552 * 4194304:=Int.mul_le_mul hx2 hy2 hy za
  refine Jg 51 Tryz.call303 Tryz.func303 rfl rfl rfl ?_
  refine Xab ?_
  refine Xat ?_
  refine Jx (Vnb rfl rfl za za) rfl ?_
  refine Xat ?_
  refine Jx (Jcb rfl rfl) rfl ?_
  refine Xat ?_
  refine Jx (Vnb rfl rfl za za) rfl ?_
  refine Xat ?_
  refine Jx (Jcb rfl rfl) rfl ?_
  refine Xb3 ?_
  simp only [e1,e2]
  refine Xa3 ?_
  refine Xc3 ?_
  refine Xat ?_
  refine Xc3 ?_
  refine qaa ?_
  refine Jx (Jcb rfl rfl) rfl ?_
  refine qar ?_
  refine Xat ?_
  refine Jx (Vnb rfl rfl za za) rfl ?_
  refine Xat ?_
  refine Jx (Jcb rfl rfl) rfl ?_
  refine Xaf ?_
  iterate 3 refine qaa ?_
  refine qcm ?_
  refine qar ?_
  refine Xat ?_
  refine Xc3 ?_
  refine qaa ?_
  refine Xad ?_
  refine Jx (Jcb rfl rfl) rfl ?_
  refine qar ?_
  refine Xat ?_
  refine Xc3 ?_
  refine Xah ?_
  have key:(x / 4294967296 * y + x % 4294967296 * y / 4294967296) / 4294967296 + (x / 4294967296 * y + x % 4294967296 * y / 4294967296) % 4294967296 / 4294967296=0:=by omega
  refine q_r (L':=L) (R':=R) zRc ?_
  exact ⟨by simp [key],rfl,rfl⟩
theorem Jie (lo y:Int) (L:List Blk) (R:List Sl) (hx:0≤lo) (hx2:lo≤18446744073709551615) (hy:0 < y) (hy2:y≤18446744073709551615):
    Tri Tryz.prog 304 [.int .u64 0,.int .u64 lo,.int .u64 y].toArray L R (fun v L' R'=>v=.tuple #[.int .u64 (lo / y),.int .u64 (lo % y)]∧L=L'∧R=R'):=by
  refine Jg 135 Tryz.call304 Tryz.func304 rfl rfl rfl ?_
  refine Xab ?_
  refine Xdb ?_
  refine Xcd ?_
  refine Zua zdb zD ?_
  refine qbo ?_
  refine Xbh ?_
  refine qbx ?_
  refine qaf ?_
  refine Zua zdb zD ?_
  refine qbo ?_
  refine qaa ?_
  refine Xcd ?_
  refine Yrd zdb zo ?_
  refine Jn ?_
  refine Kn tb [0,1,2,3,4,5,6,7] _ K1 ze (List.Sublist.refl _) ?_
  refine qao ?_
  refine qao ?_
  refine Kv zSa rfl rfl rfl ?_
  refine qao ?_
  refine qao ?_
  refine Kv (by first | exact Z8d rfl rfl za za | exact Z2d rfl rfl za) rfl rfl rfl ?_
  refine Xdm ?_
  refine J1 (Jb (Uo (J7 ?_)))
  refine q_r (L':=L) (R':=R) zRc ?_
  exact zpd
def V5 (a b:XPoint) (q:Int):XSpan:=
  ⟨a.pres - (a.pres - b.pres) * (q - a.flow) / (b.flow - a.flow) - (if 0 < (a.pres - b.pres) * (q - a.flow) % (b.flow - a.flow) then 1 else 0),a.pres - (a.pres - b.pres) * (q - a.flow) / (b.flow - a.flow)⟩
theorem Zcc (a b:XPoint) (q:Int) (L:List Blk) (R:List Sl) (hp:0≤b.pres∧b.pres≤a.pres∧a.pres≤2199023255552) (hf:-1048576≤a.flow∧a.flow≤q∧q≤b.flow∧a.flow < b.flow∧b.flow≤1048576):
    Tri Tryz.prog 294 [a.val,b.val,.int .i64 q].toArray L R (fun v L' R'=>v=(V5 a b q).val∧L=L'∧R=R'):=by
  have d0:0≤(a.pres - b.pres) * (q - a.flow):=Int.mul_nonneg za za
  have d1:(a.pres - b.pres) * (q - a.flow)≤2199023255552 * 4194304:=Int.mul_le_mul za za za za
  have d2:0≤(a.pres - b.pres) * (q - a.flow) / (b.flow - a.flow):=Int.ediv_nonneg d0 za
  have d3:(a.pres - b.pres) * (q - a.flow) / (b.flow - a.flow)≤a.pres - b.pres:=by
    refine Int.ediv_le_of_le_mul za ?_
    exact Int.mul_le_mul_of_nonneg_left za za
  refine Jg 57 Tryz.call294 Tryz.func294 rfl rfl rfl ?_
  refine Xag ?_
  intro b3
  refine qax ?_
  intro b4
  refine qaq ?_
  intro b6
  refine qam ?_
  refine Xbe ?_
  refine qa9 ?_
  refine qdg ?_
  refine qaa ?_
  refine Xaa ?_
  refine qa9 ?_
  refine qdg ?_
  refine q_l rfl (Yxd _ _ _ _ za za za za) ?_
  refine Jx zDb rfl ?_
  refine Xa4 ?_
  refine qad ?_
  refine Xat ?_
  refine qaa ?_
  refine Xbe ?_
  refine qa9 ?_
  refine qdg ?_
  refine q_l rfl (Jie _ _ _ _ za za za za) ?_
  refine Jx zDb rfl ?_
  refine Xa4 ?_
  refine qad ?_
  refine Xaf ?_
  refine Xam ?_
  refine qdg ?_
  refine qa9 ?_
  refine Xam ?_
  refine qdg ?_
  refine qa9 ?_
  refine qcd ?_
  refine qaq ?_
  intro b11
  refine Xa9 ?_
  refine Xbz ?_
  refine qaf ?_
  refine q_c (fun hc0=>?_) (fun hc0=>?_)
  ·
   refine qay ?_
   refine Xaa ?_
   refine Xdn ?_
   refine qam ?_
   refine Xdc ?_
   refine q_r (L':=L) (R':=R) zBc ?_
   exact ⟨by simp [V5,XSpan.val,hc0],rfl,rfl⟩
  refine qbv ?_
  refine Xdc ?_
  refine q_r (L':=L) (R':=R) zBc ?_
  exact ⟨by simp [V5,XSpan.val,hc0],rfl,rfl⟩
end Go.Proofs.YtchfclmokpbldaaGreat
end
section
namespace Go.Proofs.YtchfclmokpbldaaGreat
open Go.Aw Go
structure CurveOk (l:List XPoint):Prop where
  pt:∀(i:Nat) (p:XPoint),l[i]?=some p→-1048576≤p.flow∧p.flow≤1048576∧0≤p.pres∧p.pres≤2199023255552
  st:∀(i:Nat) (p r:XPoint),l[i]?=some p→l[i + 1]?=some r→p.flow < r.flow∧r.pres≤p.pres
structure FanOk (f:XFan):Prop where
  road:0≤f.road
  len1:1≤f.curve.l.length
  len8:f.curve.l.length≤8
  ok:CurveOk f.curve.l
theorem Kze {f:XFan} (h:Y9a f=0):FanOk f:=by
  unfold Y9a at h
  split at h
  · cases h
  rename_i h1
  split at h
  · cases h
  rename_i h2
  have hn:(List.range f.curve.l.length).findSome? (V9 f.curve.l)=none:=by
    cases hf:(List.range f.curve.l.length).findSome? (V9 f.curve.l) with
    | none=>rfl
    | some e=>
      rw [hf] at h
      simp only [Option.getD_some] at h
      subst h
      obtain ⟨i,_,hi⟩:=List.exists_of_findSome?_eq_some hf
      unfold V9 at hi
      split at hi
      · cases hi
      · split at hi
        · cases hi
        · split at hi
          · cases hi
          · split at hi
            · cases hi
            · split at hi <;> cases hi
  have hall:∀(i:Nat) (p:XPoint),f.curve.l[i]?=some p→V9 f.curve.l i=none:=fun i p hp=>by
    obtain ⟨hi,_⟩:=List.getElem?_eq_some_iff.1 hp
    exact List.findSome?_eq_none_iff.1 hn i (List.mem_range.2 hi)
  have hpt:∀(i:Nat) (p:XPoint),f.curve.l[i]?=some p→-1048576≤p.flow∧p.flow≤1048576∧0≤p.pres∧p.pres≤2199023255552:=fun i p hp=>by
    have:=hall i p hp
    by_cases hr:p.flow < -1048576∨1048576 < p.flow∨p.pres < 0∨2199023255552 < p.pres
    · rw [Zab hp hr] at this;cases this
    · omega
  refine ⟨by omega,by omega,by omega,hpt,fun i p r hp hr=>?_⟩
  have:=hall (i + 1) r hr
  have b:=hpt _ _ hr
  by_cases hb:r.flow≤p.flow∨p.pres < r.pres
  · rw [Vpb hr za za (by simpa using hp) hb] at this;cases this
  · omega
def Z4 (p : XPoint) : List XPoint → Int → XSpan
  | [],_=>⟨p.pres,p.pres⟩
  | r :: rest,q=>if q≤r.flow then V5 p r q else Z4 r rest q
def Kba (l:List XPoint) (q:Int):XSpan:=
  match l with
  | []=>⟨0,0⟩
  | p :: rest=>if q≤p.flow then ⟨p.pres,p.pres⟩ else Z4 p rest q
def Uxf (s:XSpan):XSpan:=⟨-s.high,-s.low⟩
def Jka (l:List XPoint) (back:Bool) (q:Int):XSpan:=if back then Uxf (Kba l (-q)) else Kba l q
def Yy (f:XFan) (s q:Int):XSpan:=
  if s=1 then Jka f.curve.l f.back q else if s=2 then Jka f.curve.l (!f.back) q
  else if s= -1 then ⟨min (min 0 (Jka f.curve.l false q).low) (Jka f.curve.l true q).low,max (max 0 (Jka f.curve.l false q).high) (Jka f.curve.l true q).high⟩
  else ⟨0,0⟩
theorem Y1a {a b:XPoint} {q:Int} (hp:0≤b.pres∧b.pres≤a.pres∧a.pres≤2199023255552) (hf:-1048576≤a.flow∧a.flow≤q∧q≤b.flow∧a.flow < b.flow∧b.flow≤1048576):
    b.pres≤(V5 a b q).low∧(V5 a b q).low≤(V5 a b q).high∧(V5 a b q).high≤a.pres:=by
  unfold V5
  have d0:0≤(a.pres - b.pres) * (q - a.flow):=Int.mul_nonneg za za
  have d1:(a.pres - b.pres) * (q - a.flow)≤(a.pres - b.pres) * (b.flow - a.flow):=Int.mul_le_mul_of_nonneg_left za za
  generalize (a.pres - b.pres) * (q - a.flow)=N at *
  have hw:0 < b.flow - a.flow:=by omega
  generalize b.flow - a.flow=w at *
  have d2:0≤N / w:=Int.ediv_nonneg d0 za
  have d3:N / w≤a.pres - b.pres:=Int.ediv_le_of_le_mul hw d1
  have d4:=Int.mul_ediv_add_emod N w
  have d5:0≤N % w:=Int.emod_nonneg _ za
  dsimp only
  split
  · rename_i hr
    have:N / w < a.pres - b.pres:=by
      rcases Int.lt_or_le (N / w) (a.pres - b.pres) with h | h
      · exact h
      · have e : N / w = a.pres - b.pres := by omega
        rw [e] at d4
        rw [Int.mul_comm] at d4
        omega
    omega
  · omega
theorem Jca:∀(l:List XPoint) (p:XPoint) (q:Int),CurveOk (p :: l)→p.flow≤q→
    0≤(Z4 p l q).low∧(Z4 p l q).low≤(Z4 p l q).high∧(Z4 p l q).high≤p.pres
  | [],p,q,h,_=>by have:=h.pt 0 p rfl;simp only [Z4];omega
  | r :: rest,p,q,h,hq=>by
    have h0:=h.pt 0 p rfl
    have h1:=h.pt 1 r rfl
    have h2:=h.st 0 p r rfl rfl
    unfold Z4
    split
    · have := Y1a (a := p) (b := r) (q := q) za za
      omega
    · have := Jca rest r q ⟨fun i => h.pt (i + 1), fun i => h.st (i + 1)⟩ za
      omega
theorem Uta {l:List XPoint} (h:CurveOk l) (q:Int):0≤(Kba l q).low∧(Kba l q).low≤(Kba l q).high∧(Kba l q).high≤2199023255552:=by
  cases l with
  | nil=>simp [Kba]
  | cons p rest=>
    have h0:=h.pt 0 p rfl
    unfold Kba
    dsimp only
    split
    · first | omega | (dsimp only;omega)
    · have := Jca rest p q h za
      omega
theorem J2a {l:List XPoint} (h:CurveOk l) (back:Bool) (q:Int):-2199023255552≤(Jka l back q).low∧(Jka l back q).low≤(Jka l back q).high∧(Jka l back q).high≤2199023255552:=by
  have h1:=Uta h q
  have h2:=Uta h (-q)
  unfold Jka Uxf
  split <;> first | omega | (dsimp only;omega)
theorem Usa {f:XFan} (h:FanOk f) (s q:Int):-2199023255552≤(Yy f s q).low∧(Yy f s q).low≤(Yy f s q).high∧(Yy f s q).high≤2199023255552:=by
  have h1:=J2a h.ok f.back q
  have h2:=J2a h.ok (!f.back) q
  have h3:=J2a h.ok false q
  have h4:=J2a h.ok true q
  unfold Yy
  split
  · omega
  · split
    · omega
    · split <;> first | omega | (dsimp only;omega)
theorem Jme {N w:Int} (hw:0 < w):(-N) / w= -(N / w) - (if 0 < N % w then 1 else 0):=by
  have h1:=Int.mul_ediv_add_emod N w
  have h2:=Int.emod_nonneg N (show w≠0 by omega)
  have h3:=Int.emod_lt_of_pos N hw
  split
  · have := (Int.ediv_emod_unique (a := -N) (b := w) (q := -(N / w) - 1) (r := w - N % w) hw).2 ⟨by rw [Int.mul_sub, Int.mul_neg]; omega, by omega, by omega⟩
    exact this.1
  · have := (Int.ediv_emod_unique (a := -N) (b := w) (q := -(N / w)) (r := 0) hw).2 ⟨by rw [Int.mul_neg]; omega, by omega, by omega⟩
    rw [this.1];omega
end Go.Proofs.YtchfclmokpbldaaGreat
end
section
namespace Go.Proofs.YtchfclmokpbldaaGreat
open Go.Aw Go
set_option maxRecDepth 20000
attribute [local irreducible] CJ LJ DJ Tri YV Gives Ui J0 Ke Uh RV J2
theorem U8c (f:XFan) (q:Int) (L:List Blk) (R:List Sl) (hm:InR f.sl R) (hf:FanOk f) (hq:-1048577≤q∧q≤1048577):
    Tri Tryz.prog 282 [f.val,.int .i64 q].toArray L R (fun v L' R'=>v=(Kba f.curve.l q).val∧L=L'∧R=R'):=by
  have hl1:=hf.len1
  have hl8:=hf.len8
  obtain ⟨p0,hp0⟩:=Kr (l:=f.curve.l) (k:=0) za
  obtain ⟨pn,hpn⟩:=Kr (l:=f.curve.l) (k:=f.curve.l.length - 1) za
  refine Jg 62 Tryz.call282 Tryz.func282 rfl rfl rfl ?_
  refine Xag ?_
  intro b2
  refine qaq ?_
  intro b4
  refine qa4 ?_
  refine Kn tb [0,1,2,3,4,5,6,7,8,9,10,11,12,13,14,15] _ K1 ze (List.Sublist.refl _) ?_
  refine Xan ?_
  refine qdu ?_
  refine qdo ?_
  refine Xan ?_
  refine Xan ?_
  refine Kv ztb rfl rfl rfl ?_
  refine qb7 ?_
  refine Kv (by first | exact Jf tb rfl rfl rfl rfl zt (i:=f.curve.l.length - 1) zk za | exact Jk tb rfl rfl rfl rfl (i:=f.curve.l.length - 1) zk za) rfl rfl rfl ?_
  refine qdo ?_
  refine qbr ?_
  intro b5
  refine qbr ?_
  intro b6
  refine qbg ?_
  refine qbg ?_
  refine qc6 ?_
  refine qaa ?_
  refine Xaa ?_
  refine qbx ?_
  refine qaf ?_
  refine q_c (fun hc0=>?_) (fun hc0=>?_)
  ·
   refine qae ?_
   refine Xbe ?_
   refine qcd ?_
   refine qak ?_
   refine qbh ?_
   obtain ⟨rest,hrest⟩:∃rest,f.curve.l=p0 :: rest:=⟨_,by have:=V7a hp0;simpa using this⟩
   refine q_r (L':=L) (R':=R) zBc ?_
   exact ⟨by rw [hrest];simp only [Kba,if_pos hc0],rfl,rfl⟩
  refine qbo ?_
  refine Xb4 ?_
  refine Jo [(1,Value.int _ _),(2,Value.pointer _),(4,Value.pointer _),(6,Value.pointer _),(7,Value.int _ _)] zg fun tq0=>?_
  refine q_s [7,29,30,31,32,33,34,35,36,37,38,39,40,41,42,43,44,45,46,47,48,49,50,51,52,53,54,55,56] (fun g:{k:Nat // 1≤k∧k≤f.curve.l.length∧∃p,f.curve.l[k - 1]?=some p∧p.flow < q∧Kba f.curve.l q=Z4 p (f.curve.l.drop k) q}=>[(7,.int .i64 ((g.1:Nat):Int))]) (fun g=>f.curve.l.length - g.1) (⟨1,by omega,by omega,p0,hp0,by omega,by have h:=V7a hp0;simp only [List.drop_zero,Nat.zero_add] at h;rw [h];simp only [Kba,if_neg hc0,List.drop_one,List.tail_cons]⟩) ?_
  rintro ⟨k,hk1,hk2,p,hp,hpq,hs⟩ junk
  try dsimp only
  refine Xce ?_
  refine Xac ?_
  refine Xbo ?_
  refine q_c (fun hc1=>?_) (fun hc1=>?_)
  ·
   obtain ⟨r,hr⟩:=Kr (l:=f.curve.l) (k:=k) za
   have hb1:=hf.ok.pt _ _ hp
   have hb2:=hf.ok.pt _ _ hr
   have hb3:=hf.ok.st (k - 1) p r hp (by rw [show k - 1 + 1=k by omega];exact hr)
   rw [V7a hr] at hs
   simp only [Z4] at hs
   refine Xa2 ?_
   refine Xam ?_
   refine qa3 ?_
   refine Xbv ?_
   refine qbx ?_
   refine qaf ?_
   refine q_c (fun hc2=>?_) (fun hc2=>?_)
   ·
    refine Jn ?_
    refine Kj tb [] [0,1,2,3,4,5,6,7,8,9,10,11,12] [13] (_) _ K1 ze zi zha ?_
    refine Xc8 ?_
    refine qcc ?_
    refine Kx zbb rfl rfl rfl rfl ?_
    refine qd1 ?_
    refine Xc8 ?_
    refine qc5 ?_
    refine qd1 ?_
    refine qbf ?_
    refine Vi rfl (Zcc p r q _ _ za za) rfl rfl ?_
    rintro v L' R' ⟨rfl,rfl,rfl⟩
    refine ⟨zi,zw,?_⟩
    refine Xda ?_
    refine J1 (Jb (Uo (J3 (J7 (Va (J3 (J7 ?_)))))))
    refine q_r (L':=L) (R':=R) zBc ?_
    exact ⟨by rw [hs,if_pos hc2],rfl,rfl⟩
   refine qbj ?_
   refine Xdo ?_
   exact q_k (⟨k + 1,by omega,by omega,r,by simpa using hr,by omega,by rw [hs,if_neg hc2]⟩)
  obtain rfl:k=f.curve.l.length:=by omega
  obtain rfl:p=pn:=by rw [hp] at hpn;exact Option.some.inj hpn
  rw [List.drop_eq_nil_of_le (Nat.le_refl _)] at hs
  refine qbk ?_
  refine Xbe ?_
  refine qcd ?_
  refine Xbr ?_
  refine q_r (L':=L) (R':=R) zBc ?_
  exact ⟨by rw [hs];rfl,rfl,rfl⟩
theorem Z2a (f:XFan) (back:Bool) (q:Int) (L:List Blk) (R:List Sl) (hm:InR f.sl R) (hf:FanOk f) (hq:-1048577≤q∧q≤1048577):
    Tri Tryz.prog 246 [f.val,.bool back,.int .i64 q].toArray L R (fun v L' R'=>v=(Jka f.curve.l back q).val∧L=L'∧R=R'):=by
  have hb1:=Uta hf.ok (-q)
  refine Jg 24 Tryz.call246 Tryz.func246 rfl rfl rfl ?_
  refine Xag ?_
  intro b3
  refine qaq ?_
  intro b6
  refine qaw ?_
  refine qah ?_
  refine Xbd ?_
  refine q_c (fun hc0=>?_) (fun hc0=>?_)
  ·
   refine qae ?_
   refine qa8 ?_
   refine qaa ?_
   refine q_l rfl (U8c f q _ _ hm hf hq) ?_
   refine qak ?_
   refine qbh ?_
   refine q_r (L':=L) (R':=R) zBc ?_
   exact ⟨by simp [Jka,hc0],rfl,rfl⟩
  refine qbv ?_
  refine qa8 ?_
  refine qaa ?_
  refine qcq ?_
  refine q_l rfl (U8c f (-q) _ _ hm hf za) ?_
  refine qaq ?_
  intro b7
  refine Xb2 ?_
  refine qcq ?_
  refine Xaa ?_
  refine qcq ?_
  refine qcd ?_
  refine Xbr ?_
  refine q_r (L':=L) (R':=R) zBc ?_
  exact ⟨by simp [Jka,hc0,Uxf],rfl,rfl⟩
theorem Ktd (f:XFan) (s q:Int) (L:List Blk) (R:List Sl) (hm:InR f.sl R) (hf:FanOk f) (hq:-1048577≤q∧q≤1048577):
    Tri Tryz.prog 193 [f.val,.int .i64 s,.int .i64 q].toArray L R (fun v L' R'=>v=(Yy f s q).val∧L=L'∧R=R'):=by
  refine Jg 45 Tryz.call193 Tryz.func193 rfl rfl rfl ?_
  refine Xag ?_
  intro b3
  refine qaq ?_
  intro b6
  refine qaw ?_
  refine qaa ?_
  refine J6 (Jb (Kg (Jn (Jh ?_))))
  refine Xay ?_
  refine q_c (fun hc0=>?_) (fun hc0=>?_)
  ·
   refine qae ?_
   refine qa8 ?_
   refine Xam ?_
   refine q_l rfl (Z2a f f.back q _ _ hm hf hq) ?_
   refine qak ?_
   refine qdb ?_
   refine q_r (L':=L) (R':=R) zBc ?_
   exact ⟨by rw [Yy,if_pos hc0],rfl,rfl⟩
  refine Xbi ?_
  refine q_c (fun hc1=>?_) (fun hc1=>?_)
  ·
   refine qae ?_
   refine qa8 ?_
   refine Xaa ?_
   refine qb4 ?_
   refine qaa ?_
   refine q_l rfl (Z2a f (!f.back) q _ _ hm hf hq) ?_
   refine qak ?_
   refine qdb ?_
   refine q_r (L':=L) (R':=R) zBc ?_
   exact ⟨by rw [Yy,if_neg hc0,if_pos hc1],rfl,rfl⟩
  refine Xbi ?_
  refine q_c (fun hc2=>?_) (fun hc2=>?_)
  ·
   refine Jn ?_
   refine Kn tb [0,1,3,4,2,5,6,7,8,9] _ K1 ze (List.Sublist.refl _) ?_
   refine qbc ?_
   refine qao ?_
   refine qbc ?_
   refine qao ?_
   refine q_d rfl (Z2a f false q _ _ hm hf hq) ?_
   refine q_d rfl (Z2a f true q _ _ hm hf hq) ?_
   refine qbr ?_
   intro b7
   refine qbr ?_
   intro b8
   refine qbg ?_
   refine qbg ?_
   refine J1 (Jb (Jn (Jh ?_)))
   refine Xbe ?_
   refine Jx (Ywe rfl rfl rfl) rfl ?_
   refine Xbe ?_
   refine Jx (Zre rfl rfl rfl) rfl ?_
   refine qcd ?_
   refine qak ?_
   refine qdb ?_
   refine q_r (L':=L) (R':=R) zBc ?_
   exact ⟨by rw [Yy,if_neg hc0,if_neg hc1,if_pos hc2],rfl,rfl⟩
  refine J5 (Ji (Jb (Jn (Jh ?_))))
  refine qck ?_
  refine Xbr ?_
  refine q_r (L':=L) (R':=R) zBc ?_
  exact ⟨by rw [Yy,if_neg hc0,if_neg hc1,if_neg hc2],rfl,rfl⟩
end Go.Proofs.YtchfclmokpbldaaGreat
end
section
namespace Go.Proofs.YtchfclmokpbldaaGreat
open Go.Aw Go
set_option maxRecDepth 20000
attribute [local irreducible] CJ LJ DJ Tri YV Gives Ui J0 Ke Uh RV J2
structure PipeOk (p:XPipe):Prop where
  rest:0≤p.road.rest.low∧p.road.rest.low≤p.road.rest.high∧p.road.rest.high≤4456448
  lift:-2199023255552≤p.road.lift.low∧p.road.lift.low≤p.road.lift.high∧p.road.lift.high≤2199023255552
  len:p.fans.l.length≤8
  fan:∀(i:Nat) (b:XBlow),p.fans.l[i]?=some b→FanOk b.fan
def Zz (p : XPipe) (q : Int) : Nat → XSpan
  | 0=>if q < 0 then ⟨-p.road.rest.high * (q * q) - p.road.lift.high,-p.road.rest.low * (q * q) - p.road.lift.low⟩ else ⟨p.road.rest.low * (q * q) - p.road.lift.high,p.road.rest.high * (q * q) - p.road.lift.low⟩
  | k + 1=>⟨(Zz p q k).low - (Yy (p.fans.l.getD k default).fan (p.fans.l.getD k default).state q).high,(Zz p q k).high - (Yy (p.fans.l.getD k default).fan (p.fans.l.getD k default).state q).low⟩
def Zsa (p:XPipe) (q:Int):XSpan:=Zz p q p.fans.l.length
theorem Z0a {q:Int} (hq:-1048577≤q∧q≤1048577):0≤q * q∧q * q≤1099513724929:=by
  rcases Int.lt_or_le q 0 with h | h
  · have h1 := Int.mul_nonneg (show 0 ≤ -q by omega) (show 0 ≤ -q by omega)
    have h2:=Int.mul_le_mul (show -q≤1048577 by omega) (show -q≤1048577 by omega) za za
    rw [Int.neg_mul_neg] at h1 h2
    omega
  · have h1 := Int.mul_nonneg h h
    have h2:=Int.mul_le_mul hq.2 hq.2 h za
    omega
theorem Ufa {r s:Int} (hr:0≤r∧r≤4456448) (hs:0≤s∧s≤1099513724929):0≤r * s∧r * s≤4899925740432392192∧-r * s= -(r * s):=by
  have h1:=Int.mul_nonneg hr.1 hs.1
  have h2:=Int.mul_le_mul hr.2 hs.2 hs.1 za
  exact ⟨h1,by omega,Int.neg_mul r s⟩
theorem Jsb {p:XPipe} {q:Int} (h:q < 0):Zz p q 0=⟨-p.road.rest.high * (q * q) - p.road.lift.high,-p.road.rest.low * (q * q) - p.road.lift.low⟩:=if_pos h
theorem Jyb {p:XPipe} {q:Int} (h:¬ q < 0):Zz p q 0=⟨p.road.rest.low * (q * q) - p.road.lift.high,p.road.rest.high * (q * q) - p.road.lift.low⟩:=if_neg h
theorem Upa {p:XPipe} (h:PipeOk p) {q:Int} (hq:-1048577≤q∧q≤1048577):∀(k:Nat),k≤p.fans.l.length→
    -4899925740432392192 - 2199023255552 * (k + 1)≤(Zz p q k).low∧(Zz p q k).low≤(Zz p q k).high∧(Zz p q k).high≤4899925740432392192 + 2199023255552 * (k + 1)
  | 0,_=>by
    have hs:=Z0a hq
    have hr:=h.rest
    have hl:=h.lift
    have h1:=Ufa (r:=p.road.rest.low) za hs
    have h2:=Ufa (r:=p.road.rest.high) za hs
    have h3:p.road.rest.low * (q * q)≤p.road.rest.high * (q * q):=Int.mul_le_mul_of_nonneg_right hr.2.1 hs.1
    unfold Zz
    split <;> dsimp only <;> omega
  | k + 1,hk=>by
    have ih:=Upa h hq k za
    have hb:=Usa (h.fan k _ zsc) (p.fans.l.getD k default).state q
    simp only [Zz]
    omega
theorem K8d (p:XPipe) (q:Int) (L:List Blk) (R:List Sl) (hm:InR p.sl R) (hp:PipeOk p) (hq:-1048577≤q∧q≤1048577):
    Tri Tryz.prog 114 [p.val,.int .i64 q].toArray L R (fun v L' R'=>v=(Zsa p q).val∧L=L'∧R=R'):=by
  have hs:=Z0a hq
  have hr:=hp.rest
  have hl:=hp.lift
  have hln:=hp.len
  have h1:=Ufa (r:=p.road.rest.low) za hs
  have h2:=Ufa (r:=p.road.rest.high) za hs
  refine Jg 86 Tryz.call114 Tryz.func114 rfl rfl rfl ?_
  refine Xag ?_
  intro b2
  refine qaq ?_
  intro b4
  refine qam ?_
  refine Xbh ?_
  refine qcm ?_
  refine Xaf ?_
  iterate 3 refine qab ?_
  refine qac ?_
  refine Xc3 ?_
  iterate 3 refine qab ?_
  refine qac ?_
  refine Xc3 ?_
  refine qcd ?_
  refine qaq ?_
  intro b6
  refine Xa9 ?_
  refine qaa ?_
  refine Xbo ?_
  refine q_c (fun hc0=>?_) (fun hc0=>?_)
  ·
   refine qay ?_
   iterate 3 refine qab ?_
   refine qac ?_
   refine qcq ?_
   refine Xc3 ?_
   iterate 3 refine qab ?_
   refine qac ?_
   refine qcq ?_
   refine Xc3 ?_
   refine qcd ?_
   refine Xb2 ?_
   iterate 3 refine qab ?_
   refine qac ?_
   refine Xdn ?_
   refine Xch ?_
   iterate 3 refine qab ?_
   refine qac ?_
   refine Xdn ?_
   refine qaw ?_
   refine Xaw ?_
   refine Jo [(1,Value.int _ _),(4,Value.pointer _),(6,Value.pointer _),(60,Value.slice _ _ _),(61,Value.int _ _),(62,Value.int _ _)] zg fun tq0=>?_
   refine Vm [8,9,62,63,64,65,66,67,68,69,70,71,72,73,74,75,76,77,78,79,80,81,82,83,84] ((⟨fun g=>[(62,.int .i64 ((g.1:Nat):Int))],fun g=>⟨b6,[.int .i64 (Zz p q g.1).low,.int .i64 (Zz p q g.1).high],90⟩ :: ⟨b4,[.int .i64 0,.int .i64 0],90⟩ :: ⟨b2,p.cells,225⟩ :: L,fun _=>R,fun g=>p.fans.l.length - g.1⟩:Head {k:Nat // k≤p.fans.l.length})) (⟨0,by omega⟩) zg zOa zqb ?_
   rintro ⟨k,hk⟩ junk
   try dsimp only
   refine Xak ?_
   refine q_c (fun hc1=>?_) (fun hc1=>?_)
   ·
    exact zQd
   exact zVd
  refine qbv ?_
  refine Xaa ?_
  iterate 3 refine qab ?_
  refine qac ?_
  refine Xdn ?_
  refine Xch ?_
  iterate 3 refine qab ?_
  refine qac ?_
  refine Xdn ?_
  refine qaw ?_
  refine Xaw ?_
  refine Jo [(1,Value.int _ _),(4,Value.pointer _),(6,Value.pointer _),(60,Value.slice _ _ _),(61,Value.int _ _),(62,Value.int _ _)] zg fun tq0=>?_
  refine Vm [8,9,62,63,64,65,66,67,68,69,70,71,72,73,74,75,76,77,78,79,80,81,82,83,84] ((⟨fun g=>[(62,.int .i64 ((g.1:Nat):Int))],fun g=>⟨b6,[.int .i64 (Zz p q g.1).low,.int .i64 (Zz p q g.1).high],90⟩ :: ⟨b4,[.int .i64 0,.int .i64 0],90⟩ :: ⟨b2,p.cells,225⟩ :: L,fun _=>R,fun g=>p.fans.l.length - g.1⟩:Head {k:Nat // k≤p.fans.l.length})) (⟨0,by omega⟩) zg zOa zqb ?_
  rintro ⟨k,hk⟩ junk
  try dsimp only
  refine Xak ?_
  refine q_c (fun hc1=>?_) (fun hc1=>?_)
  ·
   exact zQd
  exact zVd
end Go.Proofs.YtchfclmokpbldaaGreat
end
section
namespace Go.Proofs.YtchfclmokpbldaaGreat
open Go.Aw Go
set_option maxRecDepth 20000
attribute [local irreducible] CJ LJ DJ Tri YV Gives Ui J0 Ke Uh RV J2
theorem Vva {x:Int} (h:0≤x):x.tdiv 2=x / 2:=Int.tdiv_eq_ediv_of_nonneg h
def Ykc (f:Int→Int) (pr lo hi:Int):Int:=
  if h:lo < hi then (if f (lo + (hi - lo + 1).tdiv 2)≤pr then Ykc f pr (lo + (hi - lo + 1).tdiv 2) hi else Ykc f pr lo (lo + (hi - lo + 1).tdiv 2 - 1)) else lo
termination_by (hi - lo).toNat
decreasing_by all_goals (have:=Vva (x:=hi - lo + 1) za;omega)
def Ywa (f:Int→Int) (pr lo hi:Int):Int:=
  if h:lo < hi then (if pr≤f (lo + (hi - lo).tdiv 2) then Ywa f pr lo (lo + (hi - lo).tdiv 2) else Ywa f pr (lo + (hi - lo).tdiv 2 + 1) hi) else lo
termination_by (hi - lo).toNat
decreasing_by all_goals (have:=Vva (x:=hi - lo) za;omega)
theorem Yvd {f:Int→Int} {pr lo hi:Int} (h:lo < hi) (hf:f (lo + (hi - lo + 1).tdiv 2)≤pr):Ykc f pr lo hi=Ykc f pr (lo + (hi - lo + 1).tdiv 2) hi:=by rw [Ykc,dif_pos h,if_pos hf]
theorem Zed {f:Int→Int} {pr lo hi:Int} (h:lo < hi) (hf:¬ f (lo + (hi - lo + 1).tdiv 2)≤pr):Ykc f pr lo hi=Ykc f pr lo (lo + (hi - lo + 1).tdiv 2 - 1):=by rw [Ykc,dif_pos h,if_neg hf]
theorem Jrd {f:Int→Int} {pr lo hi:Int} (h:¬ lo < hi):Ykc f pr lo hi=lo:=by rw [Ykc,dif_neg h]
theorem Kfd {f:Int→Int} {pr lo hi:Int} (h:lo < hi) (hf:pr≤f (lo + (hi - lo).tdiv 2)):Ywa f pr lo hi=Ywa f pr lo (lo + (hi - lo).tdiv 2):=by rw [Ywa,dif_pos h,if_pos hf]
theorem J4d {f:Int→Int} {pr lo hi:Int} (h:lo < hi) (hf:¬ pr≤f (lo + (hi - lo).tdiv 2)):Ywa f pr lo hi=Ywa f pr (lo + (hi - lo).tdiv 2 + 1) hi:=by rw [Ywa,dif_pos h,if_neg hf]
theorem Vhc {f:Int→Int} {pr lo hi:Int} (h:¬ lo < hi):Ywa f pr lo hi=lo:=by rw [Ywa,dif_neg h]
def Vk (f:Int→XSpan) (pr:Int):Int:=Ykc (fun q=>(f q).high) pr (-1048577) 1048576
def Up (f:Int→XSpan) (pr:Int):Int:=Ywa (fun q=>(f q).low) pr (-1048576) 1048577
theorem Zma (p:XPipe) (pr:Int) (L:List Blk) (R:List Sl) (hm:InR p.sl R) (hp:PipeOk p):
    Tri Tryz.prog 190 [p.val,.int .i64 pr].toArray L R (fun v L' R'=>v=.int .i64 (Vk (Zsa p) pr)∧L=L'∧R=R'):=by
  refine Jg 28 Tryz.call190 Tryz.func190 rfl rfl rfl ?_
  refine Xag ?_
  intro b2
  refine Xaf ?_
  refine qad ?_
  refine qad ?_
  refine J6 (Jb (Jn (Kg ?_)))
  refine Jo [(1,Value.int _ _),(2,Value.pointer _),(5,Value.int _ _),(6,Value.int _ _)] zg fun tq0=>?_
  refine q_s [5,6,7,8,9,10,11,12,13,14,15,16,17,18,19,20,21,22,23,24,25,26] (fun g:{g:Int×Int // -1048577≤g.1∧g.1≤g.2∧g.2≤1048576∧Vk (Zsa p) pr=Ykc (fun q=>(Zsa p q).high) pr g.1 g.2}=>[(5,.int .i64 g.1.1),(6,.int .i64 g.1.2)]) (fun g=>(g.1.2 - g.1.1).toNat) (⟨(-1048577,1048576),by omega,by omega,by omega,rfl⟩) ?_
  rintro ⟨⟨lo,hi⟩,h1,h2,h3,h4⟩ junk
  try dsimp only
  refine qbi ?_
  refine Xbh ?_
  refine Xbo ?_
  refine q_c (fun hc0=>?_) (fun hc0=>?_)
  ·
   dsimp only at h1 h2 h3 h4 hc0
   have he:=Vva (x:=hi - lo + 1) za
   refine J5 (Jb (Kg (Jn (Jh ?_))))
   iterate 3 refine qaa ?_
   refine qa9 ?_
   refine qar ?_
   refine qdd ?_
   refine qar ?_
   refine Xaf ?_
   refine qdi ?_
   refine qaa ?_
   refine q_l rfl (K8d p (lo + (hi - lo + 1).tdiv 2) _ _ hm hp za) ?_
   refine qcz ?_
   refine qaa ?_
   refine qbx ?_
   refine qaf ?_
   refine q_c (fun hc1=>?_) (fun hc1=>?_)
   ·
    have e:=h4.trans (Yvd hc0 hc1)
    refine Xa3 ?_
    exact zGd
   have e:=h4.trans (Zed hc0 hc1)
   refine Xa3 ?_
   refine qa9 ?_
   exact zGd
  dsimp only at h1 h2 h3 h4 hc0
  refine Xdi ?_
  refine Xah ?_
  refine q_i (L':=L) (R':=R) ?_
  exact ⟨by rw [h4,Jrd hc0],rfl,rfl⟩
theorem Vra (p:XPipe) (pr:Int) (L:List Blk) (R:List Sl) (hm:InR p.sl R) (hp:PipeOk p):
    Tri Tryz.prog 191 [p.val,.int .i64 pr].toArray L R (fun v L' R'=>v=.int .i64 (Up (Zsa p) pr)∧L=L'∧R=R'):=by
  refine Jg 27 Tryz.call191 Tryz.func191 rfl rfl rfl ?_
  refine Xag ?_
  intro b2
  refine Xaf ?_
  refine qad ?_
  refine qad ?_
  refine J6 (Jb (Jn (Kg ?_)))
  refine Jo [(1,Value.int _ _),(2,Value.pointer _),(5,Value.int _ _),(6,Value.int _ _)] zg fun tq0=>?_
  refine q_s [5,6,7,8,9,10,11,12,13,14,15,16,17,18,19,20,21,22,23,24,25] (fun g:{g:Int×Int // -1048576≤g.1∧g.1≤g.2∧g.2≤1048577∧Up (Zsa p) pr=Ywa (fun q=>(Zsa p q).low) pr g.1 g.2}=>[(5,.int .i64 g.1.1),(6,.int .i64 g.1.2)]) (fun g=>(g.1.2 - g.1.1).toNat) (⟨(-1048576,1048577),by omega,by omega,by omega,rfl⟩) ?_
  rintro ⟨⟨lo,hi⟩,h1,h2,h3,h4⟩ junk
  try dsimp only
  refine qbi ?_
  refine Xbh ?_
  refine Xbo ?_
  refine q_c (fun hc0=>?_) (fun hc0=>?_)
  ·
   dsimp only at h1 h2 h3 h4 hc0
   have he:=Vva (x:=hi - lo) za
   refine J5 (Jb (Kg (Jn (Jh ?_))))
   iterate 3 refine qaa ?_
   refine qa9 ?_
   refine qdd ?_
   refine qar ?_
   refine Xaf ?_
   refine qdi ?_
   refine qaa ?_
   refine q_l rfl (K8d p (lo + (hi - lo).tdiv 2) _ _ hm hp za) ?_
   refine qcz ?_
   refine qaa ?_
   refine Xcj ?_
   refine q_c (fun hc1=>?_) (fun hc1=>?_)
   ·
    have e:=h4.trans (Kfd hc0 hc1)
    refine Xa3 ?_
    exact zGd
   have e:=h4.trans (J4d hc0 hc1)
   refine Xa3 ?_
   refine qar ?_
   exact zGd
  dsimp only at h1 h2 h3 h4 hc0
  refine Xdi ?_
  refine Xah ?_
  refine q_i (L':=L) (R':=R) ?_
  exact ⟨by rw [h4,Vhc hc0],rfl,rfl⟩
end Go.Proofs.YtchfclmokpbldaaGreat
end
section
namespace Go.Proofs.YtchfclmokpbldaaGreat
open Go.Aw Go
theorem Vc {α:Type} {f:α→Option Int} {l:List α} (hf:∀x e,f x=some e→e≠0) (h:(l.findSome? f).getD 0=0):∀x∈l,f x=none:=by
  have hn:l.findSome? f=none:=by
    cases hs:l.findSome? f with
    | none=>rfl
    | some e=>
      rw [hs] at h
      obtain ⟨x,_,hx⟩:=List.exists_of_findSome?_eq_some hs
      exact absurd h (hf x e hx)
  exact List.findSome?_eq_none_iff.1 hn
structure RoadOk (n:Nat) (r:XRoad):Prop where
  fr:0≤r.fr∧r.fr < n
  to:0≤r.to∧r.to < n
  ne:r.fr≠r.to
  rest:1≤r.rest.low∧r.rest.low≤r.rest.high∧r.rest.high≤262144
  lift:-2199023255552≤r.lift.low∧r.lift.low≤r.lift.high∧r.lift.high≤2199023255552
theorem U5c {s:XSpan} {lo hi:Int}:Ywb s lo hi=true↔lo≤s.low∧s.low≤s.high∧s.high≤hi:=by simp [Ywb]
structure MineOk (m:XMine):Prop where
  places:m.places.l.length≤64
  roads:m.roads.l.length≤128
  road:∀(i:Nat) (r:XRoad),m.roads.l[i]?=some r→RoadOk m.places.l.length r
theorem Z5d {m:XMine} (h:Vf m=0):MineOk m:=by
  unfold Vf at h
  split at h
  · cases h
  rename_i hlen
  split at h
  · rename_i e he
    subst h
    obtain ⟨x,_,hx⟩:=List.exists_of_findSome?_eq_some he
    unfold Uxa at hx
    split at hx <;> cases hx
  have hall:=Vc (f:=Y2 m.places.l.length) (fun x e hx he=>by
    subst he
    unfold Y2 at hx
    split at hx
    · cases hx
    · split at hx <;> cases hx) h
  refine ⟨by omega,by omega,fun i r hr=>?_⟩
  have:=hall r (List.mem_of_getElem? hr)
  unfold Y2 at this
  split at this
  · cases this
  rename_i h1
  split at this
  · cases this
  rename_i h2
  have e1:Ywb r.rest 1 262144=true:=by
    cases hb:Ywb r.rest 1 262144 with
    | true=>rfl
    | false=>exact absurd (.inr (.inr (.inr (.inr (.inl hb))))) h2
  have e2:Ywb r.lift (-2199023255552) 2199023255552=true:=by
    cases hb:Ywb r.lift (-2199023255552) 2199023255552 with
    | true=>rfl
    | false=>exact absurd (.inr (.inr (.inr (.inr (.inr hb))))) h2
  exact ⟨by omega,by omega,by omega,U5c.1 e1,U5c.1 e2⟩
structure DoorOk (d:XDoor):Prop where
  road:0≤d.road
  len:2≤d.rests.l.length∧d.rests.l.length≤6
  rest:∀(i:Nat) (x:Int),d.rests.l[i]?=some x→0≤x∧x≤262144
  falls:Jbb d.rests.l d.rests.l.length=true
theorem Vld {l:List XDoor} (h:Vt l=0):l.length≤16∧∀(i:Nat) (d:XDoor),l[i]?=some d→DoorOk d∧¬ Khb l i d:=by
  unfold Vt at h
  split at h
  · cases h
  rename_i hlen
  have hre:∀(x:Int) (e:Int),Kfb x=some e→e=1:=fun x e he=>by
    unfold Kfb at he
    split at he <;> cases he
    rfl
  have hall:=Vc (f:=Z7 l) (fun i e hx he=>by
    subst he
    unfold Z7 at hx
    split at hx
    · cases hx
    · split at hx
      · cases hx
      · split at hx
        · cases hx
        · split at hx
          · rename_i e' he'
            obtain ⟨x,_,hx'⟩:=List.exists_of_findSome?_eq_some he'
            have:=hre x _ hx'
            cases hx
            cases this
          · split at hx
            · cases hx
            · split at hx <;> cases hx) h
  refine ⟨by omega,fun i d hd=>?_⟩
  obtain ⟨hi,_⟩:=List.getElem?_eq_some_iff.1 hd
  have:=hall i (List.mem_range.2 hi)
  rw [Zhb hd] at this
  split at this
  · cases this
  rename_i h1
  split at this
  · cases this
  rename_i h2
  split at this
  · cases this
  rename_i h3
  split at this
  · cases this
  rename_i h4
  split at this
  · cases this
  rename_i h5
  refine ⟨⟨by omega,by omega,fun k x hx=>?_,by simpa using h4⟩,h5⟩
  have:=List.findSome?_eq_none_iff.1 h3 x (List.mem_of_getElem? hx)
  unfold Kfb at this
  split at this
  · cases this
  · omega
theorem Ktb {l : List Int} (h : ∀ (i : Nat) (x : Int), l[i]? = some x → 0 ≤ x ∧ x ≤ 262144) : ∀ (k : Nat), k ≤ l.length → 1 ≤ l.length → 0 ≤ Vac l k ∧ Vac l k ≤ l.getD 0 0 ∧ l.getD 0 0 ≤ Upc l k ∧ Upc l k ≤ 262144
  | 0,_,hl=>by have:=h 0 _ (Jw 0 za);simp only [Vac,Upc];omega
  | k + 1,hk,hl=>by
    have ih:=Ktb h k za hl
    have:=h k _ (Jw 0 za)
    simp only [Vac,Upc]
    omega
theorem K2b {d:XDoor} (h:DoorOk d) (s:Int):0≤(Ysa d s).low∧(Ysa d s).low≤(Ysa d s).high∧(Ysa d s).high≤262144:=by
  unfold Ysa
  split
  · simp
  · rename_i hc
    split
    · have := Ktb h.rest d.rests.l.length (Nat.le_refl _) za
      dsimp only;omega
    · have := h.rest s.toNat _ (Jw 0 za)
      dsimp only;omega
structure AirOk (a:XAir):Prop where
  mine:MineOk a.mine
  nfans:a.fans.l.length≤8
  fan:∀(i:Nat) (f:XFan),a.fans.l[i]?=some f→FanOk f∧f.road < a.mine.roads.l.length
  ndoors:a.doors.l.length≤16
  door:∀(i:Nat) (d:XDoor),a.doors.l[i]?=some d→DoorOk d∧d.road < a.mine.roads.l.length
theorem Zs {a:XAir} (h:Ky a=0):AirOk a:=by
  unfold Ky at h
  split at h
  · rename_i h1;exact absurd h h1
  rename_i h1
  split at h
  · cases h
  rename_i h2
  split at h
  · rename_i e he
    subst h
    obtain ⟨x,_,hx⟩:=List.exists_of_findSome?_eq_some he
    unfold Uxd at hx
    split at hx
    · rename_i hne
      exact absurd (Option.some.inj hx) hne
    · split at hx <;> cases hx
  rename_i hfn
  split at h
  · rename_i h3;exact absurd h h3
  rename_i h3
  have hdo:=Vld (by simpa using h3)
  have hdi:=Vc (f:=Zbb a.mine.roads.l.length) (fun x e hx he=>by
    subst he
    unfold Zbb at hx
    split at hx <;> cases hx) h
  refine ⟨Z5d zda,by omega,fun i f hf=>?_,hdo.1,fun i d hd=>⟨(hdo.2 i d hd).1,?_⟩⟩
  · have := List.findSome?_eq_none_iff.1 hfn f (List.mem_of_getElem? hf)
    unfold Uxd at this
    split at this
    · cases this
    rename_i h4
    split at this
    · cases this
    exact ⟨Kze (by simpa using h4),by omega⟩
  · have := hdi d (List.mem_of_getElem? hd)
    unfold Zbb at this
    split at this
    · cases this
    · omega
structure FitOk (a:XAir) (s:XSetting):Prop where
  lf:s.fans.l.length=a.fans.l.length
  ld:s.doors.l.length=a.doors.l.length
  fan:∀(i:Nat) (x:Int),s.fans.l[i]?=some x→-1≤x∧x≤2
  door:∀(i:Nat) (x:Int) (d:XDoor),s.doors.l[i]?=some x→a.doors.l[i]?=some d→-1≤x∧x < d.rests.l.length
theorem Kjc {a:XAir} {s:XSetting} (h:Vja a s=true):FitOk a s:=by
  unfold Vja at h
  split at h
  · cases h
  rename_i h1
  simp only [Bool.and_eq_true,Option.isNone_iff_eq_none] at h
  refine ⟨by omega,by omega,fun i x hx=>?_,fun i x d hx hd=>?_⟩
  · have := List.findSome?_eq_none_iff.1 h.1 x (List.mem_of_getElem? hx)
    unfold Jab at this
    split at this
    · cases this
    · omega
  · obtain ⟨hi, _⟩ := List.getElem?_eq_some_iff.1 hx
    have:=List.findSome?_eq_none_iff.1 h.2 i (List.mem_range.2 hi)
    rw [Vsa hx hd] at this
    split at this
    · cases this
    · omega
end Go.Proofs.YtchfclmokpbldaaGreat
end
section
namespace Go.Proofs.YtchfclmokpbldaaGreat
open Go.Aw Go
set_option maxRecDepth 20000
attribute [local irreducible] CJ LJ DJ Tri YV Gives Ui J0 Ke Uh RV J2
def Vh (a : XAir) (s : XSetting) (r : Int) : Nat → XSpan
  | 0=>(a.mine.roads.l.getD r.toNat default).rest
  | k + 1=>if (a.doors.l.getD k default).road=r then ⟨(Vh a s r k).low + (Ysa (a.doors.l.getD k default) (s.doors.l.getD k 0)).low,(Vh a s r k).high + (Ysa (a.doors.l.getD k default) (s.doors.l.getD k 0)).high⟩ else Vh a s r k
def J3e (rest lift:XSpan) (q:Int):XSpan:=
  if q < 0 then ⟨-(rest.high * q * q) - lift.high,-(rest.low * q * q) - lift.low⟩ else ⟨rest.low * q * q - lift.high,rest.high * q * q - lift.low⟩
def innerTo (a : XAir) (s : XSetting) (r q : Int) : Nat → XSpan
  | 0=>J3e (Vh a s r a.doors.l.length) (a.mine.roads.l.getD r.toNat default).lift q
  | k + 1=>if (a.fans.l.getD k default).road=r then ⟨(innerTo a s r q k).low - (Yy (a.fans.l.getD k default) (s.fans.l.getD k 0) q).high,(innerTo a s r q k).high - (Yy (a.fans.l.getD k default) (s.fans.l.getD k 0) q).low⟩ else innerTo a s r q k
def Uk (a:XAir) (s:XSetting) (r q:Int):XSpan:=innerTo a s r q a.fans.l.length
theorem Zq {a:XAir} {s:XSetting} (h:AirOk a) {r:Int} (hr:0≤r∧r < a.mine.roads.l.length):∀(k:Nat),k≤a.doors.l.length→
    1≤(Vh a s r k).low∧(Vh a s r k).low≤(Vh a s r k).high∧(Vh a s r k).high≤262144 * (k + 1)
  | 0,_=>by
    have:=(h.mine.road r.toNat _ zsc).rest
    simp only [Vh];omega
  | k + 1,hk=>by
    have ih:=Zq (s:=s) h hr k za
    have hb:=K2b (h.door k _ zsc).1 (s.doors.l.getD k 0)
    simp only [Vh]
    split
    · dsimp only;omega
    · omega
theorem Jcd {a:XAir} {s:XSetting} {r q:Int} (h:q < 0):innerTo a s r q 0=⟨-((Vh a s r a.doors.l.length).high * q * q) - (a.mine.roads.l.getD r.toNat default).lift.high,-((Vh a s r a.doors.l.length).low * q * q) - (a.mine.roads.l.getD r.toNat default).lift.low⟩:=if_pos h
theorem Y1c {a:XAir} {s:XSetting} {r q:Int} (h:¬ q < 0):innerTo a s r q 0=⟨(Vh a s r a.doors.l.length).low * q * q - (a.mine.roads.l.getD r.toNat default).lift.high,(Vh a s r a.doors.l.length).high * q * q - (a.mine.roads.l.getD r.toNat default).lift.low⟩:=if_neg h
end Go.Proofs.YtchfclmokpbldaaGreat
end
section
namespace Go.Proofs.YtchfclmokpbldaaGreat
open Go.Aw Go
set_option maxRecDepth 20000
attribute [local irreducible] CJ LJ DJ Tri YV Gives Ui J0 Ke Uh RV J2
end Go.Proofs.YtchfclmokpbldaaGreat
end
