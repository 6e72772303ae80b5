/-
  Deep copies of a site and of a station. By an AI agent; no person has read it.
-/
import Derived.Test.YtchfclmokpbldaaGreatLevK
set_option linter.unusedVariables false
set_option linter.unusedSimpArgs false
namespace Go.Proofs.YtchfclmokpbldaaGreat
open Go.Aw Go
section
variable {A9 B9:Prop}
theorem Kff (a:A9) (h:A9→B9:=by exact Jx zB rfl):B9:=h a
theorem Kdf (a:A9) (h:A9→B9:=by exact Y9 zvb rfl):B9:=h a
theorem U1f (a:A9) (h:A9→B9:=by exact Jx zmb rfl):B9:=h a
end
theorem Tri.postW {P:Program} {f:FuncId} {args:Array Value} {L:List Blk} {R:List Sl} {Post Post':Yn} (h:Tri P f args L R Post) (k:∀v L' R' c w,Post v L' R'→St c L' R' w→∃L'' R'',St c L'' R'' w∧Post' v L'' R''):Tri P f args L R Post':=
  ⟨h.1,fun w G hh=>(h.2 w G hh).mono fun _ _ ⟨v,L',R',e,p,s⟩=>let ⟨L'',R'',s',p'⟩:=k v L' R' _ _ p s;⟨v,L'',R'',e,p',s'⟩⟩
set_option maxRecDepth 20000
attribute [local irreducible] CJ LJ DJ Tri YV Gives Ui J0 Ke Uh RV J2 OwL.L
theorem Zea (x:Arr Int) (L:List Blk) (R:List Sl) (hx:InR (isl x) R) (hn:x.l.length≤1000):
    Tri Tryz.prog 149 [x.val].toArray L R (fun v L' R'=>∃o:Ow,v=(⟨o,x.l⟩:OwL Int).val∧(⟨o,x.l⟩:OwL Int).ok 1 Jp∧(⟨o,x.l⟩:OwL Int).L 3 Jp ++ L=L'∧R=R'):=by
  refine Jg 5 Tryz.call149 Tryz.func149 rfl rfl rfl ?_
  refine Xcw ?_
  refine Xc4 ?_
  refine Y9 (Km (f:=Jp) (xs:=x) tb rfl rfl rfl zc rfl rfl (hx) (fun _=>rfl) za) rfl ?_
  rintro v L' R' ⟨o4,rfl,hok4,rfl,rfl⟩
  refine Xcq ?_
  refine q_r (L':=(⟨o4,x.l⟩:OwL Int).L 3 Jp ++ L) (R':=R) zSc ?_
  exact ⟨o4,rfl,hok4,rfl,rfl⟩
structure FansC (l:List XFan) (k:Nat) (R:List Sl) (pf:OwL XFan) (S:List Sl):Prop where
  ok:pf.ok 4 XFan.cells
  len:pf.l.length=k
  eq:pf.l.map Vuc=(l.take k).map Vuc
  sub:∀f∈pf.l,InR f.sl S
  ext:∀r∈R,InR r S
structure DoorsC (l:List XDoor) (k:Nat) (R:List Sl) (pd:OwL XDoor) (S:List Sl):Prop where
  ok:pd.ok 3 XDoor.cells
  len:pd.l.length=k
  eq:pd.l.map Yya=(l.take k).map Yya
  sub:∀f∈pd.l,InR f.sl S
  ext:∀r∈R,InR r S
structure ZonesC (l:List XZone) (k:Nat) (R:List Sl) (pz:OwL XZone) (S:List Sl):Prop where
  ok:pz.ok 4 XZone.cells
  len:pz.l.length=k
  eq:pz.l.map Ysb=(l.take k).map Ysb
  sub:∀f∈pz.l,∀s∈XZone.subs f,InR s S
  ext:∀r∈R,InR r S
theorem Una {α β:Type} {f:α→β} {l ys:List α} {k:Nat} {x y:α} (h:ys.map f=(l.take k).map f) (hx:l[k]?=some x) (he:f y=f x):(ys ++ [y]).map f=(l.take (k + 1)).map f:=by
  rw [List.take_add_one,hx,List.map_append,List.map_append,h]
  show _ ++ [f y]=_ ++ [f x]
  rw [he]
theorem FansC.next {l:List XFan} {k:Nat} {R S:List Sl} {pf:OwL XFan} (h:FansC l k R pf S) {x y:XFan} (hx:l[k]?=some x) (he:Vuc y=Vuc x) {o:Ow} (hok:(⟨o,pf.l ++ [y]⟩:OwL XFan).ok 4 XFan.cells):FansC l (k + 1) R ⟨o,pf.l ++ [y]⟩ (y.sl :: S):=
  ⟨hok,by show (pf.l ++ [y]).length=_;rw [List.length_append,h.len];rfl,Una h.eq hx he,fun f hf=>by
    rcases List.mem_append.1 hf with hf | hf
    · exact (h.sub f hf).mono fun r hr=>Ja (.tail _ hr)
    · rw [List.mem_singleton.1 hf];exact Ja (.head _),fun r hr=>(h.ext r hr).mono fun r hr=>Ja (.tail _ hr)⟩
theorem DoorsC.next {l:List XDoor} {k:Nat} {R S:List Sl} {pf:OwL XDoor} (h:DoorsC l k R pf S) {x y:XDoor} (hx:l[k]?=some x) (he:Yya y=Yya x) {o:Ow} (hok:(⟨o,pf.l ++ [y]⟩:OwL XDoor).ok 3 XDoor.cells):DoorsC l (k + 1) R ⟨o,pf.l ++ [y]⟩ (y.sl :: S):=
  ⟨hok,by show (pf.l ++ [y]).length=_;rw [List.length_append,h.len];rfl,Una h.eq hx he,fun f hf=>by
    rcases List.mem_append.1 hf with hf | hf
    · exact (h.sub f hf).mono fun r hr=>Ja (.tail _ hr)
    · rw [List.mem_singleton.1 hf];exact Ja (.head _),fun r hr=>(h.ext r hr).mono fun r hr=>Ja (.tail _ hr)⟩
theorem ZonesC.next {l:List XZone} {k:Nat} {R S:List Sl} {pf:OwL XZone} (h:ZonesC l k R pf S) {x y:XZone} (hx:l[k]?=some x) (he:Ysb y=Ysb x) {o:Ow} (hok:(⟨o,pf.l ++ [y]⟩:OwL XZone).ok 4 XZone.cells):ZonesC l (k + 1) R ⟨o,pf.l ++ [y]⟩ (isl y.roads :: J1e y.rule :: S):=
  ⟨hok,by show (pf.l ++ [y]).length=_;rw [List.length_append,h.len];rfl,Una h.eq hx he,fun f hf s hs=>by
    rcases List.mem_append.1 hf with hf | hf
    · exact (h.sub f hf s hs).mono fun r hr=>Ja (.tail _ (.tail _ hr))
    · rw [List.mem_singleton.1 hf] at hs
      simp only [XZone.subs,List.mem_cons,List.not_mem_nil,or_false] at hs
      rcases hs with rfl | rfl
      · exact Ja (.tail _ (.head _))
      · exact Ja (.head _),fun r hr=>(h.ext r hr).mono fun r hr=>Ja (.tail _ (.tail _ hr))⟩
theorem Udc (a:XAir) (L:List Blk) (R:List Sl) (ha:AirR a R) (h0:Ky a=0):
    Tri Tryz.prog 226 [a.val].toArray L R (fun v L' R'=>∃(a':XAir) (S:List Sl),v=a'.val∧Yv a'=Yv a∧AirR a' (S ++ R)∧L=L'∧S ++ R=R'):=by
  have hok:=Zs h0
  have hnp:=hok.mine.places
  have hnr:=hok.mine.roads
  have hnf:=hok.nfans
  have hnd:=hok.ndoors
  have hpR:=ha.places
  have hrR:=ha.roads
  have hfR:=ha.fans
  have hdR:=ha.doors
  refine Jg 55 Tryz.call226 Tryz.func226 rfl rfl rfl ?_
  refine Xag ?_
  intro b1
  refine qaq ?_
  intro b2
  refine qa4 ?_
  refine Kn tb [0,1,2,4,5,6,3,7,8,9,10,11] _ K1 ze (List.Sublist.refl _) ?_
  refine Xdh ?_
  refine Xdh ?_
  refine Yjb (Km (f:=XPlace.cells) (xs:=a.mine.places) tb rfl rfl rfl zc rfl rfl (hpR) (fun _=>rfl) za) rfl rfl rfl ?_
  rintro v L' R' ⟨o11,rfl,hok11,rfl,rfl⟩
  refine qa1 ?_
  refine Yjb (Km (f:=XRoad.cells) (xs:=a.mine.roads) tb rfl rfl rfl zc rfl rfl (hrR) (fun _=>rfl) za) rfl rfl rfl ?_
  rintro v L' R' ⟨o15,rfl,hok15,rfl,rfl⟩
  refine qa1 ?_
  refine qdq ?_
  refine Kv zic rfl rfl rfl ?_
  refine qbr ?_
  intro b3
  refine qbg ?_
  refine J1 (Jb (Jn (Jn ?_)))
  refine Kd (T:=157) (f:=XRoad.cells) (wd:=10) (⟨o15,a.mine.roads.l⟩:OwL XRoad) [] zj (fun _=>rfl) zc hok15 (fun s hs=>by cases hs) ?_
  refine Uv zp ?_
  refine Kd (T:=159) (f:=XPlace.cells) (wd:=2) (⟨o11,a.mine.places.l⟩:OwL XPlace) [] zj (fun _=>rfl) zc hok11 (fun s hs=>by cases hs) ?_
  refine Uv zp ?_
  obtain ⟨R1,hR1e⟩:∃R1,R1=psl (⟨o11,a.mine.places.l⟩:OwL XPlace).arr :: rsl (⟨o15,a.mine.roads.l⟩:OwL XRoad).arr :: R:=⟨_,rfl⟩
  have hR1:∀r∈R,InR r R1:=fun r hr=>Ja (by rw [hR1e];exact .tail _ (.tail _ hr))
  have hOP:InR (psl (⟨o11,a.mine.places.l⟩:OwL XPlace).arr) R1:=Ja zoa
  have hOR:InR (rsl (⟨o15,a.mine.roads.l⟩:OwL XRoad).arr) R1:=Ja zma
  refine Ymb zxc ?_
  have hfR1:=hfR.mono hR1
  have hdR1:=hdR.mono hR1
  refine qay ?_
  refine Xaw ?_
  refine Jo [(1,Value.pointer _),(2,Value.pointer _),(3,Value.pointer _),(19,Value.slice _ _ _),(20,Value.int _ _),(21,Value.int _ _)] zg fun tq0=>?_
  refine Vm [5,21,22,23,24,25,26,27,28,29,30,31,32,33,34,35] ((⟨fun g=>[(21,.int .i64 ((g.1.1:Nat):Int))],fun g=>⟨b3,[(⟨o11,a.mine.places.l⟩:OwL XPlace).val,(⟨o15,a.mine.roads.l⟩:OwL XRoad).val,g.1.2.1.val,.slice none 0 0],32⟩ :: (g.1.2.1.L 278 XFan.cells ++ (⟨b2,[.slice none 0 0,.slice none 0 0,.slice none 0 0,.slice none 0 0],32⟩ :: ⟨b1,a.cells,32⟩ :: L)),fun g=>g.1.2.2,fun g=>a.fans.l.length - g.1.1⟩:Head {g:Nat×OwL XFan×List Sl // g.1≤a.fans.l.length∧FansC a.fans.l g.1 R1 g.2.1 g.2.2})) (⟨(0,OwL.nil,R1),by dsimp only;omega,⟨OwL.nil_ok,rfl,rfl,fun f hf=>(by cases hf),Jc _⟩⟩) zg zU zqb ?_
  rintro ⟨⟨k,pf,S⟩,hk,hF⟩ junk
  try dsimp only
  dsimp only at hk hF
  have hFok:=hF.ok
  have hFn:=hF.len
  have hfR2:=hfR1.mono hF.ext
  refine Xak ?_
  refine q_c (fun hc0=>?_) (fun hc0=>?_)
  ·
   have hg:=Jw (l:=a.fans.l) (k:=k) default za
   obtain ⟨x,hx⟩:∃x,x=a.fans.l.getD k default:=⟨_,rfl⟩
   rw [← hx] at hg
   have hxR:=InR.fan hfR2 hg
   have hxn:=(hok.fan k x hg).1.len8
   refine qbb ?_
   refine Kff ?_
   refine Xcv ?_
   intro b5
   refine Xb2 ?_
   refine Y9 (Km (f:=XPoint.cells) (xs:=x.curve) tb rfl rfl rfl zc rfl rfl (hxR) (fun _=>rfl) za) rfl ?_
   rintro v L' R' ⟨o27,rfl,hok27,rfl,rfl⟩
   refine Xbp ?_
   refine J6 (Jb (Jh ?_))
   refine Xaa ?_
   refine qa8 ?_
   refine Kdf ?_
   rintro v L' R' ⟨b32,rfl,rfl,hR32⟩
   replace hR32:=hR32.symm;subst hR32
   refine Y9 (J8 (f:=XFan.cells) (p:=pf) (a:=⟨x.road,x.back,x.aux,(⟨o27,x.curve.l⟩:OwL XPoint).arr⟩) tb rfl rfl rfl rfl (hFok) zj zsb rfl zy) rfl ?_
   rintro v L' R' ⟨o33,rfl,hok33,rfl,rfl⟩
   refine Xbp ?_
   refine J6 (Ji (Jb ?_))
   refine Kd (T:=319) (f:=XPoint.cells) (wd:=2) (⟨o27,x.curve.l⟩:OwL XPoint) [] zj (fun _=>rfl) zc hok27 (fun s hs=>by cases hs) ?_
   refine Uv zp ?_
   refine qay ?_
   refine Xae ?_
   exact q_k ⟨(k + 1,⟨o33,pf.l ++ [_]⟩,_),by dsimp only;omega,hF.next (y:=⟨x.road,x.back,x.aux,(⟨o27,x.curve.l⟩:OwL XPoint).arr⟩) hg rfl hok33⟩
  obtain rfl:k=a.fans.l.length:=by omega
  have hdR2:=hdR1.mono hF.ext
  refine qcf ?_
  refine Xaw ?_
  refine Jo [(2,Value.pointer _),(3,Value.pointer _),(37,Value.slice _ _ _),(38,Value.int _ _),(39,Value.int _ _)] zg fun tq1=>?_
  refine Vm [7,39,40,41,42,43,44,45,46,47,48,49,50,51,52,53] ((⟨fun g=>[(39,.int .i64 ((g.1.1:Nat):Int))],fun g=>⟨b3,[(⟨o11,a.mine.places.l⟩:OwL XPlace).val,(⟨o15,a.mine.roads.l⟩:OwL XRoad).val,pf.val,g.1.2.1.val],32⟩ :: (g.1.2.1.L 239 XDoor.cells ++ (pf.L 278 XFan.cells ++ (⟨b2,[.slice none 0 0,.slice none 0 0,.slice none 0 0,.slice none 0 0],32⟩ :: ⟨b1,a.cells,32⟩ :: L))),fun g=>g.1.2.2,fun g=>a.doors.l.length - g.1.1⟩:Head {g:Nat×OwL XDoor×List Sl // g.1≤a.doors.l.length∧DoorsC a.doors.l g.1 S g.2.1 g.2.2})) (⟨(0,OwL.nil,S),by dsimp only;omega,⟨OwL.nil_ok,rfl,rfl,fun f hf=>(by cases hf),Jc _⟩⟩) zg zU zqb ?_
  rintro ⟨⟨j,pd,S2⟩,hj,hD⟩ junk
  try dsimp only
  dsimp only at hj hD
  have hDok:=hD.ok
  have hDn:=hD.len
  have hdR3:=hdR2.mono hD.ext
  refine Xak ?_
  refine q_c (fun hc1=>?_) (fun hc1=>?_)
  ·
   have hg:=Jw (l:=a.doors.l) (k:=j) default za
   obtain ⟨x,hx⟩:∃x,x=a.doors.l.getD j default:=⟨_,rfl⟩
   rw [← hx] at hg
   have hxR:=InR.door hdR3 hg
   have hxn:=(hok.door j x hg).1.len
   refine qbb ?_
   refine Jx zta rfl ?_
   refine qdk ?_
   refine qaq ?_
   intro b7
   refine Xb2 ?_
   refine Js rfl (Zea x.rests _ _ hxR za) rfl ?_
   rintro v L' R' ⟨od,rfl,hokd,rfl,rfl⟩
   refine Xbp ?_
   refine J6 (Jb (Jh ?_))
   refine Xaa ?_
   refine Jx zkb rfl ?_
   refine Y9 zwb rfl ?_
   rintro v L' R' ⟨b50,rfl,rfl,hR50⟩
   replace hR50:=hR50.symm;subst hR50
   refine Y9 (J8 (f:=XDoor.cells) (p:=pd) (a:=⟨x.road,x.other,(⟨od,x.rests.l⟩:OwL Int).arr⟩) tb rfl rfl rfl rfl (hDok) zj zsb rfl zy) rfl ?_
   rintro v L' R' ⟨o51,rfl,hok51,rfl,rfl⟩
   refine Xbp ?_
   refine J6 (Ji (Jb ?_))
   refine Kd (T:=3) (f:=Jp) (wd:=1) (⟨od,x.rests.l⟩:OwL Int) [] zj (fun _=>rfl) zc hokd (fun s hs=>by cases hs) ?_
   refine Uv zp ?_
   refine qay ?_
   refine Xae ?_
   exact q_k ⟨(j + 1,⟨o51,pd.l ++ [_]⟩,_),by dsimp only;omega,hD.next (y:=⟨x.road,x.other,(⟨od,x.rests.l⟩:OwL Int).arr⟩) hg rfl hok51⟩
  obtain rfl:j=a.doors.l.length:=by omega
  refine Kd (T:=278) (f:=XFan.cells) (wd:=4) pf (pf.l.map XFan.sl) zj (fun _=>rfl) zc hF.ok (fun s hs=>by
    obtain ⟨f,hf,rfl⟩:=List.mem_map.1 hs
    exact (hF.sub f hf).mono hD.ext) ?_
  refine Uv zp ?_
  refine Kd (T:=239) (f:=XDoor.cells) (wd:=3) pd (pd.l.map XDoor.sl) zj (fun _=>rfl) zc hD.ok (fun s hs=>by
    obtain ⟨f,hf,rfl⟩:=List.mem_map.1 hs
    exact (hD.sub f hf).mono fun r hr=>Ja (.tail _ hr)) ?_
  refine Uv zp ?_
  refine qbk ?_
  refine qa8 ?_
  refine Xbr ?_
  refine Ks (L':=L) (R':=(dsl pd.arr :: fsl pf.arr :: S2) ++ R) (Ya rfl zrb) ?hp ?hL ?hR
  case hp=>
   exact ⟨⟨⟨(⟨o11,a.mine.places.l⟩:OwL XPlace).arr,(⟨o15,a.mine.roads.l⟩:OwL XRoad).arr⟩,pf.arr,pd.arr⟩,dsl pd.arr :: fsl pf.arr :: S2,rfl,by
   rw [Yv,Yv]
   refine congr (congr (congrArg XAir.mk rfl) ?_) ?_
   · show (⟨none, 0, pf.l.map Vuc⟩ : Arr XFan) = _
     rw [hF.eq,List.take_of_length_le (Nat.le_refl _)]
   · show (⟨none, 0, pd.l.map Yya⟩ : Arr XDoor) = _
     rw [hD.eq,List.take_of_length_le (Nat.le_refl _)],⟨((hOP.mono hF.ext).mono hD.ext).mono fun r hr=>Ja (.tail _ (.tail _ (List.mem_append_left _ hr))),((hOR.mono hF.ext).mono hD.ext).mono fun r hr=>Ja (.tail _ (.tail _ (List.mem_append_left _ hr))),Ja (.tail _ (.head _)),Ja (.head _)⟩,rfl,rfl⟩
  case hL=>exact zi
  case hR=>
   exact fun r hr=>by
     rcases List.mem_append.1 hr with h | h
     · exact Ja h
     · exact (((hR1 r h).mono hF.ext).mono hD.ext).mono fun r hr=>Ja (.tail _ (.tail _ hr))
theorem V1c {n : Nat} {l : List Int} (h : ∀ i : Nat, i < l.length → ¬ V4 n l i) : ∀ i : Nat, i < l.length → (i : Int) ≤ l.getD i 0 ∧ l.getD i 0 < n
  | 0,hi=>by have:=h 0 hi;rw [V4] at this;omega
  | i + 1,hi=>by
    have h1:=V1c h i za
    have h2:=h (i + 1) hi
    rw [V4,Nat.add_sub_cancel] at h2
    omega
theorem Uud {n m:Nat} {z:XZone} (h:Yj n m z=0):z.rule.l.length≤64∧z.roads.l.length≤m + 1:=by
  rw [Yj] at h
  split at h
  · omega
  rename_i h1
  split at h
  · cases h
  split at h
  · cases h
  rename_i h3
  have h1:Z2 z.rule.l n=0:=Decidable.not_not.1 h1
  refine ⟨?_,?_⟩
  · rw [Z2] at h1
    split at h1
    · cases h1
    · rename_i h4
      have h4:Kla z.rule.l=true:=by simpa using h4
      rw [Kla,Bool.and_eq_true,decide_eq_true_eq] at h4
      omega
  · rcases Nat.lt_or_ge (m + 1) z.roads.l.length with hl | hl
    · have := V1c (n := m) (l := z.roads.l) (fun i hi hb => h3 ⟨i, hi, hb⟩) (m + 1) hl
      omega
    · exact hl
theorem Knc (s:XSite) (L:List Blk) (R:List Sl) (hs:SiteR s R) (h0:K2 s=0):
    Tri Tryz.prog 148 [s.val].toArray L R (fun v L' R'=>∃(s':XSite) (S:List Sl),v=s'.val∧SiteE s' s∧SiteR s' (S ++ R)∧L=L'∧S ++ R=R'):=by
  have hok:=Za h0
  have hln:=hok.len
  have hnr:=(Zs hok.air).mine.roads
  have hsR:=hs.sensors
  have hcR:=hs.conds
  have hzR:=hs.zones
  have hpR:=hs.persons
  refine Jg 42 Tryz.call148 Tryz.func148 rfl rfl rfl ?_
  refine Xag ?_
  intro b1
  refine qaq ?_
  intro b2
  refine qa4 ?_
  refine Kn tb [0,1,3,4,6,7,9,10,2,5,8,11,12,13,14] _ K1 ze (List.Sublist.refl _) ?_
  refine qal ?_
  refine qbc ?_
  refine Xan ?_
  refine Xan ?_
  refine Xan ?_
  refine Yt rfl (Udc s.air _ _ hs.air hok.air) rfl rfl ?_
  rintro v L' R' ⟨a',Sa,rfl,hba,haR,rfl,rfl⟩
  refine ⟨zi,zw,?_⟩
  have hRa:∀r∈R,InR r (Sa ++ R):=fun r hr=>Ja (List.mem_append_right _ hr)
  have hsR1:=hsR.mono hRa
  have hcR1:=hcR.mono hRa
  have hpR1:=hpR.mono hRa
  have hzR1:=hzR.mono hRa
  refine Yjb (Km (f:=XSens.cells) (xs:=s.sensors) tb rfl rfl rfl zc rfl rfl (hsR1) (fun _=>rfl) za) rfl rfl rfl ?_
  rintro v L' R' ⟨o11,rfl,hok11,rfl,rfl⟩
  refine qa1 ?_
  refine Yjb (Km (f:=XCond.cells) (xs:=s.conds) tb rfl rfl rfl zc rfl rfl (hcR1) (fun _=>rfl) za) rfl rfl rfl ?_
  rintro v L' R' ⟨o14,rfl,hok14,rfl,rfl⟩
  refine qa1 ?_
  refine Yjb (Km (f:=Jp) (xs:=s.persons) tb rfl rfl rfl zc rfl rfl (hpR1) (fun _=>rfl) za) rfl rfl rfl ?_
  rintro v L' R' ⟨o17,rfl,hok17,rfl,rfl⟩
  refine qa1 ?_
  refine Kv zCb rfl rfl rfl ?_
  refine qbr ?_
  intro b3
  refine qbg ?_
  refine J1 (Jb (Jn (Jn ?_)))
  refine Kd (T:=170) (f:=Jp) (wd:=1) (⟨o17,s.persons.l⟩:OwL Int) [] zj (fun _=>rfl) zc hok17 (fun s hs=>by cases hs) ?_
  refine Uv zp ?_
  refine Kd (T:=102) (f:=XCond.cells) (wd:=6) (⟨o14,s.conds.l⟩:OwL XCond) [] zj (fun _=>rfl) zc hok14 (fun s hs=>by cases hs) ?_
  refine Uv zp ?_
  refine Kd (T:=88) (f:=XSens.cells) (wd:=8) (⟨o11,s.sensors.l⟩:OwL XSens) [] zj (fun _=>rfl) zc hok11 (fun s hs=>by cases hs) ?_
  refine Uv zp ?_
  obtain ⟨R1,hR1e⟩:∃R1,R1=Vyd (⟨o11,s.sensors.l⟩:OwL XSens).arr :: Jjf (⟨o14,s.conds.l⟩:OwL XCond).arr :: isl (⟨o17,s.persons.l⟩:OwL Int).arr :: (Sa ++ R):=⟨_,rfl⟩
  have hR1:∀r∈Sa ++ R,InR r R1:=fun r hr=>Ja (by rw [hR1e];exact .tail _ (.tail _ (.tail _ hr)))
  have hOS:InR (Vyd (⟨o11,s.sensors.l⟩:OwL XSens).arr) R1:=Ja zoa
  have hOC:InR (Jjf (⟨o14,s.conds.l⟩:OwL XCond).arr) R1:=Ja zma
  have hOPS:InR (isl (⟨o17,s.persons.l⟩:OwL Int).arr) R1:=Ja zya
  refine Ymb zxc ?_
  have hzR2:=hzR1.mono hR1
  have haR2:=Jma haR hR1
  refine qay ?_
  refine Xaw ?_
  refine Jo [(2,Value.pointer _),(3,Value.pointer _),(20,Value.slice _ _ _),(21,Value.int _ _),(22,Value.int _ _)] zg fun tq0=>?_
  refine Vm [5,22,23,24,25,26,27,28,29,30,31,32,33,34,35,36,37,38,39,40] ((⟨fun g=>[(22,.int .i64 ((g.1.1:Nat):Int))],fun g=>⟨b3,[a'.mine.places.val,a'.mine.roads.val,a'.fans.val,a'.doors.val,(⟨o11,s.sensors.l⟩:OwL XSens).val,(⟨o14,s.conds.l⟩:OwL XCond).val,g.1.2.1.val,(⟨o17,s.persons.l⟩:OwL Int).val],38⟩ :: (g.1.2.1.L 97 XZone.cells ++ (⟨b2,[.slice none 0 0,.slice none 0 0,.slice none 0 0,.slice none 0 0,.slice none 0 0,.slice none 0 0,.slice none 0 0,.slice none 0 0],38⟩ :: ⟨b1,s.cells,38⟩ :: L)),fun g=>g.1.2.2,fun g=>s.zones.l.length - g.1.1⟩:Head {g:Nat×OwL XZone×List Sl // g.1≤s.zones.l.length∧ZonesC s.zones.l g.1 R1 g.2.1 g.2.2})) (⟨(0,OwL.nil,R1),by dsimp only;omega,⟨OwL.nil_ok,rfl,rfl,fun f hf=>(by cases hf),Jc _⟩⟩) zg zU zqb ?_
  rintro ⟨⟨k,pz,S⟩,hk,hZ⟩ junk
  try dsimp only
  dsimp only at hk hZ
  have hZok:=hZ.ok
  have hZn:=hZ.len
  have hzR3:=hzR2.mono hZ.ext
  refine Xak ?_
  refine q_c (fun hc0=>?_) (fun hc0=>?_)
  ·
   have hg:=Jw (l:=s.zones.l) (k:=k) default za
   obtain ⟨x,hx⟩:∃x,x=s.zones.l.getD k default:=⟨_,rfl⟩
   rw [← hx] at hg
   have hxr:=InR.rule hzR3 hg
   have hxz:=InR.zroads hzR3 hg
   have hxs:=Uud (hok.zone x (List.mem_of_getElem? hg))
   refine qbb ?_
   refine Kff ?_
   refine Xcv ?_
   intro b5
   refine Xc2 ?_
   refine Kj tb [] [0,1,3,4,2,6,5] [7,8,9] (_) _ K1 ze zi (List.nil_sublist _) ?_
   refine Xar ?_
   refine Xar ?_
   refine Y6c (Km (f:=XNode.cells) (xs:=x.rule) tb rfl rfl rfl zc rfl rfl (hxr) (fun _=>rfl) za) rfl rfl rfl ?_
   rintro v L' R' ⟨o28,rfl,hok28,rfl,rfl⟩
   refine qa1 ?_
   refine qan ?_
   refine Vi rfl (Zea x.roads _ _ hxz za) rfl rfl ?_
   rintro v L' R' ⟨od,rfl,hokd,rfl,rfl⟩
   refine ⟨zi,zw,?_⟩
   refine qba ?_
   refine qbw ?_
   refine Xc0 ?_
   refine J1 (Jb (Jh ?_))
   refine Xaa ?_
   refine qa8 ?_
   refine Kdf ?_
   rintro v L' R' ⟨b37,rfl,rfl,hR37⟩
   replace hR37:=hR37.symm;subst hR37
   refine Y9 (J8 (f:=XZone.cells) (p:=pz) (a:=⟨(⟨o28,x.rule.l⟩:OwL XNode).arr,x.hold,(⟨od,x.roads.l⟩:OwL Int).arr,x.fresh⟩) tb rfl rfl rfl rfl (hZok) zj zsb rfl zy) rfl ?_
   rintro v L' R' ⟨o38,rfl,hok38,rfl,rfl⟩
   refine Xbp ?_
   refine J6 (Ji (Jb ?_))
   refine Kd (T:=172) (f:=XNode.cells) (wd:=4) (⟨o28,x.rule.l⟩:OwL XNode) [] zj (fun _=>rfl) zc hok28 (fun s hs=>by cases hs) ?_
   refine Uv zp ?_
   refine Kd (T:=3) (f:=Jp) (wd:=1) (⟨od,x.roads.l⟩:OwL Int) [] zj (fun _=>rfl) zc hokd (fun s hs=>by cases hs) ?_
   refine Uv zp ?_
   refine qay ?_
   refine Xae ?_
   exact q_k ⟨(k + 1,⟨o38,pz.l ++ [_]⟩,_),by dsimp only;omega,hZ.next (y:=⟨(⟨o28,x.rule.l⟩:OwL XNode).arr,x.hold,(⟨od,x.roads.l⟩:OwL Int).arr,x.fresh⟩) hg rfl hok38⟩
  obtain rfl:k=s.zones.l.length:=by omega
  refine Kd (T:=97) (f:=XZone.cells) (wd:=4) pz (pz.l.flatMap XZone.subs) zj (fun _=>rfl) zc hZ.ok (fun s hs=>by
    obtain ⟨f,hf,hs⟩:=List.mem_flatMap.1 hs
    exact hZ.sub f hf s hs) ?_
  refine Uv zp ?_
  refine qbk ?_
  refine U1f ?_
  refine Xbr ?_
  refine Ks (L':=L) (R':=(J6e pz.arr :: S) ++ R) (Ya rfl (Jm (row:=[_,_,_,_,_,_,_,_]) tb rfl rfl rfl zf zb zb)) ?hp ?hL ?hR
  case hp=>
   exact ⟨⟨a',(⟨o11,s.sensors.l⟩:OwL XSens).arr,(⟨o14,s.conds.l⟩:OwL XCond).arr,pz.arr,(⟨o17,s.persons.l⟩:OwL Int).arr⟩,J6e pz.arr :: S,rfl,by
   show Kw _=Kw _
   rw [Kw,Kw]
   refine congr (congr (congr (congr (congrArg XSite.mk hba) rfl) rfl) ?_) rfl
   show (⟨none,0,pz.l.map Ysb⟩:Arr XZone)=_
   rw [hZ.eq,List.take_of_length_le (Nat.le_refl _)],by
   have h5:∀r∈R1,InR r ((J6e pz.arr :: S) ++ R):=fun r hr=>(hZ.ext r hr).mono fun r hr=>Ja (.tail _ (List.mem_append_left _ hr))
   exact ⟨Jma haR2 h5,hOS.mono h5,hOC.mono h5,Ja (.head _),hOPS.mono h5⟩,rfl,rfl⟩
  case hL=>exact zi
  case hR=>
   exact fun r hr=>by
     rcases List.mem_append.1 hr with h | h
     · exact Ja h
     · exact (((hRa r h).mono hR1).mono hZ.ext).mono fun r hr=>Ja (.tail _ hr)
structure StaK (x:XSta) (s:XSite) (h:Arr Int) (w:Arr XWatch) (c:Arr XCut) (f:XFeeder) (pm:OwL XMeas) (pl:OwL XEntry) (R:List Sl):Prop where
  km:pm.ok 4 XMeas.cells
  kl:pl.ok 4 XEntry.cells
  es:SiteE s x.site
  eh:h.l=x.held.l
  ew:w.l=x.watches.l
  ec:c.l=x.cuts.l
  esw:f.switches.l=x.feeder.switches.l
  ezn:f.zones.l=x.feeder.zones.l
  erp:f.reply=x.feeder.reply
  em:pm.l=x.meas.l
  el:pl.l=x.log.l
  site:SiteR s R
  held:InR (bsl h) R
  watches:InR (U1d w) R
  cuts:InR (Kwc c) R
  feeder:FeederR f R
theorem StaK.is {x:XSta} {s:XSite} {h:Arr Int} {w:Arr XWatch} {c:Arr XCut} {f:XFeeder} {pm:OwL XMeas} {pl:OwL XEntry} {R:List Sl} (k:StaK x s h w c f pm pl R) {g:PSite} {p:PSta} (hx:StaIs g p x):StaIs g p ⟨s,x.time,h,x.dropped,pm.arr,w,c,f,x.rest,pl.arr⟩:=
  ⟨k.es.trans hx.site,hx.time,k.eh.trans hx.held,hx.dropped,k.em.trans hx.meas,k.ew.trans hx.watches,k.ec.trans hx.cuts,k.esw.trans hx.sw,k.ezn.trans hx.zn,k.erp.trans hx.rp,hx.rest,k.el.trans hx.log⟩
structure StaN (x:XSta):Prop where
  ok:K2 x.site=0
  held:x.held.l.length≤1000
  meas:x.meas.l.length≤1000
  watches:x.watches.l.length≤1000
  cuts:x.cuts.l.length≤1000
  sw:x.feeder.switches.l.length≤1000
  zn:x.feeder.zones.l.length≤1000
  log:x.log.l.length≤1000
theorem StaN.of {g:PSite} {p:PSta} {x:XSta} (hI:Inv g p) (hx:StaIs g p x):StaN x:=by
  have hln:=hI.sok.len
  exact ⟨by rw [hx.site.err];exact hI.site,by rw [hx.held];have:=hI.held.2;omega,by rw [hx.meas,hI.meas];omega,by rw [hx.watches,hI.wlen];omega,by rw [hx.cuts,hI.clen];omega,by rw [hx.sw];have:=hI.fok.sn;omega,by rw [hx.zn];have:=hI.fok.zl;omega,by rw [hx.log];have:=hI.log;omega⟩
structure StaKO (x:XSta) (s:XSite) (h:Arr Int) (f:XFeeder) (pm:OwL XMeas) (pw:OwL XWatch) (pc:OwL XCut) (pl:OwL XEntry) (R:List Sl):Prop where
  km:pm.ok 4 XMeas.cells
  kw:pw.ok 3 XWatch.cells
  kc:pc.ok 3 XCut.cells
  kl:pl.ok 4 XEntry.cells
  es:SiteE s x.site
  eh:h.l=x.held.l
  ew:pw.l=x.watches.l
  ec:pc.l=x.cuts.l
  esw:f.switches.l=x.feeder.switches.l
  ezn:f.zones.l=x.feeder.zones.l
  erp:f.reply=x.feeder.reply
  em:pm.l=x.meas.l
  el:pl.l=x.log.l
  site:SiteR s R
  held:InR (bsl h) R
  feeder:FeederR f R
theorem Z3a (x:XSta) (L:List Blk) (R:List Sl) (hN:StaN x) (hR:StaR x R):
    Tri Tryz.prog 76 [x.val].toArray L R (fun v L' R'=>∃(s:XSite) (h:Arr Int) (f:XFeeder) (pm:OwL XMeas) (pw:OwL XWatch) (pc:OwL XCut) (pl:OwL XEntry) (S:List Sl),v=(⟨s,x.time,h,x.dropped,pm.arr,pw.arr,pc.arr,f,x.rest,pl.arr⟩:XSta).val∧StaKO x s h f pm pw pc pl (S ++ R)∧pl.L 150 XEntry.cells ++ (pc.L 71 XCut.cells ++ (pw.L 153 XWatch.cells ++ (pm.L 93 XMeas.cells ++ L)))=L'∧S ++ R=R'):=by
  have h1:=hN.held
  have h2:=hN.meas
  have h3:=hN.watches
  have h4:=hN.cuts
  have h5:=hN.sw
  have h6:=hN.zn
  have h7:=hN.log
  have hsR:=hR.site
  refine Jg 42 Tryz.call76 Tryz.func76 rfl rfl rfl ?_
  refine Xag ?_
  intro b1
  refine qaq ?_
  intro b2
  refine qam ?_
  refine qab ?_
  refine U1f ?_
  refine Js rfl (Knc x.site _ _ hsR hN.ok) rfl ?_
  rintro v L' R' ⟨s',Ss,rfl,hsE,hsR1,rfl,rfl⟩
  have hRs:∀r∈R,InR r (Ss ++ R):=fun r hr=>Ja (List.mem_append_right _ hr)
  have k1:=hR.held.mono hRs
  have k2:=hR.meas.mono hRs
  have k3:=hR.watches.mono hRs
  have k4:=hR.cuts.mono hRs
  have k5:=hR.feeder.sw.mono hRs
  have k6:=hR.feeder.zn.mono hRs
  have k7:=hR.log.mono hRs
  refine qab ?_
  refine Kca tb rfl rfl rfl rfl zA zb zb zb ?_
  refine qam ?_
  refine qab ?_
  refine Xaa ?_
  refine Y9 (Km (f:=Zw) (xs:=x.held) tb rfl rfl rfl zc rfl rfl (k1) (fun _=>rfl) za) rfl ?_
  rintro v L' R' ⟨o10,rfl,hok10,rfl,rfl⟩
  refine qab ?_
  refine Xbp ?_
  refine Xch ?_
  refine Y9 (Km (f:=XMeas.cells) (xs:=x.meas) tb rfl rfl rfl zc rfl rfl (k2) (fun _=>rfl) za) rfl ?_
  rintro v L' R' ⟨o15,rfl,hok15,rfl,rfl⟩
  refine Xbp ?_
  refine Xch ?_
  refine Y9 (Km (f:=XWatch.cells) (xs:=x.watches) tb rfl rfl rfl zc rfl rfl (k3) (fun _=>rfl) za) rfl ?_
  rintro v L' R' ⟨o19,rfl,hok19,rfl,rfl⟩
  refine Xbp ?_
  refine Xch ?_
  refine Y9 (Km (f:=XCut.cells) (xs:=x.cuts) tb rfl rfl rfl zc rfl rfl (k4) (fun _=>rfl) za) rfl ?_
  rintro v L' R' ⟨o23,rfl,hok23,rfl,rfl⟩
  refine Xbp ?_
  refine qam ?_
  refine qab ?_
  refine Xaa ?_
  refine Y9 (Km (f:=XSwitch.cells) (xs:=x.feeder.switches) tb rfl rfl rfl zc rfl rfl (k5) (fun _=>rfl) za) rfl ?_
  rintro v L' R' ⟨o28,rfl,hok28,rfl,rfl⟩
  refine qab ?_
  refine Xbp ?_
  refine qam ?_
  refine qab ?_
  refine Xaa ?_
  refine Js rfl (Zea x.feeder.zones _ _ k6 za) rfl ?_
  rintro v L' R' ⟨od,rfl,hokd,rfl,rfl⟩
  refine qab ?_
  refine Xbp ?_
  refine Xch ?_
  refine Y9 (Km (f:=XEntry.cells) (xs:=x.log) tb rfl rfl rfl zc rfl rfl (k7) (fun _=>rfl) za) rfl ?_
  rintro v L' R' ⟨o39,rfl,hok39,rfl,rfl⟩
  refine Xbp ?_
  refine qa4 ?_
  refine Kd (T:=3) (f:=Jp) (wd:=1) (⟨od,x.feeder.zones.l⟩:OwL Int) [] zj (fun _=>rfl) zc hokd (fun s hs=>by cases hs) ?_
  refine Uv zp ?_
  refine Kd (T:=76) (f:=XSwitch.cells) (wd:=5) (⟨o28,x.feeder.switches.l⟩:OwL XSwitch) [] zj (fun _=>rfl) zc hok28 (fun s hs=>by cases hs) ?_
  refine Uv zp ?_
  refine Kd (T:=5) (f:=Zw) (wd:=1) (⟨o10,x.held.l⟩:OwL Int) [] zj (fun _=>rfl) zc hok10 (fun s hs=>by cases hs) ?_
  refine Uv zp ?_
  refine qay ?_
  refine Jx zjb rfl ?_
  refine Xbr ?_
  refine q_r (L':=(⟨o39,x.log.l⟩:OwL XEntry).L 150 XEntry.cells ++ ((⟨o23,x.cuts.l⟩:OwL XCut).L 71 XCut.cells ++ ((⟨o19,x.watches.l⟩:OwL XWatch).L 153 XWatch.cells ++ ((⟨o15,x.meas.l⟩:OwL XMeas).L 93 XMeas.cells ++ L)))) (R':=(bsl (⟨o10,x.held.l⟩:OwL Int).arr :: Vhb (⟨o28,x.feeder.switches.l⟩:OwL XSwitch).arr :: isl (⟨od,x.feeder.zones.l⟩:OwL Int).arr :: Ss) ++ R) (Ya rfl zgb) ?_
  exact ⟨s',(⟨o10,x.held.l⟩:OwL Int).arr,⟨(⟨o28,x.feeder.switches.l⟩:OwL XSwitch).arr,(⟨od,x.feeder.zones.l⟩:OwL Int).arr,x.feeder.reply⟩,(⟨o15,x.meas.l⟩:OwL XMeas),⟨o19,x.watches.l⟩,⟨o23,x.cuts.l⟩,(⟨o39,x.log.l⟩:OwL XEntry),bsl (⟨o10,x.held.l⟩:OwL Int).arr :: Vhb (⟨o28,x.feeder.switches.l⟩:OwL XSwitch).arr :: isl (⟨od,x.feeder.zones.l⟩:OwL Int).arr :: Ss,rfl,⟨hok15,hok19,hok23,hok39,hsE,rfl,rfl,rfl,rfl,rfl,rfl,rfl,rfl,hsR1.mono fun r hr=>Ja (.tail _ (.tail _ (.tail _ hr))),Ja (.head _),⟨Ja (.tail _ (.head _)),Ja (.tail _ (.tail _ (.head _)))⟩⟩,rfl,rfl⟩
theorem Y8 (x:XSta) (L:List Blk) (R:List Sl) (hN:StaN x) (hR:StaR x R):
    Tri Tryz.prog 76 [x.val].toArray L R (fun v L' R'=>∃(s:XSite) (h:Arr Int) (w:Arr XWatch) (c:Arr XCut) (f:XFeeder) (pm:OwL XMeas) (pl:OwL XEntry) (S:List Sl),v=(⟨s,x.time,h,x.dropped,pm.arr,w,c,f,x.rest,pl.arr⟩:XSta).val∧StaK x s h w c f pm pl (S ++ R)∧pl.L 150 XEntry.cells ++ (pm.L 93 XMeas.cells ++ L)=L'∧S ++ R=R'):=by
  refine Tri.postW (Z3a x L R hN hR) ?_
  rintro v L' R' c w ⟨s,h,f,pm,pw,pc,pl,S,hv,hK,rfl,rfl⟩ hst
  have h1:=hst.perm (List.perm_append_comm_assoc _ _ _)
  have h2:=h1.frzO (subs:=[]) hK.kc (fun _=>rfl) zc (fun s hs=>by cases hs)
  have h3:=h2.perm (List.perm_append_comm_assoc _ _ _)
  have h4:=h3.frzO (subs:=[]) hK.kw (fun _=>rfl) zc (fun s hs=>by cases hs)
  have h5:∀r∈S ++ R,InR r ((U1d pw.arr :: Kwc pc.arr :: S) ++ R):=fun r hr=>Ja (.tail _ (.tail _ hr))
  exact ⟨_,_,h4,s,h,pw.arr,pc.arr,f,pm,pl,U1d pw.arr :: Kwc pc.arr :: S,hv,⟨hK.km,hK.kl,hK.es,hK.eh,hK.ew,hK.ec,hK.esw,hK.ezn,hK.erp,hK.em,hK.el,hK.site.mono h5,hK.held.mono h5,Ja (.head _),Ja (.tail _ (.head _)),hK.feeder.mono h5⟩,rfl,rfl⟩
end Go.Proofs.YtchfclmokpbldaaGreat
