/-
  Texts of one chapter, merged. By an AI agent; no person has read it.
-/
import Derived.Test.YtchfclmokpbldaaGreatFeedW
import Derived.Test.YtchfclmokpbldaaGreatFeedV
import Derived.Test.YtchfclmokpbldaaGreatDrawS
import Derived.Test.YtchfclmokpbldaaGreatSetZ
import Derived.Test.YtchfclmokpbldaaGreatIntsB
import Derived.Test.YtchfclmokpbldaaGreatCongrS
import Derived.Test.YtchfclmokpbldaaGreatRoundA
import Derived.Test.YtchfclmokpbldaaGreatFits
import Derived.Test.YtchfclmokpbldaaGreatRows
set_option linter.unusedVariables false
set_option linter.unusedSimpArgs false
set_option maxRecDepth 20000
namespace Go.Proofs.YtchfclmokpbldaaGreat
open Go.Aw Go
section
attribute [local irreducible] CJ LJ DJ Tri YV Gives U7 Kb Kp U8 RV Ke OwL.L
section
variable {A9 B9:Prop}
theorem Zte (a:A9) (h:A9→B9:=by exact J0 (Jn (row:=[_,_,_]) tb rfl rfl rfl (by repeat (first | exact zi0 | apply zi1 | apply zi2)) (by rfl) (by rfl)) rfl):B9:=h a
theorem Yxe (a:A9) (h:A9→B9:=by exact Kq (Jn (row:=[_,_,_,_,_,_,_,_,_,_,_,_,_,_,_,_,_,_,_,_,_,_,_]) tb rfl rfl rfl (by repeat (first | exact zi0 | apply zi1 | apply zi2)) (by rfl) (by rfl)) rfl rfl rfl):B9:=h a
theorem Khg (a:A9) (h:A9→B9:=by exact J0 (Jn (row:=[_,_,_,_,_,_,_,_]) tb rfl rfl rfl (by repeat (first | exact zi0 | apply zi1 | apply zi2)) (by rfl) (by rfl)) rfl):B9:=h a
theorem Jeg (a:A9) (h:A9→B9:=by exact J0 (Jn (row:=[_,_,_,_,_,_,_,_,_,_,_,_,_,_,_,_,_,_,_,_,_,_,_]) tb rfl rfl rfl (by repeat (first | exact zi0 | apply zi1 | apply zi2)) (by rfl) (by rfl)) rfl):B9:=h a
end
theorem Ytc {s:XSite} {f:XFeeder} {A:List Bool} {a b:XSta} {L:List Blk} {R:List Sl} (hA:AiryIs s.air.mine A) (h1:StaR a R) (h2:StaR b R) (ha:Ym s f=0→StaIs (gOf s f A) (Zhb s f) a) (hb:Ym s f=0→StaIs (gOf s f A) (Zhb s f) b) (za:Ym s f≠0→a=staZ) (zb:Ym s f≠0→b=staZ):
    Tri Tryz.prog 53 [a.val,b.val].toArray L R (fun v M U=>v=.bool true∧L=M∧R=U):=by
  rcases Classical.em (Ym s f=0) with h | h
  · exact StaIs.same (Y0a h hA) (ha h) (hb h) h1 h2
  · obtain rfl := za h
    obtain rfl:=zb h
    exact Zpb staZ staZ L R h1 h2 (fun x hx=>(by cases hx)) rfl rfl rfl rfl rfl rfl ⟨rfl,rfl,rfl⟩ rfl rfl ⟨rfl,rfl⟩ rfl ⟨Nat.zero_le _,Nat.zero_le _⟩
theorem K1d {s:XSite} {f:XFeeder} {A:List Bool} {b:XSta} {L:List Blk} {R:List Sl} (hA:AiryIs s.air.mine A) (h2:StaR b R) (hn:InR (isl ⟨none,0,[]⟩) R) (hb:Ym s f=0→StaIs (gOf s f A) (Zhb s f) b) (zb:Ym s f≠0→b=staZ):
    Tri Tryz.prog 54 [b.val].toArray L R (fun v M U=>∃pf pd:Arr Int,v=.agg #[pf.val,pd.val]∧(Ym s f=0→pf.l=Vaa b.site b.meas.l b.time b.site.air.fans.l.length∧pd.l=J6a b.site b.meas.l b.time b.site.air.doors.l.length)∧(InR (isl pf) U∧InR (isl pd) U∧∀r∈R,InR r U)∧L=M):=by
  rcases Classical.em (Ym s f=0) with h | h
  · exact (Zub b L R (StaV.of (Y0a h hA) (hb h) h2.site h2.meas)).mono fun v M U ⟨pf,pd,e1,e2,e3,e4,e5⟩=>⟨pf,pd,e1,fun _=>⟨e2,e3⟩,⟨by rw [← e5];exact Jb (.tail _ (.head _)),by rw [← e5];exact Jb (.head _),fun r hr=>by rw [← e5];exact Jb (.tail _ (.tail _ hr))⟩,e4⟩
  · obtain rfl := zb h
    exact (Zne L R).mono fun v M U ⟨e1,e4,e5⟩=>⟨⟨none,0,[]⟩,⟨none,0,[]⟩,e1,fun h9=>absurd h9 h,⟨by rw [← e5];exact hn,by rw [← e5];exact hn,fun r hr=>by rw [← e5];exact Jb hr⟩,e4⟩
theorem Z7b {s:XSite} {f:XFeeder} {A:List Bool} {b:XSta} {L:List Blk} {R:List Sl} (hA:AiryIs s.air.mine A) (h2:StaR b R) (hn:InR (isl ⟨none,0,[]⟩) R) (hb:Ym s f=0→StaIs (gOf s f A) (Zhb s f) b) (zb:Ym s f≠0→b=staZ):
    Tri Tryz.prog 55 [b.val].toArray L R (fun v M U=>∃pf pd:Arr Int,v=.agg #[pf.val,pd.val]∧(Ym s f=0→pf.l=Vaa b.site b.meas.l b.time b.site.air.fans.l.length∧pd.l=J6a b.site b.meas.l b.time b.site.air.doors.l.length)∧(InR (isl pf) U∧InR (isl pd) U∧∀r∈R,InR r U)∧L=M):=by
  rcases Classical.em (Ym s f=0) with h | h
  · exact (Z9a b L R (StaV.of (Y0a h hA) (hb h) h2.site h2.meas)).mono fun v M U ⟨pf,pd,e1,e2,e3,e4,e5⟩=>⟨pf,pd,e1,fun _=>⟨e2,e3⟩,⟨by rw [← e5];exact Jb (.tail _ (.head _)),by rw [← e5];exact Jb (.head _),fun r hr=>by rw [← e5];exact Jb (.tail _ (.tail _ hr))⟩,e4⟩
  · obtain rfl := zb h
    exact (Kkd L R).mono fun v M U ⟨e1,e4,e5⟩=>⟨⟨none,0,[]⟩,⟨none,0,[]⟩,e1,fun h9=>absurd h9 h,⟨by rw [← e5];exact hn,by rw [← e5];exact hn,fun r hr=>by rw [← e5];exact Jb hr⟩,e4⟩
set_option maxHeartbeats 1000000 in
theorem U9b (y:Arr Int) (raw:XFeeder) (by_:Int) (R:List Sl) (hy:CodesR y R) (hraw:FeederR raw R) (hby:I64 by_):
    Tri Tryz.prog 6 [y.val,raw.val,.int .i64 by_].toArray [] R (fun v M U=>v=.bool true∧[]=M∧R=U):=by
  refine Jd 118 Tryz.call6 Tryz.func6 rfl rfl rfl ?_
  apply (Xag)
  intro b4
  apply (Xdm)
  apply (Xb5)
  apply (qah)
  apply J3 (G:=[_,_,_,_]) (j:=4) (cj:=24) rfl rfl (by rfl) rfl (show _=Value.bool _ from rfl) rfl
  ·
   intro hg5
   replace hg5:=qb hg5
   apply (Xb5)
   exact qai
  intro junk5
  apply (qaf)
  refine q_c (fun hc0=>?_) (fun hc0=>?_)
  ·
   apply (qae)
   refine q_l rfl (V7b _ _) ?_
   apply (qaz)
   apply (qbh)
   refine q_b (M:=[]) (U:=R) ?_
   exact ⟨rfl,rfl,rfl⟩
  apply (Xdx)
  refine Ju rfl (Jte y _ _ hy) rfl ?_
  rintro v M U ⟨c,rfl,hx,rfl,rfl⟩
  apply (qc1)
  apply (Xd9)
  refine Ju rfl (Tri.spl (.consL (.consB .nil)) (Zqc c _ 0 _ hx (Nat.zero_le _))) rfl ?_
  rintro v M U ⟨_,rfl,s,u0,z0,k1,rfl,hsd,hk1,⟨hs,_,_,hR1⟩,rfl⟩
  refine J0 (J2 rfl) rfl ?_
  iterate 3 apply (qbs)
  apply (qaq)
  intro b8
  apply (qaq)
  intro b9
  apply (qaq)
  intro b10
  iterate 3 apply (qak)
  apply (qa4)
  have hx1:CodesR (K0a y) U:=⟨hx.1.mono hR1,hx.2⟩
  have hnz:=hsd.nzone
  have hrawR:=hraw.mono fun r hr=>hR1 r (.tail _ hr)
  refine Kpa (M:=⟨b8,s.cells,38⟩ :: ⟨b4,raw.cells,42⟩ :: cblk c (K0a y) k1 :: []) (by repeat (first | exact zs0 _ | exact zs1 _ | apply zs2 | apply zs3 | apply zs4 | apply zs5)) (Jc _) ?_
  refine Kg tb [0,1,2,3,4,6,5,7,8,9,10,11,12] ([Blk.mk b8 _ _,Blk.mk b4 _ _]) Kn (by kernel_rfl) (by repeat (first | exact zs0 _ | exact zs1 _ | apply zs2 | apply zs3 | apply zs4 | apply zs5)) ?_
  apply (qb8)
  apply (Xae)
  refine Kq (Yr tb rfl rfl rfl) rfl rfl rfl ?_
  apply (qb8)
  apply (qb8)
  refine Vn rfl (Zx (by repeat (first | apply USeg.here | apply USeg.cons | apply USeg.app)) hx1 hk1 (by omega)) rfl rfl ?_
  rintro v M U ⟨r1,k2,rfl,g1,g1',g1'',hk2,rfl,rfl⟩
  refine ⟨(by repeat (first | exact zs0 _ | exact zs1 _ | apply zs2 | apply zs3 | apply zs4 | apply zs5)),(by first | exact Jc _ | assumption | exact (fun r h=>Jb (by simp [h]))),?_⟩
  have g1q:=g1' (by omega)
  refine Vn rfl (Zx (by repeat (first | apply USeg.here | apply USeg.cons | apply USeg.app)) hx1 hk2 (by omega)) rfl rfl ?_
  rintro v M U ⟨r2,k3,rfl,g2,g2',g2'',hk3,rfl,rfl⟩
  refine ⟨(by repeat (first | exact zs0 _ | exact zs1 _ | apply zs2 | apply zs3 | apply zs4 | apply zs5)),(by first | exact Jc _ | assumption | exact (fun r h=>Jb (by simp [h]))),?_⟩
  have g2q:=g2' (by omega)
  have hmul:0≤r1 * r2∧r1 * r2≤1:=by
    have h1:r1=0∨r1=1:=by omega
    rcases h1 with rfl | rfl
    · rw [Int.zero_mul];omega
    · rw [Int.one_mul];omega
  obtain ⟨nn,hnn⟩:∃nn:Nat,(s.zones.l.length:Int) + r1 * r2=(nn:Int):=⟨(s.zones.l.length:Int) + r1 * r2 |>.toNat,by omega⟩
  have hnb:nn≤4:=by omega
  apply (qdh)
  apply (qc2)
  rw [hnn]
  refine Vn rfl (Tri.spl (.consB (.consB (.consL .nil))) (Znb c _ k3 nn _ hx1 hk3 (by omega))) rfl rfl ?_
  rintro v M U ⟨_,rfl,pw,pz,rp,k4,rfl,⟨hpwk,hpzk⟩,hpwn,hpzn,hpfe,hps,hk4,rfl,rfl⟩
  refine ⟨(by repeat (first | exact zs0 _ | exact zs1 _ | apply zs2 | apply zs3 | apply zs4 | apply zs5)),(by first | exact Jc _ | assumption | exact (fun r h=>Jb (by simp [h]))),?_⟩
  apply (qbr)
  intro b11
  apply (qbg)
  apply (qc6)
  apply (qa6)
  refine Ju rfl (Kte (by repeat (first | apply USeg.here | apply USeg.cons | apply USeg.app)) hx1 hk4 (by omega)) rfl ?_
  rintro v M U ⟨bo,k5,rfl,hk5,rfl,rfl⟩
  apply (qaf)
  refine Vu [52,53,54,55,56] ((⟨fun _=>[],fun g=>⟨b11,[pw.val,pz.val,.int .i64 rp],42⟩ :: ⟨b8,s.cells,38⟩ :: ⟨b4,raw.cells,42⟩ :: (pz.L 3 Jj ++ ((⟨pw.o,g.1⟩:OwL XSwitch).L 76 XSwitch.cells ++ (cblk c (K0a y) k5 :: []))),fun _=>U,fun _=>0⟩:Head {l:List XSwitch // l.length=pw.l.length})) ?_ ?_
  ·
   skip
   refine q_c (fun hc1=>?_) (fun hc1=>?_)
   ·
    have hp0:=Js (l:=pw.l) (k:=0) default (by omega)
    apply (qay)
    apply (Xaf)
    refine J0 (Jo tb (pw) _ rfl rfl rfl rfl (by assumption) (i:=0) (by first | rfl | omega | (simp;omega)) (by first | omega | (dsimp only;omega) | (dsimp only;rw [List.length_set];omega) | (dsimp only;simp only [List.length_set];omega))) rfl ?_
    apply (qb0)
    refine V5 (Jp tb (pw) (⟨(pw.l.getD 0 default).above,by_,(pw.l.getD 0 default).shown,(pw.l.getD 0 default).closed,(pw.l.getD 0 default).late⟩) rfl rfl rfl rfl (by repeat (first | apply OSeg.cons | exact OSeg.here | exact OSeg.last | exact OSeg.at (by assumption) | apply OSeg.app)) (by assumption) (fun _=>rfl) (by assumption) (by decide) (by rfl) (by rfl)) ?_
    rintro v M U ⟨rfl,rfl⟩
    apply (qav)
    exact q_j ⟨pw.l.set 0 _,List.length_set⟩
   refine Jt ?_
   exact q_j ⟨pw.l,rfl⟩
  rintro ⟨l2,hl2⟩ junk
  try dsimp only
  refine Kt (T:=3) (f:=Jj) (wd:=1) pz [] (by repeat (first | apply OSeg.cons | exact OSeg.here | exact OSeg.last | exact OSeg.at (by assumption) | apply OSeg.app)) (fun _=>rfl) (by decide) hpzk (fun s hs=>by cases hs) ?_
  refine Kt (T:=76) (f:=XSwitch.cells) (wd:=5) (⟨pw.o,l2⟩:OwL XSwitch) [] (by repeat (first | apply OSeg.cons | exact OSeg.here | exact OSeg.last | exact OSeg.at (by assumption) | apply OSeg.app)) (fun _=>rfl) (by decide) (OwL.len_ok (fun _=>rfl) hpwk hl2) (fun s hs=>by cases hs) ?_
  refine V9c 1 ?_
  have hcv:pw.val=(⟨pw.o,l2⟩:OwL XSwitch).val:=by simp only [OwL.val,hl2]
  rw [hcv]
  refine Kpa (M:=⟨b11,[(⟨pw.o,l2⟩:OwL XSwitch).val,pz.val,.int .i64 rp],42⟩ :: ⟨b8,s.cells,38⟩ :: ⟨b4,raw.cells,42⟩ :: []) (by repeat (first | exact zs0 _ | exact zs1 _ | apply zs2 | apply zs3 | apply zs4 | apply zs5)) (Jc _) ?_
  obtain ⟨f,hfe⟩:∃f:XFeeder,f=⟨(⟨pw.o,l2⟩:OwL XSwitch).arr,pz.arr,rp⟩:=⟨_,rfl⟩
  obtain ⟨R2,hR2e⟩:∃R2,R2=isl ⟨none,0,[]⟩ :: Z4b f.switches :: isl f.zones :: U:=⟨_,rfl⟩
  have hnil:InR (isl ⟨none,0,[]⟩) R2:=Jb (by rw [hR2e];exact .head _)
  have hfR:FeederR f R2:=⟨Jb (by rw [hR2e];exact .tail _ (.head _)),Jb (by rw [hR2e];exact .tail _ (.tail _ (.head _)))⟩
  have hR2:∀r∈U,InR r R2:=fun r hr=>Jb (by rw [hR2e];exact .tail _ (.tail _ (.tail _ hr)))
  have hs2:=hs.mono hR2
  have hraw2:=hrawR.mono hR2
  have hRR:∀r∈R,InR r R2:=fun r hr=>(hR1 r (.tail _ hr)).mono hR2
  obtain ⟨A,hA⟩:=K9e s.air.mine
  refine K4c (show _=R2 by rw [hR2e,hfe];rfl) ?_
  refine V4 (show _=⟨b11,f.cells,42⟩ :: ⟨b8,s.cells,38⟩ :: ⟨b4,raw.cells,42⟩ :: [] by rw [hfe];rfl) ?_
  apply (qbi)
  refine Zte ?_
  refine Zte ?_
  refine Y6 (Jr (qs:=[(0,(Value.agg _).cells.toList),(1,(Value.agg _).cells.toList)]) (out:=[_,_,_,_,_,_]) tb rfl rfl rfl rfl rfl rfl rfl) rfl ?_
  rintro v M U ⟨b59,rfl,rfl,hR59⟩
  replace hR59:=hR59.symm;subst hR59
  refine Ksa (wd:=3) (len:=2) (cap:=2) (rows:=[f.cells,raw.cells]) (subs:=[]) rfl (by decide) (by decide) (fun r hr=>by rcases List.mem_cons.1 hr with rfl | hr;rfl;rw [List.mem_singleton.1 hr];rfl) (by decide) rfl (fun s hs=>by cases hs) ?_
  apply (qag)
  apply (Xa0)
  refine Jh [(8,Value.pointer _),(59,Value.slice _ _ _),(60,Value.int _ _),(61,Value.int _ _)] (by repeat' (first | exact trivial | refine And.intro rfl ?_)) fun tq0=>?_
  obtain ⟨R3,hR3e⟩:∃R3,R3=(⟨some ⟨b59,0,none⟩,2,[f,raw]⟩:Arr XFeeder).sl 3 XFeeder.cells [] :: R2:=⟨_,rfl⟩
  have hR3:∀r∈R2,InR r R3:=fun r hr=>Jb (by rw [hR3e];exact .tail _ hr)
  have hlR:InR ((⟨some ⟨b59,0,none⟩,2,[f,raw]⟩:Arr XFeeder).sl 3 XFeeder.cells []) R3:=Jb (by rw [hR3e];exact .head _)
  refine K4c (show _=R3 by rw [hR3e];rfl) ?_
  refine q_p [6,13,14,15,16,17,18,19,61,62,63,64,65,66,67,68,69,70,71,72,73,74,75,76,77,78,79,80,81,82,83,84,85,86,87,88,89,90,91,92,93,94,95,96,97,98,99,100,101,102,103,104,105,106,107,108,109,110,111,112,113,114,115,116] ((⟨fun g=>[(61,.int .i64 ((g.1:Nat):Int))],fun _=>⟨b11,f.cells,42⟩ :: ⟨b8,s.cells,38⟩ :: ⟨b4,raw.cells,42⟩ :: [],fun _=>R3,fun g=>2 - g.1⟩:Head {k:Nat // k≤2})) (⟨0,by omega⟩) ?_
  rintro ⟨k,hk⟩ junk
  try dsimp only
  apply (Xay)
  refine q_c (fun hc2=>?_) (fun hc2=>?_)
  ·
   obtain ⟨x,hxe⟩:∃x,x=[f,raw].getD k f:=⟨_,rfl⟩
   have hxg:[f,raw][k]?=some x:=by rw [hxe];exact Js (l:=[f,raw]) f (by simp;omega)
   have hll:[f,raw].length=2:=rfl
   have hxR:FeederR x R3:=by
     have:=List.mem_of_getElem? hxg
     simp only [List.mem_cons,List.not_mem_nil,or_false] at this
     rcases this with rfl | rfl
     · exact hfR.mono hR3
     · exact hraw2.mono hR3
   have hs3:=hs2.mono hR3
   apply (qbb)
   refine J0 (by first | exact Jf tb rfl rfl rfl rfl (by first | assumption | exact zr (by simp)) (i:=k) (by first | rfl | omega | (simp;omega)) (by omega) | exact Jm tb rfl rfl rfl rfl (i:=k) (by first | rfl | omega | (simp;omega)) (by omega)) rfl ?_
   apply (qdk)
   apply (qaq)
   intro b13
   apply (Xbe)
   refine Khg ?_
   refine Zte ?_
   refine Ju rfl (Yeb s x A _ _ hs3 hxR hA) rfl ?_
   rintro v M U ⟨a,S1,rfl,haR,ha0,haz,rfl,rfl⟩
   refine J0 (J2 rfl) rfl ?_
   apply (Xbq)
   apply (qaq)
   intro b14
   apply (qak)
   apply (Xar)
   refine Khg ?_
   refine Zte ?_
   refine Ju rfl (Jac s x A _ _ (hs3.mono fun r hr=>Jb (List.mem_append_right _ hr)) (hxR.mono fun r hr=>Jb (List.mem_append_right _ hr)) hA) rfl ?_
   rintro v M U ⟨b,S2,rfl,hbR,hb0,hbz,rfl,rfl⟩
   refine J0 (J2 rfl) rfl ?_
   apply (Xbq)
   apply (qaq)
   intro b16
   apply (qak)
   apply (Xau)
   apply (Xbu)
   apply (Xb8)
   apply J3 (G:=[_,_,_,_]) (j:=3) (cj:=80) rfl rfl (by rfl) rfl (show _=Value.bool _ from rfl) rfl
   ·
    intro hg4
    replace hg4:=qb hg4
    refine Jeg ?_
    refine Jeg ?_
    refine q_l rfl (Ytc hA (haR.mono fun r hr=>Jb (List.mem_append_right _ hr)) hbR ha0 hb0 haz hbz) ?_
    apply (qb4)
    exact qai
   intro junk4
   apply (qaf)
   refine q_c (fun hc3=>?_) (fun hc3=>?_)
   ·
    apply (Xa3)
    apply (qch)
    refine Ku (M:=[]) (U:=R) (U3 rfl (Jk (show _=Value.bool _ from rfl))) ?hp ?hL ?hR
    case hp=>exact absurd hc3 (by simp)
    case hL=>exact (by repeat (first | exact zs0 _ | exact zs1 _ | apply zs2 | apply zs3 | apply zs4 | apply zs5))
    case hR=>exact fun r hr=>(hRR r hr).mono fun r hr=>(hR3 r hr).mono fun r hr=>Jb (by simp [hr])
   apply (qcl)
   have hnb:InR (isl ⟨none,0,[]⟩) (S2 ++ (S1 ++ R3)):=(hnil.mono hR3).mono fun r hr=>Jb (by simp [hr])
   refine Kg tb [0,2,1,3,4,5,6,7] ([Blk.mk b16 _ _]) Kn (by kernel_rfl) (by repeat (first | exact zs0 _ | exact zs1 _ | apply zs2 | apply zs3 | apply zs4 | apply zs5)) ?_
   refine Yxe ?_
   refine Yxe ?_
   refine Vn rfl (K1d hA hbR hnb hb0 hbz) rfl rfl ?_
   rintro v M U ⟨pf,pd,rfl,hp,⟨hpfR,hpdR,hRa⟩,rfl⟩
   refine ⟨(by repeat (first | exact zs0 _ | exact zs1 _ | apply zs2 | apply zs3 | apply zs4 | apply zs5)),(by first | exact Jc _ | assumption | exact (fun r h=>Jb (by simp [h]))),?_⟩
   refine Vn rfl (Z7b hA (hbR.mono hRa) (hnb.mono hRa) hb0 hbz) rfl rfl ?_
   rintro v M U ⟨pf2,pd2,rfl,hq,⟨hqfR,hqdR,hRb⟩,rfl⟩
   refine ⟨(by repeat (first | exact zs0 _ | exact zs1 _ | apply zs2 | apply zs3 | apply zs4 | apply zs5)),(by first | exact Jc _ | assumption | exact (fun r h=>Jb (by simp [h]))),?_⟩
   apply (qbr)
   intro b18
   apply (qbr)
   intro b19
   apply (qbg)
   apply (qbg)
   apply (qb9)
   have hpf3:=hpfR.mono hRb
   have hpd3:=hpdR.mono hRb
   have hb3:=(hbR.mono hRa).mono hRb
   have hX:∀r∈R3,InR r U:=fun r hr=>((Jb (R:=S2 ++ (S1 ++ R3)) (by simp [hr])).mono hRa).mono hRb
   have hI:Ym s x=0→Inv (gOf s x A) (Zhb s x):=fun h=>Y0a h hA
   refine Kg tb [0,1,2,3,4,5,6,7,8,9,10,11,12,13,14,15,16,17,18,20,19,21,22,23,24,25] ([Blk.mk b19 _ _,Blk.mk b18 _ _,Blk.mk b16 _ _]) Kn (by kernel_rfl) (by repeat (first | exact zs0 _ | exact zs1 _ | apply zs2 | apply zs3 | apply zs4 | apply zs5)) ?_
   apply (qao)
   refine Kq (K9a rfl rfl) rfl rfl rfl ?_
   apply (qb2)
   refine U9 (k:=92) (show _=Value.bool _ from rfl) (fun hg2=>?_) (fun hg2=>?_)
   ·
    replace hg2:=qb hg2
    apply (Xae)
    apply (Xae)
    refine q_d rfl (Vgd pf pf2 _ _ hpf3 hqfR ((hp hg2).1.trans (hq hg2).1.symm)) ?_
    refine Kq (Uva rfl) rfl rfl rfl ?_
    apply (qb2)
    refine U9 (k:=99) (show _=Value.bool _ from rfl) (fun hg9=>?_) (fun hg9=>?_)
    ·
     replace hg9:=qb hg9
     simp at hg9
    replace hg9:=qb hg9
    apply (Xae)
    apply (Xae)
    refine q_d rfl (Vgd pd pd2 _ _ hpd3 hqdR ((hp hg2).2.trans (hq hg2).2.symm)) ?_
    refine Kq (Uva rfl) rfl rfl rfl ?_
    apply (Xb9)
    refine U9 (k:=107) (show _=Value.bool _ from rfl) (fun hg17=>?_) (fun hg17=>?_)
    ·
     replace hg17:=qb hg17
     simp at hg17
    replace hg17:=qb hg17
    refine Yxe ?_
    refine Yxe ?_
    refine Vn rfl (Kbb b (gOf s x A).air _ _ (StaV.of (hI hg2) (hb0 hg2) hb3.site hb3.meas) (SiteE.airy (hb0 hg2).site (hI hg2).airy)) rfl rfl ?_
    rintro v M U ⟨fl,rfl,hfl,rfl,rfl⟩
    refine ⟨(by repeat (first | exact zs0 _ | exact zs1 _ | apply zs2 | apply zs3 | apply zs4 | apply zs5)),(by first | exact Jc _ | assumption | exact (fun r h=>Jb (by simp [h]))),?_⟩
    refine Vn rfl (Z2c b (gOf s x A).air _ _ (StaV.of (hI hg2) (hb0 hg2) (hb3.site.mono fun r hr=>Jb (.tail _ hr)) (hb3.meas.mono fun r hr=>Jb (.tail _ hr))) (SiteE.airy (hb0 hg2).site (hI hg2).airy)) rfl rfl ?_
    rintro v M U ⟨fl2,rfl,hfl2,rfl,rfl⟩
    refine ⟨(by repeat (first | exact zs0 _ | exact zs1 _ | apply zs2 | apply zs3 | apply zs4 | apply zs5)),(by first | exact Jc _ | assumption | exact (fun r h=>Jb (by simp [h]))),?_⟩
    refine q_d rfl (Joe fl fl2 _ _ (Jb (.tail _ (.head _))) (Jb (.head _)) (hfl.trans hfl2.symm)) ?_
    refine Kq (Uva rfl) rfl rfl rfl ?_
    apply (qbp)
    apply (Xbt)
    refine q_c (fun hc4=>?_) (fun hc4=>?_)
    ·
     apply (Xci)
     refine Ku (M:=[]) (U:=R) (U3 rfl (Jk (show _=Value.bool _ from rfl))) ?hp ?hL ?hR
     case hp=>exact absurd hc4 (by simp)
     case hL=>exact (by repeat (first | exact zs0 _ | exact zs1 _ | apply zs2 | apply zs3 | apply zs4 | apply zs5))
     case hR=>
      first
        | exact fun r hr=>(hRR r hr).mono fun r hr=>(hR3 r hr).mono hX
        | exact fun r hr=>(hRR r hr).mono fun r hr=>(hR3 r hr).mono fun r hr=>(hX r hr).mono fun r hr=>Jb (.tail _ (.tail _ hr))
    apply (Xbk)
    exact Ka ⟨k + 1,by omega⟩ (by repeat (first | exact Off.refl | apply Off.upd rfl | apply Off.havoc rfl | apply Off.updL rfl | apply Off.left rfl)) (by repeat' (first | exact trivial | refine And.intro rfl ?_)) (by repeat (first | exact zs0 _ | exact zs1 _ | apply zs2 | apply zs3 | apply zs4 | apply zs5)) (by first | exact hX | exact fun r hr=>(hX r hr).mono fun r hr=>Jb (.tail _ (.tail _ hr))) (by dsimp only;omega)
   replace hg2:=qb hg2
   iterate 22 apply (qap)
   apply (Xbt)
   refine Vy rfl ?_
   apply (Xbk)
   exact Ka ⟨k + 1,by omega⟩ (by repeat (first | exact Off.refl | apply Off.upd rfl | apply Off.havoc rfl | apply Off.updL rfl | apply Off.left rfl)) (by repeat' (first | exact trivial | refine And.intro rfl ?_)) (by repeat (first | exact zs0 _ | exact zs1 _ | apply zs2 | apply zs3 | apply zs4 | apply zs5)) (by first | exact hX | exact fun r hr=>(hX r hr).mono fun r hr=>Jb (.tail _ (.tail _ hr))) (by dsimp only;omega)
  apply (qbk)
  refine q_l rfl (V7b _ _) ?_
  apply (Xbb)
  refine Ku (M:=[]) (U:=R) (U3 rfl (Jk (show _=Value.bool _ from rfl))) ?hp ?hL ?hR
  case hp=>exact ⟨rfl,rfl,rfl⟩
  case hL=>exact (by repeat (first | exact zs0 _ | exact zs1 _ | apply zs2 | apply zs3 | apply zs4 | apply zs5))
  case hR=>exact fun r hr=>(hRR r hr).mono hR3
end
section
attribute [local irreducible] CJ LJ DJ Tri YV Gives U7 Kb Kp U8 RV Ke OwL.L
theorem Kze:Opens Tryz.prog 76 XSwitch.cells (fun s=>[]) (fun _=>True):=by
  intro w cs h
  obtain ⟨hl,hf⟩:=V3c Tryz.underlying76 (m:=5) (by kernel_rfl) h
  obtain ⟨c0,c1,c2,c3,c4,rfl⟩:∃c0 c1 c2 c3 c4,cs=[c0,c1,c2,c3,c4]:=by match cs,hl with | [c0,c1,c2,c3,c4],_=>exact ⟨c0,c1,c2,c3,c4,rfl⟩
  obtain ⟨a0,e0,k0,r0⟩:=Zuc w [c0] (hf 0 _ 1 rfl (by kernel_rfl))
  obtain ⟨a1,e1,k1,r1⟩:=Zuc w [c1] (hf 1 _ 1 rfl (by kernel_rfl))
  obtain ⟨a2,e2,k2,r2⟩:=Zuc w [c2] (hf 2 _ 1 rfl (by kernel_rfl))
  obtain ⟨a3,e3,k3,r3⟩:=Kce w [c3] (hf 3 _ 1 rfl (by kernel_rfl))
  obtain ⟨a4,e4,k4,r4⟩:=Kce w [c4] (hf 4 _ 1 rfl (by kernel_rfl))
  cases e0;cases e1;cases e2;cases e3;cases e4
  refine ⟨⟨a0,a1,a2,a3,a4⟩,rfl,trivial,?_⟩
  simp only [List.mem_cons,List.not_mem_nil,or_false,forall_eq_or_imp,forall_eq,List.forall_mem_nil] at r0 r1 r2 r3 r4 ⊢
  simp
theorem Jld:Opens Tryz.prog 39 (fun x:Arr XSwitch=>[x.val]) (fun x=>[Z4b x]) (fun _=>True):=
  (Jgb (wd:=5) Tryz.underlying39 (by kernel_rfl) (by decide) (fun _=>rfl) Kze).conv (fun x=>by rw [Vvb]) (fun _ _=>trivial)
theorem J6e:Opens Tryz.prog 42 XFeeder.cells (fun s=>[Z4b s.switches,isl s.zones]) (fun _=>True):=by
  intro w cs h
  obtain ⟨hl,hf⟩:=V3c Tryz.underlying42 (m:=3) (by kernel_rfl) h
  obtain ⟨c0,c1,c2,rfl⟩:∃c0 c1 c2,cs=[c0,c1,c2]:=by match cs,hl with | [c0,c1,c2],_=>exact ⟨c0,c1,c2,rfl⟩
  obtain ⟨a0,e0,k0,r0⟩:=Jld w [c0] (hf 0 _ 1 rfl (by kernel_rfl))
  obtain ⟨a1,e1,k1,r1⟩:=Khf w [c1] (hf 1 _ 1 rfl (by kernel_rfl))
  obtain ⟨a2,e2,k2,r2⟩:=Zuc w [c2] (hf 2 _ 1 rfl (by kernel_rfl))
  cases e0;cases e1;cases e2
  refine ⟨⟨a0,a1,a2⟩,rfl,trivial,?_⟩
  simp only [List.mem_cons,List.not_mem_nil,or_false,forall_eq_or_imp,forall_eq,List.forall_mem_nil] at r0 r1 r2 ⊢
  simp_all
end
end Go.Proofs.YtchfclmokpbldaaGreat
section
/-
  The statement StationOpens: it returns true for all inputs, and the inputs read as they did. No conditions.
-/
namespace Go.Proofs.YtchfclmokpbldaaGreat
open Go.Aw Go
open Go.ChangeShapes Go.WideShapes Go.ChangeAt Go.RowKit
namespace stationOpens
theorem walk (a0:Arr Int) (a1:XFeeder) (a2:Int) (w:World) (w0:∀n∈a0.l,(Lit.int .u8 n).wf=true) (r0:∀s∈[bsl a0],Rep w (Old w) s) (w1:True) (r1:∀s∈[Z4b a1.switches,isl a1.zones],Rep w (Old w) s) (w2:(Lit.int .i64 a2).wf=true):
    Calls Tryz.prog 6 #[a0.val,a1.val,.int .i64 a2] w fun e w'=>e=.returned (.bool true)∧Below w.heap.size w w':=by
  have h:=(U9b a0 a1 a2 [bsl a0,Z4b a1.switches,isl a1.zones] ⟨Jb (by simp),fun i b hb=>Kvg (w0 b (List.mem_of_getElem? hb))⟩ ⟨Jb (by simp),Jb (by simp)⟩ (Y2f w2)).2 w (Old w) (J7e fun r hr=>by
    simp only [List.mem_cons,List.not_mem_nil,or_false] at hr
    rcases hr with rfl | rfl | rfl
    · exact r0 _ (by simp)
    · exact r1 _ (by simp)
    · exact r1 _ (by simp))
  exact h.mono fun e w' ⟨v,M,U,he,⟨hv,_,_⟩,hst⟩=>⟨by rw [he,hv],Yze hst⟩
set_option maxRecDepth 100000 in
theorem U9f (os:Os) (started:os.Started) (H:Type) (enc:TypeId×Value→H):
    ReturnsInHanded {} Tryz.checked os 6 .any (Rows.stationOpensSpec.pre6 enc Tryz.prog Tryz.f6 Rows.stationOpensRow.domain false) (Rows.stationOpensSpec.post enc Tryz.prog Tryz.f6 false true false false):=by
  refine returnsInHanded_of_change (C := Tryz.checked) Zve started (by kernel_rfl) Tryz.func6
    (ChangeSpec.witness6 (enc:=enc) (C:=Tryz.checked) false ⟨#[],#[.slice none 0 0,.agg #[.slice none 0 0,.slice none 0 0,.int .i64 0],.int .i64 0],[]⟩ 8 (by kernel_rfl) (by kernel_rfl) (by kernel_rfl) (by kernel_rfl)) ?_
  intro W base args ds gs before hval0 hW hcnd _
  have hval:∀(j:Nat) t v,Tryz.f6.params[j]?=some t→args[j]?=some v→Value.okWide Tryz.prog W .any base t v:=hval0
  have hW':=hW
  obtain ⟨p,q,hA0,hV,rfl,hfz,hnd⟩:=hW
  have hA:DataW.TrodAll enc Tryz.prog W 0 (fun _=>true) true Tryz.f6.params.toList args.toList ds p:=hA0
  rw [Tryz.params6] at hA hval
  obtain ⟨v0,vs0,d0,ds0,p0,q0,hargs,rfl,rfl,h0,t0⟩:=trodAll_cons hA
  obtain ⟨v1,vs1,d1,ds1,p1,q1,rfl,rfl,rfl,h1,t1⟩:=trodAll_cons t0
  obtain ⟨v2,vs2,d2,ds2,p2,q2,rfl,rfl,rfl,h2,t2⟩:=trodAll_cons t1
  obtain ⟨rfl,rfl,rfl⟩:=trodAll_nil t2
  obtain rfl:args=#[v0,v1,v2]:=by cases args;simp_all
  obtain ⟨rfl,rfl⟩:=trodVars_none hV
  obtain ⟨x0,y0,z0,rfl⟩:=okWide_slice Tryz.underlying22 (hval 0 22 v0 rfl rfl)
  have k0:=h0
  have lt0:∀x∈p0,x.block < W.heap.size:=by obtain ⟨m,hm⟩:=k0;exact DataW.trod_lt m _ _ _ hm
  obtain ⟨a0,e0,w0,r0⟩:∃a:Arr Int,_:=Ume W _ (by obtain ⟨m,hm⟩:=h0;exact ⟨_,_,m,_,hm⟩)
  obtain ⟨rfl,rfl,rfl⟩:x0=a0.a∧y0=a0.l.length∧z0=a0.cap:=by simpa [Value.cells,Arr.val] using e0
  obtain ⟨x1,rfl,_⟩:=okWide_struct Tryz.underlying42 (hval 1 42 v1 rfl rfl)
  have k1:=h1
  have lt1:∀x∈p1,x.block < W.heap.size:=by obtain ⟨m,hm⟩:=k1;exact DataW.trod_lt m _ _ _ hm
  obtain ⟨a1,e1,w1,r1⟩:∃a:XFeeder,_:=J6e W _ (by obtain ⟨m,hm⟩:=h1;exact ⟨_,_,m,_,hm⟩)
  obtain rfl:x1=a1.cells.toArray:=by rw [← e1];simp [Value.cells]
  obtain ⟨a2,rfl,rfl,rfl,w2⟩:=open_int Tryz.underlying3 (hval 2 3 v2 rfl rfl) h2
  clear hA0 hval0
  refine (walk a0 a1 a2 W w0 r0 w1 r1 w2).mono fun e W' ⟨he,bel⟩=>?_
  subst he
  exact ⟨_,rfl,_,_,_,[],_,[],hW',trodAll_mk1 (shut_bool Tryz.underlying4 _),(trodAll_cons_mk (Below.trod Jre (by kernel_rfl) (of_decide_eq_true (by kernel_rfl)) k0 bel lt0) (trodAll_cons_mk (Below.trod Jre (by kernel_rfl) (of_decide_eq_true (by kernel_rfl)) k1 bel lt1) (trodAll_cons_mk (shut_int Tryz.underlying3 w2) trodAll_mk0))),rfl,bel.frame _,fun h=>by cases h⟩
end stationOpens
end Go.Proofs.YtchfclmokpbldaaGreat
end
namespace Go.Proofs.YtchfclmokpbldaaGreat
open Go.Aw Go
end Go.Proofs.YtchfclmokpbldaaGreat
