/-
  The draws of chapter 20: a site with one zone. By an AI agent; no person has read it.
-/
import Derived.Test.YtchfclmokpbldaaGreatSiteD
set_option linter.unusedVariables false
set_option linter.unusedSimpArgs false
namespace Go.Proofs.YtchfclmokpbldaaGreat
open Go.Aw Go
section
variable {A9 B9:Prop}
theorem Ua (a:A9) (h:A9→B9:=by exact U6c 12 hT2 (List.nil_sublist _) ze rfl rfl rfl rfl rfl zCb):B9:=h a
theorem Uw (a:A9) (h:A9→B9:=by exact Kt rfl (Jv (qs:=[(0,(Value.agg _).cells.toList)]) (out:=[_,_,_,_,_,_]) tb rfl rfl rfl rfl rfl rfl rfl) rfl rfl):B9:=h a
theorem Yh (a:A9) (h:A9→B9:=by exact Kt rfl (Jv (qs:=[(0,(Value.agg _).cells.toList)]) (out:=[_,_,_,_,_,_,_,_]) tb rfl rfl rfl rfl rfl rfl rfl) rfl rfl):B9:=h a
theorem Yd (a:A9) (h:A9→B9:=by exact Kt rfl (Jv (qs:=[(0,(Value.agg _).cells.toList),(1,(Value.agg _).cells.toList)]) (out:=[_,_]) tb rfl rfl rfl rfl rfl rfl rfl) rfl rfl):B9:=h a
theorem Yta (a:A9) (h:A9→B9:=by exact Kt rfl (Z0c rfl (Jfd zG hx1 hk1 za)) rfl rfl):B9:=h a
theorem Yva (a:A9) (h:A9→B9:=by exact U6c 6 hT2 (List.nil_sublist _) ze rfl rfl rfl rfl rfl (Kb (qs:=[(0,(Value.int _ _).cells.toList),(1,(Value.int _ _).cells.toList),(2,(Value.int _ _).cells.toList)]) (out:=[_,_,_]) tb rfl rfl rfl rfl)):B9:=h a
theorem Yua (a:A9) (h:A9→B9:=by exact U6c 7 hT2 (List.nil_sublist _) ze rfl rfl rfl rfl rfl (Kb (qs:=[(0,(Value.int _ _).cells.toList),(3,(Value.agg _).cells.toList)]) (out:=[_,_,_,_,_,_]) tb rfl rfl rfl rfl)):B9:=h a
theorem J3f (a:A9) (h:A9→B9:=by exact Y9 zvb rfl):B9:=h a
theorem Jqf (a:A9) (h:A9→B9:=by exact Jx (Kb (qs:=[(0,(Value.int _ _).cells.toList),(3,(Value.bool _).cells.toList)]) (out:=[_,_,_,_,_]) tb rfl rfl rfl rfl) rfl):B9:=h a
theorem K4f (a:A9) (h:A9→B9:=by exact Y9 zFb rfl):B9:=h a
end
structure XSwitch where
  above:Int
  since:Int
  shown:Int
  closed:Bool
  late:Bool
  deriving Inhabited,DecidableEq
def XSwitch.cells (x:XSwitch):List Value:=[.int .i64 x.above,.int .i64 x.since,.int .i64 x.shown,.bool x.closed,.bool x.late]
abbrev XSwitch.val (x:XSwitch):Value:=.agg #[.int .i64 x.above,.int .i64 x.since,.int .i64 x.shown,.bool x.closed,.bool x.late]
structure XFeeder where
  switches:Arr XSwitch
  zones:Arr Int
  reply:Int
def XFeeder.cells (x:XFeeder):List Value:=[x.switches.val,x.zones.val,.int .i64 x.reply]
abbrev XFeeder.val (x:XFeeder):Value:=.agg #[x.switches.val,x.zones.val,.int .i64 x.reply]
abbrev Vhb (x:Arr XSwitch):Sl:=x.sl 5 XSwitch.cells []
theorem pm0 {x:Blk} {l m:List Blk} (h:l.Perm m):(x :: l).Perm (x :: m):=h.cons x
theorem pm1 {a x:Blk} {l m:List Blk} (h:(a :: l).Perm m):(a :: x :: l).Perm (x :: m):=(List.Perm.swap x a l).trans (h.cons x)
theorem pm2 {a b x:Blk} {l m:List Blk} (h:(a :: b :: l).Perm m):(a :: b :: x :: l).Perm (x :: m):=((List.Perm.swap x b l).cons a).trans (pm1 h)
theorem pm3 {a b c x:Blk} {l m:List Blk} (h:(a :: b :: c :: l).Perm m):(a :: b :: c :: x :: l).Perm (x :: m):=(((List.Perm.swap x c l).cons b).cons a).trans (pm2 h)
def Krc (len:Int):XRoad:=⟨0,1,len,4,false,false,⟨1,1⟩,⟨90000,90000⟩⟩
def easySens:XSens:=⟨0,1,0,0,1000,1,1000,60⟩
def Yq (dl:Int):XCond:=⟨1,0,0,⟨100,60,dl⟩⟩
structure EasyD (s:XSite) (len dl ho:Int):Prop where
  places:s.air.mine.places.l=[⟨0,true⟩,⟨0,true⟩]
  roads:s.air.mine.roads.l=[Krc len]
  fans:s.air.fans.l=[]
  doors:s.air.doors.l=[]
  sens:s.sensors.l=[easySens]
  conds:s.conds.l=[Yq dl]
  zone:∃z:XZone,s.zones.l=[z]∧z.rule.l=[⟨1,0,0,0⟩]∧z.hold=ho∧z.roads.l=[0]∧z.fresh=1
  zcap:s.zones.cap=1
  pers:s.persons.l=[1,2]
  rng:(1≤len∧len≤4)∧(1≤dl∧dl≤5)∧1≤ho∧ho≤5
def Uba (n:Nat):List XSwitch:=(List.range n).map fun (i:Nat)=>⟨(i:Int) - 1,0,0,true,false⟩
theorem Zjb {n:Nat}:(Uba n).length=n:=by simp [Uba]
theorem Jed {n:Nat}:Uba (n + 1)=Uba n ++ [⟨(n:Int) - 1,0,0,true,false⟩]:=by rw [Uba,List.range_succ,List.map_append];rfl
set_option maxRecDepth 20000
attribute [local irreducible] CJ LJ DJ Tri YV Gives Ui J0 Ke Uh RV J2 OwL.L
structure EJ where
  b1:Nat
  b2:Nat
  b3:Nat
  b5:Nat
set_option maxHeartbeats 4000000 in
theorem Uxc (c:Nat) (x:Arr Int) (k:Nat) (R:List Sl) (hx:CodesR x R) (hk:k≤x.l.length):
    Tri Tryz.prog 15 [.pointer (some ⟨c, 0, none⟩)].toArray [cblk c x k] R
      (fun v L' R'=>∃(s:XSite) (len dl ho:Int) (sw:OwL XSwitch) (zn:OwL Int) (n k':Nat),v=.tuple #[s.val,.agg #[sw.val,zn.val,.int .i64 3]]∧EasyD s len dl ho∧(sw.ok 5 XSwitch.cells∧zn.ok 1 Jp)∧(1≤n∧n≤3)∧sw.l=Uba n∧zn.l=[(n:Int) - 1]∧(k'≤x.l.length∧(x.l.length≤k→len=1∧dl=1∧ho=1∧n=1∧k'=k))∧(SiteR s R'∧∀r∈R,InR r R')∧sw.L 76 XSwitch.cells ++ (zn.L 3 Jp ++ (cblk c x k' :: []))=L'):=by
  refine Jg 68 Tryz.call15 Tryz.func15 rfl rfl rfl ?_
  refine qae ?_
  refine qaq ?_
  intro b2
  refine qaq ?_
  intro b3
  refine qam ?_
  refine Jx zmc rfl ?_
  refine Jx zmc rfl ?_
  refine Y9 zPb rfl ?_
  rintro v L' R' ⟨b10,rfl,rfl,hR10⟩
  replace hR10:=hR10.symm;subst hR10
  refine Jua (wd:=2) (len:=2) (cap:=2) (rows:=[XPlace.cells ⟨0,true⟩,XPlace.cells ⟨0,true⟩]) (subs:=[]) rfl zc zc (fun r hr=>by simp only [List.mem_cons,List.not_mem_nil,or_false] at hr;rcases hr with rfl | rfl <;> rfl) zc rfl (fun s hs=>by cases hs) ?_
  refine qa6 ?_
  refine Js rfl (Jfd zG (hx.mono fun r h=>Ja (.tail _ h)) hk za) rfl ?_
  rintro v L' R' ⟨r1,k1,rfl,g1,g1',hk1,he1,rfl,rfl⟩
  refine qcd ?_
  refine qcd ?_
  refine Jx (Kb (qs:=[(1,(Value.int _ _).cells.toList),(2,(Value.int _ _).cells.toList),(3,(Value.int _ _).cells.toList),(6,(Value.agg _).cells.toList),(7,(Value.agg _).cells.toList)]) (out:=[_,_,_,_,_,_,_,_,_,_]) tb rfl rfl rfl rfl) rfl ?_
  refine Y9 (Jv (qs:=[(0,(Value.agg _).cells.toList)]) (out:=[_,_,_,_,_,_,_,_,_,_]) tb rfl rfl rfl rfl rfl rfl rfl) rfl ?_
  rintro v L' R' ⟨b16,rfl,rfl,hR16⟩
  replace hR16:=hR16.symm;subst hR16
  refine Jua (wd:=10) (len:=1) (cap:=1) (rows:=[XRoad.cells (Krc r1)]) (subs:=[]) rfl zc zc (fun r hr=>by rw [List.mem_singleton.1 hr];rfl) zc rfl (fun s hs=>by cases hs) ?_
  refine Jx zyb rfl ?_
  refine qaq ?_
  intro b4
  refine Xc2 ?_
  refine K1d 4 (K1d 3 ?_)
  obtain ⟨pl,hpl⟩:∃pl:Arr XPlace,pl=⟨some ⟨b10,0,none⟩,2,[⟨0,true⟩,⟨0,true⟩]⟩:=⟨_,rfl⟩
  obtain ⟨rd,hrd⟩:∃rd:Arr XRoad,rd=⟨some ⟨b16,0,none⟩,1,[Krc r1]⟩:=⟨_,rfl⟩
  obtain ⟨R1,hR1e⟩:∃R1,R1=dsl ⟨none,0,[]⟩ :: fsl ⟨none,0,[]⟩ :: rsl rd :: psl pl :: R:=⟨_,rfl⟩
  have hR1:∀r∈R,InR r R1:=fun r hr=>Ja (by rw [hR1e];exact .tail _ (.tail _ (.tail _ (.tail _ hr))))
  have hplR:InR (psl pl) R1:=Ja (by rw [hR1e];exact .tail _ (.tail _ (.tail _ (.head _))))
  have hrdR:InR (rsl rd) R1:=Ja zya
  have hfnR:InR (fsl ⟨none,0,[]⟩) R1:=Ja zma
  have hdrR:InR (dsl ⟨none,0,[]⟩) R1:=Ja zoa
  have hx1:=hx.mono hR1
  refine Ymb (show _=R1 by rw [hR1e,hpl,hrd];rfl) ?_
  refine Juc [18,19,20,21,22,23,24,25,26,27,28,29,30,5] ((⟨fun g=>[(5,.pointer (some ⟨g.1.b5,0,none⟩))],fun g=>⟨g.1.b5,[.slice (some ⟨b10,0,none⟩) 2 2,.slice (some ⟨b16,0,none⟩) 1 1,.slice none 0 0,.slice none 0 0,.slice (some ⟨g.1.b1,0,none⟩) 1 1,.slice (some ⟨g.1.b2,0,none⟩) 1 1,.slice none 0 0,.slice (some ⟨g.1.b3,0,none⟩) 2 2],38⟩ :: ⟨g.1.b3,[.int .i64 1,.int .i64 2],170⟩ :: ⟨g.1.b2,XCond.cells (Yq g.2.1.1),102⟩ :: ⟨g.1.b1,easySens.cells,88⟩ :: ⟨b4,[.slice (some ⟨b10,0,none⟩) 2 2,.slice (some ⟨b16,0,none⟩) 1 1],28⟩ :: ⟨b3,[.slice none 0 0,.slice none 0 0,.int .i64 0],42⟩ :: ⟨b2,[.slice none 0 0,.slice none 0 0,.slice none 0 0,.slice none 0 0,.slice none 0 0,.slice none 0 0,.slice none 0 0,.slice none 0 0],38⟩ :: cblk c x g.2.1.2 :: [],fun _=>R1,fun _=>0⟩:Head (EJ×{g:Int×Nat // (1≤g.1∧g.1≤5)∧g.2≤x.l.length∧(x.l.length≤k1→g.1=1∧g.2=k1)}))) ?_ ?_
  ·
   skip
   refine Ypc tb [] [0,1,2,4,9,10,3,5,6,7,8,11,12,13] [14] ([Blk.mk b4 _ _]) [] 14 K1 ze rfl rfl zi fun hT2=>?_
   refine U6c 0 hT2 (List.nil_sublist _) ze rfl rfl rfl rfl rfl zEb ?_
   refine U6c 1 hT2 (List.nil_sublist _) ze rfl rfl rfl rfl rfl zic ?_
   refine U6c 2 hT2 (List.nil_sublist _) ze rfl rfl rfl rfl rfl (Kb (qs:=[(1,(Value.int _ _).cells.toList),(4,(Value.int _ _).cells.toList),(5,(Value.int _ _).cells.toList),(6,(Value.int _ _).cells.toList),(7,(Value.int _ _).cells.toList)]) (out:=[_,_,_,_,_,_,_,_]) tb rfl rfl rfl rfl) ?_
   refine U6c 4 hT2 (List.nil_sublist _) ze rfl rfl rfl rfl rfl (Jy zGb) ?_
   refine U6c 9 hT2 (List.nil_sublist _) ze rfl rfl rfl rfl rfl znc ?_
   refine U6c 10 hT2 (List.nil_sublist _) ze rfl rfl rfl rfl rfl znc ?_
   refine Jj [3,5,11,13] hT2 (List.nil_sublist _) ze ?_
   refine Jq ?_ ?_
   ·
    skip
    refine Yh ?_
    rintro v L' R' ⟨b21,rfl,rfl,hR21⟩
    replace hR21:=hR21.symm;subst hR21
    refine qa1 ?_
    refine Jj [5,11,13] hT2 (List.nil_sublist _) ze ?_
    refine Jq ?_ ?_
    ·
     skip
     refine Yta ?_
     rintro v L' R' ⟨r2,k2,rfl,g2,g2',hk2,he2,rfl,rfl⟩
     refine ⟨zi,zw,?_⟩
     refine Yva ?_
     refine Yua ?_
     refine Jj [8,11,13] hT2 (List.nil_sublist _) ze ?_
     refine Jq ?_ ?_
     ·
      skip
      refine Uw ?_
      rintro v L' R' ⟨b26,rfl,rfl,hR26⟩
      replace hR26:=hR26.symm;subst hR26
      refine qa1 ?_
      refine Jj [11,13] hT2 (List.nil_sublist _) ze ?_
      refine Jq ?_ ?_
      ·
       skip
       exact zie
      exact zfe
     refine Jq ?_ ?_
     ·
      skip
      refine Yd ?_
      rintro v L' R' ⟨b29,rfl,rfl,hR29⟩
      replace hR29:=hR29.symm;subst hR29
      refine qa1 ?_
      refine Jj [8,13] hT2 (List.nil_sublist _) ze ?_
      refine Jq ?_ ?_
      ·
       skip
       exact zde
      exact zZd
     refine qca ?_
     refine Kt rfl zxb rfl rfl ?_
     rintro v L' R' ⟨b5,rfl,rfl,hR5⟩
     replace hR5:=hR5.symm;subst hR5
     refine qa1 ?_
     refine Jj [8,11] hT2 (List.nil_sublist _) ze ?_
     refine Jq ?_ ?_
     ·
      skip
      exact zee
     exact zae
    refine Jq ?_ ?_
    ·
     skip
     refine Yd ?_
     rintro v L' R' ⟨b29,rfl,rfl,hR29⟩
     replace hR29:=hR29.symm;subst hR29
     refine qa1 ?_
     refine Jj [5,13] hT2 (List.nil_sublist _) ze ?_
     refine Jq ?_ ?_
     ·
      skip
      refine Yta ?_
      rintro v L' R' ⟨r2,k2,rfl,g2,g2',hk2,he2,rfl,rfl⟩
      refine ⟨zi,zw,?_⟩
      refine Yva ?_
      refine Yua ?_
      refine Jj [8,13] hT2 (List.nil_sublist _) ze ?_
      refine Jq ?_ ?_
      ·
       skip
       exact zde
      exact zZd
     exact zle
    refine qca ?_
    refine Kt rfl zxb rfl rfl ?_
    rintro v L' R' ⟨b5,rfl,rfl,hR5⟩
    replace hR5:=hR5.symm;subst hR5
    refine qa1 ?_
    refine Jj [5,11] hT2 (List.nil_sublist _) ze ?_
    refine Jq ?_ ?_
    ·
     skip
     refine Yta ?_
     rintro v L' R' ⟨r2,k2,rfl,g2,g2',hk2,he2,rfl,rfl⟩
     refine ⟨zi,zw,?_⟩
     refine Yva ?_
     refine Yua ?_
     refine Jj [8,11] hT2 (List.nil_sublist _) ze ?_
     refine Jq ?_ ?_
     ·
      skip
      exact zee
     exact zae
    exact zme
   refine Jq ?_ ?_
   ·
    skip
    refine Yta ?_
    rintro v L' R' ⟨r2,k2,rfl,g2,g2',hk2,he2,rfl,rfl⟩
    refine ⟨zi,zw,?_⟩
    refine Yva ?_
    refine Yua ?_
    refine Jj [3,8,11,13] hT2 (List.nil_sublist _) ze ?_
    refine Jq ?_ ?_
    ·
     skip
     refine Yh ?_
     rintro v L' R' ⟨b21,rfl,rfl,hR21⟩
     replace hR21:=hR21.symm;subst hR21
     refine qa1 ?_
     refine Jj [8,11,13] hT2 (List.nil_sublist _) ze ?_
     refine Jq ?_ ?_
     ·
      skip
      refine Uw ?_
      rintro v L' R' ⟨b26,rfl,rfl,hR26⟩
      replace hR26:=hR26.symm;subst hR26
      refine qa1 ?_
      refine Jj [11,13] hT2 (List.nil_sublist _) ze ?_
      refine Jq ?_ ?_
      ·
       skip
       exact zie
      exact zfe
     refine Jq ?_ ?_
     ·
      skip
      refine Yd ?_
      rintro v L' R' ⟨b29,rfl,rfl,hR29⟩
      replace hR29:=hR29.symm;subst hR29
      refine qa1 ?_
      refine Jj [8,13] hT2 (List.nil_sublist _) ze ?_
      refine Jq ?_ ?_
      ·
       skip
       exact zde
      exact zZd
     refine qca ?_
     refine Kt rfl zxb rfl rfl ?_
     rintro v L' R' ⟨b5,rfl,rfl,hR5⟩
     replace hR5:=hR5.symm;subst hR5
     refine qa1 ?_
     refine Jj [8,11] hT2 (List.nil_sublist _) ze ?_
     refine Jq ?_ ?_
     ·
      skip
      exact zee
     exact zae
    refine Jq ?_ ?_
    ·
     skip
     refine Uw ?_
     rintro v L' R' ⟨b26,rfl,rfl,hR26⟩
     replace hR26:=hR26.symm;subst hR26
     refine qa1 ?_
     refine Jj [3,11,13] hT2 (List.nil_sublist _) ze ?_
     refine Jq ?_ ?_
     ·
      skip
      refine Yh ?_
      rintro v L' R' ⟨b21,rfl,rfl,hR21⟩
      replace hR21:=hR21.symm;subst hR21
      refine qa1 ?_
      refine Jj [11,13] hT2 (List.nil_sublist _) ze ?_
      refine Jq ?_ ?_
      ·
       skip
       exact zie
      exact zfe
     refine Jq ?_ ?_
     ·
      skip
      refine Yd ?_
      rintro v L' R' ⟨b29,rfl,rfl,hR29⟩
      replace hR29:=hR29.symm;subst hR29
      refine qa1 ?_
      refine Jj [3,13] hT2 (List.nil_sublist _) ze ?_
      refine Jq ?_ ?_
      ·
       skip
       exact zje
      exact zge
     refine qca ?_
     refine Kt rfl zxb rfl rfl ?_
     rintro v L' R' ⟨b5,rfl,rfl,hR5⟩
     replace hR5:=hR5.symm;subst hR5
     refine qa1 ?_
     refine Jj [3,11] hT2 (List.nil_sublist _) ze ?_
     refine Jq ?_ ?_
     ·
      skip
      exact zke
     exact zhe
    refine Jq ?_ ?_
    ·
     skip
     refine Yd ?_
     rintro v L' R' ⟨b29,rfl,rfl,hR29⟩
     replace hR29:=hR29.symm;subst hR29
     refine qa1 ?_
     refine Jj [3,8,13] hT2 (List.nil_sublist _) ze ?_
     refine Jq ?_ ?_
     ·
      skip
      refine Yh ?_
      rintro v L' R' ⟨b21,rfl,rfl,hR21⟩
      replace hR21:=hR21.symm;subst hR21
      refine qa1 ?_
      refine Jj [8,13] hT2 (List.nil_sublist _) ze ?_
      refine Jq ?_ ?_
      ·
       skip
       exact zde
      exact zZd
     refine Jq ?_ ?_
     ·
      skip
      refine Uw ?_
      rintro v L' R' ⟨b26,rfl,rfl,hR26⟩
      replace hR26:=hR26.symm;subst hR26
      refine qa1 ?_
      refine Jj [3,13] hT2 (List.nil_sublist _) ze ?_
      refine Jq ?_ ?_
      ·
       skip
       exact zje
      exact zge
     refine qca ?_
     refine Kt rfl zxb rfl rfl ?_
     rintro v L' R' ⟨b5,rfl,rfl,hR5⟩
     replace hR5:=hR5.symm;subst hR5
     refine qa1 ?_
     refine Jj [3,8] hT2 (List.nil_sublist _) ze ?_
     refine Jq ?_ ?_
     ·
      skip
      exact zbe
     exact zce
    refine qca ?_
    refine Kt rfl zxb rfl rfl ?_
    rintro v L' R' ⟨b5,rfl,rfl,hR5⟩
    replace hR5:=hR5.symm;subst hR5
    refine qa1 ?_
    refine Jj [3,8,11] hT2 (List.nil_sublist _) ze ?_
    refine Jq ?_ ?_
    ·
     skip
     refine Yh ?_
     rintro v L' R' ⟨b21,rfl,rfl,hR21⟩
     replace hR21:=hR21.symm;subst hR21
     refine qa1 ?_
     refine Jj [8,11] hT2 (List.nil_sublist _) ze ?_
     refine Jq ?_ ?_
     ·
      skip
      exact zee
     exact zae
    refine Jq ?_ ?_
    ·
     skip
     refine Uw ?_
     rintro v L' R' ⟨b26,rfl,rfl,hR26⟩
     replace hR26:=hR26.symm;subst hR26
     refine qa1 ?_
     refine Jj [3,11] hT2 (List.nil_sublist _) ze ?_
     refine Jq ?_ ?_
     ·
      skip
      exact zke
     exact zhe
    refine qca ?_
    refine Yd ?_
    rintro v L' R' ⟨b29,rfl,rfl,hR29⟩
    replace hR29:=hR29.symm;subst hR29
    refine qa1 ?_
    refine Jj [3,8] hT2 (List.nil_sublist _) ze ?_
    refine Jq ?_ ?_
    ·
     skip
     exact zbe
    exact zce
   refine Jq ?_ ?_
   ·
    skip
    refine Yd ?_
    rintro v L' R' ⟨b29,rfl,rfl,hR29⟩
    replace hR29:=hR29.symm;subst hR29
    refine qa1 ?_
    refine Jj [3,5,13] hT2 (List.nil_sublist _) ze ?_
    refine Jq ?_ ?_
    ·
     skip
     refine Yh ?_
     rintro v L' R' ⟨b21,rfl,rfl,hR21⟩
     replace hR21:=hR21.symm;subst hR21
     refine qa1 ?_
     refine Jj [5,13] hT2 (List.nil_sublist _) ze ?_
     refine Jq ?_ ?_
     ·
      skip
      refine Yta ?_
      rintro v L' R' ⟨r2,k2,rfl,g2,g2',hk2,he2,rfl,rfl⟩
      refine ⟨zi,zw,?_⟩
      refine Yva ?_
      refine Yua ?_
      refine Jj [8,13] hT2 (List.nil_sublist _) ze ?_
      refine Jq ?_ ?_
      ·
       skip
       exact zde
      exact zZd
     exact zle
    refine Jq ?_ ?_
    ·
     skip
     refine Yta ?_
     rintro v L' R' ⟨r2,k2,rfl,g2,g2',hk2,he2,rfl,rfl⟩
     refine ⟨zi,zw,?_⟩
     refine Yva ?_
     refine Yua ?_
     refine Jj [3,8,13] hT2 (List.nil_sublist _) ze ?_
     refine Jq ?_ ?_
     ·
      skip
      refine Yh ?_
      rintro v L' R' ⟨b21,rfl,rfl,hR21⟩
      replace hR21:=hR21.symm;subst hR21
      refine qa1 ?_
      refine Jj [8,13] hT2 (List.nil_sublist _) ze ?_
      refine Jq ?_ ?_
      ·
       skip
       exact zde
      exact zZd
     refine Jq ?_ ?_
     ·
      skip
      refine Uw ?_
      rintro v L' R' ⟨b26,rfl,rfl,hR26⟩
      replace hR26:=hR26.symm;subst hR26
      refine qa1 ?_
      refine Jj [3,13] hT2 (List.nil_sublist _) ze ?_
      refine Jq ?_ ?_
      ·
       skip
       exact zje
      exact zge
     refine qca ?_
     refine Kt rfl zxb rfl rfl ?_
     rintro v L' R' ⟨b5,rfl,rfl,hR5⟩
     replace hR5:=hR5.symm;subst hR5
     refine qa1 ?_
     refine Jj [3,8] hT2 (List.nil_sublist _) ze ?_
     refine Jq ?_ ?_
     ·
      skip
      exact zbe
     exact zce
    refine qca ?_
    refine Kt rfl zxb rfl rfl ?_
    rintro v L' R' ⟨b5,rfl,rfl,hR5⟩
    replace hR5:=hR5.symm;subst hR5
    refine qa1 ?_
    refine Jj [3,5] hT2 (List.nil_sublist _) ze ?_
    refine Jq ?_ ?_
    ·
     skip
     refine Yh ?_
     rintro v L' R' ⟨b21,rfl,rfl,hR21⟩
     replace hR21:=hR21.symm;subst hR21
     exact zYd
    refine qca ?_
    refine Yta ?_
    rintro v L' R' ⟨r2,k2,rfl,g2,g2',hk2,he2,rfl,rfl⟩
    refine ⟨zi,zw,?_⟩
    refine Yva ?_
    refine Yua ?_
    refine Jj [3,8] hT2 (List.nil_sublist _) ze ?_
    refine Jq ?_ ?_
    ·
     skip
     exact zbe
    exact zce
   refine qca ?_
   refine Kt rfl zxb rfl rfl ?_
   rintro v L' R' ⟨b5,rfl,rfl,hR5⟩
   replace hR5:=hR5.symm;subst hR5
   refine qa1 ?_
   refine Jj [3,5,11] hT2 (List.nil_sublist _) ze ?_
   refine Jq ?_ ?_
   ·
    skip
    refine Yh ?_
    rintro v L' R' ⟨b21,rfl,rfl,hR21⟩
    replace hR21:=hR21.symm;subst hR21
    refine qa1 ?_
    refine Jj [5,11] hT2 (List.nil_sublist _) ze ?_
    refine Jq ?_ ?_
    ·
     skip
     refine Yta ?_
     rintro v L' R' ⟨r2,k2,rfl,g2,g2',hk2,he2,rfl,rfl⟩
     refine ⟨zi,zw,?_⟩
     refine Yva ?_
     refine Yua ?_
     refine Jj [8,11] hT2 (List.nil_sublist _) ze ?_
     refine Jq ?_ ?_
     ·
      skip
      exact zee
     exact zae
    exact zme
   refine Jq ?_ ?_
   ·
    skip
    refine Yta ?_
    rintro v L' R' ⟨r2,k2,rfl,g2,g2',hk2,he2,rfl,rfl⟩
    refine ⟨zi,zw,?_⟩
    refine Yva ?_
    refine Yua ?_
    refine Jj [3,8,11] hT2 (List.nil_sublist _) ze ?_
    refine Jq ?_ ?_
    ·
     skip
     refine Yh ?_
     rintro v L' R' ⟨b21,rfl,rfl,hR21⟩
     replace hR21:=hR21.symm;subst hR21
     refine qa1 ?_
     refine Jj [8,11] hT2 (List.nil_sublist _) ze ?_
     refine Jq ?_ ?_
     ·
      skip
      exact zee
     exact zae
    refine Jq ?_ ?_
    ·
     skip
     refine Uw ?_
     rintro v L' R' ⟨b26,rfl,rfl,hR26⟩
     replace hR26:=hR26.symm;subst hR26
     refine qa1 ?_
     refine Jj [3,11] hT2 (List.nil_sublist _) ze ?_
     refine Jq ?_ ?_
     ·
      skip
      exact zke
     exact zhe
    refine qca ?_
    refine Yd ?_
    rintro v L' R' ⟨b29,rfl,rfl,hR29⟩
    replace hR29:=hR29.symm;subst hR29
    refine qa1 ?_
    refine Jj [3,8] hT2 (List.nil_sublist _) ze ?_
    refine Jq ?_ ?_
    ·
     skip
     exact zbe
    exact zce
   refine qca ?_
   refine Yd ?_
   rintro v L' R' ⟨b29,rfl,rfl,hR29⟩
   replace hR29:=hR29.symm;subst hR29
   refine qa1 ?_
   refine Jj [3,5] hT2 (List.nil_sublist _) ze ?_
   refine Jq ?_ ?_
   ·
    skip
    refine Yh ?_
    rintro v L' R' ⟨b21,rfl,rfl,hR21⟩
    replace hR21:=hR21.symm;subst hR21
    exact zYd
   refine qca ?_
   refine Yta ?_
   rintro v L' R' ⟨r2,k2,rfl,g2,g2',hk2,he2,rfl,rfl⟩
   refine ⟨zi,zw,?_⟩
   refine Yva ?_
   refine Yua ?_
   refine Jj [3,8] hT2 (List.nil_sublist _) ze ?_
   refine Jq ?_ ?_
   ·
    skip
    exact zbe
   exact zce
  rintro ⟨⟨b21,b26,b29,b5⟩,⟨⟨r2,k2⟩,⟨g2,g2'⟩,hk2,he2⟩⟩ junk
  try dsimp only
  dsimp only at g2 g2' hk2 he2
  refine Vkb (A:=[_]) (wd:=1) (len:=2) (cap:=2) (rows:=[Jp 1,Jp 2]) (subs:=[]) rfl zc zc (fun r hr=>by simp only [List.mem_cons,List.not_mem_nil,or_false] at hr;rcases hr with rfl | rfl <;> rfl) zc rfl (fun s hs=>by cases hs) ?_
  refine qb1 ?_
  refine Vkb (A:=[_]) (wd:=6) (len:=1) (cap:=1) (rows:=[XCond.cells (Yq r2)]) (subs:=[]) rfl zc zc (fun r hr=>by rw [List.mem_singleton.1 hr];rfl) zc rfl (fun s hs=>by cases hs) ?_
  refine qb1 ?_
  refine Vkb (A:=[_]) (wd:=8) (len:=1) (cap:=1) (rows:=[XSens.cells easySens]) (subs:=[]) rfl zc zc (fun r hr=>by rw [List.mem_singleton.1 hr];rfl) zc rfl (fun s hs=>by cases hs) ?_
  refine qb1 ?_
  obtain ⟨se,hse⟩:∃se:Arr XSens,se=⟨some ⟨b21,0,none⟩,1,[easySens]⟩:=⟨_,rfl⟩
  obtain ⟨cn,hcn⟩:∃cn:Arr XCond,cn=⟨some ⟨b26,0,none⟩,1,[Yq r2]⟩:=⟨_,rfl⟩
  obtain ⟨ps,hps⟩:∃ps:Arr Int,ps=⟨some ⟨b29,0,none⟩,2,[1,2]⟩:=⟨_,rfl⟩
  obtain ⟨R2,hR2e⟩:∃R2,R2=Vyd se :: Jjf cn :: isl ps :: R1:=⟨_,rfl⟩
  have hR2:∀r∈R1,InR r R2:=fun r hr=>Ja (by rw [hR2e];exact .tail _ (.tail _ (.tail _ hr)))
  have hseR:InR (Vyd se) R2:=Ja zZ
  have hcnR:InR (Jjf cn) R2:=Ja zBa
  have hpsR:InR (isl ps) R2:=Ja zza
  have hx2:=hx1.mono hR2
  refine Ymb (show _=R2 by rw [hR2e,hse,hcn,hps];rfl) ?_
  refine qae ?_
  refine Jx zhc rfl ?_
  refine J3f ?_
  rintro v L' R' ⟨b32,rfl,rfl,hR32⟩
  replace hR32:=hR32.symm;subst hR32
  refine Jua (wd:=4) (len:=1) (cap:=1) (rows:=[XNode.cells ⟨1,0,0,0⟩]) (subs:=[]) rfl zc zc (fun r hr=>by rw [List.mem_singleton.1 hr];rfl) zc rfl (fun s hs=>by cases hs) ?_
  refine qa6 ?_
  refine Js rfl (Jfd zG (hx2.mono fun r h=>Ja (.tail _ h)) hk2 za) rfl ?_
  rintro v L' R' ⟨r3,k3,rfl,g3,g3',hk3,he3,rfl,rfl⟩
  refine qcx ?_
  rintro v L' R' ⟨b35,rfl,rfl,hR35⟩
  replace hR35:=hR35.symm;subst hR35
  refine Jua (wd:=1) (len:=1) (cap:=1) (rows:=[Jp 0]) (subs:=[]) rfl zc zc (fun r hr=>by rw [List.mem_singleton.1 hr];rfl) zc rfl (fun s hs=>by cases hs) ?_
  refine Jx (Kb (qs:=[(0,(Value.slice _ _ _).cells.toList),(1,(Value.int _ _).cells.toList),(2,(Value.slice _ _ _).cells.toList),(3,(Value.int _ _).cells.toList)]) (out:=[_,_,_,_]) tb rfl rfl rfl rfl) rfl ?_
  refine J3f ?_
  rintro v L' R' ⟨b37,rfl,rfl,hR37⟩
  replace hR37:=hR37.symm;subst hR37
  refine Jua (wd:=4) (len:=1) (cap:=1) (rows:=[XZone.cells ⟨⟨some ⟨b32,0,none⟩,1,[⟨1,0,0,0⟩]⟩,r3,⟨some ⟨b35,0,none⟩,1,[0]⟩,1⟩]) (subs:=XZone.subs ⟨⟨some ⟨b32,0,none⟩,1,[⟨1,0,0,0⟩]⟩,r3,⟨some ⟨b35,0,none⟩,1,[0]⟩,1⟩) rfl zc zc (fun r hr=>by rw [List.mem_singleton.1 hr];rfl) zc rfl (fun s hs=>by simp only [List.mem_cons,List.not_mem_nil,or_false] at hs;rcases hs with rfl | rfl;exact Ja (.tail _ (.head _));exact Ja (.head _)) ?_
  refine Xbp ?_
  refine qa4 ?_
  obtain ⟨zn,hzn⟩:∃zn:XZone,zn=⟨⟨some ⟨b32,0,none⟩,1,[⟨1,0,0,0⟩]⟩,r3,⟨some ⟨b35,0,none⟩,1,[0]⟩,1⟩:=⟨_,rfl⟩
  obtain ⟨zs,hzs⟩:∃zs:Arr XZone,zs=⟨some ⟨b37,0,none⟩,1,[zn]⟩:=⟨_,rfl⟩
  obtain ⟨R3,hR3e⟩:∃R3,R3=J6e zs :: isl zn.roads :: J1e zn.rule :: R2:=⟨_,rfl⟩
  have hR3:∀r∈R2,InR r R3:=fun r hr=>Ja (by rw [hR3e];exact .tail _ (.tail _ (.tail _ hr)))
  have hzsR:InR (J6e zs) R3:=Ja (by rw [hR3e];exact .head _)
  have hx3:=hx2.mono hR3
  refine Ymb (show _=R3 by rw [hR3e,hzs,hzn];rfl) ?_
  refine qay ?_
  refine qcx ?_
  rintro v L' R' ⟨b39,rfl,rfl,hR39⟩
  replace hR39:=hR39.symm;subst hR39
  refine Jqf ?_
  refine K4f ?_
  rintro v L' R' ⟨b41,rfl,rfl,hR41⟩
  replace hR41:=hR41.symm;subst hR41
  refine Jx (Kb (qs:=[(2,(Value.int _ _).cells.toList),(1,(Value.slice _ _ _).cells.toList),(0,(Value.slice _ _ _).cells.toList)]) (out:=[_,_,_]) tb rfl rfl rfl rfl) rfl ?_
  refine qaq ?_
  intro b6
  refine Xa9 ?_
  refine qa6 ?_
  refine Js rfl (K3f zG hx3 hk3 za) rfl ?_
  rintro v L' R' ⟨n0,k4,rfl,g4,g4',g4'',hk4,he4,rfl,rfl⟩
  have g4q:=g4' za
  refine Xb4 ?_
  refine Jo [(2,Value.pointer _),(3,Value.pointer _),(5,Value.pointer _),(6,Value.pointer _),(7,Value.int _ _)] zg fun tq0=>?_
  refine Vm [7,45,46,47,48,49,50,51,52,53,54,55,56,57,58,59,60,61,62,63,64,65] ((⟨fun g=>[(7,.int .i64 g.1.1)],fun g=>⟨b6,[g.1.2.1.val,.slice (some ⟨b39,0,none⟩) 1 1,.int .i64 3],42⟩ :: (g.1.2.1.L 76 XSwitch.cells ++ ((⟨.own b39 1 [],g.1.2.2⟩:OwL Int).L 3 Jp ++ (⟨b5,[.slice (some ⟨b10,0,none⟩) 2 2,.slice (some ⟨b16,0,none⟩) 1 1,.slice none 0 0,.slice none 0 0,.slice (some ⟨b21,0,none⟩) 1 1,.slice (some ⟨b26,0,none⟩) 1 1,.slice (some ⟨b37,0,none⟩) 1 1,.slice (some ⟨b29,0,none⟩) 2 2],38⟩ :: ⟨b4,[.slice (some ⟨b10,0,none⟩) 2 2,.slice (some ⟨b16,0,none⟩) 1 1],28⟩ :: ⟨b3,[.slice none 0 0,.slice none 0 0,.int .i64 0],42⟩ :: ⟨b2,[.slice none 0 0,.slice none 0 0,.slice none 0 0,.slice none 0 0,.slice none 0 0,.slice none 0 0,.slice none 0 0,.slice none 0 0],38⟩ :: cblk c x k4 :: []))),fun _=>R3,fun g=>g.1.1.toNat⟩:Head {g:Int×OwL XSwitch×List Int // (0≤g.1∧(g.2.1.l.length:Int) + g.1=1 + n0∧1≤g.2.1.l.length)∧g.2.1.ok 5 XSwitch.cells∧g.2.1.l=Uba g.2.1.l.length∧g.2.2=[(g.2.1.l.length:Int) - 1]})) (⟨(n0,(⟨.own b41 1 [],[⟨-1,0,0,true,false⟩]⟩:OwL XSwitch),[0]),by dsimp only [List.length_cons,List.length_nil];omega,K0c (fun _=>rfl) rfl zc,rfl,rfl⟩) zg (by dsimp only;rw [← K7d (f:=XSwitch.cells) (n:=1) [⟨-1,0,0,true,false⟩] rfl,← K7d (f:=Jp) (n:=1) [0] rfl];exact List.Sublist.refl _) zqb ?_
  rintro ⟨⟨n,sw,zl⟩,hn,hsk,hsl,hzl⟩ junk
  try dsimp only
  dsimp only at hn hsk hsl hzl
  refine qbi ?_
  refine Xbz ?_
  refine qaf ?_
  refine q_c (fun hc0=>?_) (fun hc0=>?_)
  ·
   refine qbb ?_
   refine Xaa ?_
   refine Xac ?_
   refine qa9 ?_
   refine Jqf ?_
   refine K4f ?_
   rintro v L' R' ⟨b56,rfl,rfl,hR56⟩
   replace hR56:=hR56.symm;subst hR56
   refine Y9 (J8 (f:=XSwitch.cells) (p:=sw) (a:=⟨(sw.l.length:Int) - 1,0,0,true,false⟩) tb rfl rfl rfl rfl (hsk) zj zsb rfl zy) rfl ?_
   rintro v L' R' ⟨o57,rfl,hok57,rfl,rfl⟩
   refine Xbp ?_
   refine qaf ?_
   have hlen2:(sw.l ++ [(⟨(sw.l.length:Int) - 1,0,0,true,false⟩:XSwitch)]).length=sw.l.length + 1:=by simp
   have hzll:zl.length=1:=by rw [hzl];rfl
   have hz0:zl[0]?=some ((sw.l.length:Int) - 1):=by rw [hzl];rfl
   have hzk:(⟨.own b39 1 [],zl⟩:OwL Int).ok 1 Jp:=by rw [hzl];exact K0c Vx rfl zc
   refine qay ?_
   refine Xaa ?_
   refine Xac ?_
   refine Jx (Ugb rfl rfl zx zx) rfl ?_
   refine Jx (Ju tb ((⟨.own b39 1 [],zl⟩:OwL Int)) _ rfl rfl (by rw [hzl];rfl) rfl zh (i:=0) zk zu) rfl ?_
   refine Ye (Jr tb ((⟨.own b39 1 [],zl⟩:OwL Int)) (((sw.l ++ [(⟨(sw.l.length:Int) - 1,0,0,true,false⟩:XSwitch)]).length:Int) - 1) rfl rfl rfl rfl zj zh (fun _=>rfl) zh zc zb zb) ?_
   rintro v L' R' ⟨rfl,rfl⟩
   refine qcs ?_
   refine Xci ?_
   exact q_k ⟨(n - 1,(⟨o57,sw.l ++ [⟨(sw.l.length:Int) - 1,0,0,true,false⟩]⟩:OwL XSwitch),zl.set 0 (((sw.l ++ [(⟨(sw.l.length:Int) - 1,0,0,true,false⟩:XSwitch)]).length:Int) - 1)),by dsimp only;rw [hlen2];omega,hok57,by dsimp only;rw [hlen2,Jed,← hsl],by dsimp only;rw [hzl];rfl⟩
  refine qc3 ?_
  refine Kj tb [67] [0,1] [2,3] ([Blk.mk b6 _ _,Blk.mk b5 _ _]) _ K1 ze zi (by (repeat (first | apply List.Sublist.cons (a:=Blk.mk b2 _ _) | apply List.Sublist.cons (a:=Blk.mk b3 _ _) | apply List.Sublist.cons_cons));exact List.Sublist.refl _) ?_
  refine Kx zmb rfl rfl rfl rfl ?_
  refine V8 zkb rfl rfl rfl rfl ?_
  refine Xda ?_
  refine qbg ?_
  refine J1 (Jb (Uo ?_))
  refine q_r (L':=sw.L 76 XSwitch.cells ++ ((⟨.own b39 1 [],zl⟩:OwL Int).L 3 Jp ++ (cblk c x k4 :: []))) (R':=R3) (Ug rfl (Jm (row:=[_,_,_,_,_,_,_,_]) tb rfl rfl rfl zf zb zb) zib) ?_
  have hzk:(⟨.own b39 1 [],zl⟩:OwL Int).ok 1 Jp:=by rw [hzl];exact K0c Vx rfl zc
  have up1:∀r∈R1,InR r R3:=fun r hr=>(hR2 r hr).mono hR3
  refine ⟨⟨⟨⟨pl,rd⟩,⟨none,0,[]⟩,⟨none,0,[]⟩⟩,se,cn,zs,ps⟩,r1,r2,r3,sw,⟨.own b39 1 [],zl⟩,sw.l.length,k4,?_,⟨by rw [hpl],by rw [hrd],rfl,rfl,by rw [hse],by rw [hcn],⟨zn,by rw [hzs],by rw [hzn],by rw [hzn],by rw [hzn],by rw [hzn]⟩,by rw [hzs],by rw [hps],by omega⟩,⟨hsk,hzk⟩,by omega,hsl,hzl,⟨hk4,fun h=>by have q1:=he1 h;have q2:=he2 za;have q3:=he3 za;have q4:=he4 za;omega⟩,⟨⟨⟨hplR.mono up1,hrdR.mono up1,hfnR.mono up1,hdrR.mono up1⟩,hseR.mono hR3,hcnR.mono hR3,hzsR,hpsR.mono hR3⟩,fun r hr=>(hR1 r hr).mono up1⟩,rfl⟩
  rw [hpl,hrd,hse,hcn,hzs,hps,hzl];rfl
end Go.Proofs.YtchfclmokpbldaaGreat
