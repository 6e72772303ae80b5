/-
  The draws of chapter 20: a site with one zone. By an AI agent; no person has read it.
-/
import Derived.Test.YtchfclmokpbldaaGreatSiteD
set_option linter.unusedVariables false
set_option linter.unusedSimpArgs false
namespace Go.Proofs.YtchfclmokpbldaaGreat
open Go.Aw Go
section
variable {A9 B9:Prop}
theorem Jb8 (a:A9) (h:A9→B9:=by exact Jt4 12 hT2 (List.nil_sublist _) zc rfl rfl rfl rfl rfl (Jbc (qs:=[(0,(Value.agg _).cells.toList),(1,(Value.slice _ _ _).cells.toList),(2,(Value.slice _ _ _).cells.toList),(4,(Value.slice _ _ _).cells.toList)]) (out:=[_,_,_,_,_,_,_,_]) tb rfl rfl rfl rfl)):B9:=h a
theorem Jcv (a:A9) (h:A9→B9:=by exact Jbs rfl (Ja0 (qs:=[(0,(Value.agg _).cells.toList)]) (out:=[_,_,_,_,_,_]) tb rfl rfl rfl rfl rfl rfl rfl) rfl rfl):B9:=h a
theorem Jd5 (a:A9) (h:A9→B9:=by exact Jbs rfl (Ja0 (qs:=[(0,(Value.agg _).cells.toList)]) (out:=[_,_,_,_,_,_,_,_]) tb rfl rfl rfl rfl rfl rfl rfl) rfl rfl):B9:=h a
theorem Jea (a:A9) (h:A9→B9:=by exact Jbs rfl (Ja0 (qs:=[(0,(Value.agg _).cells.toList),(1,(Value.agg _).cells.toList)]) (out:=[_,_]) tb rfl rfl rfl rfl rfl rfl rfl) rfl rfl):B9:=h a
theorem Jka (a:A9) (h:A9→B9:=by exact Jbs rfl (Jwe rfl (Jxa zja hx1 hk1 za)) rfl rfl):B9:=h a
theorem Jkg (a:A9) (h:A9→B9:=by exact Jt4 6 hT2 (List.nil_sublist _) zc rfl rfl rfl rfl rfl (Jbc (qs:=[(0,(Value.int _ _).cells.toList),(1,(Value.int _ _).cells.toList),(2,(Value.int _ _).cells.toList)]) (out:=[_,_,_]) tb rfl rfl rfl rfl)):B9:=h a
theorem Jkf (a:A9) (h:A9→B9:=by exact Jt4 7 hT2 (List.nil_sublist _) zc rfl rfl rfl rfl rfl (Jbc (qs:=[(0,(Value.int _ _).cells.toList),(3,(Value.agg _).cells.toList)]) (out:=[_,_,_,_,_,_]) tb rfl rfl rfl rfl)):B9:=h a
theorem Kbf (a:A9) (h:A9→B9:=by exact Jgl (Ja0 (qs:=[(0,(Value.agg _).cells.toList)]) (out:=[_,_,_,_]) tb rfl rfl rfl rfl rfl rfl rfl) rfl):B9:=h a
theorem Kcx (a:A9) (h:A9→B9:=by exact Jax (Jbc (qs:=[(0,(Value.int _ _).cells.toList),(3,(Value.bool _).cells.toList)]) (out:=[_,_,_,_,_]) tb rfl rfl rfl rfl) rfl):B9:=h a
theorem Kbe (a:A9) (h:A9→B9:=by exact Jgl (Ja0 (qs:=[(0,(Value.agg _).cells.toList)]) (out:=[_,_,_,_,_]) tb rfl rfl rfl rfl rfl rfl rfl) rfl):B9:=h a
end
structure XSwitch where
  above:Int
  since:Int
  shown:Int
  closed:Bool
  late:Bool
  deriving Inhabited,DecidableEq
def XSwitch.cells (x:XSwitch):List Value:=[.int .i64 x.above,.int .i64 x.since,.int .i64 x.shown,.bool x.closed,.bool x.late]
abbrev XSwitch.val (x:XSwitch):Value:=.agg #[.int .i64 x.above,.int .i64 x.since,.int .i64 x.shown,.bool x.closed,.bool x.late]
structure XFeeder where
  switches:Arr XSwitch
  zones:Arr Int
  reply:Int
def XFeeder.cells (x:XFeeder):List Value:=[x.switches.val,x.zones.val,.int .i64 x.reply]
abbrev XFeeder.val (x:XFeeder):Value:=.agg #[x.switches.val,x.zones.val,.int .i64 x.reply]
abbrev Jpm (x:Arr XSwitch):Sl:=x.sl 5 XSwitch.cells []
theorem pm0 {x:Blk} {l m:List Blk} (h:l.Perm m):(x :: l).Perm (x :: m):=h.cons x
theorem pm1 {a x:Blk} {l m:List Blk} (h:(a :: l).Perm m):(a :: x :: l).Perm (x :: m):=(List.Perm.swap x a l).trans (h.cons x)
theorem pm2 {a b x:Blk} {l m:List Blk} (h:(a :: b :: l).Perm m):(a :: b :: x :: l).Perm (x :: m):=((List.Perm.swap x b l).cons a).trans (pm1 h)
theorem pm3 {a b c x:Blk} {l m:List Blk} (h:(a :: b :: c :: l).Perm m):(a :: b :: c :: x :: l).Perm (x :: m):=(((List.Perm.swap x c l).cons b).cons a).trans (pm2 h)
def Jry (len:Int):XRoad:=⟨0,1,len,4,false,false,⟨1,1⟩,⟨90000,90000⟩⟩
def easySens:XSens:=⟨0,1,0,0,1000,1,1000,60⟩
def Jeb (dl:Int):XCond:=⟨1,0,0,⟨100,60,dl⟩⟩
structure EasyD (s:XSite) (len dl ho:Int):Prop where
  places:s.air.mine.places.l=[⟨0,true⟩,⟨0,true⟩]
  roads:s.air.mine.roads.l=[Jry len]
  fans:s.air.fans.l=[]
  doors:s.air.doors.l=[]
  sens:s.sensors.l=[easySens]
  conds:s.conds.l=[Jeb dl]
  zone:∃z:XZone,s.zones.l=[z]∧z.rule.l=[⟨1,0,0,0⟩]∧z.hold=ho∧z.roads.l=[0]∧z.fresh=1
  zcap:s.zones.cap=1
  pers:s.persons.l=[1,2]
  rng:(1≤len∧len≤4)∧(1≤dl∧dl≤5)∧1≤ho∧ho≤5
def Ji9 (n:Nat):List XSwitch:=(List.range n).map fun (i:Nat)=>⟨(i:Int) - 1,0,0,true,false⟩
theorem Jx3 {n:Nat}:Ji9 (n + 1)=Ji9 n ++ [⟨(n:Int) - 1,0,0,true,false⟩]:=by rw [Ji9,List.range_succ,List.map_append];rfl
set_option maxRecDepth 20000
attribute [local irreducible] CJ LJ DJ Tri YV Gives Jcj Ja1 Jbg Jci RV Ja2 OwL.L
structure EJ where
  b1:Nat
  b2:Nat
  b3:Nat
  b5:Nat
set_option maxHeartbeats 4000000 in
theorem Jt1 (c:Nat) (x:Arr Int) (k:Nat) (R:List Sl) (hx:CodesR x R) (hk:k≤x.l.length):
    Tri Tryz.prog 15 [.pointer (some ⟨c, 0, none⟩)].toArray [cblk c x k] R
      (fun v L' R'=>∃(s:XSite) (len dl ho:Int) (sw:OwL XSwitch) (zn:OwL Int) (n k':Nat),v=.tuple #[s.val,.agg #[sw.val,zn.val,.int .i64 3]]∧EasyD s len dl ho∧(sw.ok 5 XSwitch.cells∧zn.ok 1 Jap)∧(1≤n∧n≤3)∧sw.l=Ji9 n∧zn.l=[(n:Int) - 1]∧(k'≤x.l.length∧(x.l.length≤k→len=1∧dl=1∧ho=1∧n=1∧k'=k))∧(SiteR s R'∧∀r∈R,InR r R')∧sw.L 76 XSwitch.cells ++ (zn.L 3 Jap ++ (cblk c x k' :: []))=L'):=by
  refine Jad 68 Tryz.call15 Tryz.func15 rfl rfl rfl ?_
  refine qae ?_
  refine qaq ?_
  intro b2
  refine qaq ?_
  intro b3
  refine qam ?_
  refine Jax (Jbc (qs:=[(1,(Value.bool _).cells.toList)]) (out:=[_,_]) tb rfl rfl rfl rfl) rfl ?_
  refine Jax (Jbc (qs:=[(1,(Value.bool _).cells.toList)]) (out:=[_,_]) tb rfl rfl rfl rfl) rfl ?_
  refine Jgl (Ja0 (qs:=[(0,(Value.agg _).cells.toList),(1,(Value.agg _).cells.toList)]) (out:=[_,_,_,_]) tb rfl rfl rfl rfl rfl rfl rfl) rfl ?_
  rintro v L' R' ⟨b10,rfl,rfl,hR10⟩
  replace hR10:=hR10.symm;subst hR10
  refine Jhr (wd:=2) (len:=2) (cap:=2) (rows:=[XPlace.cells ⟨0,true⟩,XPlace.cells ⟨0,true⟩]) (subs:=[]) rfl ze ze (fun r hr=>by simp only [List.mem_cons,List.not_mem_nil,or_false] at hr;rcases hr with rfl | rfl <;> rfl) ze rfl (fun s hs=>by cases hs) ?_
  refine qa6 ?_
  refine Jaw rfl (Jxa zja (hx.mono fun r h=>Jaa (.tail _ h)) hk za) rfl ?_
  rintro v L' R' ⟨r1,k1,rfl,g1,g1',hk1,he1,rfl,rfl⟩
  refine qcd ?_
  refine qcd ?_
  refine Jax (Jbc (qs:=[(1,(Value.int _ _).cells.toList),(2,(Value.int _ _).cells.toList),(3,(Value.int _ _).cells.toList),(6,(Value.agg _).cells.toList),(7,(Value.agg _).cells.toList)]) (out:=[_,_,_,_,_,_,_,_,_,_]) tb rfl rfl rfl rfl) rfl ?_
  refine Jgl (Ja0 (qs:=[(0,(Value.agg _).cells.toList)]) (out:=[_,_,_,_,_,_,_,_,_,_]) tb rfl rfl rfl rfl rfl rfl rfl) rfl ?_
  rintro v L' R' ⟨b16,rfl,rfl,hR16⟩
  replace hR16:=hR16.symm;subst hR16
  refine Jhr (wd:=10) (len:=1) (cap:=1) (rows:=[XRoad.cells (Jry r1)]) (subs:=[]) rfl ze ze (fun r hr=>by rw [List.mem_singleton.1 hr];rfl) ze rfl (fun s hs=>by cases hs) ?_
  refine Jax (Jbc (qs:=[(0,(Value.slice _ _ _).cells.toList),(1,(Value.slice _ _ _).cells.toList)]) (out:=[_,_]) tb rfl rfl rfl rfl) rfl ?_
  refine qaq ?_
  intro b4
  refine Xcw ?_
  refine J2i 4 (J2i 3 ?_)
  obtain ⟨pl,hpl⟩:∃pl:Arr XPlace,pl=⟨some ⟨b10,0,none⟩,2,[⟨0,true⟩,⟨0,true⟩]⟩:=⟨_,rfl⟩
  obtain ⟨rd,hrd⟩:∃rd:Arr XRoad,rd=⟨some ⟨b16,0,none⟩,1,[Jry r1]⟩:=⟨_,rfl⟩
  obtain ⟨R1,hR1e⟩:∃R1,R1=dsl ⟨none,0,[]⟩ :: fsl ⟨none,0,[]⟩ :: rsl rd :: psl pl :: R:=⟨_,rfl⟩
  have hR1:∀r∈R,InR r R1:=fun r hr=>Jaa (by rw [hR1e];exact .tail _ (.tail _ (.tail _ (.tail _ hr))))
  have hplR:InR (psl pl) R1:=Jaa (by rw [hR1e];exact .tail _ (.tail _ (.tail _ (.head _))))
  have hrdR:InR (rsl rd) R1:=Jaa zya
  have hfnR:InR (fsl ⟨none,0,[]⟩) R1:=Jaa zla
  have hdrR:InR (dsl ⟨none,0,[]⟩) R1:=Jaa zna
  have hx1:=hx.mono hR1
  refine Jsd (show _=R1 by rw [hR1e,hpl,hrd];rfl) ?_
  refine Jr3 [18,19,20,21,22,23,24,25,26,27,28,29,30,5] ((⟨fun g=>[(5,.pointer (some ⟨g.1.b5,0,none⟩))],fun g=>⟨g.1.b5,[.slice (some ⟨b10,0,none⟩) 2 2,.slice (some ⟨b16,0,none⟩) 1 1,.slice none 0 0,.slice none 0 0,.slice (some ⟨g.1.b1,0,none⟩) 1 1,.slice (some ⟨g.1.b2,0,none⟩) 1 1,.slice none 0 0,.slice (some ⟨g.1.b3,0,none⟩) 2 2],38⟩ :: ⟨g.1.b3,[.int .i64 1,.int .i64 2],170⟩ :: ⟨g.1.b2,XCond.cells (Jeb g.2.1.1),102⟩ :: ⟨g.1.b1,easySens.cells,88⟩ :: ⟨b4,[.slice (some ⟨b10,0,none⟩) 2 2,.slice (some ⟨b16,0,none⟩) 1 1],28⟩ :: ⟨b3,[.slice none 0 0,.slice none 0 0,.int .i64 0],42⟩ :: ⟨b2,[.slice none 0 0,.slice none 0 0,.slice none 0 0,.slice none 0 0,.slice none 0 0,.slice none 0 0,.slice none 0 0,.slice none 0 0],38⟩ :: cblk c x g.2.1.2 :: [],fun _=>R1,fun _=>0⟩:Head (EJ×{g:Int×Nat // (1≤g.1∧g.1≤5)∧g.2≤x.l.length∧(x.l.length≤k1→g.1=1∧g.2=k1)}))) ?_ ?_
  ·
   skip
   refine Jxv tb [] [0,1,2,4,9,10,3,5,6,7,8,11,12,13] [14] ([Blk.mk b4 _ _]) [] 14 Jby zc rfl rfl zi fun hT2=>?_
   refine Jt4 0 hT2 (List.nil_sublist _) zc rfl rfl rfl rfl rfl (Jal (row:=[_,_]) tb rfl rfl rfl zf zb zb) ?_
   refine Jt4 1 hT2 (List.nil_sublist _) zc rfl rfl rfl rfl rfl (Jbc (qs:=[(0,(Value.agg _).cells.toList)]) (out:=[_,_,_,_]) tb rfl rfl rfl rfl) ?_
   refine Jt4 2 hT2 (List.nil_sublist _) zc rfl rfl rfl rfl rfl (Jbc (qs:=[(1,(Value.int _ _).cells.toList),(4,(Value.int _ _).cells.toList),(5,(Value.int _ _).cells.toList),(6,(Value.int _ _).cells.toList),(7,(Value.int _ _).cells.toList)]) (out:=[_,_,_,_,_,_,_,_]) tb rfl rfl rfl rfl) ?_
   refine Jt4 4 hT2 (List.nil_sublist _) zc rfl rfl rfl rfl rfl (Jav (show _=Value.pointer _ from rfl)) ?_
   refine Jt4 9 hT2 (List.nil_sublist _) zc rfl rfl rfl rfl rfl (Jbc (qs:=[(0,(Value.int _ _).cells.toList)]) (out:=[_]) tb rfl rfl rfl rfl) ?_
   refine Jt4 10 hT2 (List.nil_sublist _) zc rfl rfl rfl rfl rfl (Jbc (qs:=[(0,(Value.int _ _).cells.toList)]) (out:=[_]) tb rfl rfl rfl rfl) ?_
   refine Jai [3,5,11,13] hT2 (List.nil_sublist _) zc ?_
   refine Jaq ?_ ?_
   ·
    skip
    refine Jd5 ?_
    rintro v L' R' ⟨b21,rfl,rfl,hR21⟩
    replace hR21:=hR21.symm;subst hR21
    refine qa1 ?_
    refine Jai [5,11,13] hT2 (List.nil_sublist _) zc ?_
    refine Jaq ?_ ?_
    ·
     skip
     refine Jka ?_
     rintro v L' R' ⟨r2,k2,rfl,g2,g2',hk2,he2,rfl,rfl⟩
     refine ⟨zi,zx,?_⟩
     refine Jkg ?_
     refine Jkf ?_
     refine Jai [8,11,13] hT2 (List.nil_sublist _) zc ?_
     refine Jaq ?_ ?_
     ·
      skip
      refine Jcv ?_
      rintro v L' R' ⟨b26,rfl,rfl,hR26⟩
      replace hR26:=hR26.symm;subst hR26
      refine qa1 ?_
      refine Jai [11,13] hT2 (List.nil_sublist _) zc ?_
      refine Jaq ?_ ?_
      ·
       skip
       refine Jea ?_
       rintro v L' R' ⟨b29,rfl,rfl,hR29⟩
       replace hR29:=hR29.symm;subst hR29
       refine qa1 ?_
       refine Jb8 ?_
       refine Jai [13] hT2 (List.nil_sublist _) zc ?_
       refine qca ?_
       refine Jbs rfl (Ja3 tb rfl) rfl rfl ?_
       rintro v L' R' ⟨b5,rfl,rfl,hR5⟩
       replace hR5:=hR5.symm;subst hR5
       refine qa1 ?_
       refine Ja8 hT2 (List.nil_sublist _) zc rfl ?_
       refine qbg ?_
       refine Jaz ?_
       exact Jas (⟨b21,b26,b29,b5⟩,⟨(r2,k2),⟨g2,g2'⟩,hk2,he2⟩) zm zh zq (List.Sublist.refl _) (Jac _)
      refine qca ?_
      refine Jbs rfl (Ja3 tb rfl) rfl rfl ?_
      rintro v L' R' ⟨b5,rfl,rfl,hR5⟩
      replace hR5:=hR5.symm;subst hR5
      refine qa1 ?_
      refine Jai [11] hT2 (List.nil_sublist _) zc ?_
      refine qca ?_
      refine Jea ?_
      rintro v L' R' ⟨b29,rfl,rfl,hR29⟩
      replace hR29:=hR29.symm;subst hR29
      refine qa1 ?_
      refine Jb8 ?_
      refine Ja8 hT2 (List.nil_sublist _) zc rfl ?_
      refine qbg ?_
      refine Jaz ?_
      exact Jas (⟨b21,b26,b29,b5⟩,⟨(r2,k2),⟨g2,g2'⟩,hk2,he2⟩) zm zh zq (List.Sublist.refl _) (Jac _)
     refine Jaq ?_ ?_
     ·
      skip
      refine Jea ?_
      rintro v L' R' ⟨b29,rfl,rfl,hR29⟩
      replace hR29:=hR29.symm;subst hR29
      refine qa1 ?_
      refine Jai [8,13] hT2 (List.nil_sublist _) zc ?_
      refine Jaq ?_ ?_
      ·
       skip
       refine Jcv ?_
       rintro v L' R' ⟨b26,rfl,rfl,hR26⟩
       replace hR26:=hR26.symm;subst hR26
       refine qa1 ?_
       refine Jb8 ?_
       refine Jai [13] hT2 (List.nil_sublist _) zc ?_
       refine qca ?_
       refine Jbs rfl (Ja3 tb rfl) rfl rfl ?_
       rintro v L' R' ⟨b5,rfl,rfl,hR5⟩
       replace hR5:=hR5.symm;subst hR5
       refine qa1 ?_
       refine Ja8 hT2 (List.nil_sublist _) zc rfl ?_
       refine qbg ?_
       refine Jaz ?_
       exact Jas (⟨b21,b26,b29,b5⟩,⟨(r2,k2),⟨g2,g2'⟩,hk2,he2⟩) zm zh zq (List.Sublist.refl _) (Jac _)
      refine qca ?_
      refine Jbs rfl (Ja3 tb rfl) rfl rfl ?_
      rintro v L' R' ⟨b5,rfl,rfl,hR5⟩
      replace hR5:=hR5.symm;subst hR5
      refine qa1 ?_
      refine Jai [8] hT2 (List.nil_sublist _) zc ?_
      refine qca ?_
      refine Jcv ?_
      rintro v L' R' ⟨b26,rfl,rfl,hR26⟩
      replace hR26:=hR26.symm;subst hR26
      refine qa1 ?_
      refine Jb8 ?_
      refine Ja8 hT2 (List.nil_sublist _) zc rfl ?_
      refine qbg ?_
      refine Jaz ?_
      exact Jas (⟨b21,b26,b29,b5⟩,⟨(r2,k2),⟨g2,g2'⟩,hk2,he2⟩) zm zh zq (List.Sublist.refl _) (Jac _)
     refine qca ?_
     refine Jbs rfl (Ja3 tb rfl) rfl rfl ?_
     rintro v L' R' ⟨b5,rfl,rfl,hR5⟩
     replace hR5:=hR5.symm;subst hR5
     refine qa1 ?_
     refine Jai [8,11] hT2 (List.nil_sublist _) zc ?_
     refine Jaq ?_ ?_
     ·
      skip
      refine Jcv ?_
      rintro v L' R' ⟨b26,rfl,rfl,hR26⟩
      replace hR26:=hR26.symm;subst hR26
      refine qa1 ?_
      refine Jai [11] hT2 (List.nil_sublist _) zc ?_
      refine qca ?_
      refine Jea ?_
      rintro v L' R' ⟨b29,rfl,rfl,hR29⟩
      replace hR29:=hR29.symm;subst hR29
      refine qa1 ?_
      refine Jb8 ?_
      refine Ja8 hT2 (List.nil_sublist _) zc rfl ?_
      refine qbg ?_
      refine Jaz ?_
      exact Jas (⟨b21,b26,b29,b5⟩,⟨(r2,k2),⟨g2,g2'⟩,hk2,he2⟩) zm zh zq (List.Sublist.refl _) (Jac _)
     refine qca ?_
     refine Jea ?_
     rintro v L' R' ⟨b29,rfl,rfl,hR29⟩
     replace hR29:=hR29.symm;subst hR29
     refine qa1 ?_
     refine Jai [8] hT2 (List.nil_sublist _) zc ?_
     refine qca ?_
     refine Jcv ?_
     rintro v L' R' ⟨b26,rfl,rfl,hR26⟩
     replace hR26:=hR26.symm;subst hR26
     refine qa1 ?_
     refine Jb8 ?_
     refine Ja8 hT2 (List.nil_sublist _) zc rfl ?_
     refine qbg ?_
     refine Jaz ?_
     exact Jas (⟨b21,b26,b29,b5⟩,⟨(r2,k2),⟨g2,g2'⟩,hk2,he2⟩) zm zh zq (List.Sublist.refl _) (Jac _)
    refine Jaq ?_ ?_
    ·
     skip
     refine Jea ?_
     rintro v L' R' ⟨b29,rfl,rfl,hR29⟩
     replace hR29:=hR29.symm;subst hR29
     refine qa1 ?_
     refine Jai [5,13] hT2 (List.nil_sublist _) zc ?_
     refine Jaq ?_ ?_
     ·
      skip
      refine Jka ?_
      rintro v L' R' ⟨r2,k2,rfl,g2,g2',hk2,he2,rfl,rfl⟩
      refine ⟨zi,zx,?_⟩
      refine Jkg ?_
      refine Jkf ?_
      refine Jai [8,13] hT2 (List.nil_sublist _) zc ?_
      refine Jaq ?_ ?_
      ·
       skip
       refine Jcv ?_
       rintro v L' R' ⟨b26,rfl,rfl,hR26⟩
       replace hR26:=hR26.symm;subst hR26
       refine qa1 ?_
       refine Jb8 ?_
       refine Jai [13] hT2 (List.nil_sublist _) zc ?_
       refine qca ?_
       refine Jbs rfl (Ja3 tb rfl) rfl rfl ?_
       rintro v L' R' ⟨b5,rfl,rfl,hR5⟩
       replace hR5:=hR5.symm;subst hR5
       refine qa1 ?_
       refine Ja8 hT2 (List.nil_sublist _) zc rfl ?_
       refine qbg ?_
       refine Jaz ?_
       exact Jas (⟨b21,b26,b29,b5⟩,⟨(r2,k2),⟨g2,g2'⟩,hk2,he2⟩) zm zh zq (List.Sublist.refl _) (Jac _)
      refine qca ?_
      refine Jbs rfl (Ja3 tb rfl) rfl rfl ?_
      rintro v L' R' ⟨b5,rfl,rfl,hR5⟩
      replace hR5:=hR5.symm;subst hR5
      refine qa1 ?_
      refine Jai [8] hT2 (List.nil_sublist _) zc ?_
      refine qca ?_
      refine Jcv ?_
      rintro v L' R' ⟨b26,rfl,rfl,hR26⟩
      replace hR26:=hR26.symm;subst hR26
      refine qa1 ?_
      refine Jb8 ?_
      refine Ja8 hT2 (List.nil_sublist _) zc rfl ?_
      refine qbg ?_
      refine Jaz ?_
      exact Jas (⟨b21,b26,b29,b5⟩,⟨(r2,k2),⟨g2,g2'⟩,hk2,he2⟩) zm zh zq (List.Sublist.refl _) (Jac _)
     refine qca ?_
     refine Jbs rfl (Ja3 tb rfl) rfl rfl ?_
     rintro v L' R' ⟨b5,rfl,rfl,hR5⟩
     replace hR5:=hR5.symm;subst hR5
     refine qa1 ?_
     refine Jai [5] hT2 (List.nil_sublist _) zc ?_
     refine qca ?_
     refine Jka ?_
     rintro v L' R' ⟨r2,k2,rfl,g2,g2',hk2,he2,rfl,rfl⟩
     refine ⟨zi,zx,?_⟩
     refine Jkg ?_
     refine Jkf ?_
     refine Jai [8] hT2 (List.nil_sublist _) zc ?_
     refine qca ?_
     refine Jcv ?_
     rintro v L' R' ⟨b26,rfl,rfl,hR26⟩
     replace hR26:=hR26.symm;subst hR26
     refine qa1 ?_
     refine Jb8 ?_
     refine Ja8 hT2 (List.nil_sublist _) zc rfl ?_
     refine qbg ?_
     refine Jaz ?_
     exact Jas (⟨b21,b26,b29,b5⟩,⟨(r2,k2),⟨g2,g2'⟩,hk2,he2⟩) zm zh zq (List.Sublist.refl _) (Jac _)
    refine qca ?_
    refine Jbs rfl (Ja3 tb rfl) rfl rfl ?_
    rintro v L' R' ⟨b5,rfl,rfl,hR5⟩
    replace hR5:=hR5.symm;subst hR5
    refine qa1 ?_
    refine Jai [5,11] hT2 (List.nil_sublist _) zc ?_
    refine Jaq ?_ ?_
    ·
     skip
     refine Jka ?_
     rintro v L' R' ⟨r2,k2,rfl,g2,g2',hk2,he2,rfl,rfl⟩
     refine ⟨zi,zx,?_⟩
     refine Jkg ?_
     refine Jkf ?_
     refine Jai [8,11] hT2 (List.nil_sublist _) zc ?_
     refine Jaq ?_ ?_
     ·
      skip
      refine Jcv ?_
      rintro v L' R' ⟨b26,rfl,rfl,hR26⟩
      replace hR26:=hR26.symm;subst hR26
      refine qa1 ?_
      refine Jai [11] hT2 (List.nil_sublist _) zc ?_
      refine qca ?_
      refine Jea ?_
      rintro v L' R' ⟨b29,rfl,rfl,hR29⟩
      replace hR29:=hR29.symm;subst hR29
      refine qa1 ?_
      refine Jb8 ?_
      refine Ja8 hT2 (List.nil_sublist _) zc rfl ?_
      refine qbg ?_
      refine Jaz ?_
      exact Jas (⟨b21,b26,b29,b5⟩,⟨(r2,k2),⟨g2,g2'⟩,hk2,he2⟩) zm zh zq (List.Sublist.refl _) (Jac _)
     refine qca ?_
     refine Jea ?_
     rintro v L' R' ⟨b29,rfl,rfl,hR29⟩
     replace hR29:=hR29.symm;subst hR29
     refine qa1 ?_
     refine Jai [8] hT2 (List.nil_sublist _) zc ?_
     refine qca ?_
     refine Jcv ?_
     rintro v L' R' ⟨b26,rfl,rfl,hR26⟩
     replace hR26:=hR26.symm;subst hR26
     refine qa1 ?_
     refine Jb8 ?_
     refine Ja8 hT2 (List.nil_sublist _) zc rfl ?_
     refine qbg ?_
     refine Jaz ?_
     exact Jas (⟨b21,b26,b29,b5⟩,⟨(r2,k2),⟨g2,g2'⟩,hk2,he2⟩) zm zh zq (List.Sublist.refl _) (Jac _)
    refine qca ?_
    refine Jea ?_
    rintro v L' R' ⟨b29,rfl,rfl,hR29⟩
    replace hR29:=hR29.symm;subst hR29
    refine qa1 ?_
    refine Jai [5] hT2 (List.nil_sublist _) zc ?_
    refine qca ?_
    refine Jka ?_
    rintro v L' R' ⟨r2,k2,rfl,g2,g2',hk2,he2,rfl,rfl⟩
    refine ⟨zi,zx,?_⟩
    refine Jkg ?_
    refine Jkf ?_
    refine Jai [8] hT2 (List.nil_sublist _) zc ?_
    refine qca ?_
    refine Jcv ?_
    rintro v L' R' ⟨b26,rfl,rfl,hR26⟩
    replace hR26:=hR26.symm;subst hR26
    refine qa1 ?_
    refine Jb8 ?_
    refine Ja8 hT2 (List.nil_sublist _) zc rfl ?_
    refine qbg ?_
    refine Jaz ?_
    exact Jas (⟨b21,b26,b29,b5⟩,⟨(r2,k2),⟨g2,g2'⟩,hk2,he2⟩) zm zh zq (List.Sublist.refl _) (Jac _)
   refine Jaq ?_ ?_
   ·
    skip
    refine Jka ?_
    rintro v L' R' ⟨r2,k2,rfl,g2,g2',hk2,he2,rfl,rfl⟩
    refine ⟨zi,zx,?_⟩
    refine Jkg ?_
    refine Jkf ?_
    refine Jai [3,8,11,13] hT2 (List.nil_sublist _) zc ?_
    refine Jaq ?_ ?_
    ·
     skip
     refine Jd5 ?_
     rintro v L' R' ⟨b21,rfl,rfl,hR21⟩
     replace hR21:=hR21.symm;subst hR21
     refine qa1 ?_
     refine Jai [8,11,13] hT2 (List.nil_sublist _) zc ?_
     refine Jaq ?_ ?_
     ·
      skip
      refine Jcv ?_
      rintro v L' R' ⟨b26,rfl,rfl,hR26⟩
      replace hR26:=hR26.symm;subst hR26
      refine qa1 ?_
      refine Jai [11,13] hT2 (List.nil_sublist _) zc ?_
      refine Jaq ?_ ?_
      ·
       skip
       refine Jea ?_
       rintro v L' R' ⟨b29,rfl,rfl,hR29⟩
       replace hR29:=hR29.symm;subst hR29
       refine qa1 ?_
       refine Jb8 ?_
       refine Jai [13] hT2 (List.nil_sublist _) zc ?_
       refine qca ?_
       refine Jbs rfl (Ja3 tb rfl) rfl rfl ?_
       rintro v L' R' ⟨b5,rfl,rfl,hR5⟩
       replace hR5:=hR5.symm;subst hR5
       refine qa1 ?_
       refine Ja8 hT2 (List.nil_sublist _) zc rfl ?_
       refine qbg ?_
       refine Jaz ?_
       exact Jas (⟨b21,b26,b29,b5⟩,⟨(r2,k2),⟨g2,g2'⟩,hk2,he2⟩) zm zh zq (List.Sublist.refl _) (Jac _)
      refine qca ?_
      refine Jbs rfl (Ja3 tb rfl) rfl rfl ?_
      rintro v L' R' ⟨b5,rfl,rfl,hR5⟩
      replace hR5:=hR5.symm;subst hR5
      refine qa1 ?_
      refine Jai [11] hT2 (List.nil_sublist _) zc ?_
      refine qca ?_
      refine Jea ?_
      rintro v L' R' ⟨b29,rfl,rfl,hR29⟩
      replace hR29:=hR29.symm;subst hR29
      refine qa1 ?_
      refine Jb8 ?_
      refine Ja8 hT2 (List.nil_sublist _) zc rfl ?_
      refine qbg ?_
      refine Jaz ?_
      exact Jas (⟨b21,b26,b29,b5⟩,⟨(r2,k2),⟨g2,g2'⟩,hk2,he2⟩) zm zh zq (List.Sublist.refl _) (Jac _)
     refine Jaq ?_ ?_
     ·
      skip
      refine Jea ?_
      rintro v L' R' ⟨b29,rfl,rfl,hR29⟩
      replace hR29:=hR29.symm;subst hR29
      refine qa1 ?_
      refine Jai [8,13] hT2 (List.nil_sublist _) zc ?_
      refine Jaq ?_ ?_
      ·
       skip
       refine Jcv ?_
       rintro v L' R' ⟨b26,rfl,rfl,hR26⟩
       replace hR26:=hR26.symm;subst hR26
       refine qa1 ?_
       refine Jb8 ?_
       refine Jai [13] hT2 (List.nil_sublist _) zc ?_
       refine qca ?_
       refine Jbs rfl (Ja3 tb rfl) rfl rfl ?_
       rintro v L' R' ⟨b5,rfl,rfl,hR5⟩
       replace hR5:=hR5.symm;subst hR5
       refine qa1 ?_
       refine Ja8 hT2 (List.nil_sublist _) zc rfl ?_
       refine qbg ?_
       refine Jaz ?_
       exact Jas (⟨b21,b26,b29,b5⟩,⟨(r2,k2),⟨g2,g2'⟩,hk2,he2⟩) zm zh zq (List.Sublist.refl _) (Jac _)
      refine qca ?_
      refine Jbs rfl (Ja3 tb rfl) rfl rfl ?_
      rintro v L' R' ⟨b5,rfl,rfl,hR5⟩
      replace hR5:=hR5.symm;subst hR5
      refine qa1 ?_
      refine Jai [8] hT2 (List.nil_sublist _) zc ?_
      refine qca ?_
      refine Jcv ?_
      rintro v L' R' ⟨b26,rfl,rfl,hR26⟩
      replace hR26:=hR26.symm;subst hR26
      refine qa1 ?_
      refine Jb8 ?_
      refine Ja8 hT2 (List.nil_sublist _) zc rfl ?_
      refine qbg ?_
      refine Jaz ?_
      exact Jas (⟨b21,b26,b29,b5⟩,⟨(r2,k2),⟨g2,g2'⟩,hk2,he2⟩) zm zh zq (List.Sublist.refl _) (Jac _)
     refine qca ?_
     refine Jbs rfl (Ja3 tb rfl) rfl rfl ?_
     rintro v L' R' ⟨b5,rfl,rfl,hR5⟩
     replace hR5:=hR5.symm;subst hR5
     refine qa1 ?_
     refine Jai [8,11] hT2 (List.nil_sublist _) zc ?_
     refine Jaq ?_ ?_
     ·
      skip
      refine Jcv ?_
      rintro v L' R' ⟨b26,rfl,rfl,hR26⟩
      replace hR26:=hR26.symm;subst hR26
      refine qa1 ?_
      refine Jai [11] hT2 (List.nil_sublist _) zc ?_
      refine qca ?_
      refine Jea ?_
      rintro v L' R' ⟨b29,rfl,rfl,hR29⟩
      replace hR29:=hR29.symm;subst hR29
      refine qa1 ?_
      refine Jb8 ?_
      refine Ja8 hT2 (List.nil_sublist _) zc rfl ?_
      refine qbg ?_
      refine Jaz ?_
      exact Jas (⟨b21,b26,b29,b5⟩,⟨(r2,k2),⟨g2,g2'⟩,hk2,he2⟩) zm zh zq (List.Sublist.refl _) (Jac _)
     refine qca ?_
     refine Jea ?_
     rintro v L' R' ⟨b29,rfl,rfl,hR29⟩
     replace hR29:=hR29.symm;subst hR29
     refine qa1 ?_
     refine Jai [8] hT2 (List.nil_sublist _) zc ?_
     refine qca ?_
     refine Jcv ?_
     rintro v L' R' ⟨b26,rfl,rfl,hR26⟩
     replace hR26:=hR26.symm;subst hR26
     refine qa1 ?_
     refine Jb8 ?_
     refine Ja8 hT2 (List.nil_sublist _) zc rfl ?_
     refine qbg ?_
     refine Jaz ?_
     exact Jas (⟨b21,b26,b29,b5⟩,⟨(r2,k2),⟨g2,g2'⟩,hk2,he2⟩) zm zh zq (List.Sublist.refl _) (Jac _)
    refine Jaq ?_ ?_
    ·
     skip
     refine Jcv ?_
     rintro v L' R' ⟨b26,rfl,rfl,hR26⟩
     replace hR26:=hR26.symm;subst hR26
     refine qa1 ?_
     refine Jai [3,11,13] hT2 (List.nil_sublist _) zc ?_
     refine Jaq ?_ ?_
     ·
      skip
      refine Jd5 ?_
      rintro v L' R' ⟨b21,rfl,rfl,hR21⟩
      replace hR21:=hR21.symm;subst hR21
      refine qa1 ?_
      refine Jai [11,13] hT2 (List.nil_sublist _) zc ?_
      refine Jaq ?_ ?_
      ·
       skip
       refine Jea ?_
       rintro v L' R' ⟨b29,rfl,rfl,hR29⟩
       replace hR29:=hR29.symm;subst hR29
       refine qa1 ?_
       refine Jb8 ?_
       refine Jai [13] hT2 (List.nil_sublist _) zc ?_
       refine qca ?_
       refine Jbs rfl (Ja3 tb rfl) rfl rfl ?_
       rintro v L' R' ⟨b5,rfl,rfl,hR5⟩
       replace hR5:=hR5.symm;subst hR5
       refine qa1 ?_
       refine Ja8 hT2 (List.nil_sublist _) zc rfl ?_
       refine qbg ?_
       refine Jaz ?_
       exact Jas (⟨b21,b26,b29,b5⟩,⟨(r2,k2),⟨g2,g2'⟩,hk2,he2⟩) zm zh zq (List.Sublist.refl _) (Jac _)
      refine qca ?_
      refine Jbs rfl (Ja3 tb rfl) rfl rfl ?_
      rintro v L' R' ⟨b5,rfl,rfl,hR5⟩
      replace hR5:=hR5.symm;subst hR5
      refine qa1 ?_
      refine Jai [11] hT2 (List.nil_sublist _) zc ?_
      refine qca ?_
      refine Jea ?_
      rintro v L' R' ⟨b29,rfl,rfl,hR29⟩
      replace hR29:=hR29.symm;subst hR29
      refine qa1 ?_
      refine Jb8 ?_
      refine Ja8 hT2 (List.nil_sublist _) zc rfl ?_
      refine qbg ?_
      refine Jaz ?_
      exact Jas (⟨b21,b26,b29,b5⟩,⟨(r2,k2),⟨g2,g2'⟩,hk2,he2⟩) zm zh zq (List.Sublist.refl _) (Jac _)
     refine Jaq ?_ ?_
     ·
      skip
      refine Jea ?_
      rintro v L' R' ⟨b29,rfl,rfl,hR29⟩
      replace hR29:=hR29.symm;subst hR29
      refine qa1 ?_
      refine Jai [3,13] hT2 (List.nil_sublist _) zc ?_
      refine Jaq ?_ ?_
      ·
       skip
       refine Jd5 ?_
       rintro v L' R' ⟨b21,rfl,rfl,hR21⟩
       replace hR21:=hR21.symm;subst hR21
       refine qa1 ?_
       refine Jb8 ?_
       refine Jai [13] hT2 (List.nil_sublist _) zc ?_
       refine qca ?_
       refine Jbs rfl (Ja3 tb rfl) rfl rfl ?_
       rintro v L' R' ⟨b5,rfl,rfl,hR5⟩
       replace hR5:=hR5.symm;subst hR5
       refine qa1 ?_
       refine Ja8 hT2 (List.nil_sublist _) zc rfl ?_
       refine qbg ?_
       refine Jaz ?_
       exact Jas (⟨b21,b26,b29,b5⟩,⟨(r2,k2),⟨g2,g2'⟩,hk2,he2⟩) zm zh zq (List.Sublist.refl _) (Jac _)
      refine qca ?_
      refine Jbs rfl (Ja3 tb rfl) rfl rfl ?_
      rintro v L' R' ⟨b5,rfl,rfl,hR5⟩
      replace hR5:=hR5.symm;subst hR5
      refine qa1 ?_
      refine Jai [3] hT2 (List.nil_sublist _) zc ?_
      refine qca ?_
      refine Jd5 ?_
      rintro v L' R' ⟨b21,rfl,rfl,hR21⟩
      replace hR21:=hR21.symm;subst hR21
      refine qa1 ?_
      refine Jb8 ?_
      refine Ja8 hT2 (List.nil_sublist _) zc rfl ?_
      refine qbg ?_
      refine Jaz ?_
      exact Jas (⟨b21,b26,b29,b5⟩,⟨(r2,k2),⟨g2,g2'⟩,hk2,he2⟩) zm zh zq (List.Sublist.refl _) (Jac _)
     refine qca ?_
     refine Jbs rfl (Ja3 tb rfl) rfl rfl ?_
     rintro v L' R' ⟨b5,rfl,rfl,hR5⟩
     replace hR5:=hR5.symm;subst hR5
     refine qa1 ?_
     refine Jai [3,11] hT2 (List.nil_sublist _) zc ?_
     refine Jaq ?_ ?_
     ·
      skip
      refine Jd5 ?_
      rintro v L' R' ⟨b21,rfl,rfl,hR21⟩
      replace hR21:=hR21.symm;subst hR21
      refine qa1 ?_
      refine Jai [11] hT2 (List.nil_sublist _) zc ?_
      refine qca ?_
      refine Jea ?_
      rintro v L' R' ⟨b29,rfl,rfl,hR29⟩
      replace hR29:=hR29.symm;subst hR29
      refine qa1 ?_
      refine Jb8 ?_
      refine Ja8 hT2 (List.nil_sublist _) zc rfl ?_
      refine qbg ?_
      refine Jaz ?_
      exact Jas (⟨b21,b26,b29,b5⟩,⟨(r2,k2),⟨g2,g2'⟩,hk2,he2⟩) zm zh zq (List.Sublist.refl _) (Jac _)
     refine qca ?_
     refine Jea ?_
     rintro v L' R' ⟨b29,rfl,rfl,hR29⟩
     replace hR29:=hR29.symm;subst hR29
     refine qa1 ?_
     refine Jai [3] hT2 (List.nil_sublist _) zc ?_
     refine qca ?_
     refine Jd5 ?_
     rintro v L' R' ⟨b21,rfl,rfl,hR21⟩
     replace hR21:=hR21.symm;subst hR21
     refine qa1 ?_
     refine Jb8 ?_
     refine Ja8 hT2 (List.nil_sublist _) zc rfl ?_
     refine qbg ?_
     refine Jaz ?_
     exact Jas (⟨b21,b26,b29,b5⟩,⟨(r2,k2),⟨g2,g2'⟩,hk2,he2⟩) zm zh zq (List.Sublist.refl _) (Jac _)
    refine Jaq ?_ ?_
    ·
     skip
     refine Jea ?_
     rintro v L' R' ⟨b29,rfl,rfl,hR29⟩
     replace hR29:=hR29.symm;subst hR29
     refine qa1 ?_
     refine Jai [3,8,13] hT2 (List.nil_sublist _) zc ?_
     refine Jaq ?_ ?_
     ·
      skip
      refine Jd5 ?_
      rintro v L' R' ⟨b21,rfl,rfl,hR21⟩
      replace hR21:=hR21.symm;subst hR21
      refine qa1 ?_
      refine Jai [8,13] hT2 (List.nil_sublist _) zc ?_
      refine Jaq ?_ ?_
      ·
       skip
       refine Jcv ?_
       rintro v L' R' ⟨b26,rfl,rfl,hR26⟩
       replace hR26:=hR26.symm;subst hR26
       refine qa1 ?_
       refine Jb8 ?_
       refine Jai [13] hT2 (List.nil_sublist _) zc ?_
       refine qca ?_
       refine Jbs rfl (Ja3 tb rfl) rfl rfl ?_
       rintro v L' R' ⟨b5,rfl,rfl,hR5⟩
       replace hR5:=hR5.symm;subst hR5
       refine qa1 ?_
       refine Ja8 hT2 (List.nil_sublist _) zc rfl ?_
       refine qbg ?_
       refine Jaz ?_
       exact Jas (⟨b21,b26,b29,b5⟩,⟨(r2,k2),⟨g2,g2'⟩,hk2,he2⟩) zm zh zq (List.Sublist.refl _) (Jac _)
      refine qca ?_
      refine Jbs rfl (Ja3 tb rfl) rfl rfl ?_
      rintro v L' R' ⟨b5,rfl,rfl,hR5⟩
      replace hR5:=hR5.symm;subst hR5
      refine qa1 ?_
      refine Jai [8] hT2 (List.nil_sublist _) zc ?_
      refine qca ?_
      refine Jcv ?_
      rintro v L' R' ⟨b26,rfl,rfl,hR26⟩
      replace hR26:=hR26.symm;subst hR26
      refine qa1 ?_
      refine Jb8 ?_
      refine Ja8 hT2 (List.nil_sublist _) zc rfl ?_
      refine qbg ?_
      refine Jaz ?_
      exact Jas (⟨b21,b26,b29,b5⟩,⟨(r2,k2),⟨g2,g2'⟩,hk2,he2⟩) zm zh zq (List.Sublist.refl _) (Jac _)
     refine Jaq ?_ ?_
     ·
      skip
      refine Jcv ?_
      rintro v L' R' ⟨b26,rfl,rfl,hR26⟩
      replace hR26:=hR26.symm;subst hR26
      refine qa1 ?_
      refine Jai [3,13] hT2 (List.nil_sublist _) zc ?_
      refine Jaq ?_ ?_
      ·
       skip
       refine Jd5 ?_
       rintro v L' R' ⟨b21,rfl,rfl,hR21⟩
       replace hR21:=hR21.symm;subst hR21
       refine qa1 ?_
       refine Jb8 ?_
       refine Jai [13] hT2 (List.nil_sublist _) zc ?_
       refine qca ?_
       refine Jbs rfl (Ja3 tb rfl) rfl rfl ?_
       rintro v L' R' ⟨b5,rfl,rfl,hR5⟩
       replace hR5:=hR5.symm;subst hR5
       refine qa1 ?_
       refine Ja8 hT2 (List.nil_sublist _) zc rfl ?_
       refine qbg ?_
       refine Jaz ?_
       exact Jas (⟨b21,b26,b29,b5⟩,⟨(r2,k2),⟨g2,g2'⟩,hk2,he2⟩) zm zh zq (List.Sublist.refl _) (Jac _)
      refine qca ?_
      refine Jbs rfl (Ja3 tb rfl) rfl rfl ?_
      rintro v L' R' ⟨b5,rfl,rfl,hR5⟩
      replace hR5:=hR5.symm;subst hR5
      refine qa1 ?_
      refine Jai [3] hT2 (List.nil_sublist _) zc ?_
      refine qca ?_
      refine Jd5 ?_
      rintro v L' R' ⟨b21,rfl,rfl,hR21⟩
      replace hR21:=hR21.symm;subst hR21
      refine qa1 ?_
      refine Jb8 ?_
      refine Ja8 hT2 (List.nil_sublist _) zc rfl ?_
      refine qbg ?_
      refine Jaz ?_
      exact Jas (⟨b21,b26,b29,b5⟩,⟨(r2,k2),⟨g2,g2'⟩,hk2,he2⟩) zm zh zq (List.Sublist.refl _) (Jac _)
     refine qca ?_
     refine Jbs rfl (Ja3 tb rfl) rfl rfl ?_
     rintro v L' R' ⟨b5,rfl,rfl,hR5⟩
     replace hR5:=hR5.symm;subst hR5
     refine qa1 ?_
     refine Jai [3,8] hT2 (List.nil_sublist _) zc ?_
     refine Jaq ?_ ?_
     ·
      skip
      refine Jd5 ?_
      rintro v L' R' ⟨b21,rfl,rfl,hR21⟩
      replace hR21:=hR21.symm;subst hR21
      refine qa1 ?_
      refine Jai [8] hT2 (List.nil_sublist _) zc ?_
      refine qca ?_
      refine Jcv ?_
      rintro v L' R' ⟨b26,rfl,rfl,hR26⟩
      replace hR26:=hR26.symm;subst hR26
      refine qa1 ?_
      refine Jb8 ?_
      refine Ja8 hT2 (List.nil_sublist _) zc rfl ?_
      refine qbg ?_
      refine Jaz ?_
      exact Jas (⟨b21,b26,b29,b5⟩,⟨(r2,k2),⟨g2,g2'⟩,hk2,he2⟩) zm zh zq (List.Sublist.refl _) (Jac _)
     refine qca ?_
     refine Jcv ?_
     rintro v L' R' ⟨b26,rfl,rfl,hR26⟩
     replace hR26:=hR26.symm;subst hR26
     refine qa1 ?_
     refine Jai [3] hT2 (List.nil_sublist _) zc ?_
     refine qca ?_
     refine Jd5 ?_
     rintro v L' R' ⟨b21,rfl,rfl,hR21⟩
     replace hR21:=hR21.symm;subst hR21
     refine qa1 ?_
     refine Jb8 ?_
     refine Ja8 hT2 (List.nil_sublist _) zc rfl ?_
     refine qbg ?_
     refine Jaz ?_
     exact Jas (⟨b21,b26,b29,b5⟩,⟨(r2,k2),⟨g2,g2'⟩,hk2,he2⟩) zm zh zq (List.Sublist.refl _) (Jac _)
    refine qca ?_
    refine Jbs rfl (Ja3 tb rfl) rfl rfl ?_
    rintro v L' R' ⟨b5,rfl,rfl,hR5⟩
    replace hR5:=hR5.symm;subst hR5
    refine qa1 ?_
    refine Jai [3,8,11] hT2 (List.nil_sublist _) zc ?_
    refine Jaq ?_ ?_
    ·
     skip
     refine Jd5 ?_
     rintro v L' R' ⟨b21,rfl,rfl,hR21⟩
     replace hR21:=hR21.symm;subst hR21
     refine qa1 ?_
     refine Jai [8,11] hT2 (List.nil_sublist _) zc ?_
     refine Jaq ?_ ?_
     ·
      skip
      refine Jcv ?_
      rintro v L' R' ⟨b26,rfl,rfl,hR26⟩
      replace hR26:=hR26.symm;subst hR26
      refine qa1 ?_
      refine Jai [11] hT2 (List.nil_sublist _) zc ?_
      refine qca ?_
      refine Jea ?_
      rintro v L' R' ⟨b29,rfl,rfl,hR29⟩
      replace hR29:=hR29.symm;subst hR29
      refine qa1 ?_
      refine Jb8 ?_
      refine Ja8 hT2 (List.nil_sublist _) zc rfl ?_
      refine qbg ?_
      refine Jaz ?_
      exact Jas (⟨b21,b26,b29,b5⟩,⟨(r2,k2),⟨g2,g2'⟩,hk2,he2⟩) zm zh zq (List.Sublist.refl _) (Jac _)
     refine qca ?_
     refine Jea ?_
     rintro v L' R' ⟨b29,rfl,rfl,hR29⟩
     replace hR29:=hR29.symm;subst hR29
     refine qa1 ?_
     refine Jai [8] hT2 (List.nil_sublist _) zc ?_
     refine qca ?_
     refine Jcv ?_
     rintro v L' R' ⟨b26,rfl,rfl,hR26⟩
     replace hR26:=hR26.symm;subst hR26
     refine qa1 ?_
     refine Jb8 ?_
     refine Ja8 hT2 (List.nil_sublist _) zc rfl ?_
     refine qbg ?_
     refine Jaz ?_
     exact Jas (⟨b21,b26,b29,b5⟩,⟨(r2,k2),⟨g2,g2'⟩,hk2,he2⟩) zm zh zq (List.Sublist.refl _) (Jac _)
    refine Jaq ?_ ?_
    ·
     skip
     refine Jcv ?_
     rintro v L' R' ⟨b26,rfl,rfl,hR26⟩
     replace hR26:=hR26.symm;subst hR26
     refine qa1 ?_
     refine Jai [3,11] hT2 (List.nil_sublist _) zc ?_
     refine Jaq ?_ ?_
     ·
      skip
      refine Jd5 ?_
      rintro v L' R' ⟨b21,rfl,rfl,hR21⟩
      replace hR21:=hR21.symm;subst hR21
      refine qa1 ?_
      refine Jai [11] hT2 (List.nil_sublist _) zc ?_
      refine qca ?_
      refine Jea ?_
      rintro v L' R' ⟨b29,rfl,rfl,hR29⟩
      replace hR29:=hR29.symm;subst hR29
      refine qa1 ?_
      refine Jb8 ?_
      refine Ja8 hT2 (List.nil_sublist _) zc rfl ?_
      refine qbg ?_
      refine Jaz ?_
      exact Jas (⟨b21,b26,b29,b5⟩,⟨(r2,k2),⟨g2,g2'⟩,hk2,he2⟩) zm zh zq (List.Sublist.refl _) (Jac _)
     refine qca ?_
     refine Jea ?_
     rintro v L' R' ⟨b29,rfl,rfl,hR29⟩
     replace hR29:=hR29.symm;subst hR29
     refine qa1 ?_
     refine Jai [3] hT2 (List.nil_sublist _) zc ?_
     refine qca ?_
     refine Jd5 ?_
     rintro v L' R' ⟨b21,rfl,rfl,hR21⟩
     replace hR21:=hR21.symm;subst hR21
     refine qa1 ?_
     refine Jb8 ?_
     refine Ja8 hT2 (List.nil_sublist _) zc rfl ?_
     refine qbg ?_
     refine Jaz ?_
     exact Jas (⟨b21,b26,b29,b5⟩,⟨(r2,k2),⟨g2,g2'⟩,hk2,he2⟩) zm zh zq (List.Sublist.refl _) (Jac _)
    refine qca ?_
    refine Jea ?_
    rintro v L' R' ⟨b29,rfl,rfl,hR29⟩
    replace hR29:=hR29.symm;subst hR29
    refine qa1 ?_
    refine Jai [3,8] hT2 (List.nil_sublist _) zc ?_
    refine Jaq ?_ ?_
    ·
     skip
     refine Jd5 ?_
     rintro v L' R' ⟨b21,rfl,rfl,hR21⟩
     replace hR21:=hR21.symm;subst hR21
     refine qa1 ?_
     refine Jai [8] hT2 (List.nil_sublist _) zc ?_
     refine qca ?_
     refine Jcv ?_
     rintro v L' R' ⟨b26,rfl,rfl,hR26⟩
     replace hR26:=hR26.symm;subst hR26
     refine qa1 ?_
     refine Jb8 ?_
     refine Ja8 hT2 (List.nil_sublist _) zc rfl ?_
     refine qbg ?_
     refine Jaz ?_
     exact Jas (⟨b21,b26,b29,b5⟩,⟨(r2,k2),⟨g2,g2'⟩,hk2,he2⟩) zm zh zq (List.Sublist.refl _) (Jac _)
    refine qca ?_
    refine Jcv ?_
    rintro v L' R' ⟨b26,rfl,rfl,hR26⟩
    replace hR26:=hR26.symm;subst hR26
    refine qa1 ?_
    refine Jai [3] hT2 (List.nil_sublist _) zc ?_
    refine qca ?_
    refine Jd5 ?_
    rintro v L' R' ⟨b21,rfl,rfl,hR21⟩
    replace hR21:=hR21.symm;subst hR21
    refine qa1 ?_
    refine Jb8 ?_
    refine Ja8 hT2 (List.nil_sublist _) zc rfl ?_
    refine qbg ?_
    refine Jaz ?_
    exact Jas (⟨b21,b26,b29,b5⟩,⟨(r2,k2),⟨g2,g2'⟩,hk2,he2⟩) zm zh zq (List.Sublist.refl _) (Jac _)
   refine Jaq ?_ ?_
   ·
    skip
    refine Jea ?_
    rintro v L' R' ⟨b29,rfl,rfl,hR29⟩
    replace hR29:=hR29.symm;subst hR29
    refine qa1 ?_
    refine Jai [3,5,13] hT2 (List.nil_sublist _) zc ?_
    refine Jaq ?_ ?_
    ·
     skip
     refine Jd5 ?_
     rintro v L' R' ⟨b21,rfl,rfl,hR21⟩
     replace hR21:=hR21.symm;subst hR21
     refine qa1 ?_
     refine Jai [5,13] hT2 (List.nil_sublist _) zc ?_
     refine Jaq ?_ ?_
     ·
      skip
      refine Jka ?_
      rintro v L' R' ⟨r2,k2,rfl,g2,g2',hk2,he2,rfl,rfl⟩
      refine ⟨zi,zx,?_⟩
      refine Jkg ?_
      refine Jkf ?_
      refine Jai [8,13] hT2 (List.nil_sublist _) zc ?_
      refine Jaq ?_ ?_
      ·
       skip
       refine Jcv ?_
       rintro v L' R' ⟨b26,rfl,rfl,hR26⟩
       replace hR26:=hR26.symm;subst hR26
       refine qa1 ?_
       refine Jb8 ?_
       refine Jai [13] hT2 (List.nil_sublist _) zc ?_
       refine qca ?_
       refine Jbs rfl (Ja3 tb rfl) rfl rfl ?_
       rintro v L' R' ⟨b5,rfl,rfl,hR5⟩
       replace hR5:=hR5.symm;subst hR5
       refine qa1 ?_
       refine Ja8 hT2 (List.nil_sublist _) zc rfl ?_
       refine qbg ?_
       refine Jaz ?_
       exact Jas (⟨b21,b26,b29,b5⟩,⟨(r2,k2),⟨g2,g2'⟩,hk2,he2⟩) zm zh zq (List.Sublist.refl _) (Jac _)
      refine qca ?_
      refine Jbs rfl (Ja3 tb rfl) rfl rfl ?_
      rintro v L' R' ⟨b5,rfl,rfl,hR5⟩
      replace hR5:=hR5.symm;subst hR5
      refine qa1 ?_
      refine Jai [8] hT2 (List.nil_sublist _) zc ?_
      refine qca ?_
      refine Jcv ?_
      rintro v L' R' ⟨b26,rfl,rfl,hR26⟩
      replace hR26:=hR26.symm;subst hR26
      refine qa1 ?_
      refine Jb8 ?_
      refine Ja8 hT2 (List.nil_sublist _) zc rfl ?_
      refine qbg ?_
      refine Jaz ?_
      exact Jas (⟨b21,b26,b29,b5⟩,⟨(r2,k2),⟨g2,g2'⟩,hk2,he2⟩) zm zh zq (List.Sublist.refl _) (Jac _)
     refine qca ?_
     refine Jbs rfl (Ja3 tb rfl) rfl rfl ?_
     rintro v L' R' ⟨b5,rfl,rfl,hR5⟩
     replace hR5:=hR5.symm;subst hR5
     refine qa1 ?_
     refine Jai [5] hT2 (List.nil_sublist _) zc ?_
     refine qca ?_
     refine Jka ?_
     rintro v L' R' ⟨r2,k2,rfl,g2,g2',hk2,he2,rfl,rfl⟩
     refine ⟨zi,zx,?_⟩
     refine Jkg ?_
     refine Jkf ?_
     refine Jai [8] hT2 (List.nil_sublist _) zc ?_
     refine qca ?_
     refine Jcv ?_
     rintro v L' R' ⟨b26,rfl,rfl,hR26⟩
     replace hR26:=hR26.symm;subst hR26
     refine qa1 ?_
     refine Jb8 ?_
     refine Ja8 hT2 (List.nil_sublist _) zc rfl ?_
     refine qbg ?_
     refine Jaz ?_
     exact Jas (⟨b21,b26,b29,b5⟩,⟨(r2,k2),⟨g2,g2'⟩,hk2,he2⟩) zm zh zq (List.Sublist.refl _) (Jac _)
    refine Jaq ?_ ?_
    ·
     skip
     refine Jka ?_
     rintro v L' R' ⟨r2,k2,rfl,g2,g2',hk2,he2,rfl,rfl⟩
     refine ⟨zi,zx,?_⟩
     refine Jkg ?_
     refine Jkf ?_
     refine Jai [3,8,13] hT2 (List.nil_sublist _) zc ?_
     refine Jaq ?_ ?_
     ·
      skip
      refine Jd5 ?_
      rintro v L' R' ⟨b21,rfl,rfl,hR21⟩
      replace hR21:=hR21.symm;subst hR21
      refine qa1 ?_
      refine Jai [8,13] hT2 (List.nil_sublist _) zc ?_
      refine Jaq ?_ ?_
      ·
       skip
       refine Jcv ?_
       rintro v L' R' ⟨b26,rfl,rfl,hR26⟩
       replace hR26:=hR26.symm;subst hR26
       refine qa1 ?_
       refine Jb8 ?_
       refine Jai [13] hT2 (List.nil_sublist _) zc ?_
       refine qca ?_
       refine Jbs rfl (Ja3 tb rfl) rfl rfl ?_
       rintro v L' R' ⟨b5,rfl,rfl,hR5⟩
       replace hR5:=hR5.symm;subst hR5
       refine qa1 ?_
       refine Ja8 hT2 (List.nil_sublist _) zc rfl ?_
       refine qbg ?_
       refine Jaz ?_
       exact Jas (⟨b21,b26,b29,b5⟩,⟨(r2,k2),⟨g2,g2'⟩,hk2,he2⟩) zm zh zq (List.Sublist.refl _) (Jac _)
      refine qca ?_
      refine Jbs rfl (Ja3 tb rfl) rfl rfl ?_
      rintro v L' R' ⟨b5,rfl,rfl,hR5⟩
      replace hR5:=hR5.symm;subst hR5
      refine qa1 ?_
      refine Jai [8] hT2 (List.nil_sublist _) zc ?_
      refine qca ?_
      refine Jcv ?_
      rintro v L' R' ⟨b26,rfl,rfl,hR26⟩
      replace hR26:=hR26.symm;subst hR26
      refine qa1 ?_
      refine Jb8 ?_
      refine Ja8 hT2 (List.nil_sublist _) zc rfl ?_
      refine qbg ?_
      refine Jaz ?_
      exact Jas (⟨b21,b26,b29,b5⟩,⟨(r2,k2),⟨g2,g2'⟩,hk2,he2⟩) zm zh zq (List.Sublist.refl _) (Jac _)
     refine Jaq ?_ ?_
     ·
      skip
      refine Jcv ?_
      rintro v L' R' ⟨b26,rfl,rfl,hR26⟩
      replace hR26:=hR26.symm;subst hR26
      refine qa1 ?_
      refine Jai [3,13] hT2 (List.nil_sublist _) zc ?_
      refine Jaq ?_ ?_
      ·
       skip
       refine Jd5 ?_
       rintro v L' R' ⟨b21,rfl,rfl,hR21⟩
       replace hR21:=hR21.symm;subst hR21
       refine qa1 ?_
       refine Jb8 ?_
       refine Jai [13] hT2 (List.nil_sublist _) zc ?_
       refine qca ?_
       refine Jbs rfl (Ja3 tb rfl) rfl rfl ?_
       rintro v L' R' ⟨b5,rfl,rfl,hR5⟩
       replace hR5:=hR5.symm;subst hR5
       refine qa1 ?_
       refine Ja8 hT2 (List.nil_sublist _) zc rfl ?_
       refine qbg ?_
       refine Jaz ?_
       exact Jas (⟨b21,b26,b29,b5⟩,⟨(r2,k2),⟨g2,g2'⟩,hk2,he2⟩) zm zh zq (List.Sublist.refl _) (Jac _)
      refine qca ?_
      refine Jbs rfl (Ja3 tb rfl) rfl rfl ?_
      rintro v L' R' ⟨b5,rfl,rfl,hR5⟩
      replace hR5:=hR5.symm;subst hR5
      refine qa1 ?_
      refine Jai [3] hT2 (List.nil_sublist _) zc ?_
      refine qca ?_
      refine Jd5 ?_
      rintro v L' R' ⟨b21,rfl,rfl,hR21⟩
      replace hR21:=hR21.symm;subst hR21
      refine qa1 ?_
      refine Jb8 ?_
      refine Ja8 hT2 (List.nil_sublist _) zc rfl ?_
      refine qbg ?_
      refine Jaz ?_
      exact Jas (⟨b21,b26,b29,b5⟩,⟨(r2,k2),⟨g2,g2'⟩,hk2,he2⟩) zm zh zq (List.Sublist.refl _) (Jac _)
     refine qca ?_
     refine Jbs rfl (Ja3 tb rfl) rfl rfl ?_
     rintro v L' R' ⟨b5,rfl,rfl,hR5⟩
     replace hR5:=hR5.symm;subst hR5
     refine qa1 ?_
     refine Jai [3,8] hT2 (List.nil_sublist _) zc ?_
     refine Jaq ?_ ?_
     ·
      skip
      refine Jd5 ?_
      rintro v L' R' ⟨b21,rfl,rfl,hR21⟩
      replace hR21:=hR21.symm;subst hR21
      refine qa1 ?_
      refine Jai [8] hT2 (List.nil_sublist _) zc ?_
      refine qca ?_
      refine Jcv ?_
      rintro v L' R' ⟨b26,rfl,rfl,hR26⟩
      replace hR26:=hR26.symm;subst hR26
      refine qa1 ?_
      refine Jb8 ?_
      refine Ja8 hT2 (List.nil_sublist _) zc rfl ?_
      refine qbg ?_
      refine Jaz ?_
      exact Jas (⟨b21,b26,b29,b5⟩,⟨(r2,k2),⟨g2,g2'⟩,hk2,he2⟩) zm zh zq (List.Sublist.refl _) (Jac _)
     refine qca ?_
     refine Jcv ?_
     rintro v L' R' ⟨b26,rfl,rfl,hR26⟩
     replace hR26:=hR26.symm;subst hR26
     refine qa1 ?_
     refine Jai [3] hT2 (List.nil_sublist _) zc ?_
     refine qca ?_
     refine Jd5 ?_
     rintro v L' R' ⟨b21,rfl,rfl,hR21⟩
     replace hR21:=hR21.symm;subst hR21
     refine qa1 ?_
     refine Jb8 ?_
     refine Ja8 hT2 (List.nil_sublist _) zc rfl ?_
     refine qbg ?_
     refine Jaz ?_
     exact Jas (⟨b21,b26,b29,b5⟩,⟨(r2,k2),⟨g2,g2'⟩,hk2,he2⟩) zm zh zq (List.Sublist.refl _) (Jac _)
    refine qca ?_
    refine Jbs rfl (Ja3 tb rfl) rfl rfl ?_
    rintro v L' R' ⟨b5,rfl,rfl,hR5⟩
    replace hR5:=hR5.symm;subst hR5
    refine qa1 ?_
    refine Jai [3,5] hT2 (List.nil_sublist _) zc ?_
    refine Jaq ?_ ?_
    ·
     skip
     refine Jd5 ?_
     rintro v L' R' ⟨b21,rfl,rfl,hR21⟩
     replace hR21:=hR21.symm;subst hR21
     refine qa1 ?_
     refine Jai [5] hT2 (List.nil_sublist _) zc ?_
     refine qca ?_
     refine Jka ?_
     rintro v L' R' ⟨r2,k2,rfl,g2,g2',hk2,he2,rfl,rfl⟩
     refine ⟨zi,zx,?_⟩
     refine Jkg ?_
     refine Jkf ?_
     refine Jai [8] hT2 (List.nil_sublist _) zc ?_
     refine qca ?_
     refine Jcv ?_
     rintro v L' R' ⟨b26,rfl,rfl,hR26⟩
     replace hR26:=hR26.symm;subst hR26
     refine qa1 ?_
     refine Jb8 ?_
     refine Ja8 hT2 (List.nil_sublist _) zc rfl ?_
     refine qbg ?_
     refine Jaz ?_
     exact Jas (⟨b21,b26,b29,b5⟩,⟨(r2,k2),⟨g2,g2'⟩,hk2,he2⟩) zm zh zq (List.Sublist.refl _) (Jac _)
    refine qca ?_
    refine Jka ?_
    rintro v L' R' ⟨r2,k2,rfl,g2,g2',hk2,he2,rfl,rfl⟩
    refine ⟨zi,zx,?_⟩
    refine Jkg ?_
    refine Jkf ?_
    refine Jai [3,8] hT2 (List.nil_sublist _) zc ?_
    refine Jaq ?_ ?_
    ·
     skip
     refine Jd5 ?_
     rintro v L' R' ⟨b21,rfl,rfl,hR21⟩
     replace hR21:=hR21.symm;subst hR21
     refine qa1 ?_
     refine Jai [8] hT2 (List.nil_sublist _) zc ?_
     refine qca ?_
     refine Jcv ?_
     rintro v L' R' ⟨b26,rfl,rfl,hR26⟩
     replace hR26:=hR26.symm;subst hR26
     refine qa1 ?_
     refine Jb8 ?_
     refine Ja8 hT2 (List.nil_sublist _) zc rfl ?_
     refine qbg ?_
     refine Jaz ?_
     exact Jas (⟨b21,b26,b29,b5⟩,⟨(r2,k2),⟨g2,g2'⟩,hk2,he2⟩) zm zh zq (List.Sublist.refl _) (Jac _)
    refine qca ?_
    refine Jcv ?_
    rintro v L' R' ⟨b26,rfl,rfl,hR26⟩
    replace hR26:=hR26.symm;subst hR26
    refine qa1 ?_
    refine Jai [3] hT2 (List.nil_sublist _) zc ?_
    refine qca ?_
    refine Jd5 ?_
    rintro v L' R' ⟨b21,rfl,rfl,hR21⟩
    replace hR21:=hR21.symm;subst hR21
    refine qa1 ?_
    refine Jb8 ?_
    refine Ja8 hT2 (List.nil_sublist _) zc rfl ?_
    refine qbg ?_
    refine Jaz ?_
    exact Jas (⟨b21,b26,b29,b5⟩,⟨(r2,k2),⟨g2,g2'⟩,hk2,he2⟩) zm zh zq (List.Sublist.refl _) (Jac _)
   refine qca ?_
   refine Jbs rfl (Ja3 tb rfl) rfl rfl ?_
   rintro v L' R' ⟨b5,rfl,rfl,hR5⟩
   replace hR5:=hR5.symm;subst hR5
   refine qa1 ?_
   refine Jai [3,5,11] hT2 (List.nil_sublist _) zc ?_
   refine Jaq ?_ ?_
   ·
    skip
    refine Jd5 ?_
    rintro v L' R' ⟨b21,rfl,rfl,hR21⟩
    replace hR21:=hR21.symm;subst hR21
    refine qa1 ?_
    refine Jai [5,11] hT2 (List.nil_sublist _) zc ?_
    refine Jaq ?_ ?_
    ·
     skip
     refine Jka ?_
     rintro v L' R' ⟨r2,k2,rfl,g2,g2',hk2,he2,rfl,rfl⟩
     refine ⟨zi,zx,?_⟩
     refine Jkg ?_
     refine Jkf ?_
     refine Jai [8,11] hT2 (List.nil_sublist _) zc ?_
     refine Jaq ?_ ?_
     ·
      skip
      refine Jcv ?_
      rintro v L' R' ⟨b26,rfl,rfl,hR26⟩
      replace hR26:=hR26.symm;subst hR26
      refine qa1 ?_
      refine Jai [11] hT2 (List.nil_sublist _) zc ?_
      refine qca ?_
      refine Jea ?_
      rintro v L' R' ⟨b29,rfl,rfl,hR29⟩
      replace hR29:=hR29.symm;subst hR29
      refine qa1 ?_
      refine Jb8 ?_
      refine Ja8 hT2 (List.nil_sublist _) zc rfl ?_
      refine qbg ?_
      refine Jaz ?_
      exact Jas (⟨b21,b26,b29,b5⟩,⟨(r2,k2),⟨g2,g2'⟩,hk2,he2⟩) zm zh zq (List.Sublist.refl _) (Jac _)
     refine qca ?_
     refine Jea ?_
     rintro v L' R' ⟨b29,rfl,rfl,hR29⟩
     replace hR29:=hR29.symm;subst hR29
     refine qa1 ?_
     refine Jai [8] hT2 (List.nil_sublist _) zc ?_
     refine qca ?_
     refine Jcv ?_
     rintro v L' R' ⟨b26,rfl,rfl,hR26⟩
     replace hR26:=hR26.symm;subst hR26
     refine qa1 ?_
     refine Jb8 ?_
     refine Ja8 hT2 (List.nil_sublist _) zc rfl ?_
     refine qbg ?_
     refine Jaz ?_
     exact Jas (⟨b21,b26,b29,b5⟩,⟨(r2,k2),⟨g2,g2'⟩,hk2,he2⟩) zm zh zq (List.Sublist.refl _) (Jac _)
    refine qca ?_
    refine Jea ?_
    rintro v L' R' ⟨b29,rfl,rfl,hR29⟩
    replace hR29:=hR29.symm;subst hR29
    refine qa1 ?_
    refine Jai [5] hT2 (List.nil_sublist _) zc ?_
    refine qca ?_
    refine Jka ?_
    rintro v L' R' ⟨r2,k2,rfl,g2,g2',hk2,he2,rfl,rfl⟩
    refine ⟨zi,zx,?_⟩
    refine Jkg ?_
    refine Jkf ?_
    refine Jai [8] hT2 (List.nil_sublist _) zc ?_
    refine qca ?_
    refine Jcv ?_
    rintro v L' R' ⟨b26,rfl,rfl,hR26⟩
    replace hR26:=hR26.symm;subst hR26
    refine qa1 ?_
    refine Jb8 ?_
    refine Ja8 hT2 (List.nil_sublist _) zc rfl ?_
    refine qbg ?_
    refine Jaz ?_
    exact Jas (⟨b21,b26,b29,b5⟩,⟨(r2,k2),⟨g2,g2'⟩,hk2,he2⟩) zm zh zq (List.Sublist.refl _) (Jac _)
   refine Jaq ?_ ?_
   ·
    skip
    refine Jka ?_
    rintro v L' R' ⟨r2,k2,rfl,g2,g2',hk2,he2,rfl,rfl⟩
    refine ⟨zi,zx,?_⟩
    refine Jkg ?_
    refine Jkf ?_
    refine Jai [3,8,11] hT2 (List.nil_sublist _) zc ?_
    refine Jaq ?_ ?_
    ·
     skip
     refine Jd5 ?_
     rintro v L' R' ⟨b21,rfl,rfl,hR21⟩
     replace hR21:=hR21.symm;subst hR21
     refine qa1 ?_
     refine Jai [8,11] hT2 (List.nil_sublist _) zc ?_
     refine Jaq ?_ ?_
     ·
      skip
      refine Jcv ?_
      rintro v L' R' ⟨b26,rfl,rfl,hR26⟩
      replace hR26:=hR26.symm;subst hR26
      refine qa1 ?_
      refine Jai [11] hT2 (List.nil_sublist _) zc ?_
      refine qca ?_
      refine Jea ?_
      rintro v L' R' ⟨b29,rfl,rfl,hR29⟩
      replace hR29:=hR29.symm;subst hR29
      refine qa1 ?_
      refine Jb8 ?_
      refine Ja8 hT2 (List.nil_sublist _) zc rfl ?_
      refine qbg ?_
      refine Jaz ?_
      exact Jas (⟨b21,b26,b29,b5⟩,⟨(r2,k2),⟨g2,g2'⟩,hk2,he2⟩) zm zh zq (List.Sublist.refl _) (Jac _)
     refine qca ?_
     refine Jea ?_
     rintro v L' R' ⟨b29,rfl,rfl,hR29⟩
     replace hR29:=hR29.symm;subst hR29
     refine qa1 ?_
     refine Jai [8] hT2 (List.nil_sublist _) zc ?_
     refine qca ?_
     refine Jcv ?_
     rintro v L' R' ⟨b26,rfl,rfl,hR26⟩
     replace hR26:=hR26.symm;subst hR26
     refine qa1 ?_
     refine Jb8 ?_
     refine Ja8 hT2 (List.nil_sublist _) zc rfl ?_
     refine qbg ?_
     refine Jaz ?_
     exact Jas (⟨b21,b26,b29,b5⟩,⟨(r2,k2),⟨g2,g2'⟩,hk2,he2⟩) zm zh zq (List.Sublist.refl _) (Jac _)
    refine Jaq ?_ ?_
    ·
     skip
     refine Jcv ?_
     rintro v L' R' ⟨b26,rfl,rfl,hR26⟩
     replace hR26:=hR26.symm;subst hR26
     refine qa1 ?_
     refine Jai [3,11] hT2 (List.nil_sublist _) zc ?_
     refine Jaq ?_ ?_
     ·
      skip
      refine Jd5 ?_
      rintro v L' R' ⟨b21,rfl,rfl,hR21⟩
      replace hR21:=hR21.symm;subst hR21
      refine qa1 ?_
      refine Jai [11] hT2 (List.nil_sublist _) zc ?_
      refine qca ?_
      refine Jea ?_
      rintro v L' R' ⟨b29,rfl,rfl,hR29⟩
      replace hR29:=hR29.symm;subst hR29
      refine qa1 ?_
      refine Jb8 ?_
      refine Ja8 hT2 (List.nil_sublist _) zc rfl ?_
      refine qbg ?_
      refine Jaz ?_
      exact Jas (⟨b21,b26,b29,b5⟩,⟨(r2,k2),⟨g2,g2'⟩,hk2,he2⟩) zm zh zq (List.Sublist.refl _) (Jac _)
     refine qca ?_
     refine Jea ?_
     rintro v L' R' ⟨b29,rfl,rfl,hR29⟩
     replace hR29:=hR29.symm;subst hR29
     refine qa1 ?_
     refine Jai [3] hT2 (List.nil_sublist _) zc ?_
     refine qca ?_
     refine Jd5 ?_
     rintro v L' R' ⟨b21,rfl,rfl,hR21⟩
     replace hR21:=hR21.symm;subst hR21
     refine qa1 ?_
     refine Jb8 ?_
     refine Ja8 hT2 (List.nil_sublist _) zc rfl ?_
     refine qbg ?_
     refine Jaz ?_
     exact Jas (⟨b21,b26,b29,b5⟩,⟨(r2,k2),⟨g2,g2'⟩,hk2,he2⟩) zm zh zq (List.Sublist.refl _) (Jac _)
    refine qca ?_
    refine Jea ?_
    rintro v L' R' ⟨b29,rfl,rfl,hR29⟩
    replace hR29:=hR29.symm;subst hR29
    refine qa1 ?_
    refine Jai [3,8] hT2 (List.nil_sublist _) zc ?_
    refine Jaq ?_ ?_
    ·
     skip
     refine Jd5 ?_
     rintro v L' R' ⟨b21,rfl,rfl,hR21⟩
     replace hR21:=hR21.symm;subst hR21
     refine qa1 ?_
     refine Jai [8] hT2 (List.nil_sublist _) zc ?_
     refine qca ?_
     refine Jcv ?_
     rintro v L' R' ⟨b26,rfl,rfl,hR26⟩
     replace hR26:=hR26.symm;subst hR26
     refine qa1 ?_
     refine Jb8 ?_
     refine Ja8 hT2 (List.nil_sublist _) zc rfl ?_
     refine qbg ?_
     refine Jaz ?_
     exact Jas (⟨b21,b26,b29,b5⟩,⟨(r2,k2),⟨g2,g2'⟩,hk2,he2⟩) zm zh zq (List.Sublist.refl _) (Jac _)
    refine qca ?_
    refine Jcv ?_
    rintro v L' R' ⟨b26,rfl,rfl,hR26⟩
    replace hR26:=hR26.symm;subst hR26
    refine qa1 ?_
    refine Jai [3] hT2 (List.nil_sublist _) zc ?_
    refine qca ?_
    refine Jd5 ?_
    rintro v L' R' ⟨b21,rfl,rfl,hR21⟩
    replace hR21:=hR21.symm;subst hR21
    refine qa1 ?_
    refine Jb8 ?_
    refine Ja8 hT2 (List.nil_sublist _) zc rfl ?_
    refine qbg ?_
    refine Jaz ?_
    exact Jas (⟨b21,b26,b29,b5⟩,⟨(r2,k2),⟨g2,g2'⟩,hk2,he2⟩) zm zh zq (List.Sublist.refl _) (Jac _)
   refine qca ?_
   refine Jea ?_
   rintro v L' R' ⟨b29,rfl,rfl,hR29⟩
   replace hR29:=hR29.symm;subst hR29
   refine qa1 ?_
   refine Jai [3,5] hT2 (List.nil_sublist _) zc ?_
   refine Jaq ?_ ?_
   ·
    skip
    refine Jd5 ?_
    rintro v L' R' ⟨b21,rfl,rfl,hR21⟩
    replace hR21:=hR21.symm;subst hR21
    refine qa1 ?_
    refine Jai [5] hT2 (List.nil_sublist _) zc ?_
    refine qca ?_
    refine Jka ?_
    rintro v L' R' ⟨r2,k2,rfl,g2,g2',hk2,he2,rfl,rfl⟩
    refine ⟨zi,zx,?_⟩
    refine Jkg ?_
    refine Jkf ?_
    refine Jai [8] hT2 (List.nil_sublist _) zc ?_
    refine qca ?_
    refine Jcv ?_
    rintro v L' R' ⟨b26,rfl,rfl,hR26⟩
    replace hR26:=hR26.symm;subst hR26
    refine qa1 ?_
    refine Jb8 ?_
    refine Ja8 hT2 (List.nil_sublist _) zc rfl ?_
    refine qbg ?_
    refine Jaz ?_
    exact Jas (⟨b21,b26,b29,b5⟩,⟨(r2,k2),⟨g2,g2'⟩,hk2,he2⟩) zm zh zq (List.Sublist.refl _) (Jac _)
   refine qca ?_
   refine Jka ?_
   rintro v L' R' ⟨r2,k2,rfl,g2,g2',hk2,he2,rfl,rfl⟩
   refine ⟨zi,zx,?_⟩
   refine Jkg ?_
   refine Jkf ?_
   refine Jai [3,8] hT2 (List.nil_sublist _) zc ?_
   refine Jaq ?_ ?_
   ·
    skip
    refine Jd5 ?_
    rintro v L' R' ⟨b21,rfl,rfl,hR21⟩
    replace hR21:=hR21.symm;subst hR21
    refine qa1 ?_
    refine Jai [8] hT2 (List.nil_sublist _) zc ?_
    refine qca ?_
    refine Jcv ?_
    rintro v L' R' ⟨b26,rfl,rfl,hR26⟩
    replace hR26:=hR26.symm;subst hR26
    refine qa1 ?_
    refine Jb8 ?_
    refine Ja8 hT2 (List.nil_sublist _) zc rfl ?_
    refine qbg ?_
    refine Jaz ?_
    exact Jas (⟨b21,b26,b29,b5⟩,⟨(r2,k2),⟨g2,g2'⟩,hk2,he2⟩) zm zh zq (List.Sublist.refl _) (Jac _)
   refine qca ?_
   refine Jcv ?_
   rintro v L' R' ⟨b26,rfl,rfl,hR26⟩
   replace hR26:=hR26.symm;subst hR26
   refine qa1 ?_
   refine Jai [3] hT2 (List.nil_sublist _) zc ?_
   refine qca ?_
   refine Jd5 ?_
   rintro v L' R' ⟨b21,rfl,rfl,hR21⟩
   replace hR21:=hR21.symm;subst hR21
   refine qa1 ?_
   refine Jb8 ?_
   refine Ja8 hT2 (List.nil_sublist _) zc rfl ?_
   refine qbg ?_
   refine Jaz ?_
   exact Jas (⟨b21,b26,b29,b5⟩,⟨(r2,k2),⟨g2,g2'⟩,hk2,he2⟩) zm zh zq (List.Sublist.refl _) (Jac _)
  rintro ⟨⟨b21,b26,b29,b5⟩,⟨⟨r2,k2⟩,⟨g2,g2'⟩,hk2,he2⟩⟩ junk
  try dsimp only
  dsimp only at g2 g2' hk2 he2
  refine Joj (A:=[_]) (wd:=1) (len:=2) (cap:=2) (rows:=[Jap 1,Jap 2]) (subs:=[]) rfl ze ze (fun r hr=>by simp only [List.mem_cons,List.not_mem_nil,or_false] at hr;rcases hr with rfl | rfl <;> rfl) ze rfl (fun s hs=>by cases hs) ?_
  refine qb1 ?_
  refine Joj (A:=[_]) (wd:=6) (len:=1) (cap:=1) (rows:=[XCond.cells (Jeb r2)]) (subs:=[]) rfl ze ze (fun r hr=>by rw [List.mem_singleton.1 hr];rfl) ze rfl (fun s hs=>by cases hs) ?_
  refine qb1 ?_
  refine Joj (A:=[_]) (wd:=8) (len:=1) (cap:=1) (rows:=[XSens.cells easySens]) (subs:=[]) rfl ze ze (fun r hr=>by rw [List.mem_singleton.1 hr];rfl) ze rfl (fun s hs=>by cases hs) ?_
  refine qb1 ?_
  obtain ⟨se,hse⟩:∃se:Arr XSens,se=⟨some ⟨b21,0,none⟩,1,[easySens]⟩:=⟨_,rfl⟩
  obtain ⟨cn,hcn⟩:∃cn:Arr XCond,cn=⟨some ⟨b26,0,none⟩,1,[Jeb r2]⟩:=⟨_,rfl⟩
  obtain ⟨ps,hps⟩:∃ps:Arr Int,ps=⟨some ⟨b29,0,none⟩,2,[1,2]⟩:=⟨_,rfl⟩
  obtain ⟨R2,hR2e⟩:∃R2,R2=J05 se :: J9p cn :: isl ps :: R1:=⟨_,rfl⟩
  have hR2:∀r∈R1,InR r R2:=fun r hr=>Jaa (by rw [hR2e];exact .tail _ (.tail _ (.tail _ hr)))
  have hseR:InR (J05 se) R2:=Jaa zoa
  have hcnR:InR (J9p cn) R2:=Jaa zBa
  have hpsR:InR (isl ps) R2:=Jaa zza
  have hx2:=hx1.mono hR2
  refine Jsd (show _=R2 by rw [hR2e,hse,hcn,hps];rfl) ?_
  refine qae ?_
  refine Jax (Jbc (qs:=[(0,(Value.int _ _).cells.toList)]) (out:=[_,_,_,_]) tb rfl rfl rfl rfl) rfl ?_
  refine Kbf ?_
  rintro v L' R' ⟨b32,rfl,rfl,hR32⟩
  replace hR32:=hR32.symm;subst hR32
  refine Jhr (wd:=4) (len:=1) (cap:=1) (rows:=[XNode.cells ⟨1,0,0,0⟩]) (subs:=[]) rfl ze ze (fun r hr=>by rw [List.mem_singleton.1 hr];rfl) ze rfl (fun s hs=>by cases hs) ?_
  refine qa6 ?_
  refine Jaw rfl (Jxa zja (hx2.mono fun r h=>Jaa (.tail _ h)) hk2 za) rfl ?_
  rintro v L' R' ⟨r3,k3,rfl,g3,g3',hk3,he3,rfl,rfl⟩
  refine qcx ?_
  rintro v L' R' ⟨b35,rfl,rfl,hR35⟩
  replace hR35:=hR35.symm;subst hR35
  refine Jhr (wd:=1) (len:=1) (cap:=1) (rows:=[Jap 0]) (subs:=[]) rfl ze ze (fun r hr=>by rw [List.mem_singleton.1 hr];rfl) ze rfl (fun s hs=>by cases hs) ?_
  refine Jax (Jbc (qs:=[(0,(Value.slice _ _ _).cells.toList),(1,(Value.int _ _).cells.toList),(2,(Value.slice _ _ _).cells.toList),(3,(Value.int _ _).cells.toList)]) (out:=[_,_,_,_]) tb rfl rfl rfl rfl) rfl ?_
  refine Kbf ?_
  rintro v L' R' ⟨b37,rfl,rfl,hR37⟩
  replace hR37:=hR37.symm;subst hR37
  refine Jhr (wd:=4) (len:=1) (cap:=1) (rows:=[XZone.cells ⟨⟨some ⟨b32,0,none⟩,1,[⟨1,0,0,0⟩]⟩,r3,⟨some ⟨b35,0,none⟩,1,[0]⟩,1⟩]) (subs:=XZone.subs ⟨⟨some ⟨b32,0,none⟩,1,[⟨1,0,0,0⟩]⟩,r3,⟨some ⟨b35,0,none⟩,1,[0]⟩,1⟩) rfl ze ze (fun r hr=>by rw [List.mem_singleton.1 hr];rfl) ze rfl (fun s hs=>by simp only [List.mem_cons,List.not_mem_nil,or_false] at hs;rcases hs with rfl | rfl;exact Jaa (.tail _ (.head _));exact Jaa (.head _)) ?_
  refine Xbs ?_
  refine qa4 ?_
  obtain ⟨zn,hzn⟩:∃zn:XZone,zn=⟨⟨some ⟨b32,0,none⟩,1,[⟨1,0,0,0⟩]⟩,r3,⟨some ⟨b35,0,none⟩,1,[0]⟩,1⟩:=⟨_,rfl⟩
  obtain ⟨zs,hzs⟩:∃zs:Arr XZone,zs=⟨some ⟨b37,0,none⟩,1,[zn]⟩:=⟨_,rfl⟩
  obtain ⟨R3,hR3e⟩:∃R3,R3=J5f zs :: isl zn.roads :: J31 zn.rule :: R2:=⟨_,rfl⟩
  have hR3:∀r∈R2,InR r R3:=fun r hr=>Jaa (by rw [hR3e];exact .tail _ (.tail _ (.tail _ hr)))
  have hzsR:InR (J5f zs) R3:=Jaa (by rw [hR3e];exact .head _)
  have hx3:=hx2.mono hR3
  refine Jsd (show _=R3 by rw [hR3e,hzs,hzn];rfl) ?_
  refine qay ?_
  refine qcx ?_
  rintro v L' R' ⟨b39,rfl,rfl,hR39⟩
  replace hR39:=hR39.symm;subst hR39
  refine Kcx ?_
  refine Kbe ?_
  rintro v L' R' ⟨b41,rfl,rfl,hR41⟩
  replace hR41:=hR41.symm;subst hR41
  refine Jax (Jbc (qs:=[(2,(Value.int _ _).cells.toList),(1,(Value.slice _ _ _).cells.toList),(0,(Value.slice _ _ _).cells.toList)]) (out:=[_,_,_]) tb rfl rfl rfl rfl) rfl ?_
  refine qaq ?_
  intro b6
  refine Xba ?_
  refine qa6 ?_
  refine Jaw rfl (Kbv zja hx3 hk3 za) rfl ?_
  rintro v L' R' ⟨n0,k4,rfl,g4,g4',g4'',hk4,he4,rfl,rfl⟩
  have g4q:=g4' za
  refine Xb2 ?_
  refine Jan [(2,Value.pointer _),(3,Value.pointer _),(5,Value.pointer _),(6,Value.pointer _),(7,Value.int _ _)] zh fun tq0=>?_
  refine Jdg [7,45,46,47,48,49,50,51,52,53,54,55,56,57,58,59,60,61,62,63,64,65] ((⟨fun g=>[(7,.int .i64 g.1.1)],fun g=>⟨b6,[g.1.2.1.val,.slice (some ⟨b39,0,none⟩) 1 1,.int .i64 3],42⟩ :: (g.1.2.1.L 76 XSwitch.cells ++ ((⟨.own b39 1 [],g.1.2.2⟩:OwL Int).L 3 Jap ++ (⟨b5,[.slice (some ⟨b10,0,none⟩) 2 2,.slice (some ⟨b16,0,none⟩) 1 1,.slice none 0 0,.slice none 0 0,.slice (some ⟨b21,0,none⟩) 1 1,.slice (some ⟨b26,0,none⟩) 1 1,.slice (some ⟨b37,0,none⟩) 1 1,.slice (some ⟨b29,0,none⟩) 2 2],38⟩ :: ⟨b4,[.slice (some ⟨b10,0,none⟩) 2 2,.slice (some ⟨b16,0,none⟩) 1 1],28⟩ :: ⟨b3,[.slice none 0 0,.slice none 0 0,.int .i64 0],42⟩ :: ⟨b2,[.slice none 0 0,.slice none 0 0,.slice none 0 0,.slice none 0 0,.slice none 0 0,.slice none 0 0,.slice none 0 0,.slice none 0 0],38⟩ :: cblk c x k4 :: []))),fun _=>R3,fun g=>g.1.1.toNat⟩:Head {g:Int×OwL XSwitch×List Int // (0≤g.1∧(g.2.1.l.length:Int) + g.1=1 + n0∧1≤g.2.1.l.length)∧g.2.1.ok 5 XSwitch.cells∧g.2.1.l=Ji9 g.2.1.l.length∧g.2.2=[(g.2.1.l.length:Int) - 1]})) (⟨(n0,(⟨.own b41 1 [],[⟨-1,0,0,true,false⟩]⟩:OwL XSwitch),[0]),by dsimp only [List.length_cons,List.length_nil];omega,Jsm (fun _=>rfl) rfl ze,rfl,rfl⟩) zh (by dsimp only;rw [← Jyt (f:=XSwitch.cells) (n:=1) [⟨-1,0,0,true,false⟩] rfl,← Jyt (f:=Jap) (n:=1) [0] rfl];exact List.Sublist.refl _) (Jac _) ?_
  rintro ⟨⟨n,sw,zl⟩,hn,hsk,hsl,hzl⟩ junk
  try dsimp only
  dsimp only at hn hsk hsl hzl
  refine Xbn ?_
  refine qa5 ?_
  refine qaf ?_
  refine q_c (fun hc0=>?_) (fun hc0=>?_)
  ·
   refine qbb ?_
   refine Xaa ?_
   refine Xab ?_
   refine qa9 ?_
   refine Kcx ?_
   refine Kbe ?_
   rintro v L' R' ⟨b56,rfl,rfl,hR56⟩
   replace hR56:=hR56.symm;subst hR56
   refine Jgl (Ja9 (f:=XSwitch.cells) (p:=sw) (a:=⟨(sw.l.length:Int) - 1,0,0,true,false⟩) tb rfl rfl rfl rfl (hsk) zk (Jb0 zf rfl rfl) rfl zB) rfl ?_
   rintro v L' R' ⟨o57,rfl,hok57,rfl,rfl⟩
   refine Xbs ?_
   refine qaf ?_
   have hlen2:(sw.l ++ [(⟨(sw.l.length:Int) - 1,0,0,true,false⟩:XSwitch)]).length=sw.l.length + 1:=by simp
   have hzll:zl.length=1:=by rw [hzl];rfl
   have hz0:zl[0]?=some ((sw.l.length:Int) - 1):=by rw [hzl];rfl
   have hzk:(⟨.own b39 1 [],zl⟩:OwL Int).ok 1 Jap:=by rw [hzl];exact Jsm Jds rfl ze
   refine qay ?_
   refine Xaa ?_
   refine Xab ?_
   refine Jax (Jnz rfl rfl zy zy) rfl ?_
   refine Jax (Jat tb ((⟨.own b39 1 [],zl⟩:OwL Int)) _ rfl rfl (by rw [hzl];rfl) rfl zg (i:=0) zj zu) rfl ?_
   refine Jd9 (Jar tb ((⟨.own b39 1 [],zl⟩:OwL Int)) (((sw.l ++ [(⟨(sw.l.length:Int) - 1,0,0,true,false⟩:XSwitch)]).length:Int) - 1) rfl rfl rfl rfl zk zg (fun _=>rfl) zg ze zb zb) ?_
   rintro v L' R' ⟨rfl,rfl⟩
   refine qcs ?_
   refine Xdd ?_
   exact q_k ⟨(n - 1,(⟨o57,sw.l ++ [⟨(sw.l.length:Int) - 1,0,0,true,false⟩]⟩:OwL XSwitch),zl.set 0 (((sw.l ++ [(⟨(sw.l.length:Int) - 1,0,0,true,false⟩:XSwitch)]).length:Int) - 1)),by dsimp only;rw [hlen2];omega,hok57,by dsimp only;rw [hlen2,Jx3,← hsl],by dsimp only;rw [hzl];rfl⟩
  refine qc3 ?_
  refine Jbk tb [67] [0,1] [2,3] ([Blk.mk b6 _ _,Blk.mk b5 _ _]) _ Jby zc zi (by (repeat (first | apply List.Sublist.cons (a:=Blk.mk b2 _ _) | apply List.Sublist.cons (a:=Blk.mk b3 _ _) | apply List.Sublist.cons_cons));exact List.Sublist.refl _) ?_
  refine Jbv (Jal (row:=[_,_,_,_,_,_,_,_]) tb rfl rfl rfl zf zb zb) rfl rfl rfl rfl ?_
  refine Jd2 (Jal (row:=[_,_,_]) tb rfl rfl rfl zf zb zb) rfl rfl rfl rfl ?_
  refine Xc8 ?_
  refine qbg ?_
  refine Jaz (Jab (Jcq ?_))
  refine q_r (L':=sw.L 76 XSwitch.cells ++ ((⟨.own b39 1 [],zl⟩:OwL Int).L 3 Jap ++ (cblk c x k4 :: []))) (R':=R3) (Jcf rfl (Jao (row:=[_,_,_,_,_,_,_,_]) tb rfl rfl rfl zf zb zb) (Jao (row:=[_,_,_]) tb rfl rfl rfl zf zb zb)) ?_
  have hzk:(⟨.own b39 1 [],zl⟩:OwL Int).ok 1 Jap:=by rw [hzl];exact Jsm Jds rfl ze
  have up1:∀r∈R1,InR r R3:=fun r hr=>(hR2 r hr).mono hR3
  refine ⟨⟨⟨⟨pl,rd⟩,⟨none,0,[]⟩,⟨none,0,[]⟩⟩,se,cn,zs,ps⟩,r1,r2,r3,sw,⟨.own b39 1 [],zl⟩,sw.l.length,k4,?_,⟨by rw [hpl],by rw [hrd],rfl,rfl,by rw [hse],by rw [hcn],⟨zn,by rw [hzs],by rw [hzn],by rw [hzn],by rw [hzn],by rw [hzn]⟩,by rw [hzs],by rw [hps],by omega⟩,⟨hsk,hzk⟩,by omega,hsl,hzl,⟨hk4,fun h=>by have q1:=he1 h;have q2:=he2 za;have q3:=he3 za;have q4:=he4 za;omega⟩,⟨⟨⟨hplR.mono up1,hrdR.mono up1,hfnR.mono up1,hdrR.mono up1⟩,hseR.mono hR3,hcnR.mono hR3,hzsR,hpsR.mono hR3⟩,fun r hr=>(hR1 r hr).mono up1⟩,rfl⟩
  rw [hpl,hrd,hse,hcn,hzs,hps,hzl];rfl
end Go.Proofs.YtchfclmokpbldaaGreat
