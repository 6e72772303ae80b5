/-
  The draws of chapter 20: a site with one zone. By an AI agent; no person has read it.
-/
import Derived.Test.YtchfclmokpbldaaGreatSiteD
set_option linter.all false
set_option maxHeartbeats 4000000
namespace Go.Proofs.YtchfclmokpbldaaGreat
open Go.Aw Go
section
variable {A B:Prop}
def Um(h:A→B:=by exact Vpb 12 hT2 yd zc rfl rfl rfl rfl rfl zGb):=h
def U8(h:A→B:=by exact Ko rfl (J0 (qs:=[(0,(Value.agg _).cells.toList)]) (out:=[_,_,_,_,_,_]) tb rfl rfl rfl rfl rfl rfl rfl) rfl rfl):=h
def Ys(h:A→B:=by exact Ko rfl (J0 (qs:=[(0,(Value.agg _).cells.toList)]) (out:=[_,_,_,_,_,_,_,_]) tb rfl rfl rfl rfl rfl rfl rfl) rfl rfl):=h
def Y0(h:A→B:=by exact Ko rfl (J0 (qs:=[(0,(Value.agg _).cells.toList),(1,(Value.agg _).cells.toList)]) (out:=[_,_]) tb rfl rfl rfl rfl rfl rfl rfl) rfl rfl):=h
def Zva(h:A→B:=by exact Ko rfl (Kbd rfl (Jvd zP hx1 hk1 za)) rfl rfl):=h
def Zwa(h:A→B:=by exact Vpb 6 hT2 yd zc rfl rfl rfl rfl rfl (Kf (qs:=[(0,(Value.int _ _).cells.toList),(1,(Value.int _ _).cells.toList),(2,(Value.int _ _).cells.toList)]) (out:=[_,_,_]) tb rfl rfl rfl rfl)):=h
def Zta(h:A→B:=by exact Vpb 7 hT2 yd zc rfl rfl rfl rfl rfl (Kf (qs:=[(0,(Value.int _ _).cells.toList),(3,(Value.agg _).cells.toList)]) (out:=[_,_,_,_,_,_]) tb rfl rfl rfl rfl)):=h
def Jeg(h:A→B:=by exact Jqa zzb rfl):=h
def Yzf(h:A→B:=by exact Jx (Kf (qs:=[(0,(Value.int _ _).cells.toList),(3,(Value.bool _).cells.toList)]) (out:=[_,_,_,_,_]) tb rfl rfl rfl rfl) rfl):=h
def Zvf(h:A→B:=by exact Jqa zcc rfl):=h
end
structure XSwitch where
 above:Int
 since:Int
 shown:Int
 closed:Bool
 late:Bool
 deriving Inhabited,DecidableEq
def XSwitch.cells (x:XSwitch):List Value:=[.int .i64 x.above,.int .i64 x.since,.int .i64 x.shown,.bool x.closed,.bool x.late]
abbrev XSwitch.val (x:XSwitch):Value:=.agg #[.int .i64 x.above,.int .i64 x.since,.int .i64 x.shown,.bool x.closed,.bool x.late]
structure XFeeder where
 switches:Arr XSwitch
 zones:Arr Int
 reply:Int
def XFeeder.cells (x:XFeeder):List Value:=[x.switches.val,x.zones.val,.int .i64 x.reply]
abbrev XFeeder.val (x:XFeeder):Value:=.agg #[x.switches.val,x.zones.val,.int .i64 x.reply]
abbrev Vcb (x:Arr XSwitch):Sl:=x.sl 5 XSwitch.cells []
def pm0 {x:Blk} {l m:LB} (h:l.Perm m):(x :: l).Perm (x :: m):=h.cons x
def pm1 {a x:Blk} {l m:LB} (h:(a :: l).Perm m):(a :: x :: l).Perm (x :: m):=(List.Perm.swap x a l).trans (h.cons x)
def pm2 {a b x:Blk} {l m:LB} (h:(a :: b :: l).Perm m):(a :: b :: x :: l).Perm (x :: m):=((List.Perm.swap x b l).cons a).trans (pm1 h)
def pm3 {a b c x:Blk} {l m:LB} (h:(a :: b :: c :: l).Perm m):(a :: b :: c :: x :: l).Perm (x :: m):=(((List.Perm.swap x c l).cons b).cons a).trans (pm2 h)
def Vrb (len:Int):XRoad:=⟨0,1,len,4,false,false,⟨1,1⟩,⟨90000,90000⟩⟩
def easySens:XSens:=⟨0,1,0,0,1000,1,1000,60⟩
def Kmb (dl:Int):XCond:=⟨1,0,0,⟨100,60,dl⟩⟩
structure EasyD (s:XSite) (len dl ho:Int):Prop where
 places:s.air.mine.places.l=[⟨0,true⟩,⟨0,true⟩]
 roads:s.air.mine.roads.l=[Vrb len]
 fans:s.air.fans.l=[]
 doors:s.air.doors.l=[]
 sens:s.sensors.l=[easySens]
 conds:s.conds.l=[Kmb dl]
 zone:∃z:XZone,s.zones.l=[z]∧z.rule.l=[⟨1,0,0,0⟩]∧z.hold=ho∧z.roads.l=[0]∧z.fresh=1
 zcap:s.zones.cap=1
 pers:s.persons.l=[1,2]
 rng:(1≤len∧len≤4)∧(1≤dl∧dl≤5)∧1≤ho∧ho≤5
def Kga (n:Nat):List XSwitch:=(List.range n).map fun (i:Nat)=>⟨(i:Int) - 1,0,0,true,false⟩
def Yqd {n:Nat}:(Kga n).length=n:=by simp [Kga]
def Kid {n:Nat}:Kga (n + 1)=Kga n ++ [⟨(n:Int) - 1,0,0,true,false⟩]:=by rw [Kga,yKb,yO];rfl
set_option maxRecDepth 20000
attribute [local irreducible] CJ LJ DJ Tri YV Gives U0 J3 Kj Uz RV J5 OwL.L
structure EJ where
 b1:Nat
 b2:Nat
 b3:Nat
 b5:Nat
def Yec (c:Nat) (x:Arr Int) (k:Nat) (R:LS) (hx:CodesR x R) (hk:k≤x.l.length):
 Tri Tryz.prog 15 [.pointer (some ⟨c, 0, none⟩)].toArray [cblk c x k] R
  (fun v M U=>∃(s:XSite) (len dl ho:Int) (sw:OwL XSwitch) (zn:OwL Int) (n k':Nat),v=.tuple #[s.val,.agg #[sw.val,zn.val,.int .i64 3]]∧EasyD s len dl ho∧(sw.ok 5 XSwitch.cells∧zn.ok 1 Jo)∧(1≤n∧n≤3)∧sw.l=Kga n∧zn.l=[(n:Int) - 1]∧(k'≤x.l.length∧(x.l.length≤k→len=1∧dl=1∧ho=1∧n=1∧k'=k))∧(SiteR s U∧∀r∈R,InR r U)∧sw.L 76 XSwitch.cells ++ (zn.L 3 Jo ++ (cblk c x k' :: []))=M):=by
 refine Jj 68 Tryz.call15 Tryz.func15 rfl rfl rfl ?_;apply qae∘qaq;intro b2;apply (qaq);intro b3;apply (qam);refine Jx znc rfl ?_;refine Jx znc rfl ?_;refine Jqa zSb rfl ?_;rintro v M U ⟨b10,rfl,rfl,hR10⟩;replace hR10:=hR10.symm;subst hR10;refine Uxa (wd:=2) (len:=2) (cap:=2) (rows:=[XPlace.cells ⟨0,true⟩,XPlace.cells ⟨0,true⟩]) (subs:=[]) rfl ze ze (fun r hr=>by simp only [yaa,yY,or_false] at hr;rcases hr with rfl | rfl <;> rfl) ze rfl yg ?_;apply (qa6);refine Jy rfl (Jvd zP (hx.mono fun r h=>Ja (.tail _ h)) hk za) rfl ?_;rintro v M U ⟨r1,k1,rfl,g1,g1',hk1,he1,rfl,rfl⟩;apply qcd∘qcd;refine Jx (Kf (qs:=[(1,(Value.int _ _).cells.toList),(2,(Value.int _ _).cells.toList),(3,(Value.int _ _).cells.toList),(6,(Value.agg _).cells.toList),(7,(Value.agg _).cells.toList)]) (out:=[_,_,_,_,_,_,_,_,_,_]) tb rfl rfl rfl rfl) rfl ?_;refine Jqa (J0 (qs:=[(0,(Value.agg _).cells.toList)]) (out:=[_,_,_,_,_,_,_,_,_,_]) tb rfl rfl rfl rfl rfl rfl rfl) rfl ?_;rintro v M U ⟨b16,rfl,rfl,hR16⟩;replace hR16:=hR16.symm;subst hR16;refine Uxa (wd:=10) (len:=1) (cap:=1) (rows:=[XRoad.cells (Vrb r1)]) (subs:=[]) rfl ze ze (fun r hr=>by rw [List.mem_singleton.1 hr];rfl) ze rfl yg ?_;refine Jx zrb rfl ?_;apply (qaq);intro b4;apply (Xc3);refine Kxe 4 (Kxe 3 ?_);obtain ⟨pl,hpl⟩:∃pl:Arr XPlace,pl=⟨some ⟨b10,0,none⟩,2,[⟨0,true⟩,⟨0,true⟩]⟩:=⟨_,rfl⟩;obtain ⟨rd,hrd⟩:∃rd:Arr XRoad,rd=⟨some ⟨b16,0,none⟩,1,[Vrb r1]⟩:=⟨_,rfl⟩;obtain ⟨R1,hR1e⟩:∃R1,R1=dsl ⟨none,0,[]⟩ :: fsl ⟨none,0,[]⟩ :: rsl rd :: psl pl :: R:=⟨_,rfl⟩;have hR1:∀r∈R,InR r R1:=fun r hr=>Ja (by rw [hR1e];exact .tail _ (.tail _ (.tail _ (.tail _ hr))));have hplR:InR (psl pl) R1:=Ja (by rw [hR1e];exact .tail _ (.tail _ (.tail _ (.head _))));have hrdR:InR (rsl rd) R1:=Ja zAa;have hfnR:InR (fsl ⟨none,0,[]⟩) R1:=Ja zna;have hdrR:InR (dsl ⟨none,0,[]⟩) R1:=Ja zpa;have hx1:=hx.mono hR1;refine Vvc (show _=R1 by rw [hR1e,hpl,hrd];rfl) ?_;refine Vlb (rg 18 13++[5]) ((⟨fun g=>[(5,.pointer (some ⟨g.1.b5,0,none⟩))],fun g=>⟨g.1.b5,[.slice (some ⟨b10,0,none⟩) 2 2,.slice (some ⟨b16,0,none⟩) 1 1,.slice none 0 0,.slice none 0 0,.slice (some ⟨g.1.b1,0,none⟩) 1 1,.slice (some ⟨g.1.b2,0,none⟩) 1 1,.slice none 0 0,.slice (some ⟨g.1.b3,0,none⟩) 2 2],38⟩ :: ⟨g.1.b3,[.int .i64 1,.int .i64 2],170⟩ :: ⟨g.1.b2,XCond.cells (Kmb g.2.1.1),102⟩ :: ⟨g.1.b1,easySens.cells,88⟩ :: ⟨b4,[.slice (some ⟨b10,0,none⟩) 2 2,.slice (some ⟨b16,0,none⟩) 1 1],28⟩ :: ⟨b3,[.slice none 0 0,.slice none 0 0,.int .i64 0],42⟩ :: ⟨b2,[.slice none 0 0,.slice none 0 0,.slice none 0 0,.slice none 0 0,.slice none 0 0,.slice none 0 0,.slice none 0 0,.slice none 0 0],38⟩ :: cblk c x g.2.1.2 :: [],fun _=>R1,fun _=>0⟩:Head (EJ×{g:Int×Nat // (1≤g.1∧g.1≤5)∧g.2≤x.l.length∧(x.l.length≤k1→g.1=1∧g.2=k1)}))) ?_ ?_;·
  skip
  refine Uwc tb [] [0,1,2,4,9,10,3,5,6,7,8,11,12,13] [14] ([Blk.mk b4 _ _]) [] 14 K3 zc rfl rfl zi fun hT2=>?_;refine Vpb 0 hT2 yd zc rfl rfl rfl rfl rfl zIb ?_;refine Vpb 1 hT2 yd zc rfl rfl rfl rfl rfl zlc ?_;refine Vpb 2 hT2 yd zc rfl rfl rfl rfl rfl (Kf (qs:=[(1,(Value.int _ _).cells.toList),(4,(Value.int _ _).cells.toList),(5,(Value.int _ _).cells.toList),(6,(Value.int _ _).cells.toList),(7,(Value.int _ _).cells.toList)]) (out:=[_,_,_,_,_,_,_,_]) tb rfl rfl rfl rfl) ?_;refine Vpb 4 hT2 yd zc rfl rfl rfl rfl rfl (Jt zEb) ?_;refine Vpb 9 hT2 yd zc rfl rfl rfl rfl rfl zoc ?_;refine Vpb 10 hT2 yd zc rfl rfl rfl rfl rfl zoc ?_;refine Ji [3,5,11,13] hT2 yd zc ?_;refine Jn ?_ ?_;·
   skip
   apply (Ys);rintro v M U ⟨b21,rfl,rfl,hR21⟩;replace hR21:=hR21.symm;subst hR21;apply (qa1);refine Ji [5,11,13] hT2 yd zc ?_;refine Jn ?_ ?_;·
    skip
    apply (Zva);rintro v M U ⟨r2,k2,rfl,g2,g2',hk2,he2,rfl,rfl⟩;refine ⟨zi,zw,?_⟩;apply Zwa∘Zta;exact uak
   refine Jn ?_ ?_;·
    skip
    apply (Y0);rintro v M U ⟨b29,rfl,rfl,hR29⟩;replace hR29:=hR29.symm;subst hR29;exact uaw
   apply (qca);refine Ko rfl zwb rfl rfl ?_;rintro v M U ⟨b5,rfl,rfl,hR5⟩;replace hR5:=hR5.symm;subst hR5;exact uax
  refine Jn ?_ ?_;·
   skip
   apply (Zva);rintro v M U ⟨r2,k2,rfl,g2,g2',hk2,he2,rfl,rfl⟩;refine ⟨zi,zw,?_⟩;apply Zwa∘Zta;refine Ji [3,8,11,13] hT2 yd zc ?_;refine Jn ?_ ?_;·
    skip
    apply (Ys);rintro v M U ⟨b21,rfl,rfl,hR21⟩;replace hR21:=hR21.symm;subst hR21;apply (qa1);exact uak
   refine Jn ?_ ?_;·
    skip
    apply (U8);rintro v M U ⟨b26,rfl,rfl,hR26⟩;replace hR26:=hR26.symm;subst hR26;apply (qa1);refine Ji [3,11,13] hT2 yd zc ?_;refine Jn ?_ ?_;·
     skip
     apply (Ys);rintro v M U ⟨b21,rfl,rfl,hR21⟩;replace hR21:=hR21.symm;subst hR21;exact ubc
    refine Jn ?_ ?_;·
     skip
     apply (Y0);rintro v M U ⟨b29,rfl,rfl,hR29⟩;replace hR29:=hR29.symm;subst hR29;exact ubd
    apply (qca);refine Ko rfl zwb rfl rfl ?_;rintro v M U ⟨b5,rfl,rfl,hR5⟩;replace hR5:=hR5.symm;subst hR5;exact ube
   refine Jn ?_ ?_;·
    skip
    apply (Y0);rintro v M U ⟨b29,rfl,rfl,hR29⟩;replace hR29:=hR29.symm;subst hR29;apply (qa1);exact ual
   apply (qca);refine Ko rfl zwb rfl rfl ?_;rintro v M U ⟨b5,rfl,rfl,hR5⟩;replace hR5:=hR5.symm;subst hR5;apply (qa1);exact uam
  refine Jn ?_ ?_;·
   skip
   apply (Y0);rintro v M U ⟨b29,rfl,rfl,hR29⟩;replace hR29:=hR29.symm;subst hR29;apply (qa1);refine Ji [3,5,13] hT2 yd zc ?_;refine Jn ?_ ?_;·
    skip
    apply (Ys);rintro v M U ⟨b21,rfl,rfl,hR21⟩;replace hR21:=hR21.symm;subst hR21;exact uaw
   refine Jn ?_ ?_;·
    skip
    apply (Zva);rintro v M U ⟨r2,k2,rfl,g2,g2',hk2,he2,rfl,rfl⟩;refine ⟨zi,zw,?_⟩;apply Zwa∘Zta;exact ual
   apply (qca);refine Ko rfl zwb rfl rfl ?_;rintro v M U ⟨b5,rfl,rfl,hR5⟩;replace hR5:=hR5.symm;subst hR5;exact uas
  apply (qca);refine Ko rfl zwb rfl rfl ?_;rintro v M U ⟨b5,rfl,rfl,hR5⟩;replace hR5:=hR5.symm;subst hR5;apply (qa1);refine Ji [3,5,11] hT2 yd zc ?_;refine Jn ?_ ?_;·
   skip
   apply (Ys);rintro v M U ⟨b21,rfl,rfl,hR21⟩;replace hR21:=hR21.symm;subst hR21;exact uax
  refine Jn ?_ ?_;·
   skip
   apply (Zva);rintro v M U ⟨r2,k2,rfl,g2,g2',hk2,he2,rfl,rfl⟩;refine ⟨zi,zw,?_⟩;apply Zwa∘Zta;exact uam
  apply qca∘Y0;rintro v M U ⟨b29,rfl,rfl,hR29⟩;replace hR29:=hR29.symm;subst hR29;exact uas
 rintro ⟨⟨b21,b26,b29,b5⟩,⟨⟨r2,k2⟩,⟨g2,g2'⟩,hk2,he2⟩⟩ junk;try dsimp only
 dsimp only at g2 g2' hk2 he2;refine V5b (A:=[_]) (wd:=1) (len:=2) (cap:=2) (rows:=[Jo 1,Jo 2]) (subs:=[]) rfl ze ze (fun r hr=>by simp only [yaa,yY,or_false] at hr;rcases hr with rfl | rfl <;> rfl) ze rfl yg ?_;apply (qb1);refine V5b (A:=[_]) (wd:=6) (len:=1) (cap:=1) (rows:=[XCond.cells (Kmb r2)]) (subs:=[]) rfl ze ze (fun r hr=>by rw [List.mem_singleton.1 hr];rfl) ze rfl yg ?_;apply (qb1);refine V5b (A:=[_]) (wd:=8) (len:=1) (cap:=1) (rows:=[XSens.cells easySens]) (subs:=[]) rfl ze ze (fun r hr=>by rw [List.mem_singleton.1 hr];rfl) ze rfl yg ?_;apply (qb1);obtain ⟨se,hse⟩:∃se:Arr XSens,se=⟨some ⟨b21,0,none⟩,1,[easySens]⟩:=⟨_,rfl⟩;obtain ⟨cn,hcn⟩:∃cn:Arr XCond,cn=⟨some ⟨b26,0,none⟩,1,[Kmb r2]⟩:=⟨_,rfl⟩;obtain ⟨ps,hps⟩:∃ps:Arr Int,ps=⟨some ⟨b29,0,none⟩,2,[1,2]⟩:=⟨_,rfl⟩;obtain ⟨R2,hR2e⟩:∃R2,R2=Jme se :: Vtf cn :: isl ps :: R1:=⟨_,rfl⟩;have hR2:∀r∈R1,InR r R2:=fun r hr=>Ja (by rw [hR2e];exact .tail _ (.tail _ (.tail _ hr)));have hseR:InR (Jme se) R2:=Ja zqa;have hcnR:InR (Vtf cn) R2:=Ja zDa;have hpsR:InR (isl ps) R2:=Ja zBa;have hx2:=hx1.mono hR2;refine Vvc (show _=R2 by rw [hR2e,hse,hcn,hps];rfl) ?_;apply (qae);refine Jx zkc rfl ?_;apply (Jeg);rintro v M U ⟨b32,rfl,rfl,hR32⟩;replace hR32:=hR32.symm;subst hR32;refine Uxa (wd:=4) (len:=1) (cap:=1) (rows:=[XNode.cells ⟨1,0,0,0⟩]) (subs:=[]) rfl ze ze (fun r hr=>by rw [List.mem_singleton.1 hr];rfl) ze rfl yg ?_;apply (qa6);refine Jy rfl (Jvd zP (hx2.mono fun r h=>Ja (.tail _ h)) hk2 za) rfl ?_;rintro v M U ⟨r3,k3,rfl,g3,g3',hk3,he3,rfl,rfl⟩;apply (qcx);rintro v M U ⟨b35,rfl,rfl,hR35⟩;replace hR35:=hR35.symm;subst hR35;refine Uxa (wd:=1) (len:=1) (cap:=1) (rows:=[Jo 0]) (subs:=[]) rfl ze ze (fun r hr=>by rw [List.mem_singleton.1 hr];rfl) ze rfl yg ?_;refine Jx (Kf (qs:=[(0,(Value.slice _ _ _).cells.toList),(1,(Value.int _ _).cells.toList),(2,(Value.slice _ _ _).cells.toList),(3,(Value.int _ _).cells.toList)]) (out:=[_,_,_,_]) tb rfl rfl rfl rfl) rfl ?_;apply (Jeg);rintro v M U ⟨b37,rfl,rfl,hR37⟩;replace hR37:=hR37.symm;subst hR37;refine Uxa (wd:=4) (len:=1) (cap:=1) (rows:=[XZone.cells ⟨⟨some ⟨b32,0,none⟩,1,[⟨1,0,0,0⟩]⟩,r3,⟨some ⟨b35,0,none⟩,1,[0]⟩,1⟩]) (subs:=XZone.subs ⟨⟨some ⟨b32,0,none⟩,1,[⟨1,0,0,0⟩]⟩,r3,⟨some ⟨b35,0,none⟩,1,[0]⟩,1⟩) rfl ze ze (fun r hr=>by rw [List.mem_singleton.1 hr];rfl) ze rfl (fun s hs=>by simp only [yaa,yY,or_false] at hs;rcases hs with rfl | rfl;exact Ja (.tail _ (.head _));exact Ja (.head _)) ?_;apply Xbn∘qa4;obtain ⟨zn,hzn⟩:∃zn:XZone,zn=⟨⟨some ⟨b32,0,none⟩,1,[⟨1,0,0,0⟩]⟩,r3,⟨some ⟨b35,0,none⟩,1,[0]⟩,1⟩:=⟨_,rfl⟩;obtain ⟨zs,hzs⟩:∃zs:Arr XZone,zs=⟨some ⟨b37,0,none⟩,1,[zn]⟩:=⟨_,rfl⟩;obtain ⟨R3,hR3e⟩:∃R3,R3=Zie zs :: isl zn.roads :: V1e zn.rule :: R2:=⟨_,rfl⟩;have hR3:∀r∈R2,InR r R3:=fun r hr=>Ja (by rw [hR3e];exact .tail _ (.tail _ (.tail _ hr)));have hzsR:InR (Zie zs) R3:=Ja (by rw [hR3e];exact .head _);have hx3:=hx2.mono hR3;refine Vvc (show _=R3 by rw [hR3e,hzs,hzn];rfl) ?_;apply qay∘qcx;rintro v M U ⟨b39,rfl,rfl,hR39⟩;replace hR39:=hR39.symm;subst hR39;apply Yzf∘Zvf;rintro v M U ⟨b41,rfl,rfl,hR41⟩;replace hR41:=hR41.symm;subst hR41;refine Jx (Kf (qs:=[(2,(Value.int _ _).cells.toList),(1,(Value.slice _ _ _).cells.toList),(0,(Value.slice _ _ _).cells.toList)]) (out:=[_,_,_]) tb rfl rfl rfl rfl) rfl ?_;apply (qaq);intro b6;apply Xa8∘qa6;refine Jy rfl (Vvf zP hx3 hk3 za) rfl ?_;rintro v M U ⟨n0,k4,rfl,g4,g4',g4'',hk4,he4,rfl,rfl⟩;have g4q:=g4' za;apply (Xcc);refine Jp [(2,.pointer _),(3,.pointer _),(5,.pointer _),(6,.pointer _),(7,.int _ _)] zh fun tq0=>?_;refine Vx ([7]++rg 45 21) ((⟨fun g=>[(7,.int .i64 g.1.1)],fun g=>⟨b6,[g.1.2.1.val,.slice (some ⟨b39,0,none⟩) 1 1,.int .i64 3],42⟩ :: (g.1.2.1.L 76 XSwitch.cells ++ ((⟨.own b39 1 [],g.1.2.2⟩:OwL Int).L 3 Jo ++ (⟨b5,[.slice (some ⟨b10,0,none⟩) 2 2,.slice (some ⟨b16,0,none⟩) 1 1,.slice none 0 0,.slice none 0 0,.slice (some ⟨b21,0,none⟩) 1 1,.slice (some ⟨b26,0,none⟩) 1 1,.slice (some ⟨b37,0,none⟩) 1 1,.slice (some ⟨b29,0,none⟩) 2 2],38⟩ :: ⟨b4,[.slice (some ⟨b10,0,none⟩) 2 2,.slice (some ⟨b16,0,none⟩) 1 1],28⟩ :: ⟨b3,[.slice none 0 0,.slice none 0 0,.int .i64 0],42⟩ :: ⟨b2,[.slice none 0 0,.slice none 0 0,.slice none 0 0,.slice none 0 0,.slice none 0 0,.slice none 0 0,.slice none 0 0,.slice none 0 0],38⟩ :: cblk c x k4 :: []))),fun _=>R3,fun g=>g.1.1.toNat⟩:Head {g:Int×OwL XSwitch×List Int // (0≤g.1∧(g.2.1.l.length:Int) + g.1=1 + n0∧1≤g.2.1.l.length)∧g.2.1.ok 5 XSwitch.cells∧g.2.1.l=Kga g.2.1.l.length∧g.2.2=[(g.2.1.l.length:Int) - 1]})) (⟨(n0,(⟨.own b41 1 [],[⟨-1,0,0,true,false⟩]⟩:OwL XSwitch),[0]),by dsimp only [List.length_cons,List.length_nil];omega,U3c yf rfl ze,rfl,rfl⟩) zh (by dsimp only;rw [← Yad (f:=XSwitch.cells) (n:=1) [⟨-1,0,0,true,false⟩] rfl,← Yad (f:=Jo) (n:=1) [0] rfl];exact yx _) ztb ?_;rintro ⟨⟨n,sw,zl⟩,hn,hsk,hsl,hzl⟩ junk;try dsimp only
 dsimp only at hn hsk hsl hzl;apply Xb1∘qa5∘qaf;refine q_c ?_ ?_<;>intro hc0;·
  apply qbb∘Xaa∘Xab∘qa9∘Yzf∘Zvf;rintro v M U ⟨b56,rfl,rfl,hR56⟩;replace hR56:=hR56.symm;subst hR56;refine Jqa (Kb (f:=XSwitch.cells) (p:=sw) (a:=⟨(sw.l.length:Int) - 1,0,0,true,false⟩) tb rfl rfl rfl rfl (hsk) zj zxb rfl zA) rfl ?_;rintro v M U ⟨o57,rfl,hok57,rfl,rfl⟩;apply Xbn∘qaf;have hlen2:(sw.l ++ [(⟨(sw.l.length:Int) - 1,0,0,true,false⟩:XSwitch)]).length=sw.l.length + 1:=by simp
  have hzll:zl.length=1:=by rw [hzl];rfl
  have hz0:zl[0]?=some ((sw.l.length:Int) - 1):=by rw [hzl];rfl
  have hzk:(⟨.own b39 1 [],zl⟩:OwL Int).ok 1 Jo:=by rw [hzl];exact U3c Yd rfl ze
  apply qay∘Xaa∘Xab;refine Jx (Vyb rfl rfl zx zx) rfl ?_;refine Jx (Jv tb ((⟨.own b39 1 [],zl⟩:OwL Int)) _ rfl rfl (by rw [hzl];rfl) rfl zg (i:=0) zk zu) rfl ?_;refine Ym (Js tb ((⟨.own b39 1 [],zl⟩:OwL Int)) (((sw.l ++ [(⟨(sw.l.length:Int) - 1,0,0,true,false⟩:XSwitch)]).length:Int) - 1) rfl rfl rfl rfl zj zg yf zg ze zb zb) ?_;rintro v M U ⟨rfl,rfl⟩;apply qcs∘Xcr;exact q_k ⟨(n - 1,(⟨o57,sw.l ++ [⟨(sw.l.length:Int) - 1,0,0,true,false⟩]⟩:OwL XSwitch),zl.set 0 (((sw.l ++ [(⟨(sw.l.length:Int) - 1,0,0,true,false⟩:XSwitch)]).length:Int) - 1)),by dsimp only;rw [hlen2];omega,hok57,by dsimp only;rw [hlen2,Kid,← hsl],by dsimp only;rw [hzl];rfl⟩
 apply (qc3);refine Kh tb [67] [0,1] [2,3] ([Blk.mk b6 _ _,Blk.mk b5 _ _]) _ K3 zc zi (by (repeat (first | apply List.Sublist.cons (a:=Blk.mk b2 _ _) | apply List.Sublist.cons (a:=Blk.mk b3 _ _) | apply List.Sublist.cons_cons));exact yx _) ?_;refine Ku zob rfl rfl rfl rfl ?_;refine V2 zkb rfl rfl rfl rfl ?_;apply Xch∘qbg;refine Jz (Jc (U4 ?_));refine q_r (sw.L 76 XSwitch.cells ++ ((⟨.own b39 1 [],zl⟩:OwL Int).L 3 Jo ++ (cblk c x k4 :: []))) R3 (U1 rfl (Jq (row:=[_,_,_,_,_,_,_,_]) tb rfl rfl rfl zf zb zb) zmb) ?_;have hzk:(⟨.own b39 1 [],zl⟩:OwL Int).ok 1 Jo:=by rw [hzl];exact U3c Yd rfl ze
 have up1:∀r∈R1,InR r R3:=fun r hr=>(hR2 r hr).mono hR3;refine ⟨⟨⟨⟨pl,rd⟩,⟨none,0,[]⟩,⟨none,0,[]⟩⟩,se,cn,zs,ps⟩,r1,r2,r3,sw,⟨.own b39 1 [],zl⟩,sw.l.length,k4,?_,⟨by rw [hpl],by rw [hrd],rfl,rfl,by rw [hse],by rw [hcn],⟨zn,by rw [hzs],by rw [hzn],by rw [hzn],by rw [hzn],by rw [hzn]⟩,by rw [hzs],by rw [hps],by omega⟩,⟨hsk,hzk⟩,by omega,hsl,hzl,⟨hk4,fun h=>by have q1:=he1 h;have q2:=he2 za;have q3:=he3 za;have q4:=he4 za;omega⟩,⟨⟨⟨hplR.mono up1,hrdR.mono up1,hfnR.mono up1,hdrR.mono up1⟩,hseR.mono hR3,hcnR.mono hR3,hzsR,hpsR.mono hR3⟩,fun r hr=>(hR1 r hr).mono up1⟩,rfl⟩;rw [hpl,hrd,hse,hcn,hzs,hps,hzl];rfl
end Go.Proofs.YtchfclmokpbldaaGreat
