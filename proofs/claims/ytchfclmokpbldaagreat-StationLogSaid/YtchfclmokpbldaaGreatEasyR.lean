/-
  Texts of one chapter, merged. By an AI agent; no person has read it.
-/
import Derived.Test.YtchfclmokpbldaaGreatStaG
import Derived.Test.YtchfclmokpbldaaGreatStatM
import Derived.Test.YtchfclmokpbldaaGreatCongrS
import Derived.Test.YtchfclmokpbldaaGreatRel
import Derived.Test.YtchfclmokpbldaaGreatLaw11b
import Derived.Test.YtchfclmokpbldaaGreatAnal
import Derived.Test.YtchfclmokpbldaaGreatSiteS
import Derived.Test.YtchfclmokpbldaaGreatEasy
import Derived.Test.YtchfclmokpbldaaGreatCutC
import Derived.Test.YtchfclmokpbldaaGreatStrEq
import Derived.Test.YtchfclmokpbldaaGreatSiteD
import Derived.Test.YtchfclmokpbldaaGreatFeedT
set_option maxRecDepth 20000
namespace Go.Proofs.YtchfclmokpbldaaGreat
open Go.Aw Go
section
section
variable {A9 B9:Prop}
theorem U8e (a:A9) (h:A9→B9:=by exact Jx (Kb (qs:=[]) (out:=[_,_,_,_,_,_,_,_,_,_,_,_,_,_,_,_,_,_,_,_,_,_,_]) tb rfl rfl rfl rfl) rfl):B9:=h a
theorem K5e (h:B9:=by exact ⟨staZ,Yic,by rw [he];rfl,V1e R,fun h=>by omega,fun _=>rfl,rfl,rfl⟩):B9:=h
theorem Urf (a:A9) (h:A9→B9:=by exact Jx (Jl (row:=[_,_,_]) tb rfl rfl rfl zf zb zb) rfl):B9:=h a
end
theorem Zb {α:Type} {P:Program} {n:Nat} {code:Code} {t:Nat→Value} {L:List Blk} {R:List Sl} {Q:Kp} {f:α→List Value} {wd:Nat} (hf:∀x,(f x).length=wd) (hwd:0 < wd) (h:CJ P n code t L ((⟨none,0,[]⟩:Arr α).sl wd f [] :: R) Q):CJ P n code t L R Q:=
  Yje (T:=3) (p:=(OwL.nil:OwL α)) (f:=f) [] OwL.nil_ok hf hwd (fun s hs=>by cases hs) h
def Yic:List Sl:=[psl ⟨none,0,[]⟩,rsl ⟨none,0,[]⟩,fsl ⟨none,0,[]⟩,dsl ⟨none,0,[]⟩,Vzd ⟨none,0,[]⟩,Jjf ⟨none,0,[]⟩,Vwe ⟨none,0,[]⟩,isl ⟨none,0,[]⟩,bsl ⟨none,0,[]⟩,Vl ⟨none,0,[]⟩,Uud ⟨none,0,[]⟩,Kyc ⟨none,0,[]⟩,Vdb ⟨none,0,[]⟩,Yv ⟨none,0,[]⟩]
theorem Yie {P:Program} {n:Nat} {code:Code} {t:Nat→Value} {L:List Blk} {R:List Sl} {Q:Kp} (h:CJ P n code t L (Yic ++ R) Q):CJ P n code t L R Q:=by
  refine Zb (f:=XEntry.cells) (wd:=4) (fun _=>rfl) zc ?_
  refine Zb (f:=XSwitch.cells) (wd:=5) (fun _=>rfl) zc ?_
  refine Zb (f:=XCut.cells) (wd:=3) (fun _=>rfl) zc ?_
  refine Zb (f:=XWatch.cells) (wd:=3) (fun _=>rfl) zc ?_
  refine Zb (f:=XMeas.cells) (wd:=4) (fun _=>rfl) zc ?_
  refine Zb (f:=Zw) (wd:=1) (fun _=>rfl) zc ?_
  refine Zb (f:=Jq) (wd:=1) (fun _=>rfl) zc ?_
  refine Zb (f:=XZone.cells) (wd:=4) (fun _=>rfl) zc ?_
  refine Zb (f:=XCond.cells) (wd:=6) (fun _=>rfl) zc ?_
  refine Zb (f:=XSens.cells) (wd:=8) (fun _=>rfl) zc ?_
  refine Zb (f:=XDoor.cells) (wd:=3) (fun _=>rfl) zc ?_
  refine Zb (f:=XFan.cells) (wd:=4) (fun _=>rfl) zc ?_
  refine Zb (f:=XRoad.cells) (wd:=10) (fun _=>rfl) zc ?_
  refine Zb (f:=XPlace.cells) (wd:=2) (fun _=>rfl) zc ?_
  exact h
theorem V1e (R:List Sl):StaR staZ (Yic ++ R):=by
  have m:∀s∈Yic,InR s (Yic ++ R):=fun s hs=>Ja (List.mem_append_left _ hs)
  refine ⟨⟨⟨m _ ?_,m _ ?_,m _ ?_,m _ ?_⟩,m _ ?_,m _ ?_,m _ ?_,m _ ?_⟩,m _ ?_,m _ ?_,m _ ?_,m _ ?_,⟨m _ ?_,m _ ?_⟩,m _ ?_⟩
  all_goals simp [Yic,staZ]
def Unc (sw : List XSwitch) : Nat → List XSwitch
  | 0=>sw
  | k + 1=>Vo (Unc sw k) (k:Int) 0
def Yoe (sw:List XSwitch):List XSwitch:=Unc sw sw.length
def Vga (s:XSite) (f:XFeeder):Int:=
  if K2 s≠0 then K2 s else if feedE f.switches.l f.zones.l f.reply≠0 then feedE f.switches.l f.zones.l f.reply
  else if f.zones.l.length≠s.zones.l.length then 17 else if∃x∈f.switches.l,x.since≠0 then 8 else 0
def gOf (s:XSite) (f:XFeeder) (A:List Bool):PSite:=⟨s,f.zones.l,f.reply,A⟩
def Zy:XMeas:=⟨-1,0,⟨0,0⟩⟩
def K6c (s:XSite) (f:XFeeder):PSta:=⟨0,[],0,List.replicate s.sensors.l.length Zy,List.replicate s.conds.l.length ⟨true,-1,0⟩,List.replicate s.zones.l.length ⟨true,-1,0⟩,Yoe f.switches.l,noRest,[]⟩
theorem U8a {sw : List XSwitch} {zn : List Int} {rp : Int} (h : feedE sw zn rp = 0) : ∀ k, SwKeep sw (Unc sw k) 0
  | 0=>.refl h 0
  | k + 1=>(U8a h k).openS _
theorem Jpe {s:XSite} {f:XFeeder} (h:Vga s f=0):K2 s=0∧feedE f.switches.l f.zones.l f.reply=0∧f.zones.l.length=s.zones.l.length∧∀x∈f.switches.l,x.since=0:=by
  rw [Vga] at h
  split at h
  · omega
  split at h
  · omega
  split at h
  · cases h
  split at h
  · cases h
  rename_i h1 h2 h3 h4
  exact ⟨Decidable.not_not.1 h1,Decidable.not_not.1 h2,Decidable.not_not.1 h3,fun x hx=>by
    rcases Classical.em (x.since=0) with h5 | h5
    · exact h5
    · exact absurd ⟨x,hx,h5⟩ h4⟩
theorem J1c {s:XSite} {f:XFeeder} {A:List Bool} (h:Vga s f=0) (hA:AiryIs s.air.mine A):Inv (gOf s f A) (K6c s f):=by
  obtain ⟨h1,h2,h3,h4⟩:=Jpe h
  have hk:=U8a (rp:=f.reply) h2 f.switches.l.length
  refine ⟨h1,hA,⟨Int.le_refl _,by show (0:Int)≤2147483648;decide⟩,List.length_replicate,fun x hx=>?_,List.length_replicate,fun w hw=>?_,List.length_replicate,hk.feedE h2 ⟨Int.le_refl _,by decide⟩,?_,h3,⟨by show (0:Int)≤0;decide,.inl rfl⟩,Nat.zero_le _,⟨fun x hx=>(by cases hx),Nat.zero_le _⟩⟩
  · rw [List.eq_of_mem_replicate hx,Kua,Zy];dsimp only;omega
  · rw [List.eq_of_mem_replicate hw]
    exact ⟨⟨by decide,by decide,by decide,.inl rfl⟩,Int.le_refl _⟩
  · exact (hk.time ⟨⟨Int.le_refl _,by decide⟩,fun x hx=>by rw [h4 x hx];exact Int.le_refl _⟩).2
attribute [local irreducible] CJ LJ DJ Tri YV Gives Uh J0 Ke Ui RV J2 OwL.L
def U7e (s:XSite) (f:XFeeder) (A:List Bool) (L:List Blk) (R:List Sl):Yn:=fun v L' R'=>∃(y:XSta) (S:List Sl),v=.tuple #[y.val,.int .i64 (Vga s f)]∧StaR y R'∧(Vga s f=0→StaIs (gOf s f A) (K6c s f) y)∧(Vga s f≠0→y=staZ)∧L=L'∧S ++ R=R'
set_option maxHeartbeats 1000000 in
theorem Vwb (s:XSite) (f:XFeeder) (A:List Bool) (L:List Blk) (R:List Sl) (hs:SiteR s R) (hf:FeederR f R) (hA:AiryIs s.air.mine A):
    Tri Tryz.prog 16 [s.val,f.val].toArray L R (U7e s f A L R):=by
  have hswR:=hf.sw.mono fun r hr=>Ja (List.mem_append_right Yic hr)
  refine Jg 101 Tryz.call16 Tryz.func16 rfl rfl rfl ?_
  refine Xag ?_
  intro b2
  refine qax ?_
  intro b3
  refine qaq ?_
  intro b4
  refine qad ?_
  refine qco ?_
  refine Yie ?_
  have hR0:∀r∈R,InR r (Yic ++ R):=fun r hr=>Ja (List.mem_append_right _ hr)
  have hs0:=hs.mono hR0
  have hf0:=hf.mono hR0
  refine qay ?_
  refine Jx (Jl (row:=[_,_,_,_,_,_,_,_]) tb rfl rfl rfl zf zb zb) rfl ?_
  refine q_l rfl (J1a s _ _ hs0) ?_
  refine Xa7 ?_
  refine q_c (fun hc0=>?_) (fun hc0=>?_)
  ·
   refine qae ?_
   refine U8e ?_
   refine Xby ?_
   refine q_r (L':=L) (R':=Yic ++ R) (Ug rfl (Jm (row:=[_,_,_,_,_,_,_,_,_,_,_,_,_,_,_,_,_,_,_,_,_,_,_]) tb rfl rfl rfl zf zb zb) (Je (show _=Value.int _ _ from rfl))) ?_
   have he:Vga s f=K2 s:=by rw [Vga,if_pos hc0]
   exact K5e
  refine qbo ?_
  refine Urf ?_
  refine q_l rfl (Vt f _ _ hf0) ?_
  refine Xa7 ?_
  refine q_c (fun hc1=>?_) (fun hc1=>?_)
  ·
   refine qae ?_
   refine U8e ?_
   refine Xby ?_
   refine q_r (L':=L) (R':=Yic ++ R) (Ug rfl (Jm (row:=[_,_,_,_,_,_,_,_,_,_,_,_,_,_,_,_,_,_,_,_,_,_,_]) tb rfl rfl rfl zf zb zb) (Je (show _=Value.int _ _ from rfl))) ?_
   have he:Vga s f=feedE f.switches.l f.zones.l f.reply:=by rw [Vga,if_neg hc0,if_pos hc1]
   exact K5e
  refine qbo ?_
  refine Xac ?_
  refine Xac ?_
  refine Xaq ?_
  refine q_c (fun hc2=>?_) (fun hc2=>?_)
  ·
   refine qae ?_
   refine U8e ?_
   refine Xaz ?_
   refine q_r (L':=L) (R':=Yic ++ R) (Ug rfl (Jm (row:=[_,_,_,_,_,_,_,_,_,_,_,_,_,_,_,_,_,_,_,_,_,_,_]) tb rfl rfl rfl zf zb zb) (Je (show _=Value.int _ _ from rfl))) ?_
   have he:Vga s f=17:=by rw [Vga,if_neg hc0,if_neg hc1,if_pos za]
   exact K5e
  have hse:K2 s=0:=Decidable.not_not.1 hc0
  have hfe:feedE f.switches.l f.zones.l f.reply=0:=Decidable.not_not.1 hc1
  have hfo:=Vx hfe
  have hsn:=hfo.sn
  have hzl:=hfo.zl
  have hso:=(Zr hse).len
  refine Xcl ?_
  refine Jo [(2,Value.pointer _),(3,Value.pointer _),(4,Value.pointer _),(33,Value.slice _ _ _),(34,Value.int _ _),(35,Value.int _ _)] zg fun tq0=>?_
  refine q_s [5,9,35,36,37,38,39,40,41,42,43] (fun g:{k:Nat // k≤f.switches.l.length∧∀j:Nat,j < k→(f.switches.l.getD j default).since=0}=>[(35,.int .i64 ((g.1:Nat):Int))]) (fun g=>f.switches.l.length - g.1) (⟨0,by omega,fun j hj=>by omega⟩) ?_
  rintro ⟨k,hk,hal⟩ junk
  try dsimp only
  refine Xak ?_
  refine q_c (fun hc3=>?_) (fun hc3=>?_)
  ·
   have hg:=Jw (l:=f.switches.l) (k:=k) default za
   refine qbb ?_
   refine Jx zC rfl ?_
   refine qdw ?_
   refine qaq ?_
   intro b9
   refine Xb2 ?_
   refine Xaq ?_
   refine q_c (fun hc4=>?_) (fun hc4=>?_)
   ·
    refine qae ?_
    refine U8e ?_
    refine Xdd ?_
    refine qbt ?_
    refine q_r (L':=L) (R':=Yic ++ R) (Ug rfl (Jm (row:=[_,_,_,_,_,_,_,_,_,_,_,_,_,_,_,_,_,_,_,_,_,_,_]) tb rfl rfl rfl zf zb zb) (Je (show _=Value.int _ _ from rfl))) ?_
    have he:Vga s f=8:=by rw [Vga,if_neg hc0,if_neg hc1,if_neg za,if_pos ⟨_,List.mem_of_getElem? hg,hc4⟩]
    exact K5e
   refine Xax ?_
   exact Kg ⟨k + 1,by omega,fun j hj=>by
   rcases Nat.lt_or_ge j k with h | h
   · exact hal j h
   · obtain rfl : j = k := by omega
     omega⟩ zm zg zi (Jc _) zw
  have hal2:∀x∈f.switches.l,x.since=0:=fun x hx=>by
    obtain ⟨j,hj,rfl⟩:=List.getElem_of_mem hx
    have:=hal j za
    rwa [List.getD_eq_getElem?_getD,List.getElem?_eq_getElem hj] at this
  have he:Vga s f=0:=by rw [Vga,if_neg hc0,if_neg hc1,if_neg za,if_neg (fun ⟨x,hx,h⟩=>h (hal2 x hx))]
  have hn:∀q∈Yic,InR q (Yic ++ R):=fun q hq=>Ja (List.mem_append_left _ hq)
  have hN:StaN (⟨s,0,⟨none,0,[]⟩,0,⟨none,0,[]⟩,⟨none,0,[]⟩,⟨none,0,[]⟩,f,noRest,⟨none,0,[]⟩⟩:XSta):=⟨hse,Nat.zero_le _,Nat.zero_le _,Nat.zero_le _,Nat.zero_le _,(by show f.switches.l.length≤1000;omega),(by show f.zones.l.length≤1000;omega),Nat.zero_le _⟩
  have hZ:=V1e R
  have hXR:StaR (⟨s,0,⟨none,0,[]⟩,0,⟨none,0,[]⟩,⟨none,0,[]⟩,⟨none,0,[]⟩,f,noRest,⟨none,0,[]⟩⟩:XSta) (Yic ++ R):=⟨hs0,hZ.held,hZ.meas,hZ.watches,hZ.cuts,hf0,hZ.log⟩
  refine qc3 ?_
  refine Kn tb [0,1,2,3,4,5,6] _ K1 ze (List.Sublist.refl _) ?_
  refine Kv (Jl (row:=[_,_,_,_,_,_,_,_]) tb rfl rfl rfl zf zb zb) rfl rfl rfl ?_
  refine Kv (Jl (row:=[_,_,_]) tb rfl rfl rfl zf zb zb) rfl rfl rfl ?_
  refine q_d rfl (K1c _ _) ?_
  refine Kv (Kb (qs:=[(0,(Value.agg _).cells.toList),(6,(Value.agg _).cells.toList),(7,(Value.agg _).cells.toList)]) (out:=[_,_,_,_,_,_,_,_,_,_,_,_,_,_,_,_,_,_,_,_,_,_,_]) tb rfl rfl rfl rfl) rfl rfl rfl ?_
  refine Yu rfl (Zva (⟨s,0,⟨none,0,[]⟩,0,⟨none,0,[]⟩,⟨none,0,[]⟩,⟨none,0,[]⟩,f,noRest,⟨none,0,[]⟩⟩:XSta) _ _ hN hXR) rfl rfl ?_
  rintro v L' R' ⟨s',h',f',pm,pw,pc,pl,S0,rfl,hK,rfl,rfl⟩
  refine ⟨zi,zy,?_⟩
  refine qbr ?_
  intro b10
  refine qbg ?_
  refine J1 (Jb (Jn (Jn ?_)))
  obtain ⟨R1,hR1e⟩:∃R1,R1=S0 ++ (Yic ++ R):=⟨_,rfl⟩
  refine Ysb (show _=R1 by rw [hR1e]) ?_
  have hK1:StaKO (⟨s,0,⟨none,0,[]⟩,0,⟨none,0,[]⟩,⟨none,0,[]⟩,⟨none,0,[]⟩,f,noRest,⟨none,0,[]⟩⟩:XSta) s' h' f' pm pw pc pl R1:=by rw [hR1e];exact hK
  have hRR1:∀r∈R,InR r R1:=fun r hr=>Ja (by rw [hR1e];exact List.mem_append_right _ (List.mem_append_right _ hr))
  have hpm0:pm.l=[]:=hK.em
  have hpw0:pw.l=[]:=hK.ew
  have hpc0:pc.l=[]:=hK.ec
  have hpl0:pl.l=[]:=hK.el
  have hswn:f'.switches.l=f.switches.l:=hK.esw
  refine qay ?_
  refine Xaw ?_
  refine Jo [(2,Value.pointer _),(4,Value.pointer _),(10,Value.pointer _),(51,Value.int _ _),(52,Value.int _ _)] zg fun tq1=>?_
  refine q_p [11,52,53,54,55,56,57,58,59,60,61,62,63] ((⟨fun g=>[(52,.int .i64 ((g.1.1:Nat):Int))],fun g=>⟨b10,(⟨s',0,h',0,pm.arr,pw.arr,pc.arr,g.1.2.1,noRest,pl.arr⟩:XSta).cells,54⟩ :: (pl.L 150 XEntry.cells ++ (pc.L 71 XCut.cells ++ (pw.L 153 XWatch.cells ++ (pm.L 93 XMeas.cells ++ (⟨b4,staZ.cells,54⟩ :: ⟨b3,f.cells,42⟩ :: ⟨b2,s.cells,38⟩ :: L))))),fun g=>g.1.2.2,fun g=>f.switches.l.length - g.1.1⟩:Head {g:Nat×XFeeder×List Sl // g.1≤f.switches.l.length∧(g.2.1.switches.l=Unc f.switches.l g.1∧g.2.1.zones.l=f.zones.l∧g.2.1.reply=f.reply)∧FeederR g.2.1 g.2.2∧∀r∈R1,InR r g.2.2})) (⟨(0,f',R1),by dsimp only;omega,⟨hK.esw,hK.ezn,hK.erp⟩,hK1.feeder,Jc _⟩) ?_
  rintro ⟨⟨k1,f1,S1⟩,hk1,⟨hfs,hfz,hfr⟩,hf1,hext⟩ junk
  try dsimp only
  dsimp only [XSta.cells]
  dsimp only at hk1 hfs hfz hfr hf1 hext
  refine Xak ?_
  refine q_c (fun hc5=>?_) (fun hc5=>?_)
  ·
   have hkp:=U8a (rp:=f.reply) hfe k1
   have hfe1:feedE f1.switches.l f1.zones.l f1.reply=0:=by rw [hfs,hfz,hfr];exact hkp.feedE hfe ⟨Int.le_refl _,by decide⟩
   have hl1:f1.switches.l.length=f.switches.l.length:=by rw [hfs];exact hkp.len
   have hto1:Vda f1.switches.l 0:=by rw [hfs];exact hkp.time ⟨⟨Int.le_refl _,by decide⟩,fun x hx=>by rw [hal2 x hx];exact Int.le_refl _⟩
   have hcan:Jvc f1.switches.l f1.zones.l f1.reply (k1:Int) 0=0:=by rw [Jvc,if_neg (by rw [hfe1];decide),if_neg za,if_pos hto1]
   refine Xa2 ?_
   refine qad ?_
   refine J6 (Jb (Jh ?_))
   refine qab ?_
   refine Urf ?_
   refine qaa ?_
   refine Js rfl (Ktb f1 (k1:Int) 0 _ _ hf1) rfl ?_
   rintro v L' R' ⟨pp,qq,rp,rfl,⟨hppk,hqqk⟩,hop,rfl,rfl⟩
   refine Jx (Jy rfl) rfl ?_
   refine Xa4 ?_
   refine qab ?_
   refine Kha tb rfl rfl rfl rfl zB zb zb zb ?_
   refine J6 (Ji (Jb ?_))
   obtain ⟨hppl,hqql,rfl⟩:=hop hcan
   refine Kd (T:=3) (f:=Jq) (wd:=1) qq [] zj (fun _=>rfl) zc hqqk (fun s hs=>by cases hs) ?_
   refine Uv zp ?_
   refine Kd (T:=76) (f:=XSwitch.cells) (wd:=5) pp [] zj (fun _=>rfl) zc hppk (fun s hs=>by cases hs) ?_
   refine Uv zp ?_
   refine qay ?_
   refine Xae ?_
   exact q_k ⟨(k1 + 1,⟨pp.arr,qq.arr,f1.reply⟩,Vdb pp.arr :: isl qq.arr :: S1),by dsimp only;omega,⟨by show pp.l=_;rw [hppl,hfs];rfl,hqql.trans hfz,hfr⟩,⟨Ja (.head _),Ja (.tail _ (.head _))⟩,fun r hr=>(hext r hr).mono fun r hr=>Ja (.tail _ (.tail _ hr))⟩
  obtain rfl:k1=f.switches.l.length:=by omega
  refine qcf ?_
  refine Xaw ?_
  refine Jo [(2,Value.pointer _),(4,Value.pointer _),(10,Value.pointer _),(66,Value.int _ _),(67,Value.int _ _)] zg fun tq2=>?_
  refine q_p [67,68,69,70,71,72,73,74,75] ((⟨fun g=>[(67,.int .i64 ((g.1.1:Nat):Int))],fun g=>⟨b10,(⟨s',0,h',0,g.1.2.arr,pw.arr,pc.arr,f1,noRest,pl.arr⟩:XSta).cells,54⟩ :: (pl.L 150 XEntry.cells ++ (pc.L 71 XCut.cells ++ (pw.L 153 XWatch.cells ++ (g.1.2.L 93 XMeas.cells ++ (⟨b4,staZ.cells,54⟩ :: ⟨b3,f.cells,42⟩ :: ⟨b2,s.cells,38⟩ :: L))))),fun _=>S1,fun g=>s.sensors.l.length - g.1.1⟩:Head {g:Nat×OwL XMeas // g.1≤s.sensors.l.length∧g.2.ok 4 XMeas.cells∧g.2.l=List.replicate g.1 Zy})) (⟨(0,pm),by dsimp only;omega,hK.km,hpm0⟩) ?_
  rintro ⟨⟨k2,pm2⟩,hk2,hm2k,hm2⟩ junk
  try dsimp only
  dsimp only [XSta.cells]
  dsimp only at hk2 hm2k hm2
  have hm2n:pm2.l.length=k2:=by rw [hm2,List.length_replicate]
  refine Xak ?_
  refine q_c (fun hc6=>?_) (fun hc6=>?_)
  ·
   refine J5 (Jb (Jn (Kf (Jh ?_))))
   refine Xaa ?_
   refine Jx (Kb (qs:=[(0,(Value.int _ _).cells.toList)]) (out:=[_,_,_,_]) tb rfl rfl rfl rfl) rfl ?_
   refine Y9 (Jv (qs:=[(0,(Value.agg _).cells.toList)]) (out:=[_,_,_,_]) tb rfl rfl rfl rfl rfl rfl rfl) rfl ?_
   rintro v L' R' ⟨b72,rfl,rfl,hR72⟩
   replace hR72:=hR72.symm;subst hR72
   refine Y9 (J9 (f:=XMeas.cells) (p:=pm2) (a:=Zy) tb rfl rfl rfl rfl (hm2k) zj (Kz zf rfl rfl) rfl zA) rfl ?_
   rintro v L' R' ⟨o73,rfl,hok73,rfl,rfl⟩
   refine Xbp ?_
   refine Xa8 ?_
   exact q_k ⟨(k2 + 1,⟨o73,pm2.l ++ [Zy]⟩),by dsimp only;omega,hok73,by dsimp only;rw [hm2,List.replicate_succ']⟩
  obtain rfl:k2=s.sensors.l.length:=by omega
  refine qcf ?_
  refine Xaw ?_
  refine Jo [(2,Value.pointer _),(4,Value.pointer _),(10,Value.pointer _),(78,Value.int _ _),(79,Value.int _ _)] zg fun tq3=>?_
  refine q_p [79,80,81,82,83,84,85,86,87] ((⟨fun g=>[(79,.int .i64 ((g.1.1:Nat):Int))],fun g=>⟨b10,(⟨s',0,h',0,pm2.arr,g.1.2.arr,pc.arr,f1,noRest,pl.arr⟩:XSta).cells,54⟩ :: (pl.L 150 XEntry.cells ++ (pc.L 71 XCut.cells ++ (g.1.2.L 153 XWatch.cells ++ (pm2.L 93 XMeas.cells ++ (⟨b4,staZ.cells,54⟩ :: ⟨b3,f.cells,42⟩ :: ⟨b2,s.cells,38⟩ :: L))))),fun _=>S1,fun g=>s.conds.l.length - g.1.1⟩:Head {g:Nat×OwL XWatch // g.1≤s.conds.l.length∧g.2.ok 3 XWatch.cells∧g.2.l=List.replicate g.1 (⟨true,-1,0⟩:XWatch)})) (⟨(0,pw),by dsimp only;omega,hK.kw,hpw0⟩) ?_
  rintro ⟨⟨k3,pw2⟩,hk3,hw2k,hw2⟩ junk
  try dsimp only
  dsimp only [XSta.cells]
  dsimp only at hk3 hw2k hw2
  have hw2n:pw2.l.length=k3:=by rw [hw2,List.length_replicate]
  refine Xak ?_
  refine q_c (fun hc7=>?_) (fun hc7=>?_)
  ·
   refine J5 (Jb (Jn (Kf ?_)))
   refine Kk tb [] [0,1,2,3] [4,5,6] (_) _ K1 ze zi (List.nil_sublist _) ?_
   refine Xar ?_
   refine Vi rfl (Y0d _ _) rfl rfl ?_
   rintro v L' R' ⟨rfl,rfl,rfl⟩
   refine ⟨zi,zy,?_⟩
   refine Zec (Jv (qs:=[(0,(Value.agg _).cells.toList)]) (out:=[_,_,_]) tb rfl rfl rfl rfl rfl rfl rfl) rfl rfl rfl ?_
   rintro v L' R' ⟨b84,rfl,rfl,hR84⟩
   replace hR84:=hR84.symm;subst hR84
   refine Xcz ?_
   refine Yhb (J9 (f:=XWatch.cells) (p:=pw2) (a:=⟨true,-1,0⟩) tb rfl rfl rfl rfl (hw2k) zj (Kz zf rfl rfl) rfl zA) rfl rfl rfl ?_
   rintro v L' R' ⟨o85,rfl,hok85,rfl,rfl⟩
   refine qa1 ?_
   refine Xc0 ?_
   refine Xc7 ?_
   exact q_k ⟨(k3 + 1,⟨o85,pw2.l ++ [⟨true,-1,0⟩]⟩),by dsimp only;omega,hok85,by dsimp only;rw [hw2,List.replicate_succ']⟩
  obtain rfl:k3=s.conds.l.length:=by omega
  refine qcf ?_
  refine Xaw ?_
  refine Jo [(4,Value.pointer _),(10,Value.pointer _),(90,Value.int _ _),(91,Value.int _ _)] zg fun tq4=>?_
  refine q_p [91,92,93,94,95,96,97,98,99] ((⟨fun g=>[(91,.int .i64 ((g.1.1:Nat):Int))],fun g=>⟨b10,(⟨s',0,h',0,pm2.arr,pw2.arr,g.1.2.arr,f1,noRest,pl.arr⟩:XSta).cells,54⟩ :: (pl.L 150 XEntry.cells ++ (g.1.2.L 71 XCut.cells ++ (pw2.L 153 XWatch.cells ++ (pm2.L 93 XMeas.cells ++ (⟨b4,staZ.cells,54⟩ :: ⟨b3,f.cells,42⟩ :: ⟨b2,s.cells,38⟩ :: L))))),fun _=>S1,fun g=>s.zones.l.length - g.1.1⟩:Head {g:Nat×OwL XCut // g.1≤s.zones.l.length∧g.2.ok 3 XCut.cells∧g.2.l=List.replicate g.1 (⟨true,-1,0⟩:XCut)})) (⟨(0,pc),by dsimp only;omega,hK.kc,hpc0⟩) ?_
  rintro ⟨⟨k4,pc2⟩,hk4,hc2k,hc2⟩ junk
  try dsimp only
  dsimp only [XSta.cells]
  dsimp only at hk4 hc2k hc2
  have hc2n:pc2.l.length=k4:=by rw [hc2,List.length_replicate]
  refine Xak ?_
  refine q_c (fun hc8=>?_) (fun hc8=>?_)
  ·
   refine J5 (Jb (Jn (Kf (Jh ?_))))
   refine Xaa ?_
   refine Jx (Kb (qs:=[(0,(Value.bool _).cells.toList),(1,(Value.int _ _).cells.toList)]) (out:=[_,_,_]) tb rfl rfl rfl rfl) rfl ?_
   refine Y9 (Jv (qs:=[(0,(Value.agg _).cells.toList)]) (out:=[_,_,_]) tb rfl rfl rfl rfl rfl rfl rfl) rfl ?_
   rintro v L' R' ⟨b96,rfl,rfl,hR96⟩
   replace hR96:=hR96.symm;subst hR96
   refine Y9 (J9 (f:=XCut.cells) (p:=pc2) (a:=⟨true,-1,0⟩) tb rfl rfl rfl rfl (hc2k) zj (Kz zf rfl rfl) rfl zA) rfl ?_
   rintro v L' R' ⟨o97,rfl,hok97,rfl,rfl⟩
   refine Xbp ?_
   refine Xa8 ?_
   exact q_k ⟨(k4 + 1,⟨o97,pc2.l ++ [⟨true,-1,0⟩]⟩),by dsimp only;omega,hok97,by dsimp only;rw [hc2,List.replicate_succ']⟩
  obtain rfl:k4=s.zones.l.length:=by omega
  refine Kd (T:=93) (f:=XMeas.cells) (wd:=4) pm2 [] zj (fun _=>rfl) zc hm2k (fun s hs=>by cases hs) ?_
  refine Uv zp ?_
  refine Kd (T:=153) (f:=XWatch.cells) (wd:=3) pw2 [] zj (fun _=>rfl) zc hw2k (fun s hs=>by cases hs) ?_
  refine Uv zp ?_
  refine Kd (T:=71) (f:=XCut.cells) (wd:=3) pc2 [] zj (fun _=>rfl) zc hc2k (fun s hs=>by cases hs) ?_
  refine Uv zp ?_
  refine Kd (T:=150) (f:=XEntry.cells) (wd:=4) pl [] zj (fun _=>rfl) zc hK.kl (fun s hs=>by cases hs) ?_
  refine Uv zp ?_
  obtain ⟨R2,hR2e⟩:∃R2,R2=Yv pl.arr :: Kyc pc2.arr :: Uud pw2.arr :: Vl pm2.arr :: S1:=⟨_,rfl⟩
  refine Ysb (show _=R2 by rw [hR2e]) ?_
  have h12:∀r∈S1,InR r (R2 ++ R):=fun r hr=>Ja (by rw [hR2e];exact .tail _ (.tail _ (.tail _ (.tail _ (List.mem_append_left _ hr)))))
  have h02:∀r∈R1,InR r (R2 ++ R):=fun r hr=>(hext r hr).mono h12
  have hRR2:∀r∈R,InR r R2:=fun r hr=>((hRR1 r hr).mono hext).mono fun r hr=>Ja (by rw [hR2e];exact .tail _ (.tail _ (.tail _ (.tail _ hr))))
  have e1:InR (Yv pl.arr) (R2 ++ R):=Ja zaa
  have e2:InR (Kyc pc2.arr) (R2 ++ R):=Ja zCa
  have e3:InR (Uud pw2.arr) (R2 ++ R):=Ja zAa
  have e4:InR (Vl pm2.arr) (R2 ++ R):=Ja (by rw [hR2e];exact .tail _ (.tail _ (.tail _ (.head _))))
  refine qbk ?_
  refine Jx (Jl (row:=[_,_,_,_,_,_,_,_,_,_,_,_,_,_,_,_,_,_,_,_,_,_,_]) tb rfl rfl rfl zf zb zb) rfl ?_
  refine Xbl ?_
  refine Ks (L':=L) (R':=R2 ++ R) (Ug rfl (Jm (row:=[_,_,_,_,_,_,_,_,_,_,_,_,_,_,_,_,_,_,_,_,_,_,_]) tb rfl rfl rfl zf zb zb) (Je (show _=Value.int _ _ from rfl))) ?hp ?hL ?hR
  case hp=>exact ⟨(⟨s',0,h',0,pm2.arr,pw2.arr,pc2.arr,f1,noRest,pl.arr⟩:XSta),R2,by rw [he],⟨hK1.site.mono h02,hK1.held.mono h02,e4,e3,e2,hf1.mono h12,e1⟩,fun _=>⟨hK.es,rfl,hK.eh,rfl,hm2,hw2,hc2,hfs,hfz,hfr,rfl,hpl0⟩,fun h=>absurd he h,rfl,rfl⟩
  case hL=>exact zi
  case hR=>
   exact fun r hr=>by
     rcases List.mem_append.1 hr with h | h
     · exact Ja h
     · exact hRR2 r h
end
section
section
variable {g:PSite} {p:PSta}
structure KeepP (p q:PSta):Prop where
  meas:q.meas=p.meas
  held:q.held=p.held
  dropped:q.dropped=p.dropped
theorem KeepP.refl (p:PSta):KeepP p p:=⟨rfl,rfl,rfl⟩
theorem KeepP.trans {p q r:PSta} (h:KeepP p q) (k:KeepP q r):KeepP p r:=⟨k.meas.trans h.meas,k.held.trans h.held,k.dropped.trans h.dropped⟩
theorem V7c (z:Int):KeepP p (K9b g p z):=by
  rw [K9b]
  split <;> exact ⟨rfl,rfl,rfl⟩
theorem V6c : ∀ (l : List Int) {p : PSta}, KeepP p (Vha g p l)
  | [],p=>.refl p
  | z :: l,p=>(V7c z).trans (V6c l)
theorem Jxb (kind : Int) : ∀ (l : List Int) {p : PSta}, KeepP p (Ys kind p l)
  | [],p=>.refl p
  | z :: l,p=>KeepP.trans (q:=Yd p kind z 0) ⟨rfl,rfl,rfl⟩ (Jxb kind l)
theorem Zhc (vals:List Int) (z:Nat):KeepP p (Kma g vals p z):=by
  rw [Kma]
  split
  · exact .refl p
  · exact KeepP.trans (q:={ p with cuts:=p.cuts.set z ⟨true,(p.cuts.getD z default).clear,Jza (g.site.zones.l.getD z default).rule.l vals⟩ }) ⟨rfl,rfl,rfl⟩ (V7c _)
theorem Vtb (vals : List Int) : ∀ k, KeepP p (darkTo g vals p k)
  | 0=>.refl p
  | k + 1=>(Vtb vals k).trans (Zhc vals k)
theorem Yrc (t:Int):KeepP p (Jd g p t):=by
  rw [Jd]
  refine KeepP.trans ?_ (Vtb _ _)
  rw [settleB]
  refine KeepP.trans ?_ (Jxb _ _)
  refine KeepP.trans ?_ (Jxb _ _)
  refine KeepP.trans (q:=settleA g { p with time:=t }) ?_ ⟨rfl,rfl,rfl⟩
  rw [settleA]
  exact KeepP.trans (q:={ p with time:=t,watches:=_,cuts:=_ }) ⟨rfl,rfl,rfl⟩ (V6c _)
def Jyf (p:PSta):Prop:=∀c∈p.cuts,c.off=true
theorem Ybc : ∀ (l : List Int) {p : PSta}, (Vha g p l).cuts = p.cuts
  | [],p=>rfl
  | z :: l,p=>(Ybc l).trans (Z5a z)
theorem Khb (kind : Int) : ∀ (l : List Int) {p : PSta}, (Ys kind p l).cuts = p.cuts
  | [],p=>rfl
  | z :: l,p=>Khb kind l
theorem Kre {v t:Int} {c:XCut} (h:c.off=true):(Y4d v c t).off=true:=by
  rw [Y4d]
  repeat' split
  all_goals first | exact h | rfl
theorem U0e {l:List XCut} (h:∀c∈l,c.off=true) {i:Nat} (hi:i < l.length):(l.getD i default).off=true:=h _ (List.mem_of_getElem? (Jw (l:=l) (k:=i) default hi))
theorem settleB_cuts:(settleB g p).cuts=p.cuts:=by rw [settleB,Khb,Khb]
theorem Kad (vals : List Int) (h : Jyf p) : ∀ k, k ≤ p.cuts.length → darkTo g vals p k = p
  | 0,_=>rfl
  | k + 1,hk=>by
    rw [darkTo,Kad vals h k za,Kma,if_pos (.inl (U0e h za))]
end
end
section
section
variable {a:XAir} {s:XSetting} {x:XState} (h:MadeA a s x)
include h
end
section
variable {a:XAir} {s:XSetting} {x:XState} (h:MadeA a s x)
include h
end
end
section
attribute [local irreducible] CJ LJ DJ Tri YV Gives Uh J0 Ke Ui RV J2 OwL.L
end
section
attribute [local irreducible] CJ LJ DJ Tri YV Gives Uh J0 Ke Ui RV J2 OwL.L
end
section
section
variable (b b':Nat)
end
end
section
attribute [local irreducible] CJ LJ DJ Tri YV Gives Uh J0 Ke Ui RV J2 OwL.L
end
section
attribute [local irreducible] CJ LJ DJ Tri YV Gives Uh J0 Ke Ui RV J2 OwL.L
section
variable (b b':Nat)
end
end
section
attribute [local irreducible] CJ LJ DJ Tri YV Gives Uh J0 Ke Ui RV J2 OwL.L
section
variable {s:XSite} {len dl ho:Int} (h:EasyD s len dl ho)
include h
theorem U3e:Ky s.air=0:=by
  obtain ⟨h1,h2,h3,h4,h5,h6,h7,_,h8,⟨h9,h9'⟩,_⟩:=h
  obtain ⟨⟨⟨⟨pa,pc,pl⟩,⟨ra,rc,rl⟩⟩,⟨fa,fc,fl⟩,⟨da,dc,dl⟩⟩,se,cn,zs,ps⟩:=s
  dsimp only at h1 h2 h3 h4
  subst h1 h2 h3 h4
  have:len=1∨len=2∨len=3∨len=4:=by omega
  rcases this with rfl | rfl | rfl | rfl <;> rfl
theorem Zdc:SiteOk s:=by
  have ha:=U3e h
  obtain ⟨h1,h2,h3,h4,h5,h6,⟨z,h7,z1,z2,z3,z4⟩,_,h8,hr⟩:=h
  refine ⟨ha,by rw [h5,h6,h7,h8];simp,fun i hi=>?_,fun c hc=>?_,fun y hy=>?_,fun p hp=>?_⟩
  · rw [h5] at hi ⊢
    obtain rfl:i=0:=by simp only [List.length_cons,List.length_nil] at hi;omega
    rw [Zg,if_neg zc,if_neg,if_neg (by rintro ⟨k,hk,_⟩;omega)]
    rw [Vma,h2]
    show ¬ ¬ ((0:Int)≤0∧(0:Int) < 1)
    decide
  · rw [h6] at hc
    rw [List.mem_singleton.1 hc,Ko,if_neg,if_neg (by show ¬ ((0:Int) < 0∨(1099511627776:Int) < 0);decide),if_pos zb,Jga,if_pos]
    · show (100 : Int) ≤ 1000000 ∧ (0 : Int) ≤ 60 ∧ (60 : Int) < 100 ∧ 0 ≤ dl ∧ dl ≤ 100000
      omega
    · rw [h5, h2]
      show ¬ (0:Int)≠0
      decide
  · rw [h7] at hy
    rw [List.mem_singleton.1 hy,Yk,z1,h6,h2,if_neg (by show ¬ Jaa _ 1≠0;decide),if_neg za,if_neg]
    rintro ⟨i,hi,hb⟩
    rw [z3] at hi hb
    obtain rfl:i=0:=by simp only [List.length_cons,List.length_nil] at hi;omega
    revert hb
    show ¬ V4 1 [0] 0
    decide
  · rw [h8] at hp
    simp only [List.mem_cons,List.not_mem_nil,or_false] at hp
    omega
end
end
section
section
variable {s:XSite} {len dl ho:Int} (h:EasyD s len dl ho)
include h
theorem Zfc {t:Int} (ht:0≤t∧t≤2147483648):sharedE s 1 1 t=0:=by
  obtain ⟨z,h7,_⟩:=h.zone
  rw [sharedE,(Zdc h).err,if_neg zc,if_neg (by rw [h7,h.roads];simp),if_neg za]
theorem Vae {c:List XCut} {fl:List XSpan} {t:Int} (hc:c.length=1) (hf:fl.length=1) (ht:0≤t∧t≤2147483648):askE s c fl noRest 0 0 t=readyE s c fl 0 t:=by
  rw [askE,hc,hf,Zfc h ht,if_neg zc,if_neg zc,if_neg]
  rw [h.pers];decide
end
def openS (n:Nat):List XSwitch:=(List.range n).map fun (i:Nat)=>⟨(i:Int) - 1,0,-1,false,false⟩
end
end Go.Proofs.YtchfclmokpbldaaGreat
