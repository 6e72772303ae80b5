import Derived.Test.YtchfclmokpbldaaGreatStaG
import Derived.Test.YtchfclmokpbldaaGreatFeedX
import Derived.Test.YtchfclmokpbldaaGreatCongrS
import Derived.Test.YtchfclmokpbldaaGreatRel
import Derived.Test.YtchfclmokpbldaaGreatLaw11b
import Derived.Test.YtchfclmokpbldaaGreatAnal
import Derived.Test.YtchfclmokpbldaaGreatSiteS
import Derived.Test.YtchfclmokpbldaaGreatEasy
import Derived.Test.YtchfclmokpbldaaGreatCutC
import Derived.Test.YtchfclmokpbldaaGreatStrEq
import Derived.Test.YtchfclmokpbldaaGreatVals
import Derived.Test.YtchfclmokpbldaaGreatSiteD
import Derived.Test.YtchfclmokpbldaaGreatFeedT
set_option linter.unusedVariables false
set_option linter.unusedSimpArgs false
section
/-
  Stations: one is opened, the program's side. By an AI agent; no person has read it.
-/
namespace Go.Proofs.YtchfclmokpbldaaGreat
open Go.Aw Go
section
variable {A9 B9:Prop}
theorem J6i (a:A9) (h:A9→B9:=by exact Jax (Jbc (qs:=[]) (out:=[_,_,_,_,_,_,_,_,_,_,_,_,_,_,_,_,_,_,_,_,_,_,_]) tb rfl rfl rfl rfl) rfl):B9:=h a
theorem J5x (h:B9:=by exact ⟨staZ,Jvz,by rw [he];rfl,J64 R,fun h=>by omega,fun _=>rfl,rfl,rfl⟩):B9:=h
theorem J92 (a:A9) (h:A9→B9:=by exact Jax (Jal (row:=[_,_,_]) tb rfl rfl rfl zf zb zb) rfl):B9:=h a
end
theorem Je8 {α:Type} {P:Program} {n:Nat} {code:Code} {t:Nat→Value} {L:List Blk} {R:List Sl} {Q:Jbp} {f:α→List Value} {wd:Nat} (hf:∀x,(f x).length=wd) (hwd:0 < wd) (h:CJ P n code t L ((⟨none,0,[]⟩:Arr α).sl wd f [] :: R) Q):CJ P n code t L R Q:=
  J7y (T:=3) (p:=(OwL.nil:OwL α)) (f:=f) [] OwL.nil_ok hf hwd (fun s hs=>by cases hs) h
def Jvz:List Sl:=[psl ⟨none,0,[]⟩,rsl ⟨none,0,[]⟩,fsl ⟨none,0,[]⟩,dsl ⟨none,0,[]⟩,J05 ⟨none,0,[]⟩,J9p ⟨none,0,[]⟩,J5f ⟨none,0,[]⟩,isl ⟨none,0,[]⟩,bsl ⟨none,0,[]⟩,Jde ⟨none,0,[]⟩,Jwm ⟨none,0,[]⟩,Jp3 ⟨none,0,[]⟩,Jpm ⟨none,0,[]⟩,Jey ⟨none,0,[]⟩]
theorem J8t {P:Program} {n:Nat} {code:Code} {t:Nat→Value} {L:List Blk} {R:List Sl} {Q:Jbp} (h:CJ P n code t L (Jvz ++ R) Q):CJ P n code t L R Q:=by
  refine Je8 (f:=XEntry.cells) (wd:=4) (fun _=>rfl) ze ?_
  refine Je8 (f:=XSwitch.cells) (wd:=5) (fun _=>rfl) ze ?_
  refine Je8 (f:=XCut.cells) (wd:=3) (fun _=>rfl) ze ?_
  refine Je8 (f:=XWatch.cells) (wd:=3) (fun _=>rfl) ze ?_
  refine Je8 (f:=XMeas.cells) (wd:=4) (fun _=>rfl) ze ?_
  refine Je8 (f:=Jkz) (wd:=1) (fun _=>rfl) ze ?_
  refine Je8 (f:=Jap) (wd:=1) (fun _=>rfl) ze ?_
  refine Je8 (f:=XZone.cells) (wd:=4) (fun _=>rfl) ze ?_
  refine Je8 (f:=XCond.cells) (wd:=6) (fun _=>rfl) ze ?_
  refine Je8 (f:=XSens.cells) (wd:=8) (fun _=>rfl) ze ?_
  refine Je8 (f:=XDoor.cells) (wd:=3) (fun _=>rfl) ze ?_
  refine Je8 (f:=XFan.cells) (wd:=4) (fun _=>rfl) ze ?_
  refine Je8 (f:=XRoad.cells) (wd:=10) (fun _=>rfl) ze ?_
  refine Je8 (f:=XPlace.cells) (wd:=2) (fun _=>rfl) ze ?_
  exact h
theorem J64 (R:List Sl):StaR staZ (Jvz ++ R):=by
  have m:∀s∈Jvz,InR s (Jvz ++ R):=fun s hs=>Jaa (List.mem_append_left _ hs)
  refine ⟨⟨⟨m _ ?_,m _ ?_,m _ ?_,m _ ?_⟩,m _ ?_,m _ ?_,m _ ?_,m _ ?_⟩,m _ ?_,m _ ?_,m _ ?_,m _ ?_,⟨m _ ?_,m _ ?_⟩,m _ ?_⟩
  all_goals simp [Jvz,staZ]
def Jyy (sw : List XSwitch) : Nat → List XSwitch
  | 0=>sw
  | k + 1=>Jdn (Jyy sw k) (k:Int) 0
def J9d (sw:List XSwitch):List XSwitch:=Jyy sw sw.length
def Ji2 (s:XSite) (f:XFeeder):Int:=
  if Jb1 s≠0 then Jb1 s else if feedE f.switches.l f.zones.l f.reply≠0 then feedE f.switches.l f.zones.l f.reply
  else if f.zones.l.length≠s.zones.l.length then 17 else if∃x∈f.switches.l,x.since≠0 then 8 else 0
def gOf (s:XSite) (f:XFeeder) (A:List Bool):PSite:=⟨s,f.zones.l,f.reply,A⟩
def Jfh:XMeas:=⟨-1,0,⟨0,0⟩⟩
def Jo1 (s:XSite) (f:XFeeder):PSta:=⟨0,[],0,List.replicate s.sensors.l.length Jfh,List.replicate s.conds.l.length ⟨true,-1,0⟩,List.replicate s.zones.l.length ⟨true,-1,0⟩,J9d f.switches.l,noRest,[]⟩
theorem Jkw {sw : List XSwitch} {zn : List Int} {rp : Int} (h : feedE sw zn rp = 0) : ∀ k, SwKeep sw (Jyy sw k) 0
  | 0=>.refl h 0
  | k + 1=>(Jkw h k).openS _
theorem J85 {s:XSite} {f:XFeeder} (h:Ji2 s f=0):Jb1 s=0∧feedE f.switches.l f.zones.l f.reply=0∧f.zones.l.length=s.zones.l.length∧∀x∈f.switches.l,x.since=0:=by
  rw [Ji2] at h
  split at h
  · omega
  split at h
  · omega
  split at h
  · cases h
  split at h
  · cases h
  rename_i h1 h2 h3 h4
  exact ⟨Decidable.not_not.1 h1,Decidable.not_not.1 h2,Decidable.not_not.1 h3,fun x hx=>by
    rcases Classical.em (x.since=0) with h5 | h5
    · exact h5
    · exact absurd ⟨x,hx,h5⟩ h4⟩
theorem Jsf {s:XSite} {f:XFeeder} {A:List Bool} (h:Ji2 s f=0) (hA:AiryIs s.air.mine A):Inv (gOf s f A) (Jo1 s f):=by
  obtain ⟨h1,h2,h3,h4⟩:=J85 h
  have hk:=Jkw (rp:=f.reply) h2 f.switches.l.length
  refine ⟨h1,hA,⟨Int.le_refl _,by show (0:Int)≤2147483648;decide⟩,List.length_replicate,fun x hx=>?_,List.length_replicate,fun w hw=>?_,List.length_replicate,hk.feedE h2 ⟨Int.le_refl _,by decide⟩,?_,h3,⟨by show (0:Int)≤0;decide,.inl rfl⟩,Nat.zero_le _,⟨fun x hx=>(by cases hx),Nat.zero_le _⟩⟩
  · rw [List.eq_of_mem_replicate hx,Jhj,Jfh];dsimp only;omega
  · rw [List.eq_of_mem_replicate hw]
    exact ⟨⟨by decide,by decide,by decide,.inl rfl⟩,Int.le_refl _⟩
  · exact (hk.time ⟨⟨Int.le_refl _,by decide⟩,fun x hx=>by rw [h4 x hx];exact Int.le_refl _⟩).2
set_option maxRecDepth 20000
attribute [local irreducible] CJ LJ DJ Tri YV Gives Jcj Ja1 Jbg Jci RV Ja2 OwL.L
def J5m (s:XSite) (f:XFeeder) (A:List Bool) (L:List Blk) (R:List Sl):Jef:=fun v L' R'=>∃(y:XSta) (S:List Sl),v=.tuple #[y.val,.int .i64 (Ji2 s f)]∧StaR y R'∧(Ji2 s f=0→StaIs (gOf s f A) (Jo1 s f) y)∧(Ji2 s f≠0→y=staZ)∧L=L'∧S ++ R=R'
set_option maxHeartbeats 1000000 in
theorem Jn8 (s:XSite) (f:XFeeder) (A:List Bool) (L:List Blk) (R:List Sl) (hs:SiteR s R) (hf:FeederR f R) (hA:AiryIs s.air.mine A):
    Tri Tryz.prog 16 [s.val,f.val].toArray L R (J5m s f A L R):=by
  have hswR:=hf.sw.mono fun r hr=>Jaa (List.mem_append_right Jvz hr)
  refine Jad 101 Tryz.call16 Tryz.func16 rfl rfl rfl ?_
  refine Xaf ?_
  intro b2
  refine qax ?_
  intro b3
  refine qaq ?_
  intro b4
  refine qad ?_
  refine qco ?_
  refine J8t ?_
  have hR0:∀r∈R,InR r (Jvz ++ R):=fun r hr=>Jaa (List.mem_append_right _ hr)
  have hs0:=hs.mono hR0
  have hf0:=hf.mono hR0
  refine qay ?_
  refine Jax (Jal (row:=[_,_,_,_,_,_,_,_]) tb rfl rfl rfl zf zb zb) rfl ?_
  refine q_l rfl (Jgp s _ _ hs0) ?_
  refine Xa9 ?_
  refine q_c (fun hc0=>?_) (fun hc0=>?_)
  ·
   refine qae ?_
   refine J6i ?_
   refine Xbz ?_
   refine q_r (L':=L) (R':=Jvz ++ R) (Jcf rfl (Jao (row:=[_,_,_,_,_,_,_,_,_,_,_,_,_,_,_,_,_,_,_,_,_,_,_]) tb rfl rfl rfl zf zb zb) (Jaf (show _=Value.int _ _ from rfl))) ?_
   have he:Ji2 s f=Jb1 s:=by rw [Ji2,if_pos hc0]
   exact J5x
  refine qbo ?_
  refine J92 ?_
  refine q_l rfl (Jdr f _ _ hf0) ?_
  refine Xa9 ?_
  refine q_c (fun hc1=>?_) (fun hc1=>?_)
  ·
   refine qae ?_
   refine J6i ?_
   refine Xbz ?_
   refine q_r (L':=L) (R':=Jvz ++ R) (Jcf rfl (Jao (row:=[_,_,_,_,_,_,_,_,_,_,_,_,_,_,_,_,_,_,_,_,_,_,_]) tb rfl rfl rfl zf zb zb) (Jaf (show _=Value.int _ _ from rfl))) ?_
   have he:Ji2 s f=feedE f.switches.l f.zones.l f.reply:=by rw [Ji2,if_neg hc0,if_pos hc1]
   exact J5x
  refine qbo ?_
  refine Xab ?_
  refine Xab ?_
  refine Xaq ?_
  refine q_c (fun hc2=>?_) (fun hc2=>?_)
  ·
   refine qae ?_
   refine J6i ?_
   refine Xa0 ?_
   refine q_r (L':=L) (R':=Jvz ++ R) (Jcf rfl (Jao (row:=[_,_,_,_,_,_,_,_,_,_,_,_,_,_,_,_,_,_,_,_,_,_,_]) tb rfl rfl rfl zf zb zb) (Jaf (show _=Value.int _ _ from rfl))) ?_
   have he:Ji2 s f=17:=by rw [Ji2,if_neg hc0,if_neg hc1,if_pos za]
   exact J5x
  have hse:Jb1 s=0:=Decidable.not_not.1 hc0
  have hfe:feedE f.switches.l f.zones.l f.reply=0:=Decidable.not_not.1 hc1
  have hfo:=Jdt hfe
  have hsn:=hfo.sn
  have hzl:=hfo.zl
  have hso:=(Jez hse).len
  refine Xcm ?_
  refine Jan [(2,Value.pointer _),(3,Value.pointer _),(4,Value.pointer _),(33,Value.slice _ _ _),(34,Value.int _ _),(35,Value.int _ _)] zh fun tq0=>?_
  refine q_s [5,9,35,36,37,38,39,40,41,42,43] (fun g:{k:Nat // k≤f.switches.l.length∧∀j:Nat,j < k→(f.switches.l.getD j default).since=0}=>[(35,.int .i64 ((g.1:Nat):Int))]) (fun g=>f.switches.l.length - g.1) (⟨0,by omega,fun j hj=>by omega⟩) ?_
  rintro ⟨k,hk,hal⟩ junk
  try dsimp only
  refine Xak ?_
  refine q_c (fun hc3=>?_) (fun hc3=>?_)
  ·
   have hg:=Jau (l:=f.switches.l) (k:=k) default za
   refine qbb ?_
   refine Jax zC rfl ?_
   refine qdw ?_
   refine qaq ?_
   intro b9
   refine Xb1 ?_
   refine Xaq ?_
   refine q_c (fun hc4=>?_) (fun hc4=>?_)
   ·
    refine qae ?_
    refine J6i ?_
    refine Xdm ?_
    refine qbt ?_
    refine q_r (L':=L) (R':=Jvz ++ R) (Jcf rfl (Jao (row:=[_,_,_,_,_,_,_,_,_,_,_,_,_,_,_,_,_,_,_,_,_,_,_]) tb rfl rfl rfl zf zb zb) (Jaf (show _=Value.int _ _ from rfl))) ?_
    have he:Ji2 s f=8:=by rw [Ji2,if_neg hc0,if_neg hc1,if_neg za,if_pos ⟨_,List.mem_of_getElem? hg,hc4⟩]
    exact J5x
   refine Xay ?_
   exact Jbl ⟨k + 1,by omega,fun j hj=>by
   rcases Nat.lt_or_ge j k with h | h
   · exact hal j h
   · obtain rfl : j = k := by omega
     omega⟩ zm zh zi (Jac _) zy
  have hal2:∀x∈f.switches.l,x.since=0:=fun x hx=>by
    obtain ⟨j,hj,rfl⟩:=List.getElem_of_mem hx
    have:=hal j za
    rwa [List.getD_eq_getElem?_getD,List.getElem?_eq_getElem hj] at this
  have he:Ji2 s f=0:=by rw [Ji2,if_neg hc0,if_neg hc1,if_neg za,if_neg (fun ⟨x,hx,h⟩=>h (hal2 x hx))]
  have hn:∀q∈Jvz,InR q (Jvz ++ R):=fun q hq=>Jaa (List.mem_append_left _ hq)
  have hN:StaN (⟨s,0,⟨none,0,[]⟩,0,⟨none,0,[]⟩,⟨none,0,[]⟩,⟨none,0,[]⟩,f,noRest,⟨none,0,[]⟩⟩:XSta):=⟨hse,Nat.zero_le _,Nat.zero_le _,Nat.zero_le _,Nat.zero_le _,(by show f.switches.l.length≤1000;omega),(by show f.zones.l.length≤1000;omega),Nat.zero_le _⟩
  have hZ:=J64 R
  have hXR:StaR (⟨s,0,⟨none,0,[]⟩,0,⟨none,0,[]⟩,⟨none,0,[]⟩,⟨none,0,[]⟩,f,noRest,⟨none,0,[]⟩⟩:XSta) (Jvz ++ R):=⟨hs0,hZ.held,hZ.meas,hZ.watches,hZ.cuts,hf0,hZ.log⟩
  refine qc3 ?_
  refine Jbf tb [0,1,2,3,4,5,6] _ Jby zc (List.Sublist.refl _) ?_
  refine Jbu (Jal (row:=[_,_,_,_,_,_,_,_]) tb rfl rfl rfl zf zb zb) rfl rfl rfl ?_
  refine Jbu (Jal (row:=[_,_,_]) tb rfl rfl rfl zf zb zb) rfl rfl rfl ?_
  refine q_d rfl (Jsp _ _) ?_
  refine Jbu (Jbc (qs:=[(0,(Value.agg _).cells.toList),(6,(Value.agg _).cells.toList),(7,(Value.agg _).cells.toList)]) (out:=[_,_,_,_,_,_,_,_,_,_,_,_,_,_,_,_,_,_,_,_,_,_,_]) tb rfl rfl rfl rfl) rfl rfl rfl ?_
  refine Jei rfl (Jlv (⟨s,0,⟨none,0,[]⟩,0,⟨none,0,[]⟩,⟨none,0,[]⟩,⟨none,0,[]⟩,f,noRest,⟨none,0,[]⟩⟩:XSta) _ _ hN hXR) rfl rfl ?_
  rintro v L' R' ⟨s',h',f',pm,pw,pc,pl,S0,rfl,hK,rfl,rfl⟩
  refine ⟨zi,zx,?_⟩
  refine qbr ?_
  intro b10
  refine qbg ?_
  refine Jaz (Jab (Jam (Jam ?_)))
  obtain ⟨R1,hR1e⟩:∃R1,R1=S0 ++ (Jvz ++ R):=⟨_,rfl⟩
  refine Jsd (show _=R1 by rw [hR1e]) ?_
  have hK1:StaKO (⟨s,0,⟨none,0,[]⟩,0,⟨none,0,[]⟩,⟨none,0,[]⟩,⟨none,0,[]⟩,f,noRest,⟨none,0,[]⟩⟩:XSta) s' h' f' pm pw pc pl R1:=by rw [hR1e];exact hK
  have hRR1:∀r∈R,InR r R1:=fun r hr=>Jaa (by rw [hR1e];exact List.mem_append_right _ (List.mem_append_right _ hr))
  have hpm0:pm.l=[]:=hK.em
  have hpw0:pw.l=[]:=hK.ew
  have hpc0:pc.l=[]:=hK.ec
  have hpl0:pl.l=[]:=hK.el
  have hswn:f'.switches.l=f.switches.l:=hK.esw
  refine qay ?_
  refine Xaw ?_
  refine Jan [(2,Value.pointer _),(4,Value.pointer _),(10,Value.pointer _),(51,Value.int _ _),(52,Value.int _ _)] zh fun tq1=>?_
  refine q_p [11,52,53,54,55,56,57,58,59,60,61,62,63] ((⟨fun g=>[(52,.int .i64 ((g.1.1:Nat):Int))],fun g=>⟨b10,(⟨s',0,h',0,pm.arr,pw.arr,pc.arr,g.1.2.1,noRest,pl.arr⟩:XSta).cells,54⟩ :: (pl.L 150 XEntry.cells ++ (pc.L 71 XCut.cells ++ (pw.L 153 XWatch.cells ++ (pm.L 93 XMeas.cells ++ (⟨b4,staZ.cells,54⟩ :: ⟨b3,f.cells,42⟩ :: ⟨b2,s.cells,38⟩ :: L))))),fun g=>g.1.2.2,fun g=>f.switches.l.length - g.1.1⟩:Head {g:Nat×XFeeder×List Sl // g.1≤f.switches.l.length∧(g.2.1.switches.l=Jyy f.switches.l g.1∧g.2.1.zones.l=f.zones.l∧g.2.1.reply=f.reply)∧FeederR g.2.1 g.2.2∧∀r∈R1,InR r g.2.2})) (⟨(0,f',R1),by dsimp only;omega,⟨hK.esw,hK.ezn,hK.erp⟩,hK1.feeder,Jac _⟩) ?_
  rintro ⟨⟨k1,f1,S1⟩,hk1,⟨hfs,hfz,hfr⟩,hf1,hext⟩ junk
  try dsimp only
  dsimp only [XSta.cells]
  dsimp only at hk1 hfs hfz hfr hf1 hext
  refine Xak ?_
  refine q_c (fun hc5=>?_) (fun hc5=>?_)
  ·
   have hkp:=Jkw (rp:=f.reply) hfe k1
   have hfe1:feedE f1.switches.l f1.zones.l f1.reply=0:=by rw [hfs,hfz,hfr];exact hkp.feedE hfe ⟨Int.le_refl _,by decide⟩
   have hl1:f1.switches.l.length=f.switches.l.length:=by rw [hfs];exact hkp.len
   have hto1:Jix f1.switches.l 0:=by rw [hfs];exact hkp.time ⟨⟨Int.le_refl _,by decide⟩,fun x hx=>by rw [hal2 x hx];exact Int.le_refl _⟩
   have hcan:Jrt f1.switches.l f1.zones.l f1.reply (k1:Int) 0=0:=by rw [Jrt,if_neg (by rw [hfe1];decide),if_neg za,if_pos hto1]
   refine Xa6 ?_
   refine qad ?_
   refine Ja6 (Jab (Jah ?_))
   refine qab ?_
   refine J92 ?_
   refine qaa ?_
   refine Jaw rfl (Jm8 f1 (k1:Int) 0 _ _ hf1) rfl ?_
   rintro v L' R' ⟨pp,qq,rp,rfl,⟨hppk,hqqk⟩,hop,rfl,rfl⟩
   refine Jax (Jav rfl) rfl ?_
   refine Xa5 ?_
   refine qab ?_
   refine Jg4 tb rfl rfl rfl rfl zA zb zb zb ?_
   refine Ja6 (Jag (Jab ?_))
   obtain ⟨hppl,hqql,rfl⟩:=hop hcan
   refine Jbe (T:=3) (f:=Jap) (wd:=1) qq [] zk (fun _=>rfl) ze hqqk (fun s hs=>by cases hs) ?_
   refine Jcy zp ?_
   refine Jbe (T:=76) (f:=XSwitch.cells) (wd:=5) pp [] zk (fun _=>rfl) ze hppk (fun s hs=>by cases hs) ?_
   refine Jcy zp ?_
   refine qay ?_
   refine Xae ?_
   exact q_k ⟨(k1 + 1,⟨pp.arr,qq.arr,f1.reply⟩,Jpm pp.arr :: isl qq.arr :: S1),by dsimp only;omega,⟨by show pp.l=_;rw [hppl,hfs];rfl,hqql.trans hfz,hfr⟩,⟨Jaa (.head _),Jaa (.tail _ (.head _))⟩,fun r hr=>(hext r hr).mono fun r hr=>Jaa (.tail _ (.tail _ hr))⟩
  obtain rfl:k1=f.switches.l.length:=by omega
  refine qcf ?_
  refine Xaw ?_
  refine Jan [(2,Value.pointer _),(4,Value.pointer _),(10,Value.pointer _),(66,Value.int _ _),(67,Value.int _ _)] zh fun tq2=>?_
  refine q_p [67,68,69,70,71,72,73,74,75] ((⟨fun g=>[(67,.int .i64 ((g.1.1:Nat):Int))],fun g=>⟨b10,(⟨s',0,h',0,g.1.2.arr,pw.arr,pc.arr,f1,noRest,pl.arr⟩:XSta).cells,54⟩ :: (pl.L 150 XEntry.cells ++ (pc.L 71 XCut.cells ++ (pw.L 153 XWatch.cells ++ (g.1.2.L 93 XMeas.cells ++ (⟨b4,staZ.cells,54⟩ :: ⟨b3,f.cells,42⟩ :: ⟨b2,s.cells,38⟩ :: L))))),fun _=>S1,fun g=>s.sensors.l.length - g.1.1⟩:Head {g:Nat×OwL XMeas // g.1≤s.sensors.l.length∧g.2.ok 4 XMeas.cells∧g.2.l=List.replicate g.1 Jfh})) (⟨(0,pm),by dsimp only;omega,hK.km,hpm0⟩) ?_
  rintro ⟨⟨k2,pm2⟩,hk2,hm2k,hm2⟩ junk
  try dsimp only
  dsimp only [XSta.cells]
  dsimp only at hk2 hm2k hm2
  have hm2n:pm2.l.length=k2:=by rw [hm2,List.length_replicate]
  refine Xak ?_
  refine q_c (fun hc6=>?_) (fun hc6=>?_)
  ·
   refine Ja4 (Jab (Jam (Jbd (Jah ?_))))
   refine Xaa ?_
   refine Jax (Jbc (qs:=[(0,(Value.int _ _).cells.toList)]) (out:=[_,_,_,_]) tb rfl rfl rfl rfl) rfl ?_
   refine Jgl (Ja0 (qs:=[(0,(Value.agg _).cells.toList)]) (out:=[_,_,_,_]) tb rfl rfl rfl rfl rfl rfl rfl) rfl ?_
   rintro v L' R' ⟨b72,rfl,rfl,hR72⟩
   replace hR72:=hR72.symm;subst hR72
   refine Jgl (Ja9 (f:=XMeas.cells) (p:=pm2) (a:=Jfh) tb rfl rfl rfl rfl (hm2k) zk (Jb0 zf rfl rfl) rfl zB) rfl ?_
   rintro v L' R' ⟨o73,rfl,hok73,rfl,rfl⟩
   refine Xbs ?_
   refine Xbb ?_
   exact q_k ⟨(k2 + 1,⟨o73,pm2.l ++ [Jfh]⟩),by dsimp only;omega,hok73,by dsimp only;rw [hm2,List.replicate_succ']⟩
  obtain rfl:k2=s.sensors.l.length:=by omega
  refine qcf ?_
  refine Xaw ?_
  refine Jan [(2,Value.pointer _),(4,Value.pointer _),(10,Value.pointer _),(78,Value.int _ _),(79,Value.int _ _)] zh fun tq3=>?_
  refine q_p [79,80,81,82,83,84,85,86,87] ((⟨fun g=>[(79,.int .i64 ((g.1.1:Nat):Int))],fun g=>⟨b10,(⟨s',0,h',0,pm2.arr,g.1.2.arr,pc.arr,f1,noRest,pl.arr⟩:XSta).cells,54⟩ :: (pl.L 150 XEntry.cells ++ (pc.L 71 XCut.cells ++ (g.1.2.L 153 XWatch.cells ++ (pm2.L 93 XMeas.cells ++ (⟨b4,staZ.cells,54⟩ :: ⟨b3,f.cells,42⟩ :: ⟨b2,s.cells,38⟩ :: L))))),fun _=>S1,fun g=>s.conds.l.length - g.1.1⟩:Head {g:Nat×OwL XWatch // g.1≤s.conds.l.length∧g.2.ok 3 XWatch.cells∧g.2.l=List.replicate g.1 (⟨true,-1,0⟩:XWatch)})) (⟨(0,pw),by dsimp only;omega,hK.kw,hpw0⟩) ?_
  rintro ⟨⟨k3,pw2⟩,hk3,hw2k,hw2⟩ junk
  try dsimp only
  dsimp only [XSta.cells]
  dsimp only at hk3 hw2k hw2
  have hw2n:pw2.l.length=k3:=by rw [hw2,List.length_replicate]
  refine Xak ?_
  refine q_c (fun hc7=>?_) (fun hc7=>?_)
  ·
   refine Ja4 (Jab (Jam (Jbd ?_)))
   refine Jbk tb [] [0,1,2,3] [4,5,6] (_) _ Jby zc zi (List.nil_sublist _) ?_
   refine Xar ?_
   refine Jdf rfl (J3f _ _) rfl rfl ?_
   rintro v L' R' ⟨rfl,rfl,rfl⟩
   refine ⟨zi,zx,?_⟩
   refine Jxz (Ja0 (qs:=[(0,(Value.agg _).cells.toList)]) (out:=[_,_,_]) tb rfl rfl rfl rfl rfl rfl rfl) rfl rfl rfl ?_
   rintro v L' R' ⟨b84,rfl,rfl,hR84⟩
   replace hR84:=hR84.symm;subst hR84
   refine Xc2 ?_
   refine Jpz (Ja9 (f:=XWatch.cells) (p:=pw2) (a:=⟨true,-1,0⟩) tb rfl rfl rfl rfl (hw2k) zk (Jb0 zf rfl rfl) rfl zB) rfl rfl rfl ?_
   rintro v L' R' ⟨o85,rfl,hok85,rfl,rfl⟩
   refine qa1 ?_
   refine Xdc ?_
   refine Xc3 ?_
   exact q_k ⟨(k3 + 1,⟨o85,pw2.l ++ [⟨true,-1,0⟩]⟩),by dsimp only;omega,hok85,by dsimp only;rw [hw2,List.replicate_succ']⟩
  obtain rfl:k3=s.conds.l.length:=by omega
  refine qcf ?_
  refine Xaw ?_
  refine Jan [(4,Value.pointer _),(10,Value.pointer _),(90,Value.int _ _),(91,Value.int _ _)] zh fun tq4=>?_
  refine q_p [91,92,93,94,95,96,97,98,99] ((⟨fun g=>[(91,.int .i64 ((g.1.1:Nat):Int))],fun g=>⟨b10,(⟨s',0,h',0,pm2.arr,pw2.arr,g.1.2.arr,f1,noRest,pl.arr⟩:XSta).cells,54⟩ :: (pl.L 150 XEntry.cells ++ (g.1.2.L 71 XCut.cells ++ (pw2.L 153 XWatch.cells ++ (pm2.L 93 XMeas.cells ++ (⟨b4,staZ.cells,54⟩ :: ⟨b3,f.cells,42⟩ :: ⟨b2,s.cells,38⟩ :: L))))),fun _=>S1,fun g=>s.zones.l.length - g.1.1⟩:Head {g:Nat×OwL XCut // g.1≤s.zones.l.length∧g.2.ok 3 XCut.cells∧g.2.l=List.replicate g.1 (⟨true,-1,0⟩:XCut)})) (⟨(0,pc),by dsimp only;omega,hK.kc,hpc0⟩) ?_
  rintro ⟨⟨k4,pc2⟩,hk4,hc2k,hc2⟩ junk
  try dsimp only
  dsimp only [XSta.cells]
  dsimp only at hk4 hc2k hc2
  have hc2n:pc2.l.length=k4:=by rw [hc2,List.length_replicate]
  refine Xak ?_
  refine q_c (fun hc8=>?_) (fun hc8=>?_)
  ·
   refine Ja4 (Jab (Jam (Jbd (Jah ?_))))
   refine Xaa ?_
   refine Jax (Jbc (qs:=[(0,(Value.bool _).cells.toList),(1,(Value.int _ _).cells.toList)]) (out:=[_,_,_]) tb rfl rfl rfl rfl) rfl ?_
   refine Jgl (Ja0 (qs:=[(0,(Value.agg _).cells.toList)]) (out:=[_,_,_]) tb rfl rfl rfl rfl rfl rfl rfl) rfl ?_
   rintro v L' R' ⟨b96,rfl,rfl,hR96⟩
   replace hR96:=hR96.symm;subst hR96
   refine Jgl (Ja9 (f:=XCut.cells) (p:=pc2) (a:=⟨true,-1,0⟩) tb rfl rfl rfl rfl (hc2k) zk (Jb0 zf rfl rfl) rfl zB) rfl ?_
   rintro v L' R' ⟨o97,rfl,hok97,rfl,rfl⟩
   refine Xbs ?_
   refine Xbb ?_
   exact q_k ⟨(k4 + 1,⟨o97,pc2.l ++ [⟨true,-1,0⟩]⟩),by dsimp only;omega,hok97,by dsimp only;rw [hc2,List.replicate_succ']⟩
  obtain rfl:k4=s.zones.l.length:=by omega
  refine Jbe (T:=93) (f:=XMeas.cells) (wd:=4) pm2 [] zk (fun _=>rfl) ze hm2k (fun s hs=>by cases hs) ?_
  refine Jcy zp ?_
  refine Jbe (T:=153) (f:=XWatch.cells) (wd:=3) pw2 [] zk (fun _=>rfl) ze hw2k (fun s hs=>by cases hs) ?_
  refine Jcy zp ?_
  refine Jbe (T:=71) (f:=XCut.cells) (wd:=3) pc2 [] zk (fun _=>rfl) ze hc2k (fun s hs=>by cases hs) ?_
  refine Jcy zp ?_
  refine Jbe (T:=150) (f:=XEntry.cells) (wd:=4) pl [] zk (fun _=>rfl) ze hK.kl (fun s hs=>by cases hs) ?_
  refine Jcy zp ?_
  obtain ⟨R2,hR2e⟩:∃R2,R2=Jey pl.arr :: Jp3 pc2.arr :: Jwm pw2.arr :: Jde pm2.arr :: S1:=⟨_,rfl⟩
  refine Jsd (show _=R2 by rw [hR2e]) ?_
  have h12:∀r∈S1,InR r (R2 ++ R):=fun r hr=>Jaa (by rw [hR2e];exact .tail _ (.tail _ (.tail _ (.tail _ (List.mem_append_left _ hr)))))
  have h02:∀r∈R1,InR r (R2 ++ R):=fun r hr=>(hext r hr).mono h12
  have hRR2:∀r∈R,InR r R2:=fun r hr=>((hRR1 r hr).mono hext).mono fun r hr=>Jaa (by rw [hR2e];exact .tail _ (.tail _ (.tail _ (.tail _ hr))))
  have e1:InR (Jey pl.arr) (R2 ++ R):=Jaa zoa
  have e2:InR (Jp3 pc2.arr) (R2 ++ R):=Jaa zBa
  have e3:InR (Jwm pw2.arr) (R2 ++ R):=Jaa zza
  have e4:InR (Jde pm2.arr) (R2 ++ R):=Jaa (by rw [hR2e];exact .tail _ (.tail _ (.tail _ (.head _))))
  refine qbk ?_
  refine Jax (Jal (row:=[_,_,_,_,_,_,_,_,_,_,_,_,_,_,_,_,_,_,_,_,_,_,_]) tb rfl rfl rfl zf zb zb) rfl ?_
  refine Xbl ?_
  refine Jbw (L':=L) (R':=R2 ++ R) (Jcf rfl (Jao (row:=[_,_,_,_,_,_,_,_,_,_,_,_,_,_,_,_,_,_,_,_,_,_,_]) tb rfl rfl rfl zf zb zb) (Jaf (show _=Value.int _ _ from rfl))) ?hp ?hL ?hR
  case hp=>exact ⟨(⟨s',0,h',0,pm2.arr,pw2.arr,pc2.arr,f1,noRest,pl.arr⟩:XSta),R2,by rw [he],⟨hK1.site.mono h02,hK1.held.mono h02,e4,e3,e2,hf1.mono h12,e1⟩,fun _=>⟨hK.es,rfl,hK.eh,rfl,hm2,hw2,hc2,hfs,hfz,hfr,rfl,hpl0⟩,fun h=>absurd he h,rfl,rfl⟩
  case hL=>exact zi
  case hR=>
   exact fun r hr=>by
     rcases List.mem_append.1 hr with h | h
     · exact Jaa h
     · exact hRR2 r h
end Go.Proofs.YtchfclmokpbldaaGreat
end
section
/-
  Stations: what a step keeps; bytes in pieces. Plain. By an AI agent; no person has read it.
-/
namespace Go.Proofs.YtchfclmokpbldaaGreat
set_option maxRecDepth 20000
open Go.Aw Go
section
variable {g:PSite} {p:PSta}
structure KeepP (p q:PSta):Prop where
  meas:q.meas=p.meas
  held:q.held=p.held
  dropped:q.dropped=p.dropped
theorem KeepP.refl (p:PSta):KeepP p p:=⟨rfl,rfl,rfl⟩
theorem KeepP.trans {p q r:PSta} (h:KeepP p q) (k:KeepP q r):KeepP p r:=⟨k.meas.trans h.meas,k.held.trans h.held,k.dropped.trans h.dropped⟩
theorem Jut (z:Int):KeepP p (Jt0 g p z):=by
  rw [Jt0]
  split <;> exact ⟨rfl,rfl,rfl⟩
theorem Ju8 : ∀ (l : List Int) {p : PSta}, KeepP p (Jll g p l)
  | [],p=>.refl p
  | z :: l,p=>(Jut z).trans (Ju8 l)
theorem Jmr (kind : Int) : ∀ (l : List Int) {p : PSta}, KeepP p (Jff kind p l)
  | [],p=>.refl p
  | z :: l,p=>KeepP.trans (q:=Jf9 p kind z 0) ⟨rfl,rfl,rfl⟩ (Jmr kind l)
theorem Jv7 (vals:List Int) (z:Nat):KeepP p (Ji7 g vals p z):=by
  rw [Ji7]
  split
  · exact .refl p
  · exact KeepP.trans (q:={ p with cuts:=p.cuts.set z ⟨true,(p.cuts.getD z default).clear,Jh9 (g.site.zones.l.getD z default).rule.l vals⟩ }) ⟨rfl,rfl,rfl⟩ (Jut _)
theorem Jn9 (vals : List Int) : ∀ k, KeepP p (darkTo g vals p k)
  | 0=>.refl p
  | k + 1=>(Jn9 vals k).trans (Jv7 vals k)
theorem Jv4 (t:Int):KeepP p (Jaj g p t):=by
  rw [Jaj]
  refine KeepP.trans ?_ (Jn9 _ _)
  rw [settleB]
  refine KeepP.trans ?_ (Jmr _ _)
  refine KeepP.trans ?_ (Jmr _ _)
  refine KeepP.trans (q:=settleA g { p with time:=t }) ?_ ⟨rfl,rfl,rfl⟩
  rw [settleA]
  exact KeepP.trans (q:={ p with time:=t,watches:=_,cuts:=_ }) ⟨rfl,rfl,rfl⟩ (Ju8 _)
def Kcq (p:PSta):Prop:=∀c∈p.cuts,c.off=true
theorem J5b {l:List XCut} (h:∀c∈l,c.off=true) {i:Nat} (hi:i < l.length):(l.getD i default).off=true:=h _ (List.mem_of_getElem? (Jau (l:=l) (k:=i) default hi))
theorem Jx8 (vals : List Int) (h : Kcq p) : ∀ k, k ≤ p.cuts.length → darkTo g vals p k = p
  | 0,_=>rfl
  | k + 1,hk=>by
    rw [darkTo,Jx8 vals h k za,Ji7,if_pos (.inl (J5b h za))]
end
end Go.Proofs.YtchfclmokpbldaaGreat
end
section
/-
  The bounds of a made air are no greater than a tenth of what is possible. By an AI agent; no person has read it.
-/
namespace Go.Proofs.YtchfclmokpbldaaGreat
open Go.Aw Go
section
variable {a:XAir} {s:XSetting} {x:XState} (h:MadeA a s x)
include h
end
section
variable {a:XAir} {s:XSetting} {x:XState} (h:MadeA a s x)
include h
end
end Go.Proofs.YtchfclmokpbldaaGreat
end
section
/-
  Bounds that are drawn near an air. By an AI agent; no person has read it.
-/
namespace Go.Proofs.YtchfclmokpbldaaGreat
open Go.Aw Go
set_option maxRecDepth 20000
attribute [local irreducible] CJ LJ DJ Tri YV Gives Jcj Ja1 Jbg Jci RV Ja2 OwL.L
end Go.Proofs.YtchfclmokpbldaaGreat
end
section
/-
  Statements about chapter 11: what accepted bounds prove of a state that fits. By an AI agent; no person has read it.
-/
namespace Go.Proofs.YtchfclmokpbldaaGreat
open Go.Aw Go
set_option maxRecDepth 20000
attribute [local irreducible] CJ LJ DJ Tri YV Gives Jcj Ja1 Jbg Jci RV Ja2 OwL.L
end Go.Proofs.YtchfclmokpbldaaGreat
end
section
/-
  The sanity check of chapter 12: a mine with one road is solved. By an AI agent; no person has read it.
-/
namespace Go.Proofs.YtchfclmokpbldaaGreat
open Go.Aw Go
section
variable (b b':Nat)
end
end Go.Proofs.YtchfclmokpbldaaGreat
end
section
/-
  Statements about chapter 12: what they share. By an AI agent; no person has read it.
-/
namespace Go.Proofs.YtchfclmokpbldaaGreat
open Go.Aw Go
set_option maxRecDepth 20000
attribute [local irreducible] CJ LJ DJ Tri YV Gives Jcj Ja1 Jbg Jci RV Ja2 OwL.L
end Go.Proofs.YtchfclmokpbldaaGreat
end
section
/-
  Statements about chapter 13: the sanity check. By an AI agent; no person has read it.
-/
namespace Go.Proofs.YtchfclmokpbldaaGreat
open Go.Aw Go
set_option maxRecDepth 20000
attribute [local irreducible] CJ LJ DJ Tri YV Gives Jcj Ja1 Jbg Jci RV Ja2 OwL.L
section
variable (b b':Nat)
end
end Go.Proofs.YtchfclmokpbldaaGreat
end
section
/-
  Statements about chapter 20: the sanity check. By an AI agent; no person has read it.
-/
namespace Go.Proofs.YtchfclmokpbldaaGreat
open Go.Aw Go
set_option maxRecDepth 20000
attribute [local irreducible] CJ LJ DJ Tri YV Gives Jcj Ja1 Jbg Jci RV Ja2 OwL.L
section
variable {s:XSite} {len dl ho:Int} (h:EasyD s len dl ho)
include h
theorem J36:Jbx s.air=0:=by
  obtain ⟨h1,h2,h3,h4,h5,h6,h7,_,h8,⟨h9,h9'⟩,_⟩:=h
  obtain ⟨⟨⟨⟨pa,pc,pl⟩,⟨ra,rc,rl⟩⟩,⟨fa,fc,fl⟩,⟨da,dc,dl⟩⟩,se,cn,zs,ps⟩:=s
  dsimp only at h1 h2 h3 h4
  subst h1 h2 h3 h4
  have:len=1∨len=2∨len=3∨len=4:=by omega
  rcases this with rfl | rfl | rfl | rfl <;> rfl
theorem Jx5:SiteOk s:=by
  have ha:=J36 h
  obtain ⟨h1,h2,h3,h4,h5,h6,⟨z,h7,z1,z2,z3,z4⟩,_,h8,hr⟩:=h
  refine ⟨ha,by rw [h5,h6,h7,h8];simp,fun i hi=>?_,fun c hc=>?_,fun y hy=>?_,fun p hp=>?_⟩
  · rw [h5] at hi ⊢
    obtain rfl:i=0:=by simp only [List.length_cons,List.length_nil] at hi;omega
    rw [Je7,if_neg ze,if_neg,if_neg (by rintro ⟨k,hk,_⟩;omega)]
    rw [Jjy,h2]
    show ¬ ¬ ((0:Int)≤0∧(0:Int) < 1)
    decide
  · rw [h6] at hc
    rw [List.mem_singleton.1 hc,Jbn,if_neg,if_neg (by show ¬ ((0:Int) < 0∨(1099511627776:Int) < 0);decide),if_pos zb,Jf1,if_pos]
    · show (100 : Int) ≤ 1000000 ∧ (0 : Int) ≤ 60 ∧ (60 : Int) < 100 ∧ 0 ≤ dl ∧ dl ≤ 100000
      omega
    · rw [h5, h2]
      show ¬ (0:Int)≠0
      decide
  · rw [h7] at hy
    rw [List.mem_singleton.1 hy,Jd6,z1,h6,h2,if_neg (by show ¬ Jfn _ 1≠0;decide),if_neg za,if_neg]
    rintro ⟨i,hi,hb⟩
    rw [z3] at hi hb
    obtain rfl:i=0:=by simp only [List.length_cons,List.length_nil] at hi;omega
    revert hb
    show ¬ Jdx 1 [0] 0
    decide
  · rw [h8] at hp
    simp only [List.mem_cons,List.not_mem_nil,or_false] at hp
    omega
end
end Go.Proofs.YtchfclmokpbldaaGreat
end
section
/-
  Restoring the power of the site with one zone. Plain. By an AI agent; no person has read it.
-/
namespace Go.Proofs.YtchfclmokpbldaaGreat
open Go.Aw Go
section
variable {s:XSite} {len dl ho:Int} (h:EasyD s len dl ho)
include h
theorem Jxq {t:Int} (ht:0≤t∧t≤2147483648):sharedE s 1 1 t=0:=by
  obtain ⟨z,h7,_⟩:=h.zone
  rw [sharedE,(Jx5 h).err,if_neg ze,if_neg (by rw [h7,h.roads];simp),if_neg za]
theorem J5k {c:List XCut} {fl:List XSpan} {t:Int} (hc:c.length=1) (hf:fl.length=1) (ht:0≤t∧t≤2147483648):askE s c fl noRest 0 0 t=readyE s c fl 0 t:=by
  rw [askE,hc,hf,Jxq h ht,if_neg ze,if_neg ze,if_neg]
  rw [h.pers];decide
end
def openS (n:Nat):List XSwitch:=(List.range n).map fun (i:Nat)=>⟨(i:Int) - 1,0,-1,false,false⟩
end Go.Proofs.YtchfclmokpbldaaGreat
end
section
/-
  A station of the site with one zone that was just opened. Plain. By an AI agent; no person has read it.
-/
namespace Go.Proofs.YtchfclmokpbldaaGreat
set_option maxRecDepth 20000
open Go.Aw Go
section
variable {s:XSite} {len dl ho:Int} {f:XFeeder} {A:List Bool} (h:EasyD s len dl ho)
include h
theorem Jmj {n:Nat} (hn:1≤n∧n≤3) (h1:f.switches.l=Ji9 n) (h2:f.zones.l=[(n:Int) - 1]) (h3:f.reply=3):Ji2 s f=0:=by
  obtain ⟨z,h7,_⟩:=h.zone
  have hfe:feedE f.switches.l f.zones.l f.reply=0:=by
    rw [h1,h2,h3]
    have:n=1∨n=2∨n=3:=by omega
    rcases this with rfl | rfl | rfl <;> decide
  rw [Ji2,(Jx5 h).err,if_neg ze,hfe,if_neg ze,if_neg (by rw [h2,h7];simp),if_neg]
  rintro ⟨x,hx,h9⟩
  rw [h1,Ji9,List.mem_map] at hx
  obtain ⟨i,_,rfl⟩:=hx
  exact h9 rfl
def sw1:List XSwitch:=[⟨-1,0,0,false,false⟩]
def pAw (t:Int):PSta:=⟨t,[],0,[Jfh],[⟨true,-1,t⟩],[⟨true,-1,0⟩],sw1,noRest,[]⟩
theorem Jrd (h1:f.switches.l=Ji9 1):Jo1 s f=pAw 0:=by
  obtain ⟨z,h7,_⟩:=h.zone
  rw [Jo1,h.sens,h.conds,h7,h1]
  rfl
theorem Jvo (h1:f.switches.l=Ji9 1) (h2:f.zones.l=[0]) (h3:f.reply=3) (hI:Inv (gOf s f A) (pAw 0)):Jaj (gOf s f A) (pAw 0) 2=pAw 2:=by
  obtain ⟨z,h7,hzr,_⟩:=h.zone
  have hI2:=hI.at (t:=2) (by show (0:Int)≤2;decide) ze
  have hv0:=hI2.valErr
  have hk:∀t,Jew s.sensors.l [Jfh] 0 t=nothingS:=fun t=>by
    rw [Jew,if_neg]
    rintro ⟨_,_,h9⟩
    exact absurd (show (-1:Int)=0 from h9) ze
  have hst:Jex (Jeb dl).level ⟨true,-1,0⟩ nothingS 2=⟨true,-1,2⟩:=rfl
  have hv:Jny (gOf s f A) { pAw 0 with time:=2 }=[0]:=by
    rw [Jny,valuesV,if_neg (by rw [hv0];decide)]
    show [Jni s.sensors.l [Jfh] _ (s.conds.l.getD 0 default) ⟨true,-1,0⟩ 2]=[0]
    rw [h.conds]
    show [Jni s.sensors.l [Jfh] _ (Jeb dl) ⟨true,-1,0⟩ 2]=[0]
    have:Jni s.sensors.l [Jfh] (flP (gOf s f A) { pAw 0 with time:=2 }) (Jeb dl) ⟨true,-1,0⟩ 2=0:=by
      rw [Jni,if_neg (show ¬ (Jeb dl).kind=5 by show ¬ (1:Int)=5;decide),if_neg (show ¬ (Jeb dl).kind=2 by show ¬ (1:Int)=2;decide),if_neg (show ¬ (Jeb dl).kind=3 by show ¬ (1:Int)=3;decide),if_neg (show ¬ (Jeb dl).kind=4 by show ¬ (1:Int)=4;decide)]
      show (if (Jex _ _ (Jew s.sensors.l [Jfh] 0 2) 2).over=false then (-1:Int) else if Jfi (Jew s.sensors.l [Jfh] 0 2) 100=1 then 1 else 0)=0
      rw [hk,hst]
      decide
    rw [this]
  have hw:valuesW s [Jfh] [⟨true,-1,0⟩] (flP (gOf s f A) { pAw 0 with time:=2 }) 2=[⟨true,-1,2⟩]:=by
    have hv0':valuesErr s [Jfh] [⟨true,-1,0⟩] (flP (gOf s f A) { pAw 0 with time:=2 }) 2=0:=hv0
    rw [valuesW,if_neg (by rw [hv0'];decide)]
    show [Ji0 s.sensors.l [Jfh] (s.conds.l.getD 0 default) ⟨true,-1,0⟩ 2]=_
    rw [h.conds]
    show [Ji0 s.sensors.l [Jfh] (Jeb dl) ⟨true,-1,0⟩ 2]=_
    rw [Ji0,if_pos (show (Jeb dl).kind=1 from rfl)]
    show [Jex _ _ (Jew s.sensors.l [Jfh] 0 2) 2]=_
    rw [hk,hst]
  have hce:cutsErr s [0] [⟨true,-1,0⟩] 2=0:=by
    rw [cutsErr,(Jx5 h).err,if_neg ze,if_neg (by rw [h7,h.conds];simp),if_neg ze]
  have hc:cutsC s [0] [⟨true,-1,0⟩] 2=[⟨true,-1,0⟩]:=by
    rw [cutsC,if_neg (by rw [hce];decide)]
    show [J7e (Jh9 (s.zones.l.getD 0 default).rule.l [0]) ⟨true,-1,0⟩ 2]=_
    rw [h7]
    show [J7e (Jh9 z.rule.l [0]) ⟨true,-1,0⟩ 2]=_
    rw [hzr]
    decide
  have hn:cutsN s [0] [⟨true,-1,0⟩] 2=[]:=by
    rw [cutsN,if_neg (by rw [hce];decide)]
    show (if Jh9 _ _≠-1∧true=false then _ else [])=([]:List Int)
    rw [if_neg (fun h=>by cases h.2)]
  have hA2:settleA (gOf s f A) { pAw 0 with time:=2 }=pAw 2:=by
    rw [settleA,hv]
    show Jll _ { pAw 0 with time:=2,watches:=valuesW s [Jfh] [⟨true,-1,0⟩] (flP (gOf s f A) { pAw 0 with time:=2 }) 2,cuts:=cutsC s [0] [⟨true,-1,0⟩] 2 } (cutsN s [0] [⟨true,-1,0⟩] 2)=_
    rw [hw,hc,hn]
    rfl
  rw [Jaj]
  rw [hA2]
  have hB:settleB (gOf s f A) (pAw 2)=pAw 2:=by
    rw [settleB]
    show Jff 2 (Jff 3 { pAw 2 with rest:=Jga [⟨true,-1,0⟩] noRest,sw:=(Jgd sw1 f.reply 2).sw } (Jgd sw1 f.reply 2).late) (Jgd sw1 f.reply 2).opened=_
    rw [h3]
    have:Jgd sw1 3 2=⟨sw1,[],[]⟩:=rfl
    rw [this,Jga,if_pos (.inl rfl)]
    rfl
  rw [hB]
  exact Jx8 _ (fun c hc=>by rw [List.mem_singleton.1 hc]) _ (Nat.le_refl _)
theorem J1q (h1:f.switches.l=Ji9 1) (h2:f.zones.l=[0]) (h3:f.reply=3) (hA:AiryIs s.air.mine A):
    J04 (gOf s f A) (Jo1 s f) 0 0 2=({ pAw 2 with log:=[⟨2,7,0,20⟩] },20):=by
  have h0:=Jmj (f:=f) h (n:=1) ⟨by decide,by decide⟩ h1 (by rw [h2];rfl) h3
  have hI:=Jsf (A:=A) h0 hA
  rw [Jrd h h1] at hI ⊢
  have hI2:=Jvo h h1 h2 h3 hI
  have hI3:=hI.settle (t:=2) (by show (0:Int)≤2;decide) ze
  rw [hI2] at hI3
  have hfl:=hI3.flLen
  obtain ⟨z,h7,hzr,_⟩:=h.zone
  have he:askE s [⟨true,-1,0⟩] (flP (gOf s f A) (pAw 2)) noRest 0 0 2=20:=by
    rw [J5k h rfl (by rw [hfl];show s.air.mine.roads.l.length=1;rw [h.roads];rfl) ⟨by decide,by decide⟩,readyE,if_neg ze,h7]
    show Jkr s _ ⟨true,-1,0⟩ z 2=20
    rw [Jkr,if_neg ze,if_pos (.inl (.inl ze))]
  rw [J04,if_neg (by rw [Jfl];show ¬ ((2:Int) < 0∨_);decide)]
  dsimp only
  rw [hI2]
  show (if askE s [⟨true,-1,0⟩] (flP (gOf s f A) (pAw 2)) noRest 0 0 2≠0 then (Jf9 (pAw 2) 7 0 (askE s [⟨true,-1,0⟩] (flP (gOf s f A) (pAw 2)) noRest 0 0 2),askE s [⟨true,-1,0⟩] (flP (gOf s f A) (pAw 2)) noRest 0 0 2) else _)=_
  rw [he,if_pos ze]
  rfl
end
end Go.Proofs.YtchfclmokpbldaaGreat
end
