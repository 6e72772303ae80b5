/-
  Texts of one chapter, merged. By an AI agent; no person has read it.
-/
import Derived.Test.YtchfclmokpbldaaGreatStaG
import Derived.Test.YtchfclmokpbldaaGreatStatM
import Derived.Test.YtchfclmokpbldaaGreatCongrS
import Derived.Test.YtchfclmokpbldaaGreatRel
import Derived.Test.YtchfclmokpbldaaGreatLaw11b
import Derived.Test.YtchfclmokpbldaaGreatAnal
import Derived.Test.YtchfclmokpbldaaGreatSiteS
import Derived.Test.YtchfclmokpbldaaGreatEasy
import Derived.Test.YtchfclmokpbldaaGreatCutC
import Derived.Test.YtchfclmokpbldaaGreatStrEq
import Derived.Test.YtchfclmokpbldaaGreatSiteD
import Derived.Test.YtchfclmokpbldaaGreatFeedT
set_option linter.unusedVariables false
set_option linter.unusedSimpArgs false
set_option maxRecDepth 20000
namespace Go.Proofs.YtchfclmokpbldaaGreat
open Go.Aw Go
section
section
variable {A9 B9:Prop}
theorem Vhe (a:A9) (h:A9→B9:=by exact Jx (Kb (qs:=[]) (out:=[_,_,_,_,_,_,_,_,_,_,_,_,_,_,_,_,_,_,_,_,_,_,_]) tb rfl rfl rfl rfl) rfl):B9:=h a
theorem Kre (h:B9:=by exact ⟨staZ,Ylc,by rw [he];rfl,Yee R,fun h=>by omega,fun _=>rfl,rfl,rfl⟩):B9:=h
theorem Vef (a:A9) (h:A9→B9:=by exact Jx zkb rfl):B9:=h a
end
theorem Zc {α:Type} {P:Program} {n:Nat} {code:Code} {t:Nat→Value} {L:List Blk} {R:List Sl} {Q:Kp} {f:α→List Value} {wd:Nat} (hf:∀x,(f x).length=wd) (hwd:0 < wd) (h:CJ P n code t L ((⟨none,0,[]⟩:Arr α).sl wd f [] :: R) Q):CJ P n code t L R Q:=
  Z1e (T:=3) (p:=(OwL.nil:OwL α)) (f:=f) [] OwL.nil_ok hf hwd (fun s hs=>by cases hs) h
def Ylc:List Sl:=[psl ⟨none,0,[]⟩,rsl ⟨none,0,[]⟩,fsl ⟨none,0,[]⟩,dsl ⟨none,0,[]⟩,Vyd ⟨none,0,[]⟩,Jjf ⟨none,0,[]⟩,J6e ⟨none,0,[]⟩,isl ⟨none,0,[]⟩,bsl ⟨none,0,[]⟩,Vn ⟨none,0,[]⟩,U1d ⟨none,0,[]⟩,Kwc ⟨none,0,[]⟩,Vhb ⟨none,0,[]⟩,Yw ⟨none,0,[]⟩]
theorem Zme {P:Program} {n:Nat} {code:Code} {t:Nat→Value} {L:List Blk} {R:List Sl} {Q:Kp} (h:CJ P n code t L (Ylc ++ R) Q):CJ P n code t L R Q:=by
  refine Zc (f:=XEntry.cells) (wd:=4) (fun _=>rfl) zc ?_
  refine Zc (f:=XSwitch.cells) (wd:=5) (fun _=>rfl) zc ?_
  refine Zc (f:=XCut.cells) (wd:=3) (fun _=>rfl) zc ?_
  refine Zc (f:=XWatch.cells) (wd:=3) (fun _=>rfl) zc ?_
  refine Zc (f:=XMeas.cells) (wd:=4) (fun _=>rfl) zc ?_
  refine Zc (f:=Zw) (wd:=1) (fun _=>rfl) zc ?_
  refine Zc (f:=Jp) (wd:=1) (fun _=>rfl) zc ?_
  refine Zc (f:=XZone.cells) (wd:=4) (fun _=>rfl) zc ?_
  refine Zc (f:=XCond.cells) (wd:=6) (fun _=>rfl) zc ?_
  refine Zc (f:=XSens.cells) (wd:=8) (fun _=>rfl) zc ?_
  refine Zc (f:=XDoor.cells) (wd:=3) (fun _=>rfl) zc ?_
  refine Zc (f:=XFan.cells) (wd:=4) (fun _=>rfl) zc ?_
  refine Zc (f:=XRoad.cells) (wd:=10) (fun _=>rfl) zc ?_
  refine Zc (f:=XPlace.cells) (wd:=2) (fun _=>rfl) zc ?_
  exact h
theorem Yee (R:List Sl):StaR staZ (Ylc ++ R):=by
  have m:∀s∈Ylc,InR s (Ylc ++ R):=fun s hs=>Ja (List.mem_append_left _ hs)
  refine ⟨⟨⟨m _ ?_,m _ ?_,m _ ?_,m _ ?_⟩,m _ ?_,m _ ?_,m _ ?_,m _ ?_⟩,m _ ?_,m _ ?_,m _ ?_,m _ ?_,⟨m _ ?_,m _ ?_⟩,m _ ?_⟩
  all_goals simp [Ylc,staZ]
def Unc (sw : List XSwitch) : Nat → List XSwitch
  | 0=>sw
  | k + 1=>Vl (Unc sw k) (k:Int) 0
def Yle (sw:List XSwitch):List XSwitch:=Unc sw sw.length
def Vea (s:XSite) (f:XFeeder):Int:=
  if K2 s≠0 then K2 s else if feedE f.switches.l f.zones.l f.reply≠0 then feedE f.switches.l f.zones.l f.reply
  else if f.zones.l.length≠s.zones.l.length then 17 else if∃x∈f.switches.l,x.since≠0 then 8 else 0
def gOf (s:XSite) (f:XFeeder) (A:List Bool):PSite:=⟨s,f.zones.l,f.reply,A⟩
def Zx:XMeas:=⟨-1,0,⟨0,0⟩⟩
def Ybc (s:XSite) (f:XFeeder):PSta:=⟨0,[],0,List.replicate s.sensors.l.length Zx,List.replicate s.conds.l.length ⟨true,-1,0⟩,List.replicate s.zones.l.length ⟨true,-1,0⟩,Yle f.switches.l,noRest,[]⟩
theorem U0a {sw : List XSwitch} {zn : List Int} {rp : Int} (h : feedE sw zn rp = 0) : ∀ k, SwKeep sw (Unc sw k) 0
  | 0=>.refl h 0
  | k + 1=>(U0a h k).openS _
theorem Zpd {s:XSite} {f:XFeeder} (h:Vea s f=0):K2 s=0∧feedE f.switches.l f.zones.l f.reply=0∧f.zones.l.length=s.zones.l.length∧∀x∈f.switches.l,x.since=0:=by
  rw [Vea] at h
  split at h
  · omega
  split at h
  · omega
  split at h
  · cases h
  split at h
  · cases h
  rename_i h1 h2 h3 h4
  exact ⟨Decidable.not_not.1 h1,Decidable.not_not.1 h2,Decidable.not_not.1 h3,fun x hx=>by
    rcases Classical.em (x.since=0) with h5 | h5
    · exact h5
    · exact absurd ⟨x,hx,h5⟩ h4⟩
theorem Kpc {s:XSite} {f:XFeeder} {A:List Bool} (h:Vea s f=0) (hA:AiryIs s.air.mine A):Inv (gOf s f A) (Ybc s f):=by
  obtain ⟨h1,h2,h3,h4⟩:=Zpd h
  have hk:=U0a (rp:=f.reply) h2 f.switches.l.length
  refine ⟨h1,hA,⟨Int.le_refl _,by show (0:Int)≤2147483648;decide⟩,List.length_replicate,fun x hx=>?_,List.length_replicate,fun w hw=>?_,List.length_replicate,hk.feedE h2 ⟨Int.le_refl _,by decide⟩,?_,h3,⟨by show (0:Int)≤0;decide,.inl rfl⟩,Nat.zero_le _,⟨fun x hx=>(by cases hx),Nat.zero_le _⟩⟩
  · rw [List.eq_of_mem_replicate hx,Kna,Zx];dsimp only;omega
  · rw [List.eq_of_mem_replicate hw]
    exact ⟨⟨by decide,by decide,by decide,.inl rfl⟩,Int.le_refl _⟩
  · exact (hk.time ⟨⟨Int.le_refl _,by decide⟩,fun x hx=>by rw [h4 x hx];exact Int.le_refl _⟩).2
attribute [local irreducible] CJ LJ DJ Tri YV Gives Ui J0 Ke Uh RV J2 OwL.L
def Uee (s:XSite) (f:XFeeder) (A:List Bool) (L:List Blk) (R:List Sl):Yn:=fun v L' R'=>∃(y:XSta) (S:List Sl),v=.tuple #[y.val,.int .i64 (Vea s f)]∧StaR y R'∧(Vea s f=0→StaIs (gOf s f A) (Ybc s f) y)∧(Vea s f≠0→y=staZ)∧L=L'∧S ++ R=R'
set_option maxHeartbeats 1000000 in
theorem Vbb (s:XSite) (f:XFeeder) (A:List Bool) (L:List Blk) (R:List Sl) (hs:SiteR s R) (hf:FeederR f R) (hA:AiryIs s.air.mine A):
    Tri Tryz.prog 16 [s.val,f.val].toArray L R (Uee s f A L R):=by
  have hswR:=hf.sw.mono fun r hr=>Ja (List.mem_append_right Ylc hr)
  refine Jg 101 Tryz.call16 Tryz.func16 rfl rfl rfl ?_
  refine Xag ?_
  intro b2
  refine qax ?_
  intro b3
  refine qaq ?_
  intro b4
  refine qad ?_
  refine qco ?_
  refine Zme ?_
  have hR0:∀r∈R,InR r (Ylc ++ R):=fun r hr=>Ja (List.mem_append_right _ hr)
  have hs0:=hs.mono hR0
  have hf0:=hf.mono hR0
  refine qay ?_
  refine Jx zmb rfl ?_
  refine q_l rfl (Jwa s _ _ hs0) ?_
  refine Xa7 ?_
  refine q_c (fun hc0=>?_) (fun hc0=>?_)
  ·
   refine qae ?_
   refine Vhe ?_
   refine Xby ?_
   refine q_r (L':=L) (R':=Ylc ++ R) zLc ?_
   have he:Vea s f=K2 s:=by rw [Vea,if_pos hc0]
   exact Kre
  refine qbo ?_
  refine Vef ?_
  refine q_l rfl (Vu f _ _ hf0) ?_
  refine Xa7 ?_
  refine q_c (fun hc1=>?_) (fun hc1=>?_)
  ·
   refine qae ?_
   refine Vhe ?_
   refine Xby ?_
   refine q_r (L':=L) (R':=Ylc ++ R) zLc ?_
   have he:Vea s f=feedE f.switches.l f.zones.l f.reply:=by rw [Vea,if_neg hc0,if_pos hc1]
   exact Kre
  refine qbo ?_
  refine Xac ?_
  refine Xac ?_
  refine Xaq ?_
  refine q_c (fun hc2=>?_) (fun hc2=>?_)
  ·
   refine qae ?_
   refine Vhe ?_
   refine Xaz ?_
   refine q_r (L':=L) (R':=Ylc ++ R) zLc ?_
   have he:Vea s f=17:=by rw [Vea,if_neg hc0,if_neg hc1,if_pos za]
   exact Kre
  have hse:K2 s=0:=Decidable.not_not.1 hc0
  have hfe:feedE f.switches.l f.zones.l f.reply=0:=Decidable.not_not.1 hc1
  have hfo:=Vy hfe
  have hsn:=hfo.sn
  have hzl:=hfo.zl
  have hso:=(Za hse).len
  refine Xcl ?_
  refine Jo [(2,Value.pointer _),(3,Value.pointer _),(4,Value.pointer _),(33,Value.slice _ _ _),(34,Value.int _ _),(35,Value.int _ _)] zg fun tq0=>?_
  refine q_s [5,9,35,36,37,38,39,40,41,42,43] (fun g:{k:Nat // k≤f.switches.l.length∧∀j:Nat,j < k→(f.switches.l.getD j default).since=0}=>[(35,.int .i64 ((g.1:Nat):Int))]) (fun g=>f.switches.l.length - g.1) (⟨0,by omega,fun j hj=>by omega⟩) ?_
  rintro ⟨k,hk,hal⟩ junk
  try dsimp only
  refine Xak ?_
  refine q_c (fun hc3=>?_) (fun hc3=>?_)
  ·
   have hg:=Jw (l:=f.switches.l) (k:=k) default za
   refine qbb ?_
   refine Jx zB rfl ?_
   refine qdw ?_
   refine qaq ?_
   intro b9
   refine Xb2 ?_
   refine Xaq ?_
   refine q_c (fun hc4=>?_) (fun hc4=>?_)
   ·
    refine qae ?_
    refine Vhe ?_
    refine Xdd ?_
    refine qbt ?_
    refine q_r (L':=L) (R':=Ylc ++ R) zLc ?_
    have he:Vea s f=8:=by rw [Vea,if_neg hc0,if_neg hc1,if_neg za,if_pos ⟨_,List.mem_of_getElem? hg,hc4⟩]
    exact Kre
   refine Xax ?_
   exact Kf ⟨k + 1,by omega,fun j hj=>by
   rcases Nat.lt_or_ge j k with h | h
   · exact hal j h
   · obtain rfl : j = k := by omega
     omega⟩ zm zg zi zqb zx
  have hal2:∀x∈f.switches.l,x.since=0:=fun x hx=>by
    obtain ⟨j,hj,rfl⟩:=List.getElem_of_mem hx
    have:=hal j za
    rwa [List.getD_eq_getElem?_getD,List.getElem?_eq_getElem hj] at this
  have he:Vea s f=0:=by rw [Vea,if_neg hc0,if_neg hc1,if_neg za,if_neg (fun ⟨x,hx,h⟩=>h (hal2 x hx))]
  have hn:∀q∈Ylc,InR q (Ylc ++ R):=fun q hq=>Ja (List.mem_append_left _ hq)
  have hN:StaN (⟨s,0,⟨none,0,[]⟩,0,⟨none,0,[]⟩,⟨none,0,[]⟩,⟨none,0,[]⟩,f,noRest,⟨none,0,[]⟩⟩:XSta):=⟨hse,Nat.zero_le _,Nat.zero_le _,Nat.zero_le _,Nat.zero_le _,(by show f.switches.l.length≤1000;omega),(by show f.zones.l.length≤1000;omega),Nat.zero_le _⟩
  have hZ:=Yee R
  have hXR:StaR (⟨s,0,⟨none,0,[]⟩,0,⟨none,0,[]⟩,⟨none,0,[]⟩,⟨none,0,[]⟩,f,noRest,⟨none,0,[]⟩⟩:XSta) (Ylc ++ R):=⟨hs0,hZ.held,hZ.meas,hZ.watches,hZ.cuts,hf0,hZ.log⟩
  refine qc3 ?_
  refine Kn tb [0,1,2,3,4,5,6] _ K1 ze (List.Sublist.refl _) ?_
  refine Kv zmb rfl rfl rfl ?_
  refine Kv zkb rfl rfl rfl ?_
  refine q_d rfl (J2c _ _) ?_
  refine Kv (Kb (qs:=[(0,(Value.agg _).cells.toList),(6,(Value.agg _).cells.toList),(7,(Value.agg _).cells.toList)]) (out:=[_,_,_,_,_,_,_,_,_,_,_,_,_,_,_,_,_,_,_,_,_,_,_]) tb rfl rfl rfl rfl) rfl rfl rfl ?_
  refine Yt rfl (Z3a (⟨s,0,⟨none,0,[]⟩,0,⟨none,0,[]⟩,⟨none,0,[]⟩,⟨none,0,[]⟩,f,noRest,⟨none,0,[]⟩⟩:XSta) _ _ hN hXR) rfl rfl ?_
  rintro v L' R' ⟨s',h',f',pm,pw,pc,pl,S0,rfl,hK,rfl,rfl⟩
  refine ⟨zi,zw,?_⟩
  refine qbr ?_
  intro b10
  refine qbg ?_
  refine J1 (Jb (Jn (Jn ?_)))
  obtain ⟨R1,hR1e⟩:∃R1,R1=S0 ++ (Ylc ++ R):=⟨_,rfl⟩
  refine Ymb zxc ?_
  have hK1:StaKO (⟨s,0,⟨none,0,[]⟩,0,⟨none,0,[]⟩,⟨none,0,[]⟩,⟨none,0,[]⟩,f,noRest,⟨none,0,[]⟩⟩:XSta) s' h' f' pm pw pc pl R1:=by rw [hR1e];exact hK
  have hRR1:∀r∈R,InR r R1:=fun r hr=>Ja (by rw [hR1e];exact List.mem_append_right _ (List.mem_append_right _ hr))
  have hpm0:pm.l=[]:=hK.em
  have hpw0:pw.l=[]:=hK.ew
  have hpc0:pc.l=[]:=hK.ec
  have hpl0:pl.l=[]:=hK.el
  have hswn:f'.switches.l=f.switches.l:=hK.esw
  refine qay ?_
  refine Xaw ?_
  refine Jo [(2,Value.pointer _),(4,Value.pointer _),(10,Value.pointer _),(51,Value.int _ _),(52,Value.int _ _)] zg fun tq1=>?_
  refine q_p [11,52,53,54,55,56,57,58,59,60,61,62,63] ((⟨fun g=>[(52,.int .i64 ((g.1.1:Nat):Int))],fun g=>⟨b10,(⟨s',0,h',0,pm.arr,pw.arr,pc.arr,g.1.2.1,noRest,pl.arr⟩:XSta).cells,54⟩ :: (pl.L 150 XEntry.cells ++ (pc.L 71 XCut.cells ++ (pw.L 153 XWatch.cells ++ (pm.L 93 XMeas.cells ++ (⟨b4,staZ.cells,54⟩ :: ⟨b3,f.cells,42⟩ :: ⟨b2,s.cells,38⟩ :: L))))),fun g=>g.1.2.2,fun g=>f.switches.l.length - g.1.1⟩:Head {g:Nat×XFeeder×List Sl // g.1≤f.switches.l.length∧(g.2.1.switches.l=Unc f.switches.l g.1∧g.2.1.zones.l=f.zones.l∧g.2.1.reply=f.reply)∧FeederR g.2.1 g.2.2∧∀r∈R1,InR r g.2.2})) (⟨(0,f',R1),by dsimp only;omega,⟨hK.esw,hK.ezn,hK.erp⟩,hK1.feeder,Jc _⟩) ?_
  rintro ⟨⟨k1,f1,S1⟩,hk1,⟨hfs,hfz,hfr⟩,hf1,hext⟩ junk
  try dsimp only
  dsimp only [XSta.cells]
  dsimp only at hk1 hfs hfz hfr hf1 hext
  refine Xak ?_
  refine q_c (fun hc5=>?_) (fun hc5=>?_)
  ·
   have hkp:=U0a (rp:=f.reply) hfe k1
   have hfe1:feedE f1.switches.l f1.zones.l f1.reply=0:=by rw [hfs,hfz,hfr];exact hkp.feedE hfe ⟨Int.le_refl _,by decide⟩
   have hl1:f1.switches.l.length=f.switches.l.length:=by rw [hfs];exact hkp.len
   have hto1:Vba f1.switches.l 0:=by rw [hfs];exact hkp.time ⟨⟨Int.le_refl _,by decide⟩,fun x hx=>by rw [hal2 x hx];exact Int.le_refl _⟩
   have hcan:Jpc f1.switches.l f1.zones.l f1.reply (k1:Int) 0=0:=by rw [Jpc,if_neg (by rw [hfe1];decide),if_neg za,if_pos hto1]
   refine Xa2 ?_
   refine qad ?_
   refine J6 (Jb (Jh ?_))
   refine qab ?_
   refine Vef ?_
   refine qaa ?_
   refine Js rfl (Kyb f1 (k1:Int) 0 _ _ hf1) rfl ?_
   rintro v L' R' ⟨pp,qq,rp,rfl,⟨hppk,hqqk⟩,hop,rfl,rfl⟩
   refine Jx zDb rfl ?_
   refine Xa4 ?_
   refine qab ?_
   refine Kca tb rfl rfl rfl rfl zA zb zb zb ?_
   refine J6 (Ji (Jb ?_))
   obtain ⟨hppl,hqql,rfl⟩:=hop hcan
   refine Kd (T:=3) (f:=Jp) (wd:=1) qq [] zj (fun _=>rfl) zc hqqk (fun s hs=>by cases hs) ?_
   refine Uv zp ?_
   refine Kd (T:=76) (f:=XSwitch.cells) (wd:=5) pp [] zj (fun _=>rfl) zc hppk (fun s hs=>by cases hs) ?_
   refine Uv zp ?_
   refine qay ?_
   refine Xae ?_
   exact q_k ⟨(k1 + 1,⟨pp.arr,qq.arr,f1.reply⟩,Vhb pp.arr :: isl qq.arr :: S1),by dsimp only;omega,⟨by show pp.l=_;rw [hppl,hfs];rfl,hqql.trans hfz,hfr⟩,⟨Ja (.head _),Ja (.tail _ (.head _))⟩,fun r hr=>(hext r hr).mono fun r hr=>Ja (.tail _ (.tail _ hr))⟩
  obtain rfl:k1=f.switches.l.length:=by omega
  refine qcf ?_
  refine Xaw ?_
  refine Jo [(2,Value.pointer _),(4,Value.pointer _),(10,Value.pointer _),(66,Value.int _ _),(67,Value.int _ _)] zg fun tq2=>?_
  refine q_p [67,68,69,70,71,72,73,74,75] ((⟨fun g=>[(67,.int .i64 ((g.1.1:Nat):Int))],fun g=>⟨b10,(⟨s',0,h',0,g.1.2.arr,pw.arr,pc.arr,f1,noRest,pl.arr⟩:XSta).cells,54⟩ :: (pl.L 150 XEntry.cells ++ (pc.L 71 XCut.cells ++ (pw.L 153 XWatch.cells ++ (g.1.2.L 93 XMeas.cells ++ (⟨b4,staZ.cells,54⟩ :: ⟨b3,f.cells,42⟩ :: ⟨b2,s.cells,38⟩ :: L))))),fun _=>S1,fun g=>s.sensors.l.length - g.1.1⟩:Head {g:Nat×OwL XMeas // g.1≤s.sensors.l.length∧g.2.ok 4 XMeas.cells∧g.2.l=List.replicate g.1 Zx})) (⟨(0,pm),by dsimp only;omega,hK.km,hpm0⟩) ?_
  rintro ⟨⟨k2,pm2⟩,hk2,hm2k,hm2⟩ junk
  try dsimp only
  dsimp only [XSta.cells]
  dsimp only at hk2 hm2k hm2
  have hm2n:pm2.l.length=k2:=by rw [hm2,List.length_replicate]
  refine Xak ?_
  refine q_c (fun hc6=>?_) (fun hc6=>?_)
  ·
   refine J5 (Jb (Jn (Kg (Jh ?_))))
   refine Xaa ?_
   refine Jx zhc rfl ?_
   refine Y9 zvb rfl ?_
   rintro v L' R' ⟨b72,rfl,rfl,hR72⟩
   replace hR72:=hR72.symm;subst hR72
   refine Y9 (J8 (f:=XMeas.cells) (p:=pm2) (a:=Zx) tb rfl rfl rfl rfl (hm2k) zj zsb rfl zy) rfl ?_
   rintro v L' R' ⟨o73,rfl,hok73,rfl,rfl⟩
   refine Xbp ?_
   refine Xa8 ?_
   exact q_k ⟨(k2 + 1,⟨o73,pm2.l ++ [Zx]⟩),by dsimp only;omega,hok73,by dsimp only;rw [hm2,List.replicate_succ']⟩
  obtain rfl:k2=s.sensors.l.length:=by omega
  refine qcf ?_
  refine Xaw ?_
  refine Jo [(2,Value.pointer _),(4,Value.pointer _),(10,Value.pointer _),(78,Value.int _ _),(79,Value.int _ _)] zg fun tq3=>?_
  refine q_p [79,80,81,82,83,84,85,86,87] ((⟨fun g=>[(79,.int .i64 ((g.1.1:Nat):Int))],fun g=>⟨b10,(⟨s',0,h',0,pm2.arr,g.1.2.arr,pc.arr,f1,noRest,pl.arr⟩:XSta).cells,54⟩ :: (pl.L 150 XEntry.cells ++ (pc.L 71 XCut.cells ++ (g.1.2.L 153 XWatch.cells ++ (pm2.L 93 XMeas.cells ++ (⟨b4,staZ.cells,54⟩ :: ⟨b3,f.cells,42⟩ :: ⟨b2,s.cells,38⟩ :: L))))),fun _=>S1,fun g=>s.conds.l.length - g.1.1⟩:Head {g:Nat×OwL XWatch // g.1≤s.conds.l.length∧g.2.ok 3 XWatch.cells∧g.2.l=List.replicate g.1 (⟨true,-1,0⟩:XWatch)})) (⟨(0,pw),by dsimp only;omega,hK.kw,hpw0⟩) ?_
  rintro ⟨⟨k3,pw2⟩,hk3,hw2k,hw2⟩ junk
  try dsimp only
  dsimp only [XSta.cells]
  dsimp only at hk3 hw2k hw2
  have hw2n:pw2.l.length=k3:=by rw [hw2,List.length_replicate]
  refine Xak ?_
  refine q_c (fun hc7=>?_) (fun hc7=>?_)
  ·
   refine J5 (Jb (Jn (Kg ?_)))
   refine Kj tb [] [0,1,2,3] [4,5,6] (_) _ K1 ze zi (List.nil_sublist _) ?_
   refine Xar ?_
   refine Vi rfl (Jbe _ _) rfl rfl ?_
   rintro v L' R' ⟨rfl,rfl,rfl⟩
   refine ⟨zi,zw,?_⟩
   refine Y6c zwb rfl rfl rfl ?_
   rintro v L' R' ⟨b84,rfl,rfl,hR84⟩
   replace hR84:=hR84.symm;subst hR84
   refine Xcz ?_
   refine Yjb (J8 (f:=XWatch.cells) (p:=pw2) (a:=⟨true,-1,0⟩) tb rfl rfl rfl rfl (hw2k) zj zsb rfl zy) rfl rfl rfl ?_
   rintro v L' R' ⟨o85,rfl,hok85,rfl,rfl⟩
   refine qa1 ?_
   refine Xc0 ?_
   refine Xc7 ?_
   exact q_k ⟨(k3 + 1,⟨o85,pw2.l ++ [⟨true,-1,0⟩]⟩),by dsimp only;omega,hok85,by dsimp only;rw [hw2,List.replicate_succ']⟩
  obtain rfl:k3=s.conds.l.length:=by omega
  refine qcf ?_
  refine Xaw ?_
  refine Jo [(4,Value.pointer _),(10,Value.pointer _),(90,Value.int _ _),(91,Value.int _ _)] zg fun tq4=>?_
  refine q_p [91,92,93,94,95,96,97,98,99] ((⟨fun g=>[(91,.int .i64 ((g.1.1:Nat):Int))],fun g=>⟨b10,(⟨s',0,h',0,pm2.arr,pw2.arr,g.1.2.arr,f1,noRest,pl.arr⟩:XSta).cells,54⟩ :: (pl.L 150 XEntry.cells ++ (g.1.2.L 71 XCut.cells ++ (pw2.L 153 XWatch.cells ++ (pm2.L 93 XMeas.cells ++ (⟨b4,staZ.cells,54⟩ :: ⟨b3,f.cells,42⟩ :: ⟨b2,s.cells,38⟩ :: L))))),fun _=>S1,fun g=>s.zones.l.length - g.1.1⟩:Head {g:Nat×OwL XCut // g.1≤s.zones.l.length∧g.2.ok 3 XCut.cells∧g.2.l=List.replicate g.1 (⟨true,-1,0⟩:XCut)})) (⟨(0,pc),by dsimp only;omega,hK.kc,hpc0⟩) ?_
  rintro ⟨⟨k4,pc2⟩,hk4,hc2k,hc2⟩ junk
  try dsimp only
  dsimp only [XSta.cells]
  dsimp only at hk4 hc2k hc2
  have hc2n:pc2.l.length=k4:=by rw [hc2,List.length_replicate]
  refine Xak ?_
  refine q_c (fun hc8=>?_) (fun hc8=>?_)
  ·
   refine J5 (Jb (Jn (Kg (Jh ?_))))
   refine Xaa ?_
   refine Jx zSb rfl ?_
   refine Y9 zwb rfl ?_
   rintro v L' R' ⟨b96,rfl,rfl,hR96⟩
   replace hR96:=hR96.symm;subst hR96
   refine Y9 (J8 (f:=XCut.cells) (p:=pc2) (a:=⟨true,-1,0⟩) tb rfl rfl rfl rfl (hc2k) zj zsb rfl zy) rfl ?_
   rintro v L' R' ⟨o97,rfl,hok97,rfl,rfl⟩
   refine Xbp ?_
   refine Xa8 ?_
   exact q_k ⟨(k4 + 1,⟨o97,pc2.l ++ [⟨true,-1,0⟩]⟩),by dsimp only;omega,hok97,by dsimp only;rw [hc2,List.replicate_succ']⟩
  obtain rfl:k4=s.zones.l.length:=by omega
  refine Kd (T:=93) (f:=XMeas.cells) (wd:=4) pm2 [] zj (fun _=>rfl) zc hm2k (fun s hs=>by cases hs) ?_
  refine Uv zp ?_
  refine Kd (T:=153) (f:=XWatch.cells) (wd:=3) pw2 [] zj (fun _=>rfl) zc hw2k (fun s hs=>by cases hs) ?_
  refine Uv zp ?_
  refine Kd (T:=71) (f:=XCut.cells) (wd:=3) pc2 [] zj (fun _=>rfl) zc hc2k (fun s hs=>by cases hs) ?_
  refine Uv zp ?_
  refine Kd (T:=150) (f:=XEntry.cells) (wd:=4) pl [] zj (fun _=>rfl) zc hK.kl (fun s hs=>by cases hs) ?_
  refine Uv zp ?_
  obtain ⟨R2,hR2e⟩:∃R2,R2=Yw pl.arr :: Kwc pc2.arr :: U1d pw2.arr :: Vn pm2.arr :: S1:=⟨_,rfl⟩
  refine Ymb zyc ?_
  have h12:∀r∈S1,InR r (R2 ++ R):=fun r hr=>Ja (by rw [hR2e];exact .tail _ (.tail _ (.tail _ (.tail _ (List.mem_append_left _ hr)))))
  have h02:∀r∈R1,InR r (R2 ++ R):=fun r hr=>(hext r hr).mono h12
  have hRR2:∀r∈R,InR r R2:=fun r hr=>((hRR1 r hr).mono hext).mono fun r hr=>Ja (by rw [hR2e];exact .tail _ (.tail _ (.tail _ (.tail _ hr))))
  have e1:InR (Yw pl.arr) (R2 ++ R):=Ja zZ
  have e2:InR (Kwc pc2.arr) (R2 ++ R):=Ja zBa
  have e3:InR (U1d pw2.arr) (R2 ++ R):=Ja zza
  have e4:InR (Vn pm2.arr) (R2 ++ R):=Ja (by rw [hR2e];exact .tail _ (.tail _ (.tail _ (.head _))))
  refine qbk ?_
  refine Jx zjb rfl ?_
  refine Xbl ?_
  refine Ks (L':=L) (R':=R2 ++ R) zLc ?hp ?hL ?hR
  case hp=>exact ⟨(⟨s',0,h',0,pm2.arr,pw2.arr,pc2.arr,f1,noRest,pl.arr⟩:XSta),R2,by rw [he],⟨hK1.site.mono h02,hK1.held.mono h02,e4,e3,e2,hf1.mono h12,e1⟩,fun _=>⟨hK.es,rfl,hK.eh,rfl,hm2,hw2,hc2,hfs,hfz,hfr,rfl,hpl0⟩,fun h=>absurd he h,rfl,rfl⟩
  case hL=>exact zi
  case hR=>
   exact fun r hr=>by
     rcases List.mem_append.1 hr with h | h
     · exact Ja h
     · exact hRR2 r h
end
section
section
variable {g:PSite} {p:PSta}
structure KeepP (p q:PSta):Prop where
  meas:q.meas=p.meas
  held:q.held=p.held
  dropped:q.dropped=p.dropped
theorem KeepP.refl (p:PSta):KeepP p p:=⟨rfl,rfl,rfl⟩
theorem KeepP.trans {p q r:PSta} (h:KeepP p q) (k:KeepP q r):KeepP p r:=⟨k.meas.trans h.meas,k.held.trans h.held,k.dropped.trans h.dropped⟩
theorem U7c (z:Int):KeepP p (K3b g p z):=by
  rw [K3b]
  split <;> exact ⟨rfl,rfl,rfl⟩
theorem Uzc : ∀ (l : List Int) {p : PSta}, KeepP p (Vga g p l)
  | [],p=>.refl p
  | z :: l,p=>(U7c z).trans (Uzc l)
theorem Kdb (kind : Int) : ∀ (l : List Int) {p : PSta}, KeepP p (Yr kind p l)
  | [],p=>.refl p
  | z :: l,p=>KeepP.trans (q:=Yi p kind z 0) ⟨rfl,rfl,rfl⟩ (Kdb kind l)
theorem Yoc (vals:List Int) (z:Nat):KeepP p (Kta g vals p z):=by
  rw [Kta]
  split
  · exact .refl p
  · exact KeepP.trans (q:={ p with cuts:=p.cuts.set z ⟨true,(p.cuts.getD z default).clear,J1a (g.site.zones.l.getD z default).rule.l vals⟩ }) ⟨rfl,rfl,rfl⟩ (U7c _)
theorem Yeb (vals : List Int) : ∀ k, KeepP p (darkTo g vals p k)
  | 0=>.refl p
  | k + 1=>(Yeb vals k).trans (Yoc vals k)
theorem Ytc (t:Int):KeepP p (Jd g p t):=by
  rw [Jd]
  refine KeepP.trans ?_ (Yeb _ _)
  rw [settleB]
  refine KeepP.trans ?_ (Kdb _ _)
  refine KeepP.trans ?_ (Kdb _ _)
  refine KeepP.trans (q:=settleA g { p with time:=t }) ?_ ⟨rfl,rfl,rfl⟩
  rw [settleA]
  exact KeepP.trans (q:={ p with time:=t,watches:=_,cuts:=_ }) ⟨rfl,rfl,rfl⟩ (Uzc _)
def Uof (p:PSta):Prop:=∀c∈p.cuts,c.off=true
theorem Ycc : ∀ (l : List Int) {p : PSta}, (Vga g p l).cuts = p.cuts
  | [],p=>rfl
  | z :: l,p=>(Ycc l).trans (Z4a z)
theorem J5b (kind : Int) : ∀ (l : List Int) {p : PSta}, (Yr kind p l).cuts = p.cuts
  | [],p=>rfl
  | z :: l,p=>J5b kind l
theorem Kde {v t:Int} {c:XCut} (h:c.off=true):(Y5d v c t).off=true:=by
  rw [Y5d]
  repeat' split
  all_goals first | exact h | rfl
theorem Uhe {l:List XCut} (h:∀c∈l,c.off=true) {i:Nat} (hi:i < l.length):(l.getD i default).off=true:=h _ (List.mem_of_getElem? (Jw (l:=l) (k:=i) default hi))
theorem settleB_cuts:(settleB g p).cuts=p.cuts:=by rw [settleB,J5b,J5b]
theorem Ucd (vals : List Int) (h : Uof p) : ∀ k, k ≤ p.cuts.length → darkTo g vals p k = p
  | 0,_=>rfl
  | k + 1,hk=>by
    rw [darkTo,Ucd vals h k za,Kta,if_pos (.inl (Uhe h za))]
end
end
section
section
variable {a:XAir} {s:XSetting} {x:XState} (h:MadeA a s x)
include h
end
section
variable {a:XAir} {s:XSetting} {x:XState} (h:MadeA a s x)
include h
end
end
section
attribute [local irreducible] CJ LJ DJ Tri YV Gives Ui J0 Ke Uh RV J2 OwL.L
end
section
attribute [local irreducible] CJ LJ DJ Tri YV Gives Ui J0 Ke Uh RV J2 OwL.L
end
section
section
variable (b b':Nat)
end
end
section
attribute [local irreducible] CJ LJ DJ Tri YV Gives Ui J0 Ke Uh RV J2 OwL.L
end
section
attribute [local irreducible] CJ LJ DJ Tri YV Gives Ui J0 Ke Uh RV J2 OwL.L
section
variable (b b':Nat)
end
end
section
attribute [local irreducible] CJ LJ DJ Tri YV Gives Ui J0 Ke Uh RV J2 OwL.L
section
variable {s:XSite} {len dl ho:Int} (h:EasyD s len dl ho)
include h
theorem Kqe:Ky s.air=0:=by
  obtain ⟨h1,h2,h3,h4,h5,h6,h7,_,h8,⟨h9,h9'⟩,_⟩:=h
  obtain ⟨⟨⟨⟨pa,pc,pl⟩,⟨ra,rc,rl⟩⟩,⟨fa,fc,fl⟩,⟨da,dc,dl⟩⟩,se,cn,zs,ps⟩:=s
  dsimp only at h1 h2 h3 h4
  subst h1 h2 h3 h4
  have:len=1∨len=2∨len=3∨len=4:=by omega
  rcases this with rfl | rfl | rfl | rfl <;> rfl
theorem Zsc:SiteOk s:=by
  have ha:=Kqe h
  obtain ⟨h1,h2,h3,h4,h5,h6,⟨z,h7,z1,z2,z3,z4⟩,_,h8,hr⟩:=h
  refine ⟨ha,by rw [h5,h6,h7,h8];simp,fun i hi=>?_,fun c hc=>?_,fun y hy=>?_,fun p hp=>?_⟩
  · rw [h5] at hi ⊢
    obtain rfl:i=0:=by simp only [List.length_cons,List.length_nil] at hi;omega
    rw [Zk,if_neg zc,if_neg,if_neg (by rintro ⟨k,hk,_⟩;omega)]
    rw [V0a,h2]
    show ¬ ¬ ((0:Int)≤0∧(0:Int) < 1)
    decide
  · rw [h6] at hc
    rw [List.mem_singleton.1 hc,Ko,if_neg,if_neg (by show ¬ ((0:Int) < 0∨(1099511627776:Int) < 0);decide),if_pos zb,Jga,if_pos]
    · show (100 : Int) ≤ 1000000 ∧ (0 : Int) ≤ 60 ∧ (60 : Int) < 100 ∧ 0 ≤ dl ∧ dl ≤ 100000
      omega
    · rw [h5, h2]
      show ¬ (0:Int)≠0
      decide
  · rw [h7] at hy
    rw [List.mem_singleton.1 hy,Yj,z1,h6,h2,if_neg (by show ¬ Z2 _ 1≠0;decide),if_neg za,if_neg]
    rintro ⟨i,hi,hb⟩
    rw [z3] at hi hb
    obtain rfl:i=0:=by simp only [List.length_cons,List.length_nil] at hi;omega
    revert hb
    show ¬ V4 1 [0] 0
    decide
  · rw [h8] at hp
    simp only [List.mem_cons,List.not_mem_nil,or_false] at hp
    omega
end
end
section
section
variable {s:XSite} {len dl ho:Int} (h:EasyD s len dl ho)
include h
theorem Ync {t:Int} (ht:0≤t∧t≤2147483648):sharedE s 1 1 t=0:=by
  obtain ⟨z,h7,_⟩:=h.zone
  rw [sharedE,(Zsc h).err,if_neg zc,if_neg (by rw [h7,h.roads];simp),if_neg za]
theorem Uie {c:List XCut} {fl:List XSpan} {t:Int} (hc:c.length=1) (hf:fl.length=1) (ht:0≤t∧t≤2147483648):askE s c fl noRest 0 0 t=readyE s c fl 0 t:=by
  rw [askE,hc,hf,Ync h ht,if_neg zc,if_neg zc,if_neg]
  rw [h.pers];decide
end
def openS (n:Nat):List XSwitch:=(List.range n).map fun (i:Nat)=>⟨(i:Int) - 1,0,-1,false,false⟩
end
end Go.Proofs.YtchfclmokpbldaaGreat
