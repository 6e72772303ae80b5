/-
  Texts of one chapter, merged. By an AI agent; no person has read it.
-/
import Derived.Test.YtchfclmokpbldaaGreatSiteP
import Derived.Test.YtchfclmokpbldaaGreatCutC
import Derived.Test.YtchfclmokpbldaaGreatFeedD
import Derived.Test.YtchfclmokpbldaaGreatMadeB
import Derived.Test.YtchfclmokpbldaaGreatStrB
import Derived.Test.YtchfclmokpbldaaGreatStatM
import Derived.Test.YtchfclmokpbldaaGreatAwakeP
import Derived.Test.YtchfclmokpbldaaGreatSilP
import Derived.Test.YtchfclmokpbldaaGreatStaE
import Derived.Test.YtchfclmokpbldaaGreatDrawT
import Derived.Test.YtchfclmokpbldaaGreatSiteD
import Derived.Test.YtchfclmokpbldaaGreatRuleP
import Derived.Test.YtchfclmokpbldaaGreatWinR
import Derived.Test.YtchfclmokpbldaaGreatFeedV
import Derived.Test.YtchfclmokpbldaaGreatFits
import Derived.Test.YtchfclmokpbldaaGreatRows
set_option linter.unusedVariables false
set_option linter.unusedSimpArgs false
set_option maxRecDepth 20000
namespace Go.Proofs.YtchfclmokpbldaaGreat
open Go.Aw Go
section
attribute [local irreducible] CJ LJ DJ Tri YV Gives Uq J2 Km Ur RV J4 OwL.L
end
section
attribute [local irreducible] CJ LJ DJ Tri YV Gives Uq J2 Km Ur RV J4 OwL.L
end
section
attribute [local irreducible] CJ LJ DJ Tri YV Gives Uq J2 Km Ur RV J4 OwL.L
end
section
attribute [local irreducible] CJ LJ DJ Tri YV Gives Uq J2 Km Ur RV J4 OwL.L
end
section
attribute [local irreducible] CJ LJ DJ Tri YV Gives Uq J2 Km Ur RV J4 OwL.L
end
section
attribute [local irreducible] CJ LJ DJ Tri YV Gives Uq J2 Km Ur RV J4 OwL.L
theorem Jzc (c:Nat) (x:Arr Int) (k:Nat) (most:Int) (R:List Sl) (hx:CodesR x R) (hk:k≤x.l.length) (hm:0≤most∧most≤100):
    Tri Tryz.prog 32 [.pointer (some ⟨c, 0, none⟩), .int .i64 most].toArray [cblk c x k] R
      (fun v M U=>∃(b:Arr Int) (k':Nat),v=b.val∧BytesOk b.l∧(b.l.length:Int)≤80 * most∧InR (bsl b) U∧k'≤x.l.length∧(∀r∈R,InR r U)∧cblk c x k' :: []=M):=by
  refine Tri.postW (Yec c x k most R hx hk hm) ?_
  rintro v M U c' w ⟨q,k',rfl,hqk,hqb,hql,hk',hR,rfl⟩ hst
  have h1:=hst.frzO (subs:=[]) hqk (fun _=>rfl) (by decide) (fun s hs=>by cases hs)
  exact ⟨_,_,h1,q.arr,k',rfl,hqb,hql,Ja (.head _),hk',fun r hr=>(hR r hr).mono fun r hr=>Ja (.tail _ hr),rfl⟩
end
section
attribute [local irreducible] CJ LJ DJ Tri YV Gives Uq J2 Km Ur RV J4 OwL.L
end
section
attribute [local irreducible] CJ LJ DJ Tri YV Gives Uq J2 Km Ur RV J4 OwL.L
end
section
section
variable {P:Program} {ρ:Operand→Value} {L:List Blk} {R:List Sl} {dst:Option Tmp} {ty:TypeId} {pos:String} {after:Array Edge} {guard:Option (Nat×Bool)} {T T2:TypeId} {x y z:Operand} {a b c:Int} {k:IntKind}
end
attribute [local irreducible] CJ LJ DJ Tri YV Gives Uq J2 Km Ur RV J4 OwL.L
theorem Kbf {A:List Blk} {R:List Sl} {l:Arr XNode} {p:OwL Int} (hl:InR (Yfc l) R) (hp:InB (p.L 3 Jk) A) (okp:p.ok 1 Jk):
    Tri Tryz.prog 36 [l.val,p.val].toArray A R (fun v M U=>v=.int .i64 (Kpa l.l p.l)∧A=M∧R=U):=
  Tri.lendU (S:=[isl p.arr]) (fun w G hh s hs=>by
    rw [List.mem_singleton.1 hs]
    exact Y5 hh hp okp (fun _=>rfl) (by decide) (fun s hs=>by cases hs)) (Vdd l p.arr [] _ (hl.mono fun r h=>Ja (.tail _ h)) (Ja (.head _)))
end
section
section
variable {A9 B9:Prop}
theorem Uoe (a:A9) (h:A9→B9:=by exact Zt (by first | exact U9 rfl rfl | exact Ut rfl rfl | exact Kma rfl) rfl rfl):B9:=h a
theorem J2f (a:A9) (h:A9→B9:=by exact Jy (by first | exact U9 rfl rfl | exact Ut rfl rfl | exact Kma rfl) rfl):B9:=h a
theorem Jhg (a:A9) (h:A9→B9:=by exact Jy (Jm (row:=[_,_,_,_,_,_,_,_,_,_,_,_,_,_,_,_,_,_,_,_,_,_,_]) tb rfl rfl rfl (by repeat (first | exact zi0 | apply zi1 | apply zi2)) (by rfl) (by rfl)) rfl):B9:=h a
theorem Ung (a:A9) (h:A9→B9:=by exact K0 (by first | exact Je tb rfl rfl rfl rfl (by first | assumption | exact zr (by simp)) (i:=i) (by first | rfl | omega | (simp;omega)) (by omega) | exact Jn tb rfl rfl rfl rfl (i:=i) (by first | rfl | omega | (simp;omega)) (by omega)) rfl rfl rfl):B9:=h a
theorem Vlg (a:A9) (h:A9→B9:=by exact K0 (by first | exact Je tb rfl rfl rfl rfl (by first | assumption | exact zr (by simp)) (i:=z) (by first | rfl | omega | (simp;omega)) (by omega) | exact Jn tb rfl rfl rfl rfl (i:=z) (by first | rfl | omega | (simp;omega)) (by omega)) rfl rfl rfl):B9:=h a
end
theorem Zhf {s:XSite} {f:XFeeder} (h1:K8 s=0) (h2:feedE f.switches.l f.zones.l f.reply=0) (h3:f.zones.l.length=s.zones.l.length) (h4:∀x∈f.switches.l,x.since=0):Uxa s f=0:=by
  rw [Uxa,h1,if_neg (by decide),h2,if_neg (by decide),if_neg (by rw [h3];simp),if_neg (fun ⟨x,hx,h⟩=>h (h4 x hx))]
theorem Jie {l:List XNode} {n:Nat} (h:Yz l n=0):Y6 l=true∧∀x∈l,x.kind=1→(0≤x.cond∧x.cond < 64)∧x.cond < n:=by
  rw [Yz] at h
  split at h
  · cases h
  rename_i h1
  have hr:Y6 l=true:=by simpa using h1
  split at h
  · cases h
  rename_i h2
  refine ⟨hr,fun x hx hk=>⟨?_,Int.not_le.1 fun h3=>h2 ⟨x,hx,hk,h3⟩⟩⟩
  obtain ⟨_,d,hp,_⟩:=Jxa.1 hr
  obtain ⟨j,hj,rfl⟩:=List.getElem_of_mem hx
  have hn:=(Y4 _ _ _ _ hp).2.2 j (by omega) (by omega)
  have e:l.getD j default=l[j]:=by rw [List.getD_eq_getElem?_getD,List.getElem?_eq_getElem hj];rfl
  rw [Vlb,e] at hn
  omega
attribute [local irreducible] CJ LJ DJ Tri YV Gives Uq J2 Km Ur RV J4 OwL.L
set_option maxHeartbeats 1000000 in
theorem J5c (y:Arr Int) (wait:Int) (R:List Sl) (hy:CodesR y R) (hwa:0≤wait∧wait≤255):
    Tri Tryz.prog 4 [y.val,.int .u8 wait].toArray [] R (fun v M U=>v=.bool true∧[]=M∧R=U):=by
  refine Jd 191 Tryz.call4 Tryz.func4 rfl rfl rfl ?_
  apply (Xbh)
  apply (Xdq)
  refine Jo rfl (Uwe y _ _ hy) rfl ?_
  rintro v M U ⟨c,rfl,hx,rfl,rfl⟩
  apply (qc1)
  apply (Xdd)
  refine Jo rfl (Jvd c _ 0 _ hx (Nat.zero_le _)) rfl ?_
  rintro v M U ⟨s,u0,z0,k1,rfl,hsd,hk1,⟨hs,_,_,hR1⟩,rfl⟩
  refine Jy (Jx rfl) rfl ?_
  iterate 3 apply (qbs)
  apply (qaq)
  intro b6
  apply (qaq)
  intro b7
  apply (qaq)
  intro b8
  iterate 3 apply (qak)
  apply (qa4)
  have hx1:CodesR (Kba y) U:=⟨hx.1.mono hR1,hx.2⟩
  have hnz:=hsd.nzone
  refine Vg (M:=⟨b6,s.cells,38⟩ :: cblk c (Kba y) k1 :: []) (by repeat (first | exact zs0 _ | exact zs1 _ | apply zs2 | apply zs3 | apply zs4 | apply zs5)) (Jc _) ?_
  apply (Xc0)
  apply (Xab)
  refine Jo rfl (Tri.spl (.consB (.consL .nil)) (U7d c _ k1 s.zones.l.length _ hx1 hk1 (by omega))) rfl ?_
  rintro v M U ⟨_,rfl,f,k2,rfl,hfn,hfz,hfe,hfs,hk2,⟨hf,hR2⟩,rfl⟩
  apply (qaq)
  intro b9
  apply (Xc1)
  have hx2:CodesR (Kba y) U:=⟨hx1.1.mono hR2,hx1.2⟩
  have hs2:=hs.mono hR2
  obtain ⟨A,hA⟩:=K5e s.air.mine
  have h0:Uxa s f=0:=Zhf hsd.ok.err hfe hfz hfs
  have hI:=Ync (A:=A) h0 hA
  apply (qay)
  refine Jy (Jm (row:=[_,_,_,_,_,_,_,_]) tb rfl rfl rfl (by repeat (first | exact zi0 | apply zi1 | apply zi2)) (by rfl) (by rfl)) rfl ?_
  refine Jy (Jm (row:=[_,_,_]) tb rfl rfl rfl (by repeat (first | exact zi0 | apply zi1 | apply zi2)) (by rfl) (by rfl)) rfl ?_
  refine Jo rfl (Jec s f A _ _ hs2 hf hA) rfl ?_
  rintro v M U ⟨x,S1,rfl,hxR,hx0,_,rfl,rfl⟩
  rw [h0]
  have hxs:=hx0 h0
  refine Jy (Jx rfl) rfl ?_
  apply (Xa6)
  apply (qaq)
  intro b10
  apply (qak)
  apply (Xby)
  apply (Xat)
  refine q_c (fun hc0=>?_) (fun hc0=>?_)
  ·
   apply (Xdm)
   refine Kv (M:=[]) (U:=R) (Va rfl (Jg (show _=Value.bool _ from rfl))) ?hp ?hL ?hR
   case hp=>exact absurd hc0 (by simp)
   case hL=>exact (by repeat (first | exact zs0 _ | exact zs1 _ | apply zs2 | apply zs3 | apply zs4 | apply zs5))
   case hR=>exact fun r hr=>(hR1 r (.tail _ hr)).mono fun r hr=>(hR2 r hr).mono fun r hr=>Ja (by simp [hr])
  apply (qcl)
  have hx3:CodesR (Kba y) (S1 ++ U):=⟨hx2.1.mono fun r hr=>Ja (List.mem_append_right _ hr),hx2.2⟩
  have hs3:SiteR s (S1 ++ U):=hs2.mono fun r hr=>Ja (List.mem_append_right _ hr)
  have hRt:∀r∈R,InR r (S1 ++ U):=fun r hr=>(hR1 r (.tail _ hr)).mono fun r hr=>(hR2 r hr).mono fun r hr=>Ja (List.mem_append_right _ hr)
  refine Vg (M:=⟨b10,x.cells,54⟩ :: ⟨b6,s.cells,38⟩ :: cblk c (Kba y) k2 :: []) (by repeat (first | exact zs0 _ | exact zs1 _ | apply zs2 | apply zs3 | apply zs4 | apply zs5)) (Jc _) ?_
  refine J5 tb [51] [0,1,2,3,4,5,6] [7] ([Blk.mk b10 _ _]) _ Kr (by kernel_rfl) (by repeat (first | exact zs0 _ | exact zs1 _ | apply zs2 | apply zs3 | apply zs4 | apply zs5)) (by (repeat (first | apply List.Sublist.cons (a:=Blk.mk b10 _ _) | apply List.Sublist.cons_cons));exact List.Sublist.refl _) ?_
  refine Kp (Jm (row:=[_,_,_,_,_,_,_,_,_,_,_,_,_,_,_,_,_,_,_,_,_,_,_]) tb rfl rfl rfl (by repeat (first | exact zi0 | apply zi1 | apply zi2)) (by rfl) (by rfl)) rfl rfl rfl rfl ?_
  apply (qb3)
  refine Ks rfl (Tri.spl (.consB (.consB (.consL .nil))) (Jzc c _ k2 5 _ hx3 hk2 (by omega))) rfl rfl ?_
  rintro v M U ⟨_,rfl,bb,k3,rfl,hbb,hbn,hbR,hk3,hR3,rfl⟩
  refine ⟨(by repeat (first | exact zs0 _ | exact zs1 _ | apply zs2 | apply zs3 | apply zs4 | apply zs5)),(by first | exact Jc _ | assumption | exact (fun r h=>Ja (by simp [h]))),?_⟩
  refine Ks rfl (Yxb (gOf s f A) (Vtb s f) x bb 5 _ _ hI hxs (hxR.mono hR3) hbR hbb (by omega) ⟨Int.le_refl _,by show (0:Int)≤_;decide⟩) rfl rfl ?_
  rintro v M U ⟨x1,Sa,rfl,hx1,hx1R,rfl,rfl⟩
  refine ⟨(by repeat (first | exact zs0 _ | exact zs1 _ | apply zs2 | apply zs3 | apply zs4 | apply zs5)),(by first | exact Jc _ | assumption | exact (fun r h=>Ja (by simp [h]))),?_⟩
  have hme0:MeasI (Vtb s f).time (Vtb s f).meas:=fun i hi=>by
    have:(Vtb s f).meas=List.replicate s.sensors.l.length Y5b:=rfl
    rw [this,List.length_replicate] at hi
    rw [this,List.getD_eq_getElem?_getD,List.getElem?_replicate,if_pos hi]
    exact ⟨Int.le_refl _,.inl (by decide)⟩
  have hdi:=Zxf hI hme0 ⟨0,0,0,5,bb.l⟩ (by show (0:Int)≤5;decide)
  rw [Zyd,if_pos (.inl rfl)] at hdi
  have hdi:MeasI (Yqa (gOf s f A) (Vtb s f) bb.l 5).1.time (Yqa (gOf s f A) (Vtb s f) bb.l 5).1.meas∧_:=hdi
  have hI1:=hI.feed hbb 5
  have htf:(Yqa (gOf s f A) (Vtb s f) bb.l 5).1.time=5:=by
    rw [Yqa,if_neg (by rw [Zu];show ¬ ((5:Int) < 0∨_);decide)]
    exact Vo _
  obtain ⟨p1,hp1⟩:∃p1,p1=(Yqa (gOf s f A) (Vtb s f) bb.l 5).1:=⟨_,rfl⟩
  rw [← hp1] at hx1 hdi hI1 htf
  have hme:=hdi.1
  rw [htf] at hme
  refine Kp (Jx rfl) rfl rfl rfl rfl ?_
  refine Kp (K5 rfl rfl) rfl rfl rfl rfl ?_
  refine Vf (K5 rfl rfl) rfl rfl rfl rfl ?_
  apply (Xcm)
  refine J1 (Jb (Jp (Jh ?_)))
  apply (qad)
  apply (qco)
  refine Vg (M:=⟨b10,x1.cells,54⟩ :: ⟨b6,s.cells,38⟩ :: []) (by repeat (first | exact zs0 _ | exact zs1 _ | apply zs2 | apply zs3 | apply zs4 | apply zs5)) (Jc _) ?_
  obtain ⟨R2,hR2e⟩:∃R2,R2=Sa ++ U:=⟨_,rfl⟩
  rw [← hR2e] at hx1R
  have hRf:∀r∈U,InR r R2:=fun r hr=>Ja (by rw [hR2e];exact List.mem_append_right _ hr)
  have hRR:∀r∈R,InR r R2:=fun r hr=>((hRt r hr).mono hR3).mono hRf
  have hs4:SiteR s R2:=(hs3.mono hR3).mono hRf
  have hsR:=hs4.sensors
  have hcR:=hs4.conds
  have hzR:=hs4.zones
  have hsn:s.sensors.l.length≤64:=hI.sok.len.1
  refine Ubb (show _=R2 by rw [hR2e]) ?_
  apply (qay)
  apply (Xaz)
  refine Jl [(1,Value.int _ _),(6,Value.pointer _),(10,Value.pointer _),(12,Value.int _ _),(53,Value.slice _ _ _),(54,Value.int _ _),(55,Value.int _ _)] (by repeat' (first | exact trivial | refine And.intro rfl ?_)) fun tq0=>?_
  refine q_p [12,14,55,56,57,58,59,60,61,62,63] ((⟨fun g=>[(55,.int .i64 ((g.1.1:Nat):Int)),(12,.int .i64 g.1.2)],fun _=>⟨b10,x1.cells,54⟩ :: ⟨b6,s.cells,38⟩ :: [],fun _=>R2,fun g=>s.sensors.l.length - g.1.1⟩:Head {g:Nat×Int // g.1≤s.sensors.l.length∧(0≤g.2∧g.2≤1000000)∧∀i:Nat,i < g.1→(s.sensors.l.getD i default).life≤g.2})) (⟨(0,0),by dsimp only;omega,by dsimp only;omega,fun i hi=>absurd hi (Nat.not_lt_zero _)⟩) ?_
  rintro ⟨⟨k,life⟩,hk,hlf,hall⟩ junk
  try dsimp only
  dsimp only at hk hlf hall
  apply (Xan)
  refine q_c (fun hc1=>?_) (fun hc1=>?_)
  ·
   have hg:=Jt (l:=s.sensors.l) (k:=k) default (by omega)
   obtain ⟨se,hse⟩:∃se,se=s.sensors.l.getD k default:=⟨_,rfl⟩
   rw [← hse] at hg
   have hs0:U1 se=0:=by
     have h:Zy s.air s.sensors.l k=none:=hI.sok.sens k (by show k < s.sensors.l.length;omega)
     rw [Zy,← hse] at h
     split at h
     · cases h
     · rename_i h9;exact Decidable.not_not.1 h9
   have hok:=Yra hs0
   rw [Zn] at hok
   apply (qbb)
   refine Jy (by first | exact Je tb rfl rfl rfl rfl (by first | assumption | exact zr (by simp)) (i:=k) (by first | rfl | omega | (simp;omega)) (by omega) | exact Jn tb rfl rfl rfl rfl (i:=k) (by first | rfl | omega | (simp;omega)) (by omega)) rfl ?_
   refine Jy (by first | exact Ky (row:=[_,_,_,_,_,_,_,_]) tb rfl rfl rfl (by first | assumption | exact zr (by simp)) (by assumption) (by rfl) (by rfl) | exact Jm (row:=[_,_,_,_,_,_,_,_]) tb rfl rfl rfl (by repeat (first | exact zi0 | apply zi1 | apply zi2)) (by rfl) (by rfl)) rfl ?_
   apply (qaq)
   intro b14
   apply (qak)
   refine J7 (Jb (Jh ?_))
   apply (qaa)
   apply (Xaa)
   refine Jy (Yq rfl rfl) rfl ?_
   apply (qad)
   apply (Xa8)
   exact Ki ⟨(k + 1,max life se.life),by dsimp only;omega,by dsimp only;omega,fun i hi=>by
   dsimp only
   rcases Nat.lt_or_ge i k with h | h
   · have:=hall i h;omega
   · obtain rfl : i = k := by dsimp only at hi; omega
     rw [← hse];omega⟩ (by repeat (first | exact Off.refl | apply Off.upd rfl | apply Off.havoc rfl | apply Off.updL rfl | apply Off.left rfl)) (by repeat' (first | exact trivial | refine And.intro rfl ?_)) (by repeat (first | exact zs0 _ | exact zs1 _ | apply zs2 | apply zs3 | apply zs4 | apply zs5)) (Jc _) (by dsimp only;omega)
  obtain rfl:k=s.sensors.l.length:=by omega
  apply (qc3)
  obtain ⟨T,hTe⟩:∃T,T=6 + life + wait:=⟨_,rfl⟩
  have hT:p1.time≤T∧T≤2147483648:=by omega
  apply (qay)
  refine Jhg ?_
  apply (qaa)
  apply (Xad)
  apply (qdg)
  apply (qar)
  rw [← hTe]
  refine Jo rfl (Kld (gOf s f A) p1 x1 T _ _ hI1 hx1 hx1R) rfl ?_
  rintro v M U ⟨x2,Sb,rfl,hx2,hx2R,rfl,rfl⟩
  have hl2:¬ Zu p1 T:=by rw [Zu];omega
  have e2:Yib (gOf s f A) p1 T=(Ji (gOf s f A) p1 T,0):=by rw [Yib,if_neg hl2]
  have hI2:=hI1.tick T
  rw [e2] at hx2 hI2 ⊢
  dsimp only at hx2 hI2 ⊢
  have hdf:Deaf (gOf s f A).site.sensors.l p1.meas T:=fun i hi=>by
    have hi':i < s.sensors.l.length:=hi
    have h1:=hall i hi'
    have h2:=(hme i (by rw [hI1.meas];exact hi)).1
    have hg:Vvb ((gOf s f A).site.sensors.l.getD i default) (p1.meas.getD i default) T:=by
      show Vvb (s.sensors.l.getD i default) _ T
      rw [Vvb];omega
    rw [atS,if_pos hg]
  have hdu:=Y5f hI1 hT hdf
  have hde:=fun i hi hn=>Jif (i:=i) hI1 hT hdf hi hn
  have ht2:=Vo (g:=(gOf s f A)) (p:=p1) T
  have hm2:(Ji (gOf s f A) p1 T).meas=p1.meas:=(Vla T).meas
  obtain ⟨p2,hp2⟩:∃p2,p2=Ji (gOf s f A) p1 T:=⟨_,rfl⟩
  rw [← hp2] at hx2 hI2 hdu hde ht2 hm2
  have hcn:x2.cuts.l.length=s.zones.l.length:=by rw [hx2.cuts];exact hI2.clen
  have hmn:x2.meas.l.length=s.sensors.l.length:=by rw [hx2.meas];exact hI2.meas
  have hx2t:x2.time=T:=hx2.time.trans ht2
  refine Jy (Jx rfl) rfl ?_
  apply (Xa6)
  apply (qak)
  apply (Xby)
  apply (Xb3)
  apply Kd (G:=[_,_,_,_,_,_,_]) (j:=2) (cj:=76) rfl rfl (by rfl) rfl (show _=Value.bool _ from rfl) rfl
  ·
   intro hg3
   replace hg3:=qb hg3
   apply (Xab)
   apply (Xab)
   apply (qbq)
   exact qai
  intro junk3
  apply (qaf)
  refine q_c (fun hc2=>?_) (fun hc2=>?_)
  ·
   apply (Xdm)
   refine Kv (M:=[]) (U:=R) (Va rfl (Jg (show _=Value.bool _ from rfl))) ?hp ?hL ?hR
   case hp=>exact absurd hc2 (by simp [hcn])
   case hL=>exact (by repeat (first | exact zs0 _ | exact zs1 _ | apply zs2 | apply zs3 | apply zs4 | apply zs5))
   case hR=>exact fun r hr=>(hRR r hr).mono fun r hr=>Ja (by simp [hr])
  apply (Xc4)
  refine Jl [(6,Value.pointer _),(10,Value.pointer _),(87,Value.int _ _),(88,Value.int _ _)] (by repeat' (first | exact trivial | refine And.intro rfl ?_)) fun tq1=>?_
  have hRb:∀r∈R2,InR r (Sb ++ R2):=fun r hr=>Ja (List.mem_append_right _ hr)
  have hsR2:=hsR.mono hRb
  have hcR2:=hcR.mono hRb
  have hzR2:=hzR.mono hRb
  have hmR2:=hx2R.meas
  have hcuR2:=hx2R.cuts
  refine q_s [4,16,88,89,90,91,92,93,94,95,96,97,98,99,100,101,102,103,104,105,106] (fun g:{i:Nat // i≤s.sensors.l.length}=>[(88,.int .i64 ((g.1:Nat):Int))]) (fun g=>s.sensors.l.length - g.1) (⟨0,by omega⟩) ?_
  rintro ⟨i,hi⟩ junk
  try dsimp only
  apply (Xan)
  refine q_c (fun hc3=>?_) (fun hc3=>?_)
  ·
   have hgS:=Jt (l:=s.sensors.l) (k:=i) default (by omega)
   have hgM:=Jt (l:=x2.meas.l) (k:=i) default (by omega)
   have hmo:=hI2.mok (x2.meas.l.getD i default) (by rw [← hx2.meas];exact List.mem_of_getElem? hgM)
   have hat:atS (s.sensors.l.getD i default) (x2.meas.l.getD i default) x2.time=nothingS:=by
     have e:x2.meas.l=p1.meas:=hx2.meas.trans hm2
     rw [hx2t,e]
     exact hdf i (by show i < s.sensors.l.length;omega)
   apply (Xa4)
   apply (Xcb)
   refine Kh tb [0,1,2,3,4,5,6,7,8,9,10,11,12,13,14] ([Blk.mk b10 _ _,Blk.mk b6 _ _]) Kr (by kernel_rfl) (by repeat (first | exact zs0 _ | exact zs1 _ | apply zs2 | apply zs3 | apply zs4 | apply zs5)) ?_
   apply (Xbv)
   refine Ung ?_
   refine K0 (by first | exact Ky (row:=[_,_,_,_,_,_,_,_]) tb rfl rfl rfl (by first | assumption | exact zr (by simp)) (by assumption) (by rfl) (by rfl) | exact Jm (row:=[_,_,_,_,_,_,_,_]) tb rfl rfl rfl (by repeat (first | exact zi0 | apply zi1 | apply zi2)) (by rfl) (by rfl)) rfl rfl rfl ?_
   apply (Xbv)
   refine Ung ?_
   apply (qdp)
   apply (Xak)
   refine q_d rfl (Vae (s.sensors.l.getD i default) (x2.meas.l.getD i default) x2.time _ _ hmo (by omega)) ?_
   rw [hat]
   refine q_d rfl (U9d _ _) ?_
   refine K0 (Ylb Zgd rfl rfl) rfl rfl rfl ?_
   apply (qbu)
   refine q_c (fun hc4=>?_) (fun hc4=>?_)
   ·
    apply (Xbh)
    apply (qbt)
    refine Kv (M:=[]) (U:=R) (Va rfl (Jg (show _=Value.bool _ from rfl))) ?hp ?hL ?hR
    case hp=>exact absurd hc4 (by simp)
    case hL=>exact (by repeat (first | exact zs0 _ | exact zs1 _ | apply zs2 | apply zs3 | apply zs4 | apply zs5))
    case hR=>exact fun r hr=>(hRR r hr).mono fun r hr=>Ja (by simp [hr])
   apply (Xay)
   exact q_k (⟨i + 1,by omega⟩)
  apply (qcf)
  apply (Xaz)
  refine Jl [(6,Value.pointer _),(10,Value.pointer _),(108,Value.slice _ _ _),(109,Value.int _ _),(110,Value.int _ _)] (by repeat' (first | exact trivial | refine And.intro rfl ?_)) fun tq2=>?_
  refine q_s [4,17,18,19,21,22,110,111,112,113,114,115,116,117,118,119,120,121,122,123,124,125,126,127,128,129,130,131,132,133,134,135,136,137,138,139,140,141,142,143,144,145,146,147,148,149,150,151,152,153,154,155,156,157,158,159,160,161,162,163,164,165,166,167,168,169,170,171,172] (fun g:{z:Nat // z≤s.zones.l.length}=>[(110,.int .i64 ((g.1:Nat):Int))]) (fun g=>s.zones.l.length - g.1) (⟨0,by omega⟩) ?_
  rintro ⟨z,hz⟩ junk
  try dsimp only
  apply (Xan)
  refine q_c (fun hc5=>?_) (fun hc5=>?_)
  ·
   have hgZ:=Jt (l:=s.zones.l) (k:=z) default (by omega)
   have hgC:=Jt (l:=x2.cuts.l) (k:=z) default (by omega)
   have hruR:=InR.rule hzR2 hgZ
   have hdz:=hde z (by show z < s.zones.l.length;omega)
   have hze:V4 s.conds.l.length s.air.mine.roads.l.length (s.zones.l.getD z default)=0:=hI.sok.zone _ (List.mem_of_getElem? hgZ)
   obtain ⟨zn,hzn⟩:∃zn,zn=s.zones.l.getD z default:=⟨_,rfl⟩
   have hdz:(∀x∈zn.rule.l,x.kind=1→Ve (s.conds.l.getD x.cond.toNat default))→Koe (p2.cuts.getD z default):=by rw [hzn];exact hdz
   rw [← hzn] at hgZ hruR hze
   obtain ⟨cu,hcu⟩:∃cu,cu=x2.cuts.l.getD z default:=⟨_,rfl⟩
   rw [← hx2.cuts,← hcu] at hdz
   rw [← hcu] at hgC
   apply (Xa4)
   refine Jy (by first | exact Je tb rfl rfl rfl rfl (by first | assumption | exact zr (by simp)) (i:=z) (by first | rfl | omega | (simp;omega)) (by omega) | exact Jn tb rfl rfl rfl rfl (i:=z) (by first | rfl | omega | (simp;omega)) (by omega)) rfl ?_
   apply (Xcs)
   intro b18
   apply (qad)
   apply (Xc1)
   have hre:Yz zn.rule.l s.conds.l.length=0:=by
     rw [V4] at hze
     split at hze
     · omega
     · rename_i h9;exact Decidable.not_not.1 h9
   obtain ⟨hrr,hrc⟩:=Jie hre
   apply (qay)
   apply (qaz)
   apply (qaw)
   apply (Xaa)
   refine Jo rfl (Zne zn.rule _ _ hruR hrr (fun x hx h1=>(hrc x hx h1).1)) rfl ?_
   rintro v M U ⟨q,rfl,hqk,hqn,hqa,hqb,rfl,rfl⟩
   apply (qag)
   apply (Xao)
   refine Vd [4,17,18,19,21,22,110,111,112,113,114,115,116,117,118,119,120,121,122,123,124,125,126,127,128,129,130,131,132,133,134,135,136,137,138,139,140,141,142,143,144,145,146,147,148,149,150,151,152,153,154,155,156,157,158,159,160,161,162,163,164,165,166,167,168,169,170,171,172] (by repeat (first | apply Off.upd rfl | apply Off.havoc rfl | refine Off.updL (t':=havoc _ _ _) rfl ?_ | exact Off.refl)) [(17,Value.int _ _),(18,Value.pointer _),(19,Value.bool _),(110,Value.int _ _),(117,Value.slice _ _ _),(118,Value.int _ _),(119,Value.int _ _)] (by repeat' (first | exact trivial | refine And.intro rfl ?_)) fun tq3=>?_
   refine q_p [19,21,22,119,120,121,122,123,124,125,126,127,128,129,130,131,132,133,134,135,136,137,138,139,140,141,142] ((⟨fun g=>[(119,.int .i64 ((g.1.1:Nat):Int)),(19,.bool g.1.2)],fun _=>q.L 3 Jk ++ (⟨b18,zn.cells,97⟩ :: ⟨b10,x2.cells,54⟩ :: ⟨b6,s.cells,38⟩ :: []),fun _=>Sb ++ R2,fun g=>q.l.length - g.1.1⟩:Head {g:Nat×Bool // g.1≤q.l.length∧(g.2=true↔∀j:Nat,j < g.1→Ve (s.conds.l.getD (q.l.getD j 0).toNat default))})) (⟨(0,true),by dsimp only;omega,⟨fun _ j hj=>absurd hj (Nat.not_lt_zero _),fun _=>rfl⟩⟩) ?_
   rintro ⟨⟨j,nd⟩,hj,hnd⟩ junk
   try dsimp only
   dsimp only at hj hnd
   apply (Xan)
   refine q_c (fun hc6=>?_) (fun hc6=>?_)
   ·
    have hgq:=Jt (l:=q.l) (k:=j) 0 (by omega)
    obtain ⟨hq0,xq,hxq,hxk,hxc⟩:=hqa _ (List.mem_of_getElem? hgq)
    have hcb:=(hrc xq hxq hxk).2
    rw [hxc] at hcb
    have hgc:=Jt (l:=s.conds.l) (k:=(q.l.getD j 0).toNat) default (by omega)
    obtain ⟨cd,hcd⟩:∃cd,cd=s.conds.l.getD (q.l.getD j 0).toNat default:=⟨_,rfl⟩
    rw [← hcd] at hgc
    have hnx:(nd && decide (Ve cd))=true↔∀i:Nat,i < j + 1→Ve (s.conds.l.getD (q.l.getD i 0).toNat default):=by
      rw [Bool.and_eq_true,hnd,decide_eq_true_iff]
      exact ⟨fun ⟨h1,h2⟩ i hi=>by
        rcases Nat.lt_or_ge i j with h | h
        · exact h1 i h
        · obtain rfl : i = j := by omega
          rw [← hcd];exact h2,fun h=>⟨fun i hi=>h i (by omega),by rw [hcd];exact h j (by omega)⟩⟩
    apply (qbb)
    refine Jy (Jw tb (q) _ rfl rfl rfl rfl (by assumption) (i:=j) (by first | rfl | omega | (simp;omega)) (by first | omega | (dsimp only;omega) | (dsimp only;rw [List.length_set];omega) | (dsimp only;simp only [List.length_set];omega))) rfl ?_
    refine Jy (Ke tb (q) rfl rfl rfl (by repeat (first | apply OSeg.cons | exact OSeg.here | exact OSeg.last | exact OSeg.at (by assumption) | apply OSeg.app)) (by assumption) (fun _=>rfl) (by assumption) (by rfl)) rfl ?_
    apply (Xag)
    apply (Xah)
    refine Jy (by first | exact Je tb rfl rfl rfl rfl (by first | assumption | exact zr (by simp)) (i:=(q.l.getD j 0).toNat) (by first | rfl | omega | (simp;omega)) (by omega) | exact Jn tb rfl rfl rfl rfl (i:=(q.l.getD j 0).toNat) (by first | rfl | omega | (simp;omega)) (by omega)) rfl ?_
    apply (Xbx)
    apply (qad)
    refine J7 (Jb (Jh ?_))
    apply (qah)
    apply (qah)
    refine Uda (k:=130) (show _=Value.bool _ from rfl) (fun hg2=>?_) (fun hg2=>?_)
    ·
     replace hg2:=qb hg2
     refine Zt (Jx (show _=Value.int _ _ from rfl)) rfl rfl ?_
     refine Zt (Kta rfl rfl) rfl rfl ?_
     refine Zt (Jx (show _=Value.bool _ from rfl)) rfl rfl ?_
     refine Uda (k:=133) (show _=Value.bool _ from rfl) (fun hg5=>?_) (fun hg5=>?_)
     ·
      replace hg5:=qb hg5
      have hv:true=true↔(∀i:Nat,i < j + 1→Ve (s.conds.l.getD (q.l.getD i 0).toNat default)):=by rw [← hnx];simp [hg2,Ve,hg5]
      refine Kea rfl rfl ?_
      refine Kea rfl rfl ?_
      ·
       skip
       refine Uoe ?_
       refine Zt (Jx (show _=Value.bool _ from rfl)) rfl rfl ?_
       ·
        skip
        have hv:true=true↔(∀i:Nat,i < j + 1→Ve (s.conds.l.getD (q.l.getD i 0).toNat default)):=by rw [← hnx];first | simp [hg2,Ve,hg9] | simp [hg2,Ve,hg5]
        refine Kea rfl rfl ?_
        refine Kea rfl rfl ?_
        ·
         skip
         refine Uoe ?_
         refine J2f ?_
         apply (qaz)
         apply (Xa8)
         exact q_k ⟨(j + 1,_),by dsimp only;omega,hv⟩
     replace hg5:=qb hg5
     refine Zt (Jx (show _=Value.int _ _ from rfl)) rfl rfl ?_
     refine Zt (Kta rfl rfl) rfl rfl ?_
     ·
      skip
      refine Uoe ?_
      refine Zt (Jx (show _=Value.bool _ from rfl)) rfl rfl ?_
      refine Uda (k:=137) (show _=Value.bool _ from rfl) (fun hg9=>?_) (fun hg9=>?_)
      ·
       replace hg9:=qb hg9
       have hv:true=true↔(∀i:Nat,i < j + 1→Ve (s.conds.l.getD (q.l.getD i 0).toNat default)):=by rw [← hnx];first | simp [hg2,Ve,hg9] | simp [hg2,Ve,hg5]
       refine Kea rfl rfl ?_
       refine Kea rfl rfl ?_
       ·
        skip
        refine Uoe ?_
        refine J2f ?_
        apply (qaz)
        apply (Xa8)
        exact q_k ⟨(j + 1,_),by dsimp only;omega,hv⟩
      replace hg9:=qb hg9
      have hv:decide (cd.kind=3)=true↔(∀i:Nat,i < j + 1→Ve (s.conds.l.getD (q.l.getD i 0).toNat default)):=by rw [← hnx];simp [hg2,hg5,Ve,hg9]
      refine Zt (Jx (show _=Value.int _ _ from rfl)) rfl rfl ?_
      refine Zt (Kta rfl rfl) rfl rfl ?_
      ·
       skip
       refine Uoe ?_
       refine J2f ?_
       apply (qaz)
       apply (Xa8)
       exact q_k ⟨(j + 1,_),by dsimp only;omega,hv⟩
    replace hg2:=qb hg2
    have hv:false=true↔(∀i:Nat,i < j + 1→Ve (s.conds.l.getD (q.l.getD i 0).toNat default)):=by rw [← hnx];simp [hg2]
    iterate 5 refine Kea rfl rfl ?_
    ·
     skip
     iterate 4 refine Kea rfl rfl ?_
     ·
      skip
      refine Kea rfl rfl ?_
      refine J2f ?_
      apply (qaz)
      apply (Xa8)
      exact q_k ⟨(j + 1,_),by dsimp only;omega,hv⟩
   obtain rfl:j=q.l.length:=by omega
   have hAll:nd=true→Koe cu:=fun h=>hdz fun x hx h1=>by
     obtain ⟨i,hi,e⟩:=List.getElem_of_mem (hqb x hx h1)
     have:=hnd.1 h i hi
     rw [show q.l.getD i 0=x.cond from by rw [List.getD_eq_getElem?_getD,List.getElem?_eq_getElem hi];exact e] at this
     exact this
   have hez:Kpa zn.rule.l (List.replicate s.conds.l.length 0)=0:=Y3c fun x _ _=>by
     rw [List.getD_eq_getElem?_getD,List.getElem?_replicate]
     split <;> rfl
   have hcn64:s.conds.l.length≤64:=hI.sok.len.2.1
   apply (qc3)
   refine Kh tb [0,1,2,3,4,5,6,7,8,9,10,11,12,13,14,15,16,17,18,19,20,21,22,23,24,25,26,27,28] ([Blk.mk b18 _ _,Blk.mk b10 _ _,Blk.mk b6 _ _]) Kr (by kernel_rfl) (by repeat (first | exact zs0 _ | exact zs1 _ | apply zs2 | apply zs3 | apply zs4 | apply zs5)) ?_
   apply (qb2)
   apply (qb2)
   refine Vj (k:=144) (show _=Value.bool _ from rfl) (fun hg1=>?_) (fun hg1=>?_)
   ·
    replace hg1:=qb hg1
    have hdd:=hAll hg1
    apply (Xbv)
    refine Vlg ?_
    apply (qce)
    apply (qbl)
    refine K0 (Kab rfl) rfl rfl rfl ?_
    apply (qb2)
    refine Vj (k:=152) (show _=Value.bool _ from rfl) (fun hg9=>?_) (fun hg9=>?_)
    ·
     replace hg9:=qb hg9
     rw [hdd.1] at hg9;cases hg9
    replace hg9:=qb hg9
    apply (Xbv)
    refine Vlg ?_
    apply (qce)
    apply (qbl)
    refine K0 (Ypb rfl rfl) rfl rfl rfl ?_
    apply (Xbs)
    refine Vj (k:=161) (show _=Value.bool _ from rfl) (fun hg18=>?_) (fun hg18=>?_)
    ·
     replace hg18:=qb hg18
     exact absurd hdd.2 (by simpa using hg18)
    replace hg18:=qb hg18
    apply (Xak)
    apply (Xak)
    refine K0 (Joa tb rfl rfl rfl) rfl rfl rfl ?_
    refine Yua (Zg tb rfl rfl rfl rfl rfl rfl rfl (by omega) (by omega)) rfl rfl rfl ?_
    rintro v M U ⟨b167,rfl,rfl,hR167⟩
    replace hR167:=hR167.symm;subst hR167
    apply (qa1)
    rw [Yo (f:=Jk) (z:=[.int .i64 0]) (x:=(0:Int)) rfl _]
    refine q_d rfl (Tri.cast (Kbf (l:=zn.rule) (p:=(⟨.own b167 s.conds.l.length [],List.replicate s.conds.l.length 0⟩:OwL Int)) (hruR.mono (Jc _)) (by repeat (first | exact V0 | apply V6 | apply Zs)) (Yl (f:=Jk) (wd:=1) (fun _=>rfl) (by simp only [maxLen];omega))) (by simp only [OwL.val,List.length_replicate];rfl)) ?_
    rw [hez]
    refine K0 (Kta rfl rfl) rfl rfl rfl ?_
    apply (qbp)
    apply (Xb7)
    refine q_c (fun hc7=>?_) (fun hc7=>?_)
    ·
     apply (Xbh)
     apply (qbt)
     refine Kv (M:=[]) (U:=R) (Va rfl (Jg (show _=Value.bool _ from rfl))) ?hp ?hL ?hR
     case hp=>exact absurd hc7 (by simp)
     case hL=>exact (by repeat (first | exact zs0 _ | exact zs1 _ | apply zs2 | apply zs3 | apply zs4 | apply zs5))
     case hR=>exact fun r hr=>(hRR r hr).mono fun r hr=>Ja (by simp [hr])
    apply (Xay)
    exact q_k (⟨z + 1,by omega⟩)
   replace hg1:=qb hg1
   iterate 26 apply (qap)
   apply (Xb7)
   refine Zm rfl ?_
   apply (Xay)
   exact q_k (⟨z + 1,by omega⟩)
  apply (qbk)
  refine Jhg ?_
  refine q_l rfl (Zsd (gOf s f A) p2 x2 _ _ hI2 hx2 hx2R) ?_
  apply (Xcb)
  obtain ⟨D,hD⟩:∃D,D=Zxc p2.sw (gOf s f A).rp:=⟨_,rfl⟩
  have hdS:Ybf x2.feeder.switches.l x2.feeder.zones.l x2.feeder.reply=D:=by rw [hx2.sw,hx2.zn,hx2.rp,Ybf,if_neg (by rw [hI2.fe];decide),hD]
  rw [hdu,← hD]
  obtain ⟨E,hE⟩:∃E,E=if D≤T then T + 1 else D:=⟨_,rfl⟩
  have hEm:E=max (T + 1) D:=by rw [hE];split <;> omega
  rw [← hE]
  refine Kh tb [0,1,2,3,4,5,6,7,8,9,10,11,12,13,14,15,16] _ Kr (by kernel_rfl) (List.Sublist.refl _) ?_
  apply (qao)
  refine K0 (Kta rfl rfl) rfl rfl rfl ?_
  apply (qb2)
  refine Vj (k:=177) (show _=Value.bool _ from rfl) (fun hg2=>?_) (fun hg2=>?_)
  ·
   replace hg2:=qb hg2
   have hq:E=1099511627776:=hg2
   iterate 9 apply (qap)
   apply (Xbs)
   refine Vj (k:=188) (show _=Value.bool _ from rfl) (fun hg13=>?_) (fun hg13=>?_)
   ·
    replace hg13:=qb hg13
    refine q_d rfl (Vqb _ _) ?_
    apply (qbp)
    refine K0 (Ud (show _=Value.bool _ from rfl)) rfl rfl rfl ?_
    refine J1 (Jb (K6 ?_))
    refine Kv (M:=[]) (U:=R) (Va rfl (Jg (show _=Value.bool _ from rfl))) ?hp ?hL ?hR
    case hp=>exact ⟨rfl,rfl,rfl⟩
    case hL=>exact (by repeat (first | exact zs0 _ | exact zs1 _ | apply zs2 | apply zs3 | apply zs4 | apply zs5))
    case hR=>exact fun r hr=>(hRR r hr).mono fun r hr=>Ja (by simp [hr])
   replace hg13:=qb hg13
   first | cases hg13 | exact absurd (by rw [hx2t];omega) hg13
  replace hg2:=qb hg2
  apply (qao)
  apply (Xak)
  apply (qc2)
  apply (qal)
  refine K0 (Jm (row:=[_,_,_]) tb rfl rfl rfl (by repeat (first | exact zi0 | apply zi1 | apply zi2)) (by rfl) (by rfl)) rfl rfl rfl ?_
  refine q_d rfl (Jrc x2.feeder _ _ hx2R.feeder) ?_
  rw [hdS]
  refine K0 (Yq rfl rfl) rfl rfl rfl ?_
  refine K0 (Kta rfl rfl) rfl rfl rfl ?_
  apply (Xbs)
  refine Vj (k:=188) (show _=Value.bool _ from rfl) (fun hg13=>?_) (fun hg13=>?_)
  ·
   replace hg13:=qb hg13
   refine q_d rfl (Vqb _ _) ?_
   apply (qbp)
   refine K0 (Ud (show _=Value.bool _ from rfl)) rfl rfl rfl ?_
   refine J1 (Jb (K6 ?_))
   refine Kv (M:=[]) (U:=R) (Va rfl (Jg (show _=Value.bool _ from rfl))) ?hp ?hL ?hR
   case hp=>exact ⟨rfl,rfl,rfl⟩
   case hL=>exact (by repeat (first | exact zs0 _ | exact zs1 _ | apply zs2 | apply zs3 | apply zs4 | apply zs5))
   case hR=>exact fun r hr=>(hRR r hr).mono fun r hr=>Ja (by simp [hr])
  replace hg13:=qb hg13
  first | cases hg13 | exact absurd (by rw [hx2t];omega) hg13
end
end Go.Proofs.YtchfclmokpbldaaGreat
section
/-
  The statement TopSilence: it returns true for all inputs, and the inputs read as they did. No conditions.
-/
namespace Go.Proofs.YtchfclmokpbldaaGreat
open Go.Aw Go
open Go.ChangeShapes Go.WideShapes Go.ChangeAt Go.RowKit
namespace topSilence
theorem walk (a0:Arr Int) (a1:Int) (w:World) (w0:∀n∈a0.l,(Lit.int .u8 n).wf=true) (r0:∀s∈[bsl a0],Rep w (Old w) s) (w1:(Lit.int .u8 a1).wf=true):
    Calls Tryz.prog 4 #[a0.val,.int .u8 a1] w fun e w'=>e=.returned (.bool true)∧Below w.heap.size w w':=by
  have h:=(J5c a0 a1 [bsl a0] ⟨Ja (by simp),fun i b hb=>U6g (w0 b (List.mem_of_getElem? hb))⟩ (U6g w1)).2 w (Old w) (Ure fun r hr=>by
    simp only [List.mem_cons,List.not_mem_nil,or_false] at hr
    rcases hr with rfl
    · exact r0 _ (by simp))
  exact h.mono fun e w' ⟨v,M,U,he,⟨hv,_,_⟩,hst⟩=>⟨by rw [he,hv],Kff hst⟩
set_option maxRecDepth 100000 in
theorem Jeg (os:Os) (started:os.Started) (H:Type) (enc:TypeId×Value→H):
    ReturnsInHanded {} Tryz.checked os 4 .any (Rows.topSilenceSpec.pre6 enc Tryz.prog Tryz.f4 Rows.topSilenceRow.domain false) (Rows.topSilenceSpec.post enc Tryz.prog Tryz.f4 false true false false):=by
  refine returnsInHanded_of_change (C := Tryz.checked) Kyf started (by kernel_rfl) Tryz.func4
    (ChangeSpec.witness6 (enc:=enc) (C:=Tryz.checked) false ⟨#[],#[.slice none 0 0,.int .u8 0],[]⟩ 8 (by kernel_rfl) (by kernel_rfl) (by kernel_rfl) (by kernel_rfl)) ?_
  intro W base args ds gs before hval0 hW hcnd _
  have hval:∀(j:Nat) t v,Tryz.f4.params[j]?=some t→args[j]?=some v→Value.okWide Tryz.prog W .any base t v:=hval0
  have hW':=hW
  obtain ⟨p,q,hA0,hV,rfl,hfz,hnd⟩:=hW
  have hA:DataW.TrodAll enc Tryz.prog W 0 (fun _=>true) true Tryz.f4.params.toList args.toList ds p:=hA0
  rw [Tryz.params4] at hA hval
  obtain ⟨v0,vs0,d0,ds0,p0,q0,hargs,rfl,rfl,h0,t0⟩:=trodAll_cons hA
  obtain ⟨v1,vs1,d1,ds1,p1,q1,rfl,rfl,rfl,h1,t1⟩:=trodAll_cons t0
  obtain ⟨rfl,rfl,rfl⟩:=trodAll_nil t1
  obtain rfl:args=#[v0,v1]:=by cases args;simp_all
  obtain ⟨rfl,rfl⟩:=trodVars_none hV
  obtain ⟨x0,y0,z0,rfl⟩:=okWide_slice Tryz.underlying22 (hval 0 22 v0 rfl rfl)
  have k0:=h0
  have lt0:∀x∈p0,x.block < W.heap.size:=by obtain ⟨m,hm⟩:=k0;exact DataW.trod_lt m _ _ _ hm
  obtain ⟨a0,e0,w0,r0⟩:∃a:Arr Int,_:=Kif W _ (by obtain ⟨m,hm⟩:=h0;exact ⟨_,_,m,_,hm⟩)
  obtain ⟨rfl,rfl,rfl⟩:x0=a0.a∧y0=a0.l.length∧z0=a0.cap:=by simpa [Value.cells,Arr.val] using e0
  obtain ⟨a1,rfl,rfl,rfl,w1⟩:=open_int Tryz.underlying5 (hval 1 5 v1 rfl rfl) h1
  clear hA0 hval0
  refine (walk a0 a1 W w0 r0 w1).mono fun e W' ⟨he,bel⟩=>?_
  subst he
  exact ⟨_,rfl,_,_,_,[],_,[],hW',trodAll_mk1 (shut_bool Tryz.underlying4 _),(trodAll_cons_mk (Below.trod Vif (by kernel_rfl) (of_decide_eq_true (by kernel_rfl)) k0 bel lt0) (trodAll_cons_mk (shut_int Tryz.underlying5 w1) trodAll_mk0)),rfl,bel.frame _,fun h=>by cases h⟩
end topSilence
end Go.Proofs.YtchfclmokpbldaaGreat
end
namespace Go.Proofs.YtchfclmokpbldaaGreat
open Go.Aw Go
end Go.Proofs.YtchfclmokpbldaaGreat
