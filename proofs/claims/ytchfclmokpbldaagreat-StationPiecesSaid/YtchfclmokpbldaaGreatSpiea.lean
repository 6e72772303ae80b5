/-
  Texts of one chapter, merged. By an AI agent; no person has read it.
-/
import Derived.Test.YtchfclmokpbldaaGreatFeedW
import Derived.Test.YtchfclmokpbldaaGreatFeedV
import Derived.Test.YtchfclmokpbldaaGreatEasyR
import Derived.Test.YtchfclmokpbldaaGreatDrawS
import Derived.Test.YtchfclmokpbldaaGreatFits
import Derived.Test.YtchfclmokpbldaaGreatRows
set_option linter.unusedVariables false
set_option linter.unusedSimpArgs false
set_option maxRecDepth 20000
namespace Go.Proofs.YtchfclmokpbldaaGreat
open Go.Aw Go
section
section
variable {A9 B9:Prop}
theorem Y3f (a:A9) (h:A9→B9:=by exact K3 (by first | exact Jh tb rfl rfl rfl rfl (by first | assumption | exact zr (by simp)) (i:=j) (by first | rfl | omega | (simp;omega)) (by omega) | exact Jn tb rfl rfl rfl rfl (i:=j) (by first | rfl | omega | (simp;omega)) (by omega)) rfl rfl rfl):B9:=h a
end
theorem Kof {s:XSite} {f:XFeeder} (h1:K5 s=0) (h2:feedE f.switches.l f.zones.l f.reply=0) (h3:f.zones.l.length=s.zones.l.length) (h4:∀x∈f.switches.l,x.since=0):K2a s f=0:=by
  rw [K2a,h1,if_neg (by decide),h2,if_neg (by decide),if_neg (by rw [h3];simp),if_neg (fun ⟨x,hx,h⟩=>h (h4 x hx))]
attribute [local irreducible] CJ LJ DJ Tri YV Gives Uo J0 Kj Un RV J2 OwL.L
set_option maxHeartbeats 1000000 in
theorem Kdb (y:Arr Int) (at_:Int) (R:List Sl) (hy:CodesR y R) (hat:I64 at_):
    Tri Tryz.prog 7 [y.val,.int .i64 at_].toArray [] R (fun v M U=>v=.bool true∧[]=M∧R=U):=by
  refine Je 129 Tryz.call7 Tryz.func7 rfl rfl rfl ?_
  apply (Xbm)
  apply (qam)
  apply (qbm)
  refine Jq rfl (Zhd y _ _ hy) rfl ?_
  rintro v M U ⟨c,rfl,hx,rfl,rfl⟩
  apply (qc1)
  apply (Xc2)
  refine Jq rfl (Ygc c _ 0 _ hx (Nat.zero_le _)) rfl ?_
  rintro v M U ⟨s,u,z,k1,rfl,hsd,hk1,⟨hs,_,_,hR1⟩,rfl⟩
  refine Jx (Jz rfl) rfl ?_
  iterate 3 apply (qbs)
  apply (qaq)
  intro b6
  apply (qaq)
  intro b7
  apply (qaq)
  intro b8
  iterate 3 apply (qak)
  apply (qa4)
  have hx1:CodesR (Kaa y) U:=⟨hx.1.mono hR1,hx.2⟩
  have hnz:=hsd.nzone
  refine Y3 (M:=⟨b6,s.cells,38⟩ :: cblk c (Kaa y) k1 :: []) (by repeat (first | exact zs0 _ | exact zs1 _ | apply zs2 | apply zs3 | apply zs4 | apply zs5)) (Jc _) ?_
  apply (Xch)
  apply (Xab)
  refine Jq rfl (Tri.spl (.consB (.consL .nil)) (Y6c c _ k1 s.zones.l.length _ hx1 hk1 (by omega))) rfl ?_
  rintro v M U ⟨_,rfl,f,k2,rfl,hfn,hfz,hfe,hfs,hk2,⟨hf,hR2⟩,rfl⟩
  apply (qaq)
  intro b9
  apply (Xdo)
  have hx2:CodesR (Kaa y) U:=⟨hx1.1.mono hR2,hx1.2⟩
  have hs2:=hs.mono hR2
  obtain ⟨A,hA⟩:=Zud s.air.mine
  have h0:K2a s f=0:=Kof hsd.ok.err hfe hfz hfs
  have hI:=Juc (A:=A) h0 hA
  apply (qay)
  refine Jx (Jo (row:=[_,_,_,_,_,_,_,_]) tb rfl rfl rfl (by repeat (first | exact zi0 | apply zi1 | apply zi2)) (by rfl) (by rfl)) rfl ?_
  refine Jx (Jo (row:=[_,_,_]) tb rfl rfl rfl (by repeat (first | exact zi0 | apply zi1 | apply zi2)) (by rfl) (by rfl)) rfl ?_
  refine Jq rfl (Vpb s f A _ _ hs2 hf hA) rfl ?_
  rintro v M U ⟨x,S1,rfl,hxR,hx0,_,rfl,rfl⟩
  rw [h0]
  have hxs:=hx0 h0
  refine Jx (Jz rfl) rfl ?_
  apply (Xbt)
  apply (qaq)
  intro b10
  apply (qak)
  apply (Xb4)
  have hx3:CodesR (Kaa y) (S1 ++ U):=⟨hx2.1.mono fun r hr=>Ja (List.mem_append_right _ hr),hx2.2⟩
  apply (Xch)
  refine Jq rfl (Tri.spl (.consB (.consB (.consB (.consL .nil)))) (Knc c _ k2 5 _ hx3 hk2 (by omega))) rfl ?_
  rintro v M U ⟨_,rfl,q,k3,rfl,hqk,hqb,hql,hk3,hR3,rfl⟩
  apply (Xda)
  refine Ks (T:=5) (f:=Vd) (wd:=1) q [] (by repeat (first | apply OSeg.cons | exact OSeg.here | exact OSeg.last | exact OSeg.at (by assumption) | apply OSeg.app)) (fun _=>rfl) (by decide) hqk (fun s hs=>by cases hs) ?_
  refine Y3 (M:=⟨b10,x.cells,54⟩ :: []) (by repeat (first | exact zs0 _ | exact zs1 _ | apply zs2 | apply zs3 | apply zs4 | apply zs5)) (Jc _) ?_
  have hqc:=OwL.cap_ok hqk
  have hbc:q.l.length≤q.arr.cap:=hqc
  have hbn:q.l.length≤400:=by omega
  have hm:=Zac (k:=at_) (n:=(q.l.length:Int) + 1) (by omega)
  obtain ⟨k,hke⟩:∃k:Nat,Z5d at_ ((q.l.length:Int) + 1)=(k:Int):=⟨(Z5d at_ ((q.l.length:Int) + 1)).toNat,by omega⟩
  have hkn:k≤q.l.length:=by omega
  refine U6a (wd:=1) (f:=Vd) (subs:=[]) (y:=q.arr) k (Ja (.head _)) ?_
  refine Uke (wd:=1) (f:=Vd) (subs:=[]) (y:=q.arr) (m:=k) (Ja (.tail _ (.head _))) hkn (by decide) fun hdR=>?_
  obtain ⟨R4,hR4e⟩:∃R4,R4=bsl (Kma q.arr k 1) :: bsl (Jsa q.arr k) :: bsl q.arr :: U:=⟨_,rfl⟩
  have hdR4:InR (bsl (Kma q.arr k 1)) R4:=Ja (by rw [hR4e];exact .head _)
  have htR4:InR (bsl (Jsa q.arr k)) R4:=Ja (by rw [hR4e];exact .tail _ (.head _))
  have hbR4:InR (bsl q.arr) R4:=Ja (by rw [hR4e];exact .tail _ (.tail _ (.head _)))
  have hR34:∀r∈U,InR r R4:=fun r hr=>Ja (by rw [hR4e];exact .tail _ (.tail _ (.tail _ hr)))
  have hfin:∀r∈R,InR r R4:=fun r hr=>(hR1 r (.tail _ hr)).mono fun r hr=>(hR2 r hr).mono fun r hr=>(hR3 r (List.mem_append_right _ hr)).mono hR34
  have hxR4:=hxR.mono fun r hr=>(hR3 r hr).mono hR34
  refine Zfb (show _=R4 by rw [hR4e]) ?_
  have hdl:(Kma q.arr k 1).l=q.l.drop k:=Jlf ..
  apply (Xbi)
  apply (Xak)
  apply (qar)
  refine q_l rfl (Kuf _ _ _ _ hat (by omega)) ?_
  rw [hke]
  apply (Xah)
  refine Jx (Jo (row:=[_,_,_,_,_,_,_,_,_,_,_,_,_,_,_,_,_,_,_,_,_,_,_]) tb rfl rfl rfl (by repeat (first | exact zi0 | apply zi1 | apply zi2)) (by rfl) (by rfl)) rfl ?_
  apply (qbm)
  refine Jq rfl (Zza (gOf s f A) (Uia s f) x q.arr 7 _ _ hI hxs hxR4 hbR4 hqb (by show q.l.length≤_;omega) ⟨Int.le_refl _,by show (0:Int)≤_;decide⟩) rfl ?_
  rintro v M U ⟨y1,Sa,rfl,hy1,hy1R,rfl,rfl⟩
  have hl0:¬ Jxa (Uia s f) 7:=by rw [Jxa];show ¬ ((7:Int) < 0∨_);decide
  have hIa:=hI.feed (b:=q.l) hqb 7
  obtain ⟨pa,hpa⟩:∃pa,pa=Y2 (gOf s f A) (Uia s f) q.l 7:=⟨_,rfl⟩
  have ha2:pa=(Ka (gOf s f A) (feedR (gOf s f A) (Uia s f) q.l 7) 7,0):=by rw [hpa,Y2,if_neg hl0]
  have ha20:pa.2=0:=by rw [ha2]
  rw [← hpa] at hy1 hIa ⊢
  rw [ha20]
  refine Jx (Jz rfl) rfl ?_
  apply (Xbt)
  apply (qaq)
  intro b14
  apply (qak)
  apply (Xb4)
  have hy1t:=hy1R.mono (U:=Sa ++ R4) fun r hr=>Ja hr
  have h4a:∀r∈R4,InR r (Sa ++ R4):=fun r hr=>Ja (List.mem_append_right _ hr)
  have htn:(Jsa q.arr k).l.length≤400:=by show (q.l.take k).length≤400;rw [List.length_take];omega
  have htb:BytesOk (Jsa q.arr k).l:=fun x hx=>hqb x (List.mem_of_mem_take hx)
  have hdb:BytesOk (Kma q.arr k 1).l:=fun x hx=>hqb x (List.mem_of_mem_drop (by rw [hdl] at hx;exact hx))
  have hdn:(Kma q.arr k 1).l.length≤400:=by rw [hdl,List.length_drop];omega
  have hIb:=hI.feed (b:=(Jsa q.arr k).l) htb 7
  refine Kk tb [0,1,2,3,4,5,6,7,8,9,10] ([Blk.mk b14 _ _,Blk.mk b10 _ _]) Kr (by kernel_rfl) (by repeat (first | exact zs0 _ | exact zs1 _ | apply zs2 | apply zs3 | apply zs4 | apply zs5)) ?_
  refine K3 (Jo (row:=[_,_,_,_,_,_,_,_,_,_,_,_,_,_,_,_,_,_,_,_,_,_,_]) tb rfl rfl rfl (by repeat (first | exact zi0 | apply zi1 | apply zi2)) (by rfl) (by rfl)) rfl rfl rfl ?_
  refine K3 (Jz (show _=Value.slice _ _ _ from rfl)) rfl rfl rfl ?_
  apply (qao)
  refine K3 (V6e (m:=k) (u:=q.arr) tb rfl rfl rfl rfl rfl hkn hqc) rfl rfl rfl ?_
  refine Yp rfl (Zza (gOf s f A) (Uia s f) x (Jsa q.arr k) 7 _ _ hI hxs (hxR4.mono h4a) (htR4.mono h4a) htb (by omega) ⟨Int.le_refl _,by show (0:Int)≤_;decide⟩) rfl rfl ?_
  rintro v M U ⟨y2,Sb,rfl,hy2,hy2R,rfl,rfl⟩
  refine ⟨(by repeat (first | exact zs0 _ | exact zs1 _ | apply zs2 | apply zs3 | apply zs4 | apply zs5)),(by first | exact Jc _ | assumption | exact (fun r h=>Ja (by simp [h]))),?_⟩
  refine K3 (Jz rfl) rfl rfl rfl ?_
  refine K3 (K6 rfl rfl) rfl rfl rfl ?_
  refine K3 (K6 rfl rfl) rfl rfl rfl ?_
  apply (qbr)
  intro b16
  apply (qbg)
  apply (qcg)
  apply (qb9)
  have hd1:=Kze hI (a:=⟨0,0,0,7,(Jsa q.arr k).l⟩) ⟨by dsimp only;omega,by dsimp only;omega,by dsimp only;omega,htb,by show (Jsa q.arr k).l.length≤_;omega⟩
  have hd2:Kue (gOf s f A) (Uia s f) ⟨0,0,0,7,(Jsa q.arr k).l⟩=Y2 (gOf s f A) (Uia s f) (Jsa q.arr k).l 7:=by rw [Kue,if_pos (.inl rfl)];rfl
  rw [hd2] at hd1
  have hd3:(Uia s f).dropped=0:=rfl
  obtain ⟨pb,hpb⟩:∃pb,pb=Y2 (gOf s f A) (Uia s f) (Jsa q.arr k).l 7:=⟨_,rfl⟩
  have hb2:pb=(Ka (gOf s f A) (feedR (gOf s f A) (Uia s f) (Jsa q.arr k).l 7) 7,0):=by rw [hpb,Y2,if_neg hl0]
  have hb20:pb.2=0:=by rw [hb2]
  have hbt:pb.1.time=7:=by rw [hb2];exact Ysb ..
  rw [← hpb] at hd1 hy2 hIb ⊢
  rw [hb20]
  have hIc:=hIb.feed (b:=(Kma q.arr k 1).l) hdb 7
  have hl2:¬ Jxa pb.1 7:=by rw [Jxa,hbt];decide
  refine J6 tb [67] [0,1,2,3,4,5,6,7] [8,9] ([Blk.mk b16 _ _,Blk.mk b14 _ _]) _ Kr (by kernel_rfl) (by repeat (first | exact zs0 _ | exact zs1 _ | apply zs2 | apply zs3 | apply zs4 | apply zs5)) (by (repeat (first | apply List.Sublist.cons (a:=Blk.mk b16 _ _) | apply List.Sublist.cons_cons));exact List.Sublist.refl _) ?_
  refine Kn (Jo (row:=[_,_,_,_,_,_,_,_,_,_,_,_,_,_,_,_,_,_,_,_,_,_,_]) tb rfl rfl rfl (by repeat (first | exact zi0 | apply zi1 | apply zi2)) (by rfl) (by rfl)) rfl rfl rfl rfl ?_
  apply (Xdb)
  refine Kn (K7e (m:=k) (wd:=1) (u:=q.arr) tb rfl rfl rfl rfl rfl hkn rfl) rfl rfl rfl rfl ?_
  refine Kp rfl (Zza (gOf s f A) pb.1 y2 (Kma q.arr k 1) 7 _ _ hIb hy2 hy2R ((hdR4.mono h4a).mono fun r hr=>Ja (List.mem_append_right _ hr)) hdb (by omega) ⟨by omega,by omega⟩) rfl rfl ?_
  rintro v M U ⟨y3,Sc,rfl,hy3,hy3R,rfl,rfl⟩
  refine ⟨(by repeat (first | exact zs0 _ | exact zs1 _ | apply zs2 | apply zs3 | apply zs4 | apply zs5)),(by first | exact Jc _ | assumption | exact (fun r h=>Ja (by simp [h]))),?_⟩
  obtain ⟨pc,hpc⟩:∃pc,pc=Y2 (gOf s f A) pb.1 (Kma q.arr k 1).l 7:=⟨_,rfl⟩
  have hc2:pc=(Ka (gOf s f A) (feedR (gOf s f A) pb.1 (Kma q.arr k 1).l 7) 7,0):=by rw [hpc,Y2,if_neg hl2]
  have hc20:pc.2=0:=by rw [hc2]
  rw [← hpc] at hy3 hIc ⊢
  rw [hc20]
  refine Kn (Jz rfl) rfl rfl rfl rfl ?_
  refine Kn (K6 rfl rfl) rfl rfl rfl rfl ?_
  refine Vy (K6 rfl rfl) rfl rfl rfl rfl ?_
  apply (Xdc)
  apply (qcg)
  refine J3 (Jb (Jl (Jl ?_)))
  have hpieces:=Zoc (g:=gOf s f A) (p:=Uia s f) (fun x hx=>by cases hx) (a:=(Jsa q.arr k).l) (b:=(Kma q.arr k 1).l) htb (t:=7) hl0
  have happ:(Jsa q.arr k).l ++ (Kma q.arr k 1).l=q.l:=by rw [hdl];exact List.take_append_drop k q.l
  rw [happ,← hpa,← hpb,← hpc] at hpieces
  have hmeas:y1.meas.l=y3.meas.l:=by rw [hy1.meas,hy3.meas];exact hpieces.1
  have hdrop:y1.dropped=y3.dropped:=by rw [hy1.dropped,hy3.dropped];exact hpieces.2
  have hcl:y1.cuts.l.length=y3.cuts.l.length:=by rw [hy1.cuts,hy3.cuts,hIa.clen,hIc.clen]
  have hcn3:y1.cuts.l.length≤3:=by rw [hy1.cuts,hIa.clen];exact hnz.2
  have h0ff:Y3a (Uia s f):=fun c hc=>by rw [List.eq_of_mem_replicate hc]
  have hoa:Y3a pa.1:=by rw [ha2];exact Kmb (p:=feedR (gOf s f A) (Uia s f) q.l 7) h0ff 7
  have hob:Y3a pb.1:=by rw [hb2];exact Kmb (p:=feedR (gOf s f A) (Uia s f) (Jsa q.arr k).l 7) h0ff 7
  have hoc:Y3a pc.1:=by rw [hc2];exact Kmb (p:=feedR (gOf s f A) pb.1 (Kma q.arr k 1).l 7) hob 7
  have hy1R5:=hy1R.mono (U:=Sc ++ (Sb ++ (Sa ++ R4))) fun r hr=>Ja (List.mem_append_right _ (List.mem_append_right _ hr))
  have hy1m:=hy1R5.meas
  have hy3m:=hy3R.meas
  have hy1c:=hy1R5.cuts
  have hy3c:=hy3R.cuts
  apply (Xbi)
  apply (Xcn)
  apply Kf (G:=[_,_]) (j:=2) (cj:=70) rfl rfl (by rfl) rfl (show _=Value.bool _ from rfl) rfl
  ·
   intro hg3
   replace hg3:=qb hg3
   apply (qaa)
   apply (qbq)
   exact qai
  intro junk3
  apply (qah)
  apply Kf (G:=[_,_]) (j:=6) (cj:=74) rfl rfl (by rfl) rfl (show _=Value.bool _ from rfl) rfl
  ·
   intro hg7
   replace hg7:=qb hg7
   apply (qaa)
   apply (qbq)
   exact qai
  intro junk7
  apply (qah)
  apply Kf (G:=[_,_]) (j:=10) (cj:=78) rfl rfl (by rfl) rfl (show _=Value.bool _ from rfl) rfl
  ·
   intro hg11
   replace hg11:=qb hg11
   apply (qaa)
   apply (qbq)
   exact qai
  intro junk11
  apply (qah)
  apply Kf (G:=[_,_,_,_,_,_]) (j:=14) (cj:=82) rfl rfl (by rfl) rfl (show _=Value.bool _ from rfl) rfl
  ·
   intro hg15
   replace hg15:=qb hg15
   apply (Xbo)
   refine q_l rfl (V7c y1.meas y3.meas _ _ hy1m hy3m hmeas) ?_
   apply (qb4)
   exact qai
  intro junk15
  apply (qah)
  apply Kf (G:=[_,_,_,_,_,_,_]) (j:=22) (cj:=90) rfl rfl (by rfl) rfl (show _=Value.bool _ from rfl) rfl
  ·
   intro hg23
   replace hg23:=qb hg23
   apply (Xds)
   apply (Xds)
   apply (qbq)
   exact qai
  intro junk23
  apply (qah)
  apply Kf (G:=[_,_,_,_,_,_,_]) (j:=31) (cj:=99) rfl rfl (by rfl) rfl (show _=Value.bool _ from rfl) rfl
  ·
   intro hg32
   replace hg32:=qb hg32
   apply (Xab)
   apply (Xab)
   apply (qbq)
   exact qai
  intro junk32
  apply (qaf)
  refine q_c (fun hc0=>?_) (fun hc0=>?_)
  ·
   apply (Xbm)
   apply (qbh)
   refine K0 (M:=[]) (U:=R) (U8 rfl (Jj (show _=Value.bool _ from rfl))) ?hp ?hL ?hR
   case hp=>
    exfalso
    simp [hdrop,hcl] at hc0
   case hL=>exact (by repeat (first | exact zs0 _ | exact zs1 _ | apply zs2 | apply zs3 | apply zs4 | apply zs5))
   case hR=>exact fun r hr=>(hfin r hr).mono fun r hr=>Ja (List.mem_append_right _ (List.mem_append_right _ (List.mem_append_right _ hr)))
  apply (Xcp)
  refine Jk [(14,Value.pointer _),(16,Value.pointer _),(110,Value.int _ _),(111,Value.int _ _)] (by repeat' (first | exact trivial | refine And.intro rfl ?_)) fun tq0=>?_
  refine q_s [4,19,111,112,113,114,115,116,117,118,119,120,121,122,123,124,125,126,127] (fun g:{j:Nat // j≤y1.cuts.l.length}=>[(111,.int .i64 ((g.1:Nat):Int))]) (fun g=>y1.cuts.l.length - g.1) (⟨0,by omega⟩) ?_
  rintro ⟨j,hj⟩ junk
  try dsimp only
  apply (Xan)
  refine q_c (fun hc1=>?_) (fun hc1=>?_)
  ·
   have hg1:=Ju (l:=y1.cuts.l) (k:=j) default (by omega)
   have hg3:=Ju (l:=y3.cuts.l) (k:=j) default (by omega)
   obtain ⟨c1,hc1e⟩:∃c1,c1=y1.cuts.l.getD j default:=⟨_,rfl⟩
   obtain ⟨c3,hc3e⟩:∃c3,c3=y3.cuts.l.getD j default:=⟨_,rfl⟩
   rw [← hc1e] at hg1
   rw [← hc3e] at hg3
   have hf1:c1.off=true:=hoa c1 (by rw [← hy1.cuts];exact List.mem_of_getElem? hg1)
   have hf3:c3.off=true:=hoc c3 (by rw [← hy3.cuts];exact List.mem_of_getElem? hg3)
   apply (Xbb)
   apply (Xb4)
   refine Kk tb [0,1,2,3,4,5,6,7,8,9,10,11,12] ([Blk.mk b16 _ _,Blk.mk b14 _ _]) Kr (by kernel_rfl) (by repeat (first | exact zs0 _ | exact zs1 _ | apply zs2 | apply zs3 | apply zs4 | apply zs5)) ?_
   apply (Xbx)
   refine Y3f ?_
   apply (qce)
   apply (qbl)
   apply (Xbx)
   refine Y3f ?_
   apply (qce)
   apply (qbl)
   refine K3 (Zvc tb rfl rfl rfl) rfl rfl rfl ?_
   apply (qbu)
   refine q_c (fun hc2=>?_) (fun hc2=>?_)
   ·
    apply (Xbm)
    apply (qbt)
    refine K0 (M:=[]) (U:=R) (U8 rfl (Jj (show _=Value.bool _ from rfl))) ?hp ?hL ?hR
    case hp=>exact absurd hc2 (by simp [hf1,hf3])
    case hL=>exact (by repeat (first | exact zs0 _ | exact zs1 _ | apply zs2 | apply zs3 | apply zs4 | apply zs5))
    case hR=>exact fun r hr=>(hfin r hr).mono fun r hr=>Ja (List.mem_append_right _ (List.mem_append_right _ (List.mem_append_right _ hr)))
   apply (Xa3)
   exact q_k (⟨j + 1,by omega⟩)
  apply (qbk)
  refine q_l rfl (Kbd _ _) ?_
  apply (Xbl)
  refine K0 (M:=[]) (U:=R) (U8 rfl (Jj (show _=Value.bool _ from rfl))) ?hp ?hL ?hR
  case hp=>exact ⟨rfl,rfl,rfl⟩
  case hL=>exact (by repeat (first | exact zs0 _ | exact zs1 _ | apply zs2 | apply zs3 | apply zs4 | apply zs5))
  case hR=>exact fun r hr=>(hfin r hr).mono fun r hr=>Ja (List.mem_append_right _ (List.mem_append_right _ (List.mem_append_right _ hr)))
end
end Go.Proofs.YtchfclmokpbldaaGreat
section
/-
  The statement StationPieces: it returns true for all inputs, and the inputs read as they did. No conditions.
-/
namespace Go.Proofs.YtchfclmokpbldaaGreat
open Go.Aw Go
open Go.ChangeShapes Go.WideShapes Go.ChangeAt Go.RowKit
namespace stationPieces
theorem walk (a0:Arr Int) (a1:Int) (w:World) (w0:∀n∈a0.l,(Lit.int .u8 n).wf=true) (r0:∀s∈[bsl a0],Rep w (Old w) s) (w1:(Lit.int .i64 a1).wf=true):
    Calls Tryz.prog 7 #[a0.val,.int .i64 a1] w fun e w'=>e=.returned (.bool true)∧Below w.heap.size w w':=by
  have h:=(Kdb a0 a1 [bsl a0] ⟨Ja (by simp),fun i b hb=>Z7f (w0 b (List.mem_of_getElem? hb))⟩ (Yhf w1)).2 w (Old w) (Ztd fun r hr=>by
    simp only [List.mem_cons,List.not_mem_nil,or_false] at hr
    rcases hr with rfl
    · exact r0 _ (by simp))
  exact h.mono fun e w' ⟨v,M,U,he,⟨hv,_,_⟩,hst⟩=>⟨by rw [he,hv],Uye hst⟩
set_option maxRecDepth 100000 in
theorem Vgf (os:Os) (started:os.Started) (H:Type) (enc:TypeId×Value→H):
    ReturnsInHanded {} Tryz.checked os 7 .any (Rows.stationPiecesSpec.pre6 enc Tryz.prog Tryz.f7 Rows.stationPiecesRow.domain false) (Rows.stationPiecesSpec.post enc Tryz.prog Tryz.f7 false true false false):=by
  refine returnsInHanded_of_change (C := Tryz.checked) Yle started (by kernel_rfl) Tryz.func7
    (ChangeSpec.witness6 (enc:=enc) (C:=Tryz.checked) false ⟨#[],#[.slice none 0 0,.int .i64 0],[]⟩ 8 (by kernel_rfl) (by kernel_rfl) (by kernel_rfl) (by kernel_rfl)) ?_
  intro W base args ds gs before hval0 hW hcnd _
  have hval:∀(j:Nat) t v,Tryz.f7.params[j]?=some t→args[j]?=some v→Value.okWide Tryz.prog W .any base t v:=hval0
  have hW':=hW
  obtain ⟨p,q,hA0,hV,rfl,hfz,hnd⟩:=hW
  have hA:DataW.TrodAll enc Tryz.prog W 0 (fun _=>true) true Tryz.f7.params.toList args.toList ds p:=hA0
  rw [Tryz.params7] at hA hval
  obtain ⟨v0,vs0,d0,ds0,p0,q0,hargs,rfl,rfl,h0,t0⟩:=trodAll_cons hA
  obtain ⟨v1,vs1,d1,ds1,p1,q1,rfl,rfl,rfl,h1,t1⟩:=trodAll_cons t0
  obtain ⟨rfl,rfl,rfl⟩:=trodAll_nil t1
  obtain rfl:args=#[v0,v1]:=by cases args;simp_all
  obtain ⟨rfl,rfl⟩:=trodVars_none hV
  obtain ⟨x0,y0,z0,rfl⟩:=okWide_slice Tryz.underlying22 (hval 0 22 v0 rfl rfl)
  have k0:=h0
  have lt0:∀x∈p0,x.block < W.heap.size:=by obtain ⟨m,hm⟩:=k0;exact DataW.trod_lt m _ _ _ hm
  obtain ⟨a0,e0,w0,r0⟩:∃a:Arr Int,_:=V8e W _ (by obtain ⟨m,hm⟩:=h0;exact ⟨_,_,m,_,hm⟩)
  obtain ⟨rfl,rfl,rfl⟩:x0=a0.a∧y0=a0.l.length∧z0=a0.cap:=by simpa [Value.cells,Arr.val] using e0
  obtain ⟨a1,rfl,rfl,rfl,w1⟩:=open_int Tryz.underlying3 (hval 1 3 v1 rfl rfl) h1
  clear hA0 hval0
  refine (walk a0 a1 W w0 r0 w1).mono fun e W' ⟨he,bel⟩=>?_
  subst he
  exact ⟨_,rfl,_,_,_,[],_,[],hW',trodAll_mk1 (shut_bool Tryz.underlying4 _),(trodAll_cons_mk (Below.trod K3f (by kernel_rfl) (of_decide_eq_true (by kernel_rfl)) k0 bel lt0) (trodAll_cons_mk (shut_int Tryz.underlying3 w1) trodAll_mk0)),rfl,bel.frame _,fun h=>by cases h⟩
end stationPieces
end Go.Proofs.YtchfclmokpbldaaGreat
end
namespace Go.Proofs.YtchfclmokpbldaaGreat
open Go.Aw Go
end Go.Proofs.YtchfclmokpbldaaGreat
