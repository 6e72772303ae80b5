/-
  Texts of one chapter, merged. By an AI agent; no person has read it.
-/
import Derived.Test.YtchfclmokpbldaaGreatLaw22d
import Derived.Test.YtchfclmokpbldaaGreatDueP
import Derived.Test.YtchfclmokpbldaaGreatFits
import Derived.Test.YtchfclmokpbldaaGreatRows
set_option linter.unusedVariables false
set_option linter.unusedSimpArgs false
set_option maxRecDepth 20000
namespace Go.Proofs.YtchfclmokpbldaaGreat
open Go.Aw Go
section
section
variable {A9 B9:Prop}
theorem K4e (a:A9) (h:A9→B9:=by exact Jx (Jn (row:=[_,_,_,_,_,_,_,_,_,_,_,_,_,_,_,_,_,_,_,_,_,_,_]) tb rfl rfl rfl (by repeat (first | exact zi0 | apply zi1 | apply zi2)) (by rfl) (by rfl)) rfl):B9:=h a
theorem Zue (a:A9) (h:A9→B9:=by exact K1 (by first | exact Jf tb rfl rfl rfl rfl (by first | assumption | exact zr (by simp)) (i:=i) (by first | rfl | omega | (simp;omega)) (by omega) | exact Jq tb rfl rfl rfl rfl (i:=i) (by first | rfl | omega | (simp;omega)) (by omega)) rfl rfl rfl):B9:=h a
theorem Ulf (a:A9) (h:A9→B9:=by exact Jx (Jn (row:=[_,_,_]) tb rfl rfl rfl (by repeat (first | exact zi0 | apply zi1 | apply zi2)) (by rfl) (by rfl)) rfl):B9:=h a
theorem U4f (a:A9) (h:A9→B9:=by exact Jx (Jn (row:=[_,_,_,_,_]) tb rfl rfl rfl (by repeat (first | exact zi0 | apply zi1 | apply zi2)) (by rfl) (by rfl)) rfl):B9:=h a
end
structure WayD (g:PSite) (j:Nat) (p:PSta) (x:XSta) (R S:List Sl):Prop where
  inv:Inv g p
  is:StaIs g p x
  at_:StaR x S
  time:p.time≤4 * (j:Int)
  meas:MeasI p.time p.meas
  drop:0≤p.dropped∧p.dropped≤100100 * (j:Int)
  sub:∀r∈R,InR r S
attribute [local irreducible] CJ LJ DJ Tri YV Gives Ur J3 Ko Uq RV J5 OwL.L
set_option maxHeartbeats 1000000 in
theorem Jgc (y:Arr Int) (early:Int) (R:List Sl) (hy:CodesR y R) (hea:0≤early∧early≤255):
    Tri Tryz.prog 12 [y.val,.int .u8 early].toArray [] R (fun v M U=>v=.bool true∧[]=M∧R=U):=by
  refine Jd 182 Tryz.call12 Tryz.func12 rfl rfl rfl ?_
  apply (Xba)
  apply (Xd1)
  refine Jm rfl (Kde y _ _ hy) rfl ?_
  rintro v M U ⟨c,rfl,hx,rfl,rfl⟩
  apply (qc1)
  apply (Xdi)
  refine Jm rfl (Y1c c _ 0 _ hx (Nat.zero_le _)) rfl ?_
  rintro v M U ⟨s,u0,z0,k1,rfl,hsd,hk1,⟨hs,_,_,hR1⟩,rfl⟩
  refine Jx (J0 rfl) rfl ?_
  iterate 3 apply (qbs)
  apply (qaq)
  intro b6
  apply (qaq)
  intro b7
  apply (qaq)
  intro b8
  iterate 3 apply (qak)
  apply (qa4)
  have hx1:CodesR (K1a y) U:=⟨hx.1.mono hR1,hx.2⟩
  have hnz:=hsd.nzone
  refine Vd (M:=⟨b6,s.cells,38⟩ :: cblk c (K1a y) k1 :: []) (by repeat (first | exact zs0 _ | exact zs1 _ | apply zs2 | apply zs3 | apply zs4 | apply zs5)) (Jc _) ?_
  apply (Xb3)
  apply (Xab)
  refine Jm rfl (Tri.spl (.consB (.consL .nil)) (Ucd c _ k1 s.zones.l.length _ hx1 hk1 (by omega))) rfl ?_
  rintro v M U ⟨_,rfl,f,k2,rfl,hfn,hfz,hfe,hfs,hk2,⟨hf,hR2⟩,rfl⟩
  apply (qaq)
  intro b9
  apply (Xcx)
  have hx2:CodesR (K1a y) U:=⟨hx1.1.mono hR2,hx1.2⟩
  have hs2:=hs.mono hR2
  obtain ⟨A,hA⟩:=Kje s.air.mine
  have h0:Uya s f=0:=Vvf hsd.ok.err hfe hfz hfs
  have hI:=Uqc (A:=A) h0 hA
  apply (qay)
  refine Jx (Jn (row:=[_,_,_,_,_,_,_,_]) tb rfl rfl rfl (by repeat (first | exact zi0 | apply zi1 | apply zi2)) (by rfl) (by rfl)) rfl ?_
  refine Ulf ?_
  refine Jm rfl (Ztb s f A _ _ hs2 hf hA) rfl ?_
  rintro v M U ⟨x,S1,rfl,hxR,hx0,_,rfl,rfl⟩
  rw [h0]
  have hxs:=hx0 h0
  refine Jx (J0 rfl) rfl ?_
  apply (Xdv)
  intro b10
  apply (qak)
  apply (Xdf)
  apply (Xat)
  refine q_c (fun hc0=>?_) (fun hc0=>?_)
  ·
   apply (Xc8)
   refine Kw (M:=[]) (U:=R) (U8 rfl (Jj (show _=Value.bool _ from rfl))) ?hp ?hL ?hR
   case hp=>exact absurd hc0 (by simp)
   case hL=>exact (by repeat (first | exact zs0 _ | exact zs1 _ | apply zs2 | apply zs3 | apply zs4 | apply zs5))
   case hR=>exact fun r hr=>(hR1 r (.tail _ hr)).mono fun r hr=>(hR2 r hr).mono fun r hr=>Ja (by simp [hr])
  refine J1 (Jb (Jp (Jp ?_)))
  have hx3:CodesR (K1a y) (S1 ++ U):=⟨hx2.1.mono fun r hr=>Ja (List.mem_append_right _ hr),hx2.2⟩
  apply (Xb3)
  refine Jm rfl (Tri.spl (.consB (.consB (.consB (.consL .nil)))) (Kif c _ k2 5 _ hx3 hk2 (by omega))) rfl ?_
  rintro v M U ⟨_,rfl,q,k3,rfl,hq,hqw,hqn,hk3,hR3,rfl⟩
  apply (qag)
  apply (Xap)
  refine Jl [(1,Value.int _ _),(10,Value.pointer _),(40,Value.slice _ _ _),(41,Value.int _ _),(42,Value.int _ _)] (by repeat' (first | exact trivial | refine And.intro rfl ?_)) fun tq0=>?_
  refine Kk (T:=144) (f:=XAct.cells) (wd:=5) q (q.l.map fun a=>bsl a.bytes) (by repeat (first | apply OSeg.cons | exact OSeg.here | exact OSeg.last | exact OSeg.at (by assumption) | apply OSeg.app)) (fun _=>rfl) (by decide) hq.ok (fun s hs=>by
    obtain ⟨a,ha,rfl⟩:=List.mem_map.1 hs
    exact (hq.all a ha).bytes) ?_
  refine Vd (M:=⟨b10,x.cells,54⟩ :: []) (by repeat (first | exact zs0 _ | exact zs1 _ | apply zs2 | apply zs3 | apply zs4 | apply zs5)) (Jc _) ?_
  obtain ⟨R2,hR2e⟩:∃R2,R2=Vqg q.arr :: U:=⟨_,rfl⟩
  have hqR:InR (Vqg q.arr) R2:=Ja (by rw [hR2e];exact .head _)
  have hR2':∀r∈U,InR r R2:=fun r hr=>Ja (by rw [hR2e];exact .tail _ hr)
  have hfin:∀r∈R,InR r R2:=fun r hr=>(hR1 r (.tail _ hr)).mono fun r hr=>(hR2 r hr).mono fun r hr=>(hR3 r (List.mem_append_right _ hr)).mono hR2'
  have hW0:WayD (gOf s f A) 0 (Vmc s f) x R2 R2:=⟨hI,hxs,hxR.mono fun r hr=>(hR3 r hr).mono hR2',Int.le_refl _,fun i hi=>by
    have:(Vmc s f).meas=List.replicate s.sensors.l.length Jda:=rfl
    rw [this,List.length_replicate] at hi
    rw [this,List.getD_eq_getElem?_getD,List.getElem?_replicate,if_pos hi]
    exact ⟨Int.le_refl _,.inl (by decide)⟩,⟨Int.le_refl _,Int.le_refl _⟩,fun r hr=>Ja hr⟩
  refine Ujb (show _=R2 by rw [hR2e]) ?_
  refine q_p [13,42,43,44,45,46,47,48,49,50,51,52] ((⟨fun g=>[(42,.int .i64 ((g.1.1:Nat):Int))],fun g=>⟨b10,g.1.2.2.1.cells,54⟩ :: [],fun g=>g.1.2.2.2,fun g=>q.l.length - g.1.1⟩:Head {g:Nat×PSta×XSta×List Sl // g.1≤q.l.length∧WayD (gOf s f A) g.1 g.2.1 g.2.2.1 R2 g.2.2.2})) (⟨(0,Vmc s f,x,R2),by dsimp only;omega,hW0⟩) ?_
  rintro ⟨⟨j,p,u,S⟩,hj,hW⟩ junk
  try dsimp only
  dsimp only at hj hW
  obtain ⟨hIp,hup,huR,htm,hme,hdrop,hsub⟩:=hW
  have hqS:=hqR.mono hsub
  have hut:=hup.time
  have hp0:=hIp.time
  apply (Xan)
  refine q_c (fun hc1=>?_) (fun hc1=>?_)
  ·
   have hg:=Ju (l:=q.l) (k:=j) default (by omega)
   obtain ⟨a,hae⟩:∃a,a=q.l.getD j default:=⟨_,rfl⟩
   rw [← hae] at hg
   have ham:=List.mem_of_getElem? hg
   have haR:=hq.all a ham
   have haw:=hqw a ham
   have hsubR:=fun r hr=>(hR2' r hr).mono hsub
   apply (qbb)
   refine Jx (by first | exact Jf tb rfl rfl rfl rfl (by first | assumption | exact zr (by simp)) (i:=j) (by first | rfl | omega | (simp;omega)) (by omega) | exact Jq tb rfl rfl rfl rfl (i:=j) (by first | rfl | omega | (simp;omega)) (by omega)) rfl ?_
   apply (Xdy)
   intro b13
   apply (qak)
   refine J7 (Jb (Jg ?_))
   refine K4e ?_
   refine U4f ?_
   refine Jm rfl (J3f (gOf s f A) p u a _ _ hIp hup huR (haR.bytes.mono hsubR) haR.ok (by omega)) rfl ?_
   rintro v M U ⟨w,S3,rfl,hw,hwR,rfl,rfl⟩
   have hIq:=hIp.done haR.ok
   have hdq:=Uqe hIp haR.ok
   have hdi:=Z0f hIp hme a.p haw.1
   obtain ⟨d,hde⟩:∃d,d=Kva (gOf s f A) p a.p:=⟨_,rfl⟩
   rw [← hde] at hw hIq hdq hdi ⊢
   have hap:a.p.wait=a.wait:=rfl
   refine Jx (J0 rfl) rfl ?_
   apply (Xbb)
   apply (qak)
   apply (Xbl)
   exact q_k ⟨(j + 1,d.1,w,S3 ++ S),by dsimp only;omega,⟨hIq,hw,hwR,by dsimp only;omega,hdi.1,by dsimp only;omega,fun r hr=>(hsub r hr).mono fun r hr=>Ja (List.mem_append_right _ hr)⟩⟩
  obtain rfl:j=q.l.length:=by omega
  apply (qbk)
  refine K4e ?_
  apply (Xaa)
  apply (qar)
  refine Jm rfl (Vsa (gOf s f A) p u (u.time + 1) _ _ hIp hup huR) rfl ?_
  rintro v M U ⟨x1,Sa,rfl,hx1,hx1R,rfl,rfl⟩
  have hl1:¬ Zt p (u.time + 1):=by rw [Zt,hut];omega
  have e1:Yxa (gOf s f A) p (u.time + 1)=(Jh (gOf s f A) p (u.time + 1),0):=by rw [Yxa,if_neg hl1]
  have hI1:=hIp.tick (u.time + 1)
  rw [e1] at hx1 hI1
  have hm1:=Vpb (g:=(gOf s f A)) (p:=p) (hme.mono (t:=u.time + 1) (by omega))
  have hd1:=(K3a (g:=(gOf s f A)) (p:=p) (u.time + 1)).dropped
  have ht1:=Yn (g:=(gOf s f A)) (p:=p) (u.time + 1)
  obtain ⟨p1,hp1⟩:∃p1,p1=Jh (gOf s f A) p (u.time + 1):=⟨_,rfl⟩
  dsimp only at hx1 hI1
  rw [← hp1] at hx1 hI1 hm1 hd1 ht1
  have hx1t:=hx1.time
  refine Jx (J0 rfl) rfl ?_
  apply (Xbb)
  apply (Xcx)
  obtain ⟨T,hTe⟩:∃T,T=x1.time + 201 * early.tmod 2:=⟨_,rfl⟩
  have hTb:p1.time≤T∧T≤p1.time + 201:=by rw [hTe,hx1t,Int.tmod_eq_emod_of_nonneg hea.1];omega
  have hTm:0≤early.tmod 2∧early.tmod 2≤1:=by rw [Int.tmod_eq_emod_of_nonneg hea.1];omega
  apply (qay)
  refine K4e ?_
  apply (Xai)
  apply (qda)
  apply (qdg)
  apply (qcm)
  apply (qar)
  rw [← hTe]
  refine Jm rfl (Vsa (gOf s f A) p1 x1 T _ _ hI1 hx1 hx1R) rfl ?_
  rintro v M U ⟨x2,Sb,rfl,hx2s,hx2R,rfl,rfl⟩
  have hl2:¬ Zt p1 T:=by rw [Zt];omega
  have e2:Yxa (gOf s f A) p1 T=(Jh (gOf s f A) p1 T,0):=by rw [Yxa,if_neg hl2]
  have hI2:=hI1.tick T
  rw [e2] at hx2s hI2 ⊢
  have ht2:=Yn (g:=(gOf s f A)) (p:=p1) T
  have hme2:=(K3a (g:=(gOf s f A)) (p:=p1) T).meas
  obtain ⟨p2,hp2⟩:∃p2,p2=Jh (gOf s f A) p1 T:=⟨_,rfl⟩
  dsimp only at hx2s hI2 ⊢
  rw [← hp2] at hx2s hI2 ht2 hme2
  have hx2t:=hx2s.time
  refine Jx (J0 rfl) rfl ?_
  apply (Xbb)
  apply (qak)
  apply (Xag)
  refine K4e ?_
  refine q_l rfl (J8e (gOf s f A) p2 x2 _ _ hI2 hx2s hx2R) ?_
  apply (qad)
  apply (qco)
  obtain ⟨du,hdu⟩:∃du,du=Jle (gOf s f A) p2:=⟨_,rfl⟩
  have hdgt:p2.time < du:=by rw [hdu,Jle];split <;> omega
  have hfa:=U8e hI2
  rw [← hdu] at hfa ⊢
  have hfS:∀r∈R,InR r (Sb ++ (Sa ++ S)):=fun r hr=>(hfin r hr).mono fun r hr=>(hsub r hr).mono fun r hr=>Ja (by simp [hr])
  apply (Xa7)
  apply (Xb5)
  apply Kf (G:=[_,_,_,_]) (j:=2) (cj:=77) rfl rfl (by rfl) rfl (show _=Value.bool _ from rfl) rfl
  ·
   intro hg3
   replace hg3:=qb hg3
   apply (Xd8)
   apply (qbx)
   exact qai
  intro junk3
  apply (qaf)
  refine q_c (fun hc2=>?_) (fun hc2=>?_)
  ·
   apply (Xc8)
   refine Kw (M:=[]) (U:=R) (U8 rfl (Jj (show _=Value.bool _ from rfl))) ?hp ?hL ?hR
   case hp=>exact absurd hc2 (by simp;omega)
   case hL=>exact (by repeat (first | exact zs0 _ | exact zs1 _ | apply zs2 | apply zs3 | apply zs4 | apply zs5))
   case hR=>exact hfS
  apply (qbo)
  apply (Xd8)
  apply (qar)
  apply (Xcc)
  apply Kf (G:=[_,_]) (j:=5) (cj:=88) rfl rfl (by rfl) rfl (show _=Value.bool _ from rfl) rfl
  ·
   intro hg6
   replace hg6:=qb hg6
   apply (qaa)
   apply (qbn)
   exact qai
  intro junk6
  apply (qaf)
  refine q_c (fun hc3=>?_) (fun hc3=>?_)
  ·
   apply (qae)
   refine q_l rfl (Zbb _ _) ?_
   apply (qaz)
   apply (qbh)
   refine Kw (M:=[]) (U:=R) (U8 rfl (Jj (show _=Value.bool _ from rfl))) ?hp ?hL ?hR
   case hp=>exact ⟨rfl,rfl,rfl⟩
   case hL=>exact (by repeat (first | exact zs0 _ | exact zs1 _ | apply zs2 | apply zs3 | apply zs4 | apply zs5))
   case hR=>exact hfS
  have hdn:¬ du=p2.time + 1∧¬ du=1099511627776:=by omega
  obtain ⟨hbl,hdF,hgt,hle⟩:=hfa hdn.1 hdn.2
  rw [hme2,ht2] at hbl
  rw [hp2] at hdF
  obtain ⟨W,hset,hsame⟩:=Vef (g:=(gOf s f A)) hI1 (T:=T) (t:=du - 1) ⟨hTb.1,by have:=hI2.time;omega⟩ (hm1.mono (by omega)) hbl (by omega) (by omega)
  rw [← hp2] at hset hsame
  rw [ht1] at hTb
  apply (qbv)
  refine K4e ?_
  apply (Xbi)
  refine Jm rfl (Vsa (gOf s f A) p2 x2 (du - 1) _ _ hI2 hx2s hx2R) rfl ?_
  rintro v M U ⟨x3,Sc,rfl,hx3,hx3R,rfl,rfl⟩
  have hl3:¬ Zt p2 (du - 1):=by rw [Zt];omega
  have e3:Yxa (gOf s f A) p2 (du - 1)=({ p2 with time:=du - 1,watches:=W },0):=by rw [Yxa,if_neg hl3,hset]
  rw [e3] at hx3 ⊢
  dsimp only at hx3 ⊢
  refine Jx (J0 rfl) rfl ?_
  apply (Xdv)
  intro b15
  apply (Xdw)
  apply (qco)
  have hx2R':=hx2R.mono (U:=Sc ++ (Sb ++ (Sa ++ S))) fun r hr=>Ja (List.mem_append_right _ hr)
  have hw3:x3.watches.l=W:=hx3.watches
  have hw2:x2.watches.l=p2.watches:=hx2s.watches
  have hwl:x3.watches.l.length=x2.watches.l.length:=by rw [hw3,hw2];exact hsame.len
  have hwl2:p2.watches.length≤100:=by rw [hI2.wlen];show s.conds.l.length≤100;have:=hsd.ncond;omega
  have hw2R:=hx2R'.watches
  have hw3R:=hx3R.watches
  have hfS3:∀r∈R,InR r (Sc ++ (Sb ++ (Sa ++ S))):=fun r hr=>(hfS r hr).mono fun r hr=>Ja (List.mem_append_right _ hr)
  apply (Xa7)
  apply (Xb5)
  apply Kf (G:=[_,_,_,_,_,_,_]) (j:=2) (cj:=102) rfl rfl (by rfl) rfl (show _=Value.bool _ from rfl) rfl
  ·
   intro hg3
   replace hg3:=qb hg3
   apply (Xab)
   apply (Xab)
   apply (qbq)
   exact qai
  intro junk3
  apply (qaf)
  refine q_c (fun hc4=>?_) (fun hc4=>?_)
  ·
   apply (Xc8)
   refine Kw (M:=[]) (U:=R) (U8 rfl (Jj (show _=Value.bool _ from rfl))) ?hp ?hL ?hR
   case hp=>exact absurd hwl (by simp at hc4;omega)
   case hL=>exact (by repeat (first | exact zs0 _ | exact zs1 _ | apply zs2 | apply zs3 | apply zs4 | apply zs5))
   case hR=>exact hfS3
  apply (Xc0)
  refine Jl [(10,Value.pointer _),(14,Value.int _ _),(15,Value.pointer _),(113,Value.int _ _),(114,Value.int _ _)] (by repeat' (first | exact trivial | refine And.intro rfl ?_)) fun tq1=>?_
  refine q_s [4,17,114,115,116,117,118,119,120,121,122,123,124,125,126,127,128,129,130,131,132,133,134,135,136,137,138,139,140,141,142,143,144,145] (fun g:{i:Nat // i≤x3.watches.l.length}=>[(114,.int .i64 ((g.1:Nat):Int))]) (fun g=>x3.watches.l.length - g.1) (⟨0,by omega⟩) ?_
  rintro ⟨i,hi⟩ junk
  try dsimp only
  apply (Xan)
  refine q_c (fun hc5=>?_) (fun hc5=>?_)
  ·
   have hn2:x2.watches.l.length≤100:=by rw [hw2];exact hwl2
   have hg3:=Ju (l:=x3.watches.l) (k:=i) default (by omega)
   have hg2:=Ju (l:=x2.watches.l) (k:=i) default (by omega)
   have hsm:=hsame.at_ i (by rw [← hw2];omega)
   rw [← hw3,← hw2] at hsm
   obtain ⟨w3,hw3e⟩:∃w3,w3=x3.watches.l.getD i default:=⟨_,rfl⟩
   obtain ⟨w2,hw2e⟩:∃w2,w2=x2.watches.l.getD i default:=⟨_,rfl⟩
   rw [← hw3e] at hg3 hsm
   rw [← hw2e] at hg2 hsm
   apply (Xa9)
   apply (Xcd)
   refine Kh tb [0,1,2,3,4,5,6,7,8,9,10,11,12,13,14,15,16,17,18,19,20,21,22,23,24,25,26,27] ([Blk.mk b15 _ _,Blk.mk b10 _ _]) Kq (by kernel_rfl) (by repeat (first | exact zs0 _ | exact zs1 _ | apply zs2 | apply zs3 | apply zs4 | apply zs5)) ?_
   apply (Xbn)
   refine Zue ?_
   apply (Xee)
   apply (Xbn)
   refine Zue ?_
   apply (Xee)
   refine K1 (Vqd tb rfl rfl rfl) rfl rfl rfl ?_
   apply (qb2)
   refine Yh (k:=130) (show _=Value.bool _ from rfl) (fun hg13=>?_) (fun hg13=>?_)
   ·
    replace hg13:=qb hg13
    first | exact absurd hsm.1 hg13 | (simp [hsm.1] at hg13)
   replace hg13:=qb hg13
   apply (Xbn)
   refine Zue ?_
   apply (Xee)
   apply (Xbn)
   refine Zue ?_
   apply (Xee)
   refine K1 (Vcb rfl rfl) rfl rfl rfl ?_
   apply (Xb8)
   refine q_c (fun hc6=>?_) (fun hc6=>?_)
   ·
    apply (Xdl)
    refine Kw (M:=[]) (U:=R) (U8 rfl (Jj (show _=Value.bool _ from rfl))) ?hp ?hL ?hR
    case hp=>exact absurd hc6 (by simp [hsm.2])
    case hL=>exact (by repeat (first | exact zs0 _ | exact zs1 _ | apply zs2 | apply zs3 | apply zs4 | apply zs5))
    case hR=>exact hfS3
   apply (Xa0)
   exact q_k (⟨i + 1,by omega⟩)
  apply (qbk)
  apply (Xa6)
  refine q_l rfl (Ktd x2.log x3.log _ _ hx2R'.log hx3R.log (by rw [hx2s.log,hx3.log])) ?_
  apply (qah)
  apply Us (G:=[_,_,_,_,_]) (j:=5) (cj:=151) rfl rfl (by rfl) rfl (show _=Value.bool _ from rfl) rfl
  ·
   intro hg6
   replace hg6:=qb hg6
   apply (qab)
   refine Ulf ?_
   apply (qab)
   refine Ulf ?_
   refine q_l rfl (Jzc x2.feeder x3.feeder _ _ hx2R'.feeder hx3R.feeder (by rw [hx2s.sw,hx3.sw]) (by rw [hx2s.zn,hx3.zn]) (by rw [hx2s.rp,hx3.rp])) ?_
   exact qai
  intro junk6
  apply (qah)
  apply Us (G:=[_,_,_,_,_]) (j:=12) (cj:=158) rfl rfl (by rfl) rfl (show _=Value.bool _ from rfl) rfl
  ·
   intro hg13
   replace hg13:=qb hg13
   apply (Xa6)
   refine q_l rfl (Z7c x2.cuts x3.cuts _ _ hx2R'.cuts hx3R.cuts (by rw [hx2s.cuts,hx3.cuts])) ?_
   exact qai
  intro junk13
  apply (qah)
  apply Us (G:=[_,_,_,_,_]) (j:=19) (cj:=165) rfl rfl (by rfl) rfl (show _=Value.bool _ from rfl) rfl
  ·
   intro hg20
   replace hg20:=qb hg20
   apply (qab)
   refine U4f ?_
   apply (qab)
   refine U4f ?_
   refine Jx (Udc Vsd rfl rfl (by repeat (first | exact trivial | refine ⟨trivial,?_⟩)) (by repeat (first | exact trivial | refine ⟨trivial,?_⟩)) rfl) rfl ?_
   exact qai
  intro junk20
  apply (qah)
  apply Us (G:=[_,_,_,_,_]) (j:=26) (cj:=172) rfl rfl (by rfl) rfl (show _=Value.bool _ from rfl) rfl
  ·
   intro hg27
   replace hg27:=qb hg27
   apply (Xdp)
   apply (qbn)
   exact qai
  intro junk27
  apply (qah)
  apply Us (G:=[_]) (j:=33) (cj:=179) rfl rfl (by rfl) rfl (show _=Value.bool _ from rfl) rfl
  ·
   intro hg34
   replace hg34:=qb hg34
   refine q_l rfl (Zbb _ _) ?_
   exact qai
  intro junk34
  apply (Xbf)
  refine Kw (M:=[]) (U:=R) (U8 rfl (Jj (show _=Value.bool _ from rfl))) ?hp ?hL ?hR
  case hp=>
   have hr:x3.rest=x2.rest:=by rw [hx3.rest,hx2s.rest]
   have htt:x3.time=du - 1:=hx3.time
   exact ⟨by rw [hr,htt];simp [Vp,Ybb],rfl,rfl⟩
  case hL=>exact (by repeat (first | exact zs0 _ | exact zs1 _ | apply zs2 | apply zs3 | apply zs4 | apply zs5))
  case hR=>exact hfS3
end
end Go.Proofs.YtchfclmokpbldaaGreat
section
/-
  The statement StationDue: it returns true for all inputs, and the inputs read as they did. No conditions.
-/
namespace Go.Proofs.YtchfclmokpbldaaGreat
open Go.Aw Go
open Go.ChangeShapes Go.WideShapes Go.ChangeAt Go.RowKit
namespace stationDue
theorem walk (a0:Arr Int) (a1:Int) (w:World) (w0:∀n∈a0.l,(Lit.int .u8 n).wf=true) (r0:∀s∈[bsl a0],Rep w (Old w) s) (w1:(Lit.int .u8 a1).wf=true):
    Calls Tryz.prog 12 #[a0.val,.int .u8 a1] w fun e w'=>e=.returned (.bool true)∧Below w.heap.size w w':=by
  have h:=(Jgc a0 a1 [bsl a0] ⟨Ja (by simp),fun i b hb=>Kqg (w0 b (List.mem_of_getElem? hb))⟩ (Kqg w1)).2 w (Old w) (Yke fun r hr=>by
    simp only [List.mem_cons,List.not_mem_nil,or_false] at hr
    rcases hr with rfl
    · exact r0 _ (by simp))
  exact h.mono fun e w' ⟨v,M,U,he,⟨hv,_,_⟩,hst⟩=>⟨by rw [he,hv],Kcf hst⟩
set_option maxRecDepth 100000 in
theorem Zuf (os:Os) (started:os.Started) (H:Type) (enc:TypeId×Value→H):
    ReturnsInHanded {} Tryz.checked os 12 .any (Rows.stationDueSpec.pre6 enc Tryz.prog Tryz.f12 Rows.stationDueRow.domain false) (Rows.stationDueSpec.post enc Tryz.prog Tryz.f12 false true false false):=by
  refine returnsInHanded_of_change (C := Tryz.checked) Kff started (by kernel_rfl) Tryz.func12
    (ChangeSpec.witness6 (enc:=enc) (C:=Tryz.checked) false ⟨#[],#[.slice none 0 0,.int .u8 0],[]⟩ 8 (by kernel_rfl) (by kernel_rfl) (by kernel_rfl) (by kernel_rfl)) ?_
  intro W base args ds gs before hval0 hW hcnd _
  have hval:∀(j:Nat) t v,Tryz.f12.params[j]?=some t→args[j]?=some v→Value.okWide Tryz.prog W .any base t v:=hval0
  have hW':=hW
  obtain ⟨p,q,hA0,hV,rfl,hfz,hnd⟩:=hW
  have hA:DataW.TrodAll enc Tryz.prog W 0 (fun _=>true) true Tryz.f12.params.toList args.toList ds p:=hA0
  rw [Tryz.params12] at hA hval
  obtain ⟨v0,vs0,d0,ds0,p0,q0,hargs,rfl,rfl,h0,t0⟩:=trodAll_cons hA
  obtain ⟨v1,vs1,d1,ds1,p1,q1,rfl,rfl,rfl,h1,t1⟩:=trodAll_cons t0
  obtain ⟨rfl,rfl,rfl⟩:=trodAll_nil t1
  obtain rfl:args=#[v0,v1]:=by cases args;simp_all
  obtain ⟨rfl,rfl⟩:=trodVars_none hV
  obtain ⟨x0,y0,z0,rfl⟩:=okWide_slice Tryz.underlying22 (hval 0 22 v0 rfl rfl)
  have k0:=h0
  have lt0:∀x∈p0,x.block < W.heap.size:=by obtain ⟨m,hm⟩:=k0;exact DataW.trod_lt m _ _ _ hm
  obtain ⟨a0,e0,w0,r0⟩:∃a:Arr Int,_:=Zde W _ (by obtain ⟨m,hm⟩:=h0;exact ⟨_,_,m,_,hm⟩)
  obtain ⟨rfl,rfl,rfl⟩:x0=a0.a∧y0=a0.l.length∧z0=a0.cap:=by simpa [Value.cells,Arr.val] using e0
  obtain ⟨a1,rfl,rfl,rfl,w1⟩:=open_int Tryz.underlying5 (hval 1 5 v1 rfl rfl) h1
  clear hA0 hval0
  refine (walk a0 a1 W w0 r0 w1).mono fun e W' ⟨he,bel⟩=>?_
  subst he
  exact ⟨_,rfl,_,_,_,[],_,[],hW',trodAll_mk1 (shut_bool Tryz.underlying4 _),(trodAll_cons_mk (Below.trod Vrf (by kernel_rfl) (of_decide_eq_true (by kernel_rfl)) k0 bel lt0) (trodAll_cons_mk (shut_int Tryz.underlying5 w1) trodAll_mk0)),rfl,bel.frame _,fun h=>by cases h⟩
end stationDue
end Go.Proofs.YtchfclmokpbldaaGreat
end
namespace Go.Proofs.YtchfclmokpbldaaGreat
open Go.Aw Go
end Go.Proofs.YtchfclmokpbldaaGreat
