/-
  Stations: answers, asking, confirming, the program's side. By an AI agent; no person has read it.
-/
import Derived.Test.YtchfclmokpbldaaGreatStaD
set_option linter.unusedVariables false
set_option linter.unusedSimpArgs false
namespace Go.Proofs.YtchfclmokpbldaaGreat
open Go.Aw Go
set_option maxRecDepth 20000
attribute [local irreducible] CJ LJ DJ Tri YV Gives Jcj Ja1 Jbg Jci RV Ja2 OwL.L
section
variable {A9 B9:Prop}
theorem Jk5 (a:A9) (h:A9→B9:=by exact Jax (Jal (row:=[_,_,_,_,_,_,_,_,_,_,_,_,_,_,_,_,_,_,_,_,_,_,_]) tb rfl rfl rfl zf zb zb) rfl):B9:=h a
theorem Jw4 (a:A9) (h:A9→B9:=by exact Jbe (T:=93) (f:=XMeas.cells) (wd:=4) pm [] zk (fun _=>rfl) ze hK.km (fun s hs=>by cases hs)):B9:=h a
theorem J6g (a:A9) (h:A9→B9:=by exact Jbe (T:=150) (f:=XEntry.cells) (wd:=4) pl [] zk (fun _=>rfl) ze hK.kl (fun s hs=>by cases hs)):B9:=h a
theorem J48 (a:A9) (h:A9→B9:=by exact Jbe (T:=150) (f:=XEntry.cells) (wd:=4) q2 [] zk (fun _=>rfl) ze hq2k (fun s hs=>by cases hs)):B9:=h a
theorem J8j (a:A9) (h:A9→B9:=by exact Jg4 tb rfl rfl rfl rfl zA zb zb zb):B9:=h a
theorem J93 (a:A9) (h:A9→B9:=by exact Jax (Jal (row:=[_,_,_]) tb rfl rfl rfl zf zb zb) rfl):B9:=h a
theorem Kcu (a:A9) (h:A9→B9:=by exact Jbe (T:=3) (f:=Jap) (wd:=1) qa [] zk (fun _=>rfl) ze hqak (fun s hs=>by cases hs)):B9:=h a
theorem Kbu (a:A9) (h:A9→B9:=by exact Jbe (T:=76) (f:=XSwitch.cells) (wd:=5) pa [] zk (fun _=>rfl) ze hpak (fun s hs=>by cases hs)):B9:=h a
theorem J90 (a:A9) (h:A9→B9:=by exact Jbu (Jal (row:=[_,_,_,_,_,_,_,_]) tb rfl rfl rfl zf zb zb) rfl rfl rfl):B9:=h a
theorem Ka9 (a:A9) (h:A9→B9:=by exact Jbu (Jal (row:=[_,_,_,_,_,_,_,_,_,_,_,_,_,_,_,_,_,_,_,_,_,_,_]) tb rfl rfl rfl zf zb zb) rfl rfl rfl):B9:=h a
theorem Kbt (a:A9) (h:A9→B9:=by exact Jbu (Jal (row:=[_,_,_,_,_]) tb rfl rfl rfl zf zb zb) rfl rfl rfl):B9:=h a
theorem J9z (a:A9) (h:A9→B9:=by exact Jei rfl (Jlk (⟨s,t,h,x.dropped,pm.arr,w2,c2,f2,(Jaj g p t).rest,q.arr⟩:XSta) g.air _ _ hv2 hA2) rfl rfl):B9:=h a
theorem Kae (h:B9:=by exact ⟨(⟨s,t,h,x.dropped,pm.arr,w2,c2,f2,(Jaj g p t).rest,q2.arr⟩:XSta),Jey q2.arr :: (S2 ++ (Jde pm.arr :: S0)),by rw [e1],by rw [e1];exact hS.note hq2l,⟨hK.site.mono h4,hK.held.mono h4,(h5 _ (.head _)).mono h3,hw2.mono h3,hc2.mono h3,hf2.mono h3,Jaa (.head _)⟩,rfl,rfl⟩):B9:=h
theorem Ka1 (a:A9) (h:A9→B9:=by exact Jax (Jal (row:=[_,_,_,_,_]) tb rfl rfl rfl zf zb zb) rfl):B9:=h a
end
theorem StaIs.flows {g:PSite} {q:PSta} {x:XSta} (h:StaIs g q x):Jiz x.site g.air x.meas.l x.time=flP g q:=by rw [SiteE.flows h.site,h.meas,h.time,flP]
theorem Jsl (g:PSite) (p:PSta) (x:XSta) (k sh t:Int) (L:List Blk) (R:List Sl) (hI:Inv g p) (hx:StaIs g p x) (hR:StaR x R):
    Tri Tryz.prog 80 [x.val,.int .i64 k,.int .i64 sh,.int .i64 t].toArray L R (Jic g (Jhp g p k sh t) L R):=by
  refine Jad 36 Tryz.call80 Tryz.func80 rfl rfl rfl ?_
  refine Xaf ?_
  intro b4
  refine qaq ?_
  intro b8
  refine Xag ?_
  refine Jk5 ?_
  refine Jaw rfl (Jeu x _ _ (.of hI hx) hR) rfl ?_
  rintro v L' R' ⟨s,h,w,c,f,pm,pl,S0,rfl,hK,rfl,rfl⟩
  refine qaq ?_
  intro b10
  refine Xba ?_
  refine Jk5 ?_
  refine qaa ?_
  refine q_l rfl (Jfp x t _ _) ?_
  refine qaf ?_
  refine q_c (fun hc0=>?_) (fun hc0=>?_)
  ·
   refine Jam ?_
   refine Jw4 ?_
   refine Jcy zp ?_
   refine J6g ?_
   refine Jcy zp ?_
   refine qay ?_
   refine Jk5 ?_
   refine Xa0 ?_
   refine q_r (L':=L) (R':=((Jey pl.arr :: Jde pm.arr :: S0) ++ R)) (Jcf rfl (Jao (row:=[_,_,_,_,_,_,_,_,_,_,_,_,_,_,_,_,_,_,_,_,_,_,_]) tb rfl rfl rfl zf zb zb) (Jaf (show _=Value.int _ _ from rfl))) ?_
   have hl:Jfl p t:=(Jgg hx).1 zE
   exact ⟨(⟨s,x.time,h,x.dropped,pm.arr,w,c,f,x.rest,pl.arr⟩:XSta),Jey pl.arr :: Jde pm.arr :: S0,by rw [Jhp,if_pos hl],by rw [Jhp,if_pos hl];exact hK.is hx,hK.fin (fun r hr=>Jaa (.tail _ (.tail _ hr))) (Jaa (.tail _ (.head _))) (Jaa (.head _)),rfl,rfl⟩
  have hl:¬ Jfl p t:=fun h=>absurd ((Jgg hx).2 h) zE
  have ht:=Jja hl
  have hIs:=hK.is hx
  have hfs:f.switches.l=p.sw:=hIs.sw
  have hfz:f.zones.l=g.zn:=hIs.zn
  have hfr:f.reply=g.rp:=hIs.rp
  have hAE:Jd0 f.switches.l f.zones.l f.reply k sh=Jd0 p.sw g.zn g.rp k sh:=by rw [hfs,hfz,hfr]
  refine qbv ?_
  refine qab ?_
  refine J93 ?_
  refine Xbw ?_
  refine Jaw rfl (Jqb f k sh _ _ hK.feeder) rfl ?_
  rintro v L' R' ⟨pa,qa,ra,rfl,⟨hpak,hqak⟩,han,rfl,rfl⟩
  refine Jax (Jav rfl) rfl ?_
  refine Xcs ?_
  intro b11
  refine qak ?_
  refine Xc0 ?_
  refine Xaq ?_
  refine q_c (fun hc1=>?_) (fun hc1=>?_)
  ·
   refine Jam ?_
   refine Kcu ?_
   refine Jcy zp ?_
   refine Kbu ?_
   refine Jcy zp ?_
   refine Jc3 (R':=S0 ++ R) (List.Sublist.refl _) (fun r hr=>Jaa (.tail _ (.tail _ hr))) ?_
   refine Jw4 ?_
   refine Jcy zp ?_
   refine J6g ?_
   refine Jcy zp ?_
   refine qay ?_
   refine Jk5 ?_
   refine Xbz ?_
   refine q_r (L':=L) (R':=((Jey pl.arr :: Jde pm.arr :: S0) ++ R)) (Jcf rfl (Jao (row:=[_,_,_,_,_,_,_,_,_,_,_,_,_,_,_,_,_,_,_,_,_,_,_]) tb rfl rfl rfl zf zb zb) (Jaf (show _=Value.int _ _ from rfl))) ?_
   have he:Jd0 p.sw g.zn g.rp k sh≠0:=by rw [← hAE];exact hc1
   exact ⟨(⟨s,x.time,h,x.dropped,pm.arr,w,c,f,x.rest,pl.arr⟩:XSta),Jey pl.arr :: Jde pm.arr :: S0,by rw [Jhp,if_neg hl,if_pos he,hAE],by rw [Jhp,if_neg hl,if_pos he];exact hIs,hK.fin (fun r hr=>Jaa (.tail _ (.tail _ hr))) (Jaa (.tail _ (.head _))) (Jaa (.head _)),rfl,rfl⟩
  refine qcl ?_
  refine Kbu ?_
  refine Jcy zp ?_
  refine Kcu ?_
  refine Jcy zp ?_
  refine Jw4 ?_
  refine Jcy zp ?_
  have he:Jd0 p.sw g.zn g.rp k sh=0:=by rw [← hAE];exact Decidable.not_not.1 hc1
  obtain ⟨hpa,hqa,hra⟩:=han (by rw [hAE];exact he)
  have hI1:=hI.ansSw he
  have hX1:StaIs g { p with sw:=Jgs p.sw k sh } (⟨s,x.time,h,x.dropped,pm.arr,w,c,⟨pa.arr,qa.arr,ra⟩,x.rest,pl.arr⟩:XSta):={ hIs with sw:=by rw [← hfs];exact hpa,zn:=hqa.trans hfz,rp:=hra.trans hfr }
  have hS0:∀r∈S0 ++ R,InR r (Jde pm.arr :: isl qa.arr :: Jpm pa.arr :: (S0 ++ R)):=fun r hr=>Jaa (.tail _ (.tail _ (.tail _ hr)))
  refine qay ?_
  refine J93 ?_
  refine qab ?_
  refine J8j ?_
  refine qa4 ?_
  refine Jc3 (L':=⟨b10,(⟨s,x.time,h,x.dropped,pm.arr,w,c,⟨pa.arr,qa.arr,ra⟩,x.rest,pl.arr⟩:XSta).cells,54⟩ :: (pl.L 150 XEntry.cells ++ _)) zi (Jac _) ?_
  refine Xa4 ?_
  refine Jaw rfl (Jgt g { p with sw:=Jgs p.sw k sh } (⟨s,x.time,h,x.dropped,pm.arr,w,c,⟨pa.arr,qa.arr,ra⟩,x.rest,pl.arr⟩:XSta) pl b10 t _ _ hI1 hX1 (hK.site.mono hS0) (Jaa (.head _)) (hK.watches.mono hS0) (hK.cuts.mono hS0) ⟨Jaa (.tail _ (.tail _ (.head _))),Jaa (.tail _ (.head _))⟩ hK.kl ht) rfl ?_
  rintro v L' R' ⟨w2,c2,f2,q,S2,hqk,hS,⟨hw2,hc2,hf2⟩,rfl,rfl⟩
  refine qa4 ?_
  refine Jbe (T:=150) (f:=XEntry.cells) (wd:=4) q [] zk (fun _=>rfl) ze hqk (fun s hs=>by cases hs) ?_
  refine Jcy zp ?_
  have h3:∀r∈S2 ++ (Jde pm.arr :: isl qa.arr :: Jpm pa.arr :: (S0 ++ R)),InR r ((Jey q.arr :: (S2 ++ (Jde pm.arr :: isl qa.arr :: Jpm pa.arr :: S0))) ++ R):=fun r hr=>Jaa (by rw [List.cons_append,List.append_assoc,List.cons_append,List.cons_append,List.cons_append];exact .tail _ hr)
  have h4:∀r∈S0 ++ R,InR r ((Jey q.arr :: (S2 ++ (Jde pm.arr :: isl qa.arr :: Jpm pa.arr :: S0))) ++ R):=fun r hr=>(hS0 r hr).mono fun r hr=>h3 r (List.mem_append_right _ hr)
  refine Jsd (R':=((Jey q.arr :: (S2 ++ (Jde pm.arr :: isl qa.arr :: Jpm pa.arr :: S0))) ++ R)) (by simp only [List.cons_append,List.append_assoc]) ?_
  refine qay ?_
  refine Jk5 ?_
  refine Xbl ?_
  refine q_r (L':=L) (R':=((Jey q.arr :: (S2 ++ (Jde pm.arr :: isl qa.arr :: Jpm pa.arr :: S0))) ++ R)) (Jcf rfl (Jao (row:=[_,_,_,_,_,_,_,_,_,_,_,_,_,_,_,_,_,_,_,_,_,_,_]) tb rfl rfl rfl zf zb zb) (Jaf (show _=Value.int _ _ from rfl))) ?_
  have e:Jhp g p k sh t=(Jaj g { p with sw:=Jgs p.sw k sh } t,0):=by rw [Jhp,if_neg hl,if_neg (by rw [he];decide)]
  exact ⟨(⟨s,t,h,x.dropped,pm.arr,w2,c2,f2,(Jaj g { p with sw:=Jgs p.sw k sh } t).rest,q.arr⟩:XSta),Jey q.arr :: (S2 ++ (Jde pm.arr :: isl qa.arr :: Jpm pa.arr :: S0)),by rw [e],by rw [e];exact hS,⟨hK.site.mono h4,hK.held.mono h4,h3 _ (List.mem_append_right _ (.head _)),hw2.mono h3,hc2.mono h3,hf2.mono h3,Jaa (.head _)⟩,rfl,rfl⟩
set_option maxHeartbeats 1000000 in
theorem Jq0 (g:PSite) (p:PSta) (x:XSta) (a z t:Int) (L:List Blk) (R:List Sl) (hI:Inv g p) (hx:StaIs g p x) (hR:StaR x R):
    Tri Tryz.prog 21 [x.val,.int .i64 a,.int .i64 z,.int .i64 t].toArray L R (Jic g (J04 g p a z t) L R):=by
  refine Jad 49 Tryz.call21 Tryz.func21 rfl rfl rfl ?_
  refine Xaf ?_
  intro b4
  refine qaq ?_
  intro b8
  refine Xag ?_
  refine Jk5 ?_
  refine Jaw rfl (Jeu x _ _ (.of hI hx) hR) rfl ?_
  rintro v L' R' ⟨s,h,w,c,f,pm,pl,S0,rfl,hK,rfl,rfl⟩
  refine qaq ?_
  intro b10
  refine Xba ?_
  refine Jk5 ?_
  refine qaa ?_
  refine q_l rfl (Jfp x t _ _) ?_
  refine qaf ?_
  refine q_c (fun hc0=>?_) (fun hc0=>?_)
  ·
   refine Jam ?_
   refine Jw4 ?_
   refine Jcy zp ?_
   refine J6g ?_
   refine Jcy zp ?_
   refine qay ?_
   refine Jk5 ?_
   refine Xa0 ?_
   refine q_r (L':=L) (R':=((Jey pl.arr :: Jde pm.arr :: S0) ++ R)) (Jcf rfl (Jao (row:=[_,_,_,_,_,_,_,_,_,_,_,_,_,_,_,_,_,_,_,_,_,_,_]) tb rfl rfl rfl zf zb zb) (Jaf (show _=Value.int _ _ from rfl))) ?_
   have hl:Jfl p t:=(Jgg hx).1 zE
   exact ⟨(⟨s,x.time,h,x.dropped,pm.arr,w,c,f,x.rest,pl.arr⟩:XSta),Jey pl.arr :: Jde pm.arr :: S0,by rw [J04,if_pos hl],by rw [J04,if_pos hl];exact hK.is hx,hK.fin (fun r hr=>Jaa (.tail _ (.tail _ hr))) (Jaa (.tail _ (.head _))) (Jaa (.head _)),rfl,rfl⟩
  have hl:¬ Jfl p t:=fun h=>absurd ((Jgg hx).2 h) zE
  have ht:=Jja hl
  have hIs:=hK.is hx
  have hS0:∀r∈S0 ++ R,InR r (Jde pm.arr :: (S0 ++ R)):=fun r hr=>Jaa (.tail _ hr)
  refine Jw4 ?_
  refine Jcy zp ?_
  refine qbv ?_
  refine qaa ?_
  refine Jaw rfl (Jgt g p (⟨s,x.time,h,x.dropped,pm.arr,w,c,f,x.rest,pl.arr⟩:XSta) pl b10 t _ _ hI hIs (hK.site.mono hS0) (Jaa (.head _)) (hK.watches.mono hS0) (hK.cuts.mono hS0) (hK.feeder.mono hS0) hK.kl ht) rfl ?_
  rintro v L' R' ⟨w2,c2,f2,q,S2,hqk,hS,⟨hw2,hc2,hf2⟩,rfl,rfl⟩
  refine qa4 ?_
  have hI2:=hI.settle ht.1 ht.2
  have h5:∀r∈Jde pm.arr :: (S0 ++ R),InR r (S2 ++ (Jde pm.arr :: (S0 ++ R))):=fun r hr=>Jaa (List.mem_append_right _ hr)
  have h6:∀r∈S0 ++ R,InR r (S2 ++ (Jde pm.arr :: (S0 ++ R))):=fun r hr=>(hS0 r hr).mono h5
  have hv2:StaV (⟨s,t,h,x.dropped,pm.arr,w2,c2,f2,(Jaj g p t).rest,q.arr⟩:XSta) (S2 ++ (Jde pm.arr :: (S0 ++ R))):=StaV.of hI2 hS (hK.site.mono h6) (h5 _ (.head _))
  have hA2:AiryIs s.air.mine g.air:=SiteE.airy hS.site hI2.airy
  refine Jbf tb [0,1,2,3,4,6,7,8,9,10,5,11,12,13,14,15,16,17] _ Jby zc (List.Sublist.refl _) ?_
  refine qal ?_
  refine J90 ?_
  refine Xan ?_
  refine Ka9 ?_
  refine qal ?_
  refine Kbt ?_
  iterate 3 refine qao ?_
  refine J9z ?_
  rintro v L' R' ⟨fl,rfl,hfl,rfl,rfl⟩
  refine ⟨zi,zx,?_⟩
  refine q_d rfl (J7o s c2 fl (Jaj g p t).rest a z t _ _ ⟨(hK.site.mono h6).mono fun r hr=>Jaa (.tail _ hr),hc2.mono fun r hr=>Jaa (.tail _ hr),Jaa (.head _)⟩) ?_
  refine Jbu (Jav rfl) rfl rfl rfl ?_
  refine Jbu (Jb3 rfl rfl) rfl rfl rfl ?_
  refine Jbu (Jb3 rfl rfl) rfl rfl rfl ?_
  refine qbr ?_
  intro b11
  refine Xdq ?_
  refine Jaz (Jab (Jam (Jam ?_)))
  have hfe:fl.l=flP g (Jaj g p t):=hfl.trans (StaIs.flows hS)
  have hce:c2.l=(Jaj g p t).cuts:=hS.cuts
  have hAE:askE s c2.l fl.l (Jaj g p t).rest a z t=askE g.site (Jaj g p t).cuts (flP g (Jaj g p t)) (Jaj g p t).rest a z t:=by rw [SiteE.askE hS.site,hce,hfe]
  have hAR:askR s c2.l fl.l (Jaj g p t).rest a z t=askR g.site (Jaj g p t).cuts (flP g (Jaj g p t)) (Jaj g p t).rest a z t:=by rw [SiteE.askR hS.site,hce,hfe]
  rw [hAE,hAR]
  obtain ⟨e,he⟩:∃e,e=askE g.site (Jaj g p t).cuts (flP g (Jaj g p t)) (Jaj g p t).rest a z t:=⟨_,rfl⟩
  rw [← he]
  have hqln:q.l.length≤400:=by have:=hI2.log;rw [← hS.log] at this;exact this
  refine Xa4 ?_
  refine Xaq ?_
  refine q_c (fun hc1=>?_) (fun hc1=>?_)
  ·
   refine Jam ?_
   refine Jc3 (L':=⟨b10,(⟨s,t,h,x.dropped,pm.arr,w2,c2,f2,(Jaj g p t).rest,q.arr⟩:XSta).cells,54⟩ :: (q.L 150 XEntry.cells ++ _)) zi (Jac _) ?_
   refine Xa4 ?_
   refine qaa ?_
   refine Jaw rfl (Jf3 (⟨s,t,h,x.dropped,pm.arr,w2,c2,f2,(Jaj g p t).rest,q.arr⟩:XSta) q b10 7 z e _ _ hqk hqln) rfl ?_
   rintro v L' R' ⟨q2,hq2k,hq2l,rfl,rfl⟩
   refine qa4 ?_
   refine J48 ?_
   refine Jcy zp ?_
   refine Jc3 (R':=((Jey q2.arr :: (S2 ++ (Jde pm.arr :: S0))) ++ R)) (List.Sublist.refl _) (fun r hr=>Jaa (by
     rw [List.cons_append,List.append_assoc,List.cons_append] at hr
     rcases List.mem_cons.1 hr with h | h
     · rw [h];exact .head _
     · exact .tail _ (.tail _ h))) ?_
   have h3:∀r∈(S2 ++ (Jde pm.arr :: (S0 ++ R))),InR r ((Jey q2.arr :: (S2 ++ (Jde pm.arr :: S0))) ++ R):=fun r hr=>Jaa zY
   have h4:∀r∈S0 ++ R,InR r ((Jey q2.arr :: (S2 ++ (Jde pm.arr :: S0))) ++ R):=fun r hr=>(h6 r hr).mono h3
   refine qay ?_
   refine Jk5 ?_
   refine Xbz ?_
   refine q_r (L':=L) (R':=((Jey q2.arr :: (S2 ++ (Jde pm.arr :: S0))) ++ R)) (Jcf rfl (Jao (row:=[_,_,_,_,_,_,_,_,_,_,_,_,_,_,_,_,_,_,_,_,_,_,_]) tb rfl rfl rfl zf zb zb) (Jaf (show _=Value.int _ _ from rfl))) ?_
   have e1:J04 g p a z t=(Jf9 (Jaj g p t) 7 z e,e):=by rw [J04,if_neg hl];dsimp only;rw [← he,if_pos hc1]
   exact Kae
  refine qbv ?_
  refine Ka1 ?_
  refine qab ?_
  refine J8j ?_
  refine qa4 ?_
  refine Jc3 (L':=⟨b10,(⟨s,t,h,x.dropped,pm.arr,w2,c2,f2,askR g.site (Jaj g p t).cuts (flP g (Jaj g p t)) (Jaj g p t).rest a z t,q.arr⟩:XSta).cells,54⟩ :: (q.L 150 XEntry.cells ++ _)) zi (Jac _) ?_
  refine Xa4 ?_
  refine qaa ?_
  refine Jaw rfl (Jf3 (⟨s,t,h,x.dropped,pm.arr,w2,c2,f2,askR g.site (Jaj g p t).cuts (flP g (Jaj g p t)) (Jaj g p t).rest a z t,q.arr⟩:XSta) q b10 4 z a _ _ hqk hqln) rfl ?_
  rintro v L' R' ⟨q2,hq2k,hq2l,rfl,rfl⟩
  refine qa4 ?_
  refine J48 ?_
  refine Jcy zp ?_
  refine Jc3 (R':=((Jey q2.arr :: (S2 ++ (Jde pm.arr :: S0))) ++ R)) (List.Sublist.refl _) (fun r hr=>Jaa (by
    rw [List.cons_append,List.append_assoc,List.cons_append] at hr
    rcases List.mem_cons.1 hr with h | h
    · rw [h];exact .head _
    · exact .tail _ (.tail _ h))) ?_
  have h3:∀r∈(S2 ++ (Jde pm.arr :: (S0 ++ R))),InR r ((Jey q2.arr :: (S2 ++ (Jde pm.arr :: S0))) ++ R):=fun r hr=>Jaa zY
  have h4:∀r∈S0 ++ R,InR r ((Jey q2.arr :: (S2 ++ (Jde pm.arr :: S0))) ++ R):=fun r hr=>(h6 r hr).mono h3
  refine qay ?_
  refine Jk5 ?_
  refine Xbl ?_
  refine q_r (L':=L) (R':=((Jey q2.arr :: (S2 ++ (Jde pm.arr :: S0))) ++ R)) (Jcf rfl (Jao (row:=[_,_,_,_,_,_,_,_,_,_,_,_,_,_,_,_,_,_,_,_,_,_,_]) tb rfl rfl rfl zf zb zb) (Jaf (show _=Value.int _ _ from rfl))) ?_
  have e1:J04 g p a z t=(Jf9 { (Jaj g p t) with rest:=askR g.site (Jaj g p t).cuts (flP g (Jaj g p t)) (Jaj g p t).rest a z t } 4 z a,0):=by rw [J04,if_neg hl];dsimp only;rw [← he,if_neg hc1]
  have hS9:StaIs g { (Jaj g p t) with rest:=askR g.site (Jaj g p t).cuts (flP g (Jaj g p t)) (Jaj g p t).rest a z t } (⟨s,t,h,x.dropped,pm.arr,w2,c2,f2,askR g.site (Jaj g p t).cuts (flP g (Jaj g p t)) (Jaj g p t).rest a z t,q.arr⟩:XSta):={ hS with rest:=rfl }
  exact ⟨(⟨s,t,h,x.dropped,pm.arr,w2,c2,f2,askR g.site (Jaj g p t).cuts (flP g (Jaj g p t)) (Jaj g p t).rest a z t,q2.arr⟩:XSta),Jey q2.arr :: (S2 ++ (Jde pm.arr :: S0)),by rw [e1],by rw [e1];exact hS9.note hq2l,⟨hK.site.mono h4,hK.held.mono h4,(h5 _ (.head _)).mono h3,hw2.mono h3,hc2.mono h3,hf2.mono h3,Jaa (.head _)⟩,rfl,rfl⟩
set_option maxHeartbeats 1000000 in
theorem Jp4 (g:PSite) (p:PSta) (x:XSta) (a t:Int) (L:List Blk) (R:List Sl) (hI:Inv g p) (hx:StaIs g p x) (hR:StaR x R):
    Tri Tryz.prog 22 [x.val,.int .i64 a,.int .i64 t].toArray L R (Jic g (Jfy g p a t) L R):=by
  refine Jad 50 Tryz.call22 Tryz.func22 rfl rfl rfl ?_
  refine Xaf ?_
  intro b3
  refine qaq ?_
  intro b6
  refine Xag ?_
  refine Jk5 ?_
  refine Jaw rfl (Jeu x _ _ (.of hI hx) hR) rfl ?_
  rintro v L' R' ⟨s,h,w,c,f,pm,pl,S0,rfl,hK,rfl,rfl⟩
  refine qaq ?_
  intro b8
  refine Xba ?_
  refine Jk5 ?_
  refine qaa ?_
  refine q_l rfl (Jfp x t _ _) ?_
  refine qaf ?_
  refine q_c (fun hc0=>?_) (fun hc0=>?_)
  ·
   refine Jam ?_
   refine Jw4 ?_
   refine Jcy zp ?_
   refine J6g ?_
   refine Jcy zp ?_
   refine qay ?_
   refine Jk5 ?_
   refine Xa0 ?_
   refine q_r (L':=L) (R':=((Jey pl.arr :: Jde pm.arr :: S0) ++ R)) (Jcf rfl (Jao (row:=[_,_,_,_,_,_,_,_,_,_,_,_,_,_,_,_,_,_,_,_,_,_,_]) tb rfl rfl rfl zf zb zb) (Jaf (show _=Value.int _ _ from rfl))) ?_
   have hl:Jfl p t:=(Jgg hx).1 zE
   exact ⟨(⟨s,x.time,h,x.dropped,pm.arr,w,c,f,x.rest,pl.arr⟩:XSta),Jey pl.arr :: Jde pm.arr :: S0,by rw [Jfy,if_pos hl],by rw [Jfy,if_pos hl];exact hK.is hx,hK.fin (fun r hr=>Jaa (.tail _ (.tail _ hr))) (Jaa (.tail _ (.head _))) (Jaa (.head _)),rfl,rfl⟩
  have hl:¬ Jfl p t:=fun h=>absurd ((Jgg hx).2 h) zE
  have ht:=Jja hl
  have hIs:=hK.is hx
  have hS0:∀r∈S0 ++ R,InR r (Jde pm.arr :: (S0 ++ R)):=fun r hr=>Jaa (.tail _ hr)
  refine Jw4 ?_
  refine Jcy zp ?_
  refine qbv ?_
  refine qaa ?_
  refine Jaw rfl (Jgt g p (⟨s,x.time,h,x.dropped,pm.arr,w,c,f,x.rest,pl.arr⟩:XSta) pl b8 t _ _ hI hIs (hK.site.mono hS0) (Jaa (.head _)) (hK.watches.mono hS0) (hK.cuts.mono hS0) (hK.feeder.mono hS0) hK.kl ht) rfl ?_
  rintro v L' R' ⟨w2,c2,f2,q,S2,hqk,hS,⟨hw2,hc2,hf2⟩,rfl,rfl⟩
  refine qa4 ?_
  have hI2:=hI.settle ht.1 ht.2
  have h5:∀r∈Jde pm.arr :: (S0 ++ R),InR r (S2 ++ (Jde pm.arr :: (S0 ++ R))):=fun r hr=>Jaa (List.mem_append_right _ hr)
  have h6:∀r∈S0 ++ R,InR r (S2 ++ (Jde pm.arr :: (S0 ++ R))):=fun r hr=>(hS0 r hr).mono h5
  have hv2:StaV (⟨s,t,h,x.dropped,pm.arr,w2,c2,f2,(Jaj g p t).rest,q.arr⟩:XSta) (S2 ++ (Jde pm.arr :: (S0 ++ R))):=StaV.of hI2 hS (hK.site.mono h6) (h5 _ (.head _))
  have hA2:AiryIs s.air.mine g.air:=SiteE.airy hS.site hI2.airy
  refine qay ?_
  refine Xcn ?_
  refine Xcd ?_
  refine Jbf tb [0,1,2,3,4,6,7,8,9,5,10,11,12,13,14,15,16] _ Jby zc (List.Sublist.refl _) ?_
  refine qal ?_
  refine J90 ?_
  refine Xan ?_
  refine Ka9 ?_
  refine qal ?_
  refine Kbt ?_
  refine qao ?_
  refine qao ?_
  refine J9z ?_
  rintro v L' R' ⟨fl,rfl,hfl,rfl,rfl⟩
  refine ⟨zi,zx,?_⟩
  refine q_d rfl (Jxs s c2 fl (Jaj g p t).rest a t _ _ ⟨(hK.site.mono h6).mono fun r hr=>Jaa (.tail _ hr),hc2.mono fun r hr=>Jaa (.tail _ hr),Jaa (.head _)⟩) ?_
  refine Jbu (Jav rfl) rfl rfl rfl ?_
  refine Jbu (Jb3 rfl rfl) rfl rfl rfl ?_
  refine Jbu (Jb3 rfl rfl) rfl rfl rfl ?_
  refine qbr ?_
  intro b10
  refine Xdq ?_
  refine Jaz (Jab (Jam (Jam ?_)))
  have hfe:fl.l=flP g (Jaj g p t):=hfl.trans (StaIs.flows hS)
  have hce:c2.l=(Jaj g p t).cuts:=hS.cuts
  have hAE:confirmE s c2.l fl.l (Jaj g p t).rest a t=confirmE g.site (Jaj g p t).cuts (flP g (Jaj g p t)) (Jaj g p t).rest a t:=by rw [SiteE.confirmE hS.site,hce,hfe]
  have hAR:confirmR s c2.l fl.l (Jaj g p t).rest a t=confirmR g.site (Jaj g p t).cuts (flP g (Jaj g p t)) (Jaj g p t).rest a t:=by rw [SiteE.confirmR hS.site,hce,hfe]
  rw [hAE,hAR]
  obtain ⟨e,he⟩:∃e,e=confirmE g.site (Jaj g p t).cuts (flP g (Jaj g p t)) (Jaj g p t).rest a t:=⟨_,rfl⟩
  rw [← he]
  have hqln:q.l.length≤400:=by have:=hI2.log;rw [← hS.log] at this;exact this
  refine Xa4 ?_
  refine Xaq ?_
  refine q_c (fun hc1=>?_) (fun hc1=>?_)
  ·
   refine Jam ?_
   refine Jc3 (L':=⟨b8,(⟨s,t,h,x.dropped,pm.arr,w2,c2,f2,(Jaj g p t).rest,q.arr⟩:XSta).cells,54⟩ :: (q.L 150 XEntry.cells ++ _)) zi (Jac _) ?_
   refine Xa4 ?_
   refine qaa ?_
   refine Jaw rfl (Jf3 (⟨s,t,h,x.dropped,pm.arr,w2,c2,f2,(Jaj g p t).rest,q.arr⟩:XSta) q b8 7 (Jaj g p t).rest.zone e _ _ hqk hqln) rfl ?_
   rintro v L' R' ⟨q2,hq2k,hq2l,rfl,rfl⟩
   refine qa4 ?_
   refine J48 ?_
   refine Jcy zp ?_
   refine Jc3 (R':=((Jey q2.arr :: (S2 ++ (Jde pm.arr :: S0))) ++ R)) (List.Sublist.refl _) (fun r hr=>Jaa (by
     rw [List.cons_append,List.append_assoc,List.cons_append] at hr
     rcases List.mem_cons.1 hr with h | h
     · rw [h];exact .head _
     · exact .tail _ (.tail _ h))) ?_
   have h3:∀r∈(S2 ++ (Jde pm.arr :: (S0 ++ R))),InR r ((Jey q2.arr :: (S2 ++ (Jde pm.arr :: S0))) ++ R):=fun r hr=>Jaa zY
   have h4:∀r∈S0 ++ R,InR r ((Jey q2.arr :: (S2 ++ (Jde pm.arr :: S0))) ++ R):=fun r hr=>(h6 r hr).mono h3
   refine qay ?_
   refine Jk5 ?_
   refine Xbz ?_
   refine q_r (L':=L) (R':=((Jey q2.arr :: (S2 ++ (Jde pm.arr :: S0))) ++ R)) (Jcf rfl (Jao (row:=[_,_,_,_,_,_,_,_,_,_,_,_,_,_,_,_,_,_,_,_,_,_,_]) tb rfl rfl rfl zf zb zb) (Jaf (show _=Value.int _ _ from rfl))) ?_
   have e1:Jfy g p a t=(Jf9 (Jaj g p t) 7 (Jaj g p t).rest.zone e,e):=by rw [Jfy,if_neg hl];dsimp only;rw [← he,if_pos hc1]
   exact Kae
  refine qbv ?_
  refine Ka1 ?_
  refine qab ?_
  refine J8j ?_
  refine qa4 ?_
  refine Jc3 (L':=⟨b8,(⟨s,t,h,x.dropped,pm.arr,w2,c2,f2,confirmR g.site (Jaj g p t).cuts (flP g (Jaj g p t)) (Jaj g p t).rest a t,q.arr⟩:XSta).cells,54⟩ :: (q.L 150 XEntry.cells ++ _)) zi (Jac _) ?_
  refine Xa4 ?_
  refine qaa ?_
  refine Jaw rfl (Jf3 (⟨s,t,h,x.dropped,pm.arr,w2,c2,f2,confirmR g.site (Jaj g p t).cuts (flP g (Jaj g p t)) (Jaj g p t).rest a t,q.arr⟩:XSta) q b8 5 (Jaj g p t).rest.zone a _ _ hqk hqln) rfl ?_
  rintro v L' R' ⟨q2,hq2k,hq2l,rfl,rfl⟩
  refine qa4 ?_
  refine J48 ?_
  refine Jcy zp ?_
  refine Jc3 (R':=((Jey q2.arr :: (S2 ++ (Jde pm.arr :: S0))) ++ R)) (List.Sublist.refl _) (fun r hr=>Jaa (by
    rw [List.cons_append,List.append_assoc,List.cons_append] at hr
    rcases List.mem_cons.1 hr with h | h
    · rw [h];exact .head _
    · exact .tail _ (.tail _ h))) ?_
  have h3:∀r∈(S2 ++ (Jde pm.arr :: (S0 ++ R))),InR r ((Jey q2.arr :: (S2 ++ (Jde pm.arr :: S0))) ++ R):=fun r hr=>Jaa zY
  have h4:∀r∈S0 ++ R,InR r ((Jey q2.arr :: (S2 ++ (Jde pm.arr :: S0))) ++ R):=fun r hr=>(h6 r hr).mono h3
  refine qay ?_
  refine Jk5 ?_
  refine Xbl ?_
  refine q_r (L':=L) (R':=((Jey q2.arr :: (S2 ++ (Jde pm.arr :: S0))) ++ R)) (Jcf rfl (Jao (row:=[_,_,_,_,_,_,_,_,_,_,_,_,_,_,_,_,_,_,_,_,_,_,_]) tb rfl rfl rfl zf zb zb) (Jaf (show _=Value.int _ _ from rfl))) ?_
  have e1:Jfy g p a t=(Jf9 { (Jaj g p t) with rest:=confirmR g.site (Jaj g p t).cuts (flP g (Jaj g p t)) (Jaj g p t).rest a t } 5 (Jaj g p t).rest.zone a,0):=by rw [Jfy,if_neg hl];dsimp only;rw [← he,if_neg hc1]
  have hS9:StaIs g { (Jaj g p t) with rest:=confirmR g.site (Jaj g p t).cuts (flP g (Jaj g p t)) (Jaj g p t).rest a t } (⟨s,t,h,x.dropped,pm.arr,w2,c2,f2,confirmR g.site (Jaj g p t).cuts (flP g (Jaj g p t)) (Jaj g p t).rest a t,q.arr⟩:XSta):={ hS with rest:=rfl }
  exact ⟨(⟨s,t,h,x.dropped,pm.arr,w2,c2,f2,confirmR g.site (Jaj g p t).cuts (flP g (Jaj g p t)) (Jaj g p t).rest a t,q2.arr⟩:XSta),Jey q2.arr :: (S2 ++ (Jde pm.arr :: S0)),by rw [e1],by rw [e1];exact hS9.note hq2l,⟨hK.site.mono h4,hK.held.mono h4,(h5 _ (.head _)).mono h3,hw2.mono h3,hc2.mono h3,hf2.mono h3,Jaa (.head _)⟩,rfl,rfl⟩
end Go.Proofs.YtchfclmokpbldaaGreat
