/-
  Stations: answers, asking, confirming, the program's side. By an AI agent; no person has read it.
-/
import Derived.Test.YtchfclmokpbldaaGreatStaD
set_option linter.unusedVariables false
set_option linter.unusedSimpArgs false
namespace Go.Proofs.YtchfclmokpbldaaGreat
open Go.Aw Go
set_option maxRecDepth 20000
attribute [local irreducible] CJ LJ DJ Tri YV Gives Ui J0 Ke Uh RV J2 OwL.L
section
variable {A9 B9:Prop}
theorem Zka (a:A9) (h:A9→B9:=by exact Jx zjb rfl):B9:=h a
theorem Z5c (a:A9) (h:A9→B9:=by exact Kd (T:=93) (f:=XMeas.cells) (wd:=4) pm [] zj (fun _=>rfl) zc hK.km (fun s hs=>by cases hs)):B9:=h a
theorem Uve (a:A9) (h:A9→B9:=by exact Kd (T:=150) (f:=XEntry.cells) (wd:=4) pl [] zj (fun _=>rfl) zc hK.kl (fun s hs=>by cases hs)):B9:=h a
theorem Vle (a:A9) (h:A9→B9:=by exact Kd (T:=150) (f:=XEntry.cells) (wd:=4) q2 [] zj (fun _=>rfl) zc hq2k (fun s hs=>by cases hs)):B9:=h a
theorem Zde (a:A9) (h:A9→B9:=by exact Kca tb rfl rfl rfl rfl zA zb zb zb):B9:=h a
theorem Jxf (a:A9) (h:A9→B9:=by exact Jx zkb rfl):B9:=h a
theorem Usf (a:A9) (h:A9→B9:=by exact Kd (T:=3) (f:=Jp) (wd:=1) qa [] zj (fun _=>rfl) zc hqak (fun s hs=>by cases hs)):B9:=h a
theorem Kmf (a:A9) (h:A9→B9:=by exact Kd (T:=76) (f:=XSwitch.cells) (wd:=5) pa [] zj (fun _=>rfl) zc hpak (fun s hs=>by cases hs)):B9:=h a
theorem J0f (a:A9) (h:A9→B9:=by exact Kv zmb rfl rfl rfl):B9:=h a
theorem Krf (a:A9) (h:A9→B9:=by exact Kv zjb rfl rfl rfl):B9:=h a
theorem K8f (a:A9) (h:A9→B9:=by exact Kv zob rfl rfl rfl):B9:=h a
theorem Uwf (a:A9) (h:A9→B9:=by exact Yt rfl zac rfl rfl):B9:=h a
theorem U9f (h:B9:=by exact ⟨(⟨s,t,h,x.dropped,pm.arr,w2,c2,f2,(Jd g p t).rest,q2.arr⟩:XSta),Yw q2.arr :: (S2 ++ (Vn pm.arr :: S0)),by rw [e1],by rw [e1];exact hS.note hq2l,⟨hK.site.mono h4,hK.held.mono h4,(h5 _ (.head _)).mono h3,hw2.mono h3,hc2.mono h3,hf2.mono h3,Ja (.head _)⟩,rfl,rfl⟩):B9:=h
theorem Vgf (a:A9) (h:A9→B9:=by exact Jx zob rfl):B9:=h a
end
theorem StaIs.flows {g:PSite} {q:PSta} {x:XSta} (h:StaIs g q x):Vca x.site g.air x.meas.l x.time=flP g q:=by rw [SiteE.flows h.site,h.meas,h.time,flP]
theorem Jqc (g:PSite) (p:PSta) (x:XSta) (k sh t:Int) (L:List Blk) (R:List Sl) (hI:Inv g p) (hx:StaIs g p x) (hR:StaR x R):
    Tri Tryz.prog 80 [x.val,.int .i64 k,.int .i64 sh,.int .i64 t].toArray L R (Uva g (Zr g p k sh t) L R):=by
  refine Jg 36 Tryz.call80 Tryz.func80 rfl rfl rfl ?_
  refine Xag ?_
  intro b4
  refine qaq ?_
  intro b8
  refine Xaf ?_
  refine Zka ?_
  refine Js rfl zTb rfl ?_
  rintro v L' R' ⟨s,h,w,c,f,pm,pl,S0,rfl,hK,rfl,rfl⟩
  refine qaq ?_
  intro b10
  refine Xa9 ?_
  refine Zka ?_
  refine qaa ?_
  refine q_l rfl (Jaa x t _ _) ?_
  refine qaf ?_
  refine q_c (fun hc0=>?_) (fun hc0=>?_)
  ·
   refine Jn ?_
   refine Z5c ?_
   refine Uv zp ?_
   refine Uve ?_
   refine Uv zp ?_
   refine qay ?_
   refine Zka ?_
   refine Xaz ?_
   refine q_r (L':=L) (R':=((Yw pl.arr :: Vn pm.arr :: S0) ++ R)) zLc ?_
   have hl:Jia p t:=(Joa hx).1 zC
   exact ⟨(⟨s,x.time,h,x.dropped,pm.arr,w,c,f,x.rest,pl.arr⟩:XSta),Yw pl.arr :: Vn pm.arr :: S0,by rw [Zr,if_pos hl],by rw [Zr,if_pos hl];exact hK.is hx,hK.fin (fun r hr=>Ja (.tail _ (.tail _ hr))) zMb zpb,rfl,rfl⟩
  have hl:¬ Jia p t:=fun h=>absurd ((Joa hx).2 h) zC
  have ht:=K9 hl
  have hIs:=hK.is hx
  have hfs:f.switches.l=p.sw:=hIs.sw
  have hfz:f.zones.l=g.zn:=hIs.zn
  have hfr:f.reply=g.rp:=hIs.rp
  have hAE:V2 f.switches.l f.zones.l f.reply k sh=V2 p.sw g.zn g.rp k sh:=by rw [hfs,hfz,hfr]
  refine qbv ?_
  refine qab ?_
  refine Jxf ?_
  refine Xbh ?_
  refine Js rfl (Ytb f k sh _ _ hK.feeder) rfl ?_
  rintro v L' R' ⟨pa,qa,ra,rfl,⟨hpak,hqak⟩,han,rfl,rfl⟩
  refine Jx zDb rfl ?_
  refine Xcx ?_
  intro b11
  refine qak ?_
  refine Xdb ?_
  refine Xaq ?_
  refine q_c (fun hc1=>?_) (fun hc1=>?_)
  ·
   refine Jn ?_
   refine Usf ?_
   refine Uv zp ?_
   refine Kmf ?_
   refine Uv zp ?_
   refine U2 (R':=S0 ++ R) (List.Sublist.refl _) (fun r hr=>Ja (.tail _ (.tail _ hr))) ?_
   refine Z5c ?_
   refine Uv zp ?_
   refine Uve ?_
   refine Uv zp ?_
   refine qay ?_
   refine Zka ?_
   refine Xby ?_
   refine q_r (L':=L) (R':=((Yw pl.arr :: Vn pm.arr :: S0) ++ R)) zLc ?_
   have he:V2 p.sw g.zn g.rp k sh≠0:=by rw [← hAE];exact hc1
   exact ⟨(⟨s,x.time,h,x.dropped,pm.arr,w,c,f,x.rest,pl.arr⟩:XSta),Yw pl.arr :: Vn pm.arr :: S0,by rw [Zr,if_neg hl,if_pos he,hAE],by rw [Zr,if_neg hl,if_pos he];exact hIs,hK.fin (fun r hr=>Ja (.tail _ (.tail _ hr))) zMb zpb,rfl,rfl⟩
  refine qcl ?_
  refine Kmf ?_
  refine Uv zp ?_
  refine Usf ?_
  refine Uv zp ?_
  refine Z5c ?_
  refine Uv zp ?_
  have he:V2 p.sw g.zn g.rp k sh=0:=by rw [← hAE];exact Decidable.not_not.1 hc1
  obtain ⟨hpa,hqa,hra⟩:=han (by rw [hAE];exact he)
  have hI1:=hI.ansSw he
  have hX1:StaIs g { p with sw:=Zl p.sw k sh } (⟨s,x.time,h,x.dropped,pm.arr,w,c,⟨pa.arr,qa.arr,ra⟩,x.rest,pl.arr⟩:XSta):={ hIs with sw:=by rw [← hfs];exact hpa,zn:=hqa.trans hfz,rp:=hra.trans hfr }
  have hS0:∀r∈S0 ++ R,InR r (Vn pm.arr :: isl qa.arr :: Vhb pa.arr :: (S0 ++ R)):=fun r hr=>Ja (.tail _ (.tail _ (.tail _ hr)))
  refine qay ?_
  refine Jxf ?_
  refine qab ?_
  refine Zde ?_
  refine qa4 ?_
  refine U2 (L':=⟨b10,(⟨s,x.time,h,x.dropped,pm.arr,w,c,⟨pa.arr,qa.arr,ra⟩,x.rest,pl.arr⟩:XSta).cells,54⟩ :: (pl.L 150 XEntry.cells ++ _)) zi zqb ?_
  refine Xa3 ?_
  refine Js rfl (J4a g { p with sw:=Zl p.sw k sh } (⟨s,x.time,h,x.dropped,pm.arr,w,c,⟨pa.arr,qa.arr,ra⟩,x.rest,pl.arr⟩:XSta) pl b10 t _ _ hI1 hX1 (hK.site.mono hS0) zpb (hK.watches.mono hS0) (hK.cuts.mono hS0) ⟨Ja (.tail _ (.tail _ (.head _))),Ja (.tail _ (.head _))⟩ hK.kl ht) rfl ?_
  rintro v L' R' ⟨w2,c2,f2,q,S2,hqk,hS,⟨hw2,hc2,hf2⟩,rfl,rfl⟩
  refine qa4 ?_
  refine Kd (T:=150) (f:=XEntry.cells) (wd:=4) q [] zj (fun _=>rfl) zc hqk (fun s hs=>by cases hs) ?_
  refine Uv zp ?_
  have h3:∀r∈S2 ++ (Vn pm.arr :: isl qa.arr :: Vhb pa.arr :: (S0 ++ R)),InR r ((Yw q.arr :: (S2 ++ (Vn pm.arr :: isl qa.arr :: Vhb pa.arr :: S0))) ++ R):=fun r hr=>Ja (by rw [List.cons_append,List.append_assoc,List.cons_append,List.cons_append,List.cons_append];exact .tail _ hr)
  have h4:∀r∈S0 ++ R,InR r ((Yw q.arr :: (S2 ++ (Vn pm.arr :: isl qa.arr :: Vhb pa.arr :: S0))) ++ R):=fun r hr=>(hS0 r hr).mono fun r hr=>h3 r (List.mem_append_right _ hr)
  refine Ymb (R':=((Yw q.arr :: (S2 ++ (Vn pm.arr :: isl qa.arr :: Vhb pa.arr :: S0))) ++ R)) (by simp only [List.cons_append,List.append_assoc]) ?_
  refine qay ?_
  refine Zka ?_
  refine Xbl ?_
  refine q_r (L':=L) (R':=((Yw q.arr :: (S2 ++ (Vn pm.arr :: isl qa.arr :: Vhb pa.arr :: S0))) ++ R)) zLc ?_
  have e:Zr g p k sh t=(Jd g { p with sw:=Zl p.sw k sh } t,0):=by rw [Zr,if_neg hl,if_neg (by rw [he];decide)]
  exact ⟨(⟨s,t,h,x.dropped,pm.arr,w2,c2,f2,(Jd g { p with sw:=Zl p.sw k sh } t).rest,q.arr⟩:XSta),Yw q.arr :: (S2 ++ (Vn pm.arr :: isl qa.arr :: Vhb pa.arr :: S0)),by rw [e],by rw [e];exact hS,⟨hK.site.mono h4,hK.held.mono h4,h3 _ (List.mem_append_right _ (.head _)),hw2.mono h3,hc2.mono h3,hf2.mono h3,Ja (.head _)⟩,rfl,rfl⟩
set_option maxHeartbeats 1000000 in
theorem Y5b (g:PSite) (p:PSta) (x:XSta) (a z t:Int) (L:List Blk) (R:List Sl) (hI:Inv g p) (hx:StaIs g p x) (hR:StaR x R):
    Tri Tryz.prog 21 [x.val,.int .i64 a,.int .i64 z,.int .i64 t].toArray L R (Uva g (Yjc g p a z t) L R):=by
  refine Jg 49 Tryz.call21 Tryz.func21 rfl rfl rfl ?_
  refine Xag ?_
  intro b4
  refine qaq ?_
  intro b8
  refine Xaf ?_
  refine Zka ?_
  refine Js rfl zTb rfl ?_
  rintro v L' R' ⟨s,h,w,c,f,pm,pl,S0,rfl,hK,rfl,rfl⟩
  refine qaq ?_
  intro b10
  refine Xa9 ?_
  refine Zka ?_
  refine qaa ?_
  refine q_l rfl (Jaa x t _ _) ?_
  refine qaf ?_
  refine q_c (fun hc0=>?_) (fun hc0=>?_)
  ·
   refine Jn ?_
   refine Z5c ?_
   refine Uv zp ?_
   refine Uve ?_
   refine Uv zp ?_
   refine qay ?_
   refine Zka ?_
   refine Xaz ?_
   refine q_r (L':=L) (R':=((Yw pl.arr :: Vn pm.arr :: S0) ++ R)) zLc ?_
   have hl:Jia p t:=(Joa hx).1 zC
   exact ⟨(⟨s,x.time,h,x.dropped,pm.arr,w,c,f,x.rest,pl.arr⟩:XSta),Yw pl.arr :: Vn pm.arr :: S0,by rw [Yjc,if_pos hl],by rw [Yjc,if_pos hl];exact hK.is hx,hK.fin (fun r hr=>Ja (.tail _ (.tail _ hr))) zMb zpb,rfl,rfl⟩
  have hl:¬ Jia p t:=fun h=>absurd ((Joa hx).2 h) zC
  have ht:=K9 hl
  have hIs:=hK.is hx
  have hS0:∀r∈S0 ++ R,InR r (Vn pm.arr :: (S0 ++ R)):=fun r hr=>Ja (.tail _ hr)
  refine Z5c ?_
  refine Uv zp ?_
  refine qbv ?_
  refine qaa ?_
  refine Js rfl (J4a g p (⟨s,x.time,h,x.dropped,pm.arr,w,c,f,x.rest,pl.arr⟩:XSta) pl b10 t _ _ hI hIs (hK.site.mono hS0) zpb (hK.watches.mono hS0) (hK.cuts.mono hS0) (hK.feeder.mono hS0) hK.kl ht) rfl ?_
  rintro v L' R' ⟨w2,c2,f2,q,S2,hqk,hS,⟨hw2,hc2,hf2⟩,rfl,rfl⟩
  refine qa4 ?_
  have hI2:=hI.settle ht.1 ht.2
  have h5:∀r∈Vn pm.arr :: (S0 ++ R),InR r (S2 ++ (Vn pm.arr :: (S0 ++ R))):=fun r hr=>Ja (List.mem_append_right _ hr)
  have h6:∀r∈S0 ++ R,InR r (S2 ++ (Vn pm.arr :: (S0 ++ R))):=fun r hr=>(hS0 r hr).mono h5
  have hv2:StaV (⟨s,t,h,x.dropped,pm.arr,w2,c2,f2,(Jd g p t).rest,q.arr⟩:XSta) (S2 ++ (Vn pm.arr :: (S0 ++ R))):=StaV.of hI2 hS (hK.site.mono h6) (h5 _ (.head _))
  have hA2:AiryIs s.air.mine g.air:=SiteE.airy hS.site hI2.airy
  refine Kn tb [0,1,2,3,4,6,7,8,9,10,5,11,12,13,14,15,16,17] _ K1 ze (List.Sublist.refl _) ?_
  refine qal ?_
  refine J0f ?_
  refine Xan ?_
  refine Krf ?_
  refine qal ?_
  refine K8f ?_
  iterate 3 refine qao ?_
  refine Uwf ?_
  rintro v L' R' ⟨fl,rfl,hfl,rfl,rfl⟩
  refine ⟨zi,zw,?_⟩
  refine q_d rfl (Zle s c2 fl (Jd g p t).rest a z t _ _ ⟨(hK.site.mono h6).mono fun r hr=>Ja (.tail _ hr),hc2.mono fun r hr=>Ja (.tail _ hr),Ja (.head _)⟩) ?_
  refine Kv zDb rfl rfl rfl ?_
  refine Kv zNb rfl rfl rfl ?_
  refine Kv zNb rfl rfl rfl ?_
  refine qbr ?_
  intro b11
  refine Xdg ?_
  refine J1 (Jb (Jn (Jn ?_)))
  have hfe:fl.l=flP g (Jd g p t):=hfl.trans (StaIs.flows hS)
  have hce:c2.l=(Jd g p t).cuts:=hS.cuts
  have hAE:askE s c2.l fl.l (Jd g p t).rest a z t=askE g.site (Jd g p t).cuts (flP g (Jd g p t)) (Jd g p t).rest a z t:=by rw [SiteE.askE hS.site,hce,hfe]
  have hAR:askR s c2.l fl.l (Jd g p t).rest a z t=askR g.site (Jd g p t).cuts (flP g (Jd g p t)) (Jd g p t).rest a z t:=by rw [SiteE.askR hS.site,hce,hfe]
  rw [hAE,hAR]
  obtain ⟨e,he⟩:∃e,e=askE g.site (Jd g p t).cuts (flP g (Jd g p t)) (Jd g p t).rest a z t:=⟨_,rfl⟩
  rw [← he]
  have hqln:q.l.length≤400:=by have:=hI2.log;rw [← hS.log] at this;exact this
  refine Xa3 ?_
  refine Xaq ?_
  refine q_c (fun hc1=>?_) (fun hc1=>?_)
  ·
   refine Jn ?_
   refine U2 (L':=⟨b10,(⟨s,t,h,x.dropped,pm.arr,w2,c2,f2,(Jd g p t).rest,q.arr⟩:XSta).cells,54⟩ :: (q.L 150 XEntry.cells ++ _)) zi zqb ?_
   refine Xa3 ?_
   refine qaa ?_
   refine Js rfl (Jda (⟨s,t,h,x.dropped,pm.arr,w2,c2,f2,(Jd g p t).rest,q.arr⟩:XSta) q b10 7 z e _ _ hqk hqln) rfl ?_
   rintro v L' R' ⟨q2,hq2k,hq2l,rfl,rfl⟩
   refine qa4 ?_
   refine Vle ?_
   refine Uv zp ?_
   refine U2 (R':=((Yw q2.arr :: (S2 ++ (Vn pm.arr :: S0))) ++ R)) (List.Sublist.refl _) (fun r hr=>Ja (by
     rw [List.cons_append,List.append_assoc,List.cons_append] at hr
     rcases List.mem_cons.1 hr with h | h
     · rw [h];exact .head _
     · exact .tail _ (.tail _ h))) ?_
   have h3:∀r∈(S2 ++ (Vn pm.arr :: (S0 ++ R))),InR r ((Yw q2.arr :: (S2 ++ (Vn pm.arr :: S0))) ++ R):=fun r hr=>Ja zX
   have h4:∀r∈S0 ++ R,InR r ((Yw q2.arr :: (S2 ++ (Vn pm.arr :: S0))) ++ R):=fun r hr=>(h6 r hr).mono h3
   refine qay ?_
   refine Zka ?_
   refine Xby ?_
   refine q_r (L':=L) (R':=((Yw q2.arr :: (S2 ++ (Vn pm.arr :: S0))) ++ R)) zLc ?_
   have e1:Yjc g p a z t=(Yi (Jd g p t) 7 z e,e):=by rw [Yjc,if_neg hl];dsimp only;rw [← he,if_pos hc1]
   exact U9f
  refine qbv ?_
  refine Vgf ?_
  refine qab ?_
  refine Zde ?_
  refine qa4 ?_
  refine U2 (L':=⟨b10,(⟨s,t,h,x.dropped,pm.arr,w2,c2,f2,askR g.site (Jd g p t).cuts (flP g (Jd g p t)) (Jd g p t).rest a z t,q.arr⟩:XSta).cells,54⟩ :: (q.L 150 XEntry.cells ++ _)) zi zqb ?_
  refine Xa3 ?_
  refine qaa ?_
  refine Js rfl (Jda (⟨s,t,h,x.dropped,pm.arr,w2,c2,f2,askR g.site (Jd g p t).cuts (flP g (Jd g p t)) (Jd g p t).rest a z t,q.arr⟩:XSta) q b10 4 z a _ _ hqk hqln) rfl ?_
  rintro v L' R' ⟨q2,hq2k,hq2l,rfl,rfl⟩
  refine qa4 ?_
  refine Vle ?_
  refine Uv zp ?_
  refine U2 (R':=((Yw q2.arr :: (S2 ++ (Vn pm.arr :: S0))) ++ R)) (List.Sublist.refl _) (fun r hr=>Ja (by
    rw [List.cons_append,List.append_assoc,List.cons_append] at hr
    rcases List.mem_cons.1 hr with h | h
    · rw [h];exact .head _
    · exact .tail _ (.tail _ h))) ?_
  have h3:∀r∈(S2 ++ (Vn pm.arr :: (S0 ++ R))),InR r ((Yw q2.arr :: (S2 ++ (Vn pm.arr :: S0))) ++ R):=fun r hr=>Ja zX
  have h4:∀r∈S0 ++ R,InR r ((Yw q2.arr :: (S2 ++ (Vn pm.arr :: S0))) ++ R):=fun r hr=>(h6 r hr).mono h3
  refine qay ?_
  refine Zka ?_
  refine Xbl ?_
  refine q_r (L':=L) (R':=((Yw q2.arr :: (S2 ++ (Vn pm.arr :: S0))) ++ R)) zLc ?_
  have e1:Yjc g p a z t=(Yi { (Jd g p t) with rest:=askR g.site (Jd g p t).cuts (flP g (Jd g p t)) (Jd g p t).rest a z t } 4 z a,0):=by rw [Yjc,if_neg hl];dsimp only;rw [← he,if_neg hc1]
  have hS9:StaIs g { (Jd g p t) with rest:=askR g.site (Jd g p t).cuts (flP g (Jd g p t)) (Jd g p t).rest a z t } (⟨s,t,h,x.dropped,pm.arr,w2,c2,f2,askR g.site (Jd g p t).cuts (flP g (Jd g p t)) (Jd g p t).rest a z t,q.arr⟩:XSta):={ hS with rest:=rfl }
  exact ⟨(⟨s,t,h,x.dropped,pm.arr,w2,c2,f2,askR g.site (Jd g p t).cuts (flP g (Jd g p t)) (Jd g p t).rest a z t,q2.arr⟩:XSta),Yw q2.arr :: (S2 ++ (Vn pm.arr :: S0)),by rw [e1],by rw [e1];exact hS9.note hq2l,⟨hK.site.mono h4,hK.held.mono h4,(h5 _ (.head _)).mono h3,hw2.mono h3,hc2.mono h3,hf2.mono h3,Ja (.head _)⟩,rfl,rfl⟩
set_option maxHeartbeats 1000000 in
theorem Yxb (g:PSite) (p:PSta) (x:XSta) (a t:Int) (L:List Blk) (R:List Sl) (hI:Inv g p) (hx:StaIs g p x) (hR:StaR x R):
    Tri Tryz.prog 22 [x.val,.int .i64 a,.int .i64 t].toArray L R (Uva g (V7 g p a t) L R):=by
  refine Jg 50 Tryz.call22 Tryz.func22 rfl rfl rfl ?_
  refine Xag ?_
  intro b3
  refine qaq ?_
  intro b6
  refine Xaf ?_
  refine Zka ?_
  refine Js rfl zTb rfl ?_
  rintro v L' R' ⟨s,h,w,c,f,pm,pl,S0,rfl,hK,rfl,rfl⟩
  refine qaq ?_
  intro b8
  refine Xa9 ?_
  refine Zka ?_
  refine qaa ?_
  refine q_l rfl (Jaa x t _ _) ?_
  refine qaf ?_
  refine q_c (fun hc0=>?_) (fun hc0=>?_)
  ·
   refine Jn ?_
   refine Z5c ?_
   refine Uv zp ?_
   refine Uve ?_
   refine Uv zp ?_
   refine qay ?_
   refine Zka ?_
   refine Xaz ?_
   refine q_r (L':=L) (R':=((Yw pl.arr :: Vn pm.arr :: S0) ++ R)) zLc ?_
   have hl:Jia p t:=(Joa hx).1 zC
   exact ⟨(⟨s,x.time,h,x.dropped,pm.arr,w,c,f,x.rest,pl.arr⟩:XSta),Yw pl.arr :: Vn pm.arr :: S0,by rw [V7,if_pos hl],by rw [V7,if_pos hl];exact hK.is hx,hK.fin (fun r hr=>Ja (.tail _ (.tail _ hr))) zMb zpb,rfl,rfl⟩
  have hl:¬ Jia p t:=fun h=>absurd ((Joa hx).2 h) zC
  have ht:=K9 hl
  have hIs:=hK.is hx
  have hS0:∀r∈S0 ++ R,InR r (Vn pm.arr :: (S0 ++ R)):=fun r hr=>Ja (.tail _ hr)
  refine Z5c ?_
  refine Uv zp ?_
  refine qbv ?_
  refine qaa ?_
  refine Js rfl (J4a g p (⟨s,x.time,h,x.dropped,pm.arr,w,c,f,x.rest,pl.arr⟩:XSta) pl b8 t _ _ hI hIs (hK.site.mono hS0) zpb (hK.watches.mono hS0) (hK.cuts.mono hS0) (hK.feeder.mono hS0) hK.kl ht) rfl ?_
  rintro v L' R' ⟨w2,c2,f2,q,S2,hqk,hS,⟨hw2,hc2,hf2⟩,rfl,rfl⟩
  refine qa4 ?_
  have hI2:=hI.settle ht.1 ht.2
  have h5:∀r∈Vn pm.arr :: (S0 ++ R),InR r (S2 ++ (Vn pm.arr :: (S0 ++ R))):=fun r hr=>Ja (List.mem_append_right _ hr)
  have h6:∀r∈S0 ++ R,InR r (S2 ++ (Vn pm.arr :: (S0 ++ R))):=fun r hr=>(hS0 r hr).mono h5
  have hv2:StaV (⟨s,t,h,x.dropped,pm.arr,w2,c2,f2,(Jd g p t).rest,q.arr⟩:XSta) (S2 ++ (Vn pm.arr :: (S0 ++ R))):=StaV.of hI2 hS (hK.site.mono h6) (h5 _ (.head _))
  have hA2:AiryIs s.air.mine g.air:=SiteE.airy hS.site hI2.airy
  refine qay ?_
  refine qab ?_
  refine Xaa ?_
  refine Xb3 ?_
  refine Kn tb [0,1,2,3,4,6,7,8,9,5,10,11,12,13,14,15,16] _ K1 ze (List.Sublist.refl _) ?_
  refine qal ?_
  refine J0f ?_
  refine Xan ?_
  refine Krf ?_
  refine qal ?_
  refine K8f ?_
  refine qao ?_
  refine qao ?_
  refine Uwf ?_
  rintro v L' R' ⟨fl,rfl,hfl,rfl,rfl⟩
  refine ⟨zi,zw,?_⟩
  refine q_d rfl (Z8c s c2 fl (Jd g p t).rest a t _ _ ⟨(hK.site.mono h6).mono fun r hr=>Ja (.tail _ hr),hc2.mono fun r hr=>Ja (.tail _ hr),Ja (.head _)⟩) ?_
  refine Kv zDb rfl rfl rfl ?_
  refine Kv zNb rfl rfl rfl ?_
  refine Kv zNb rfl rfl rfl ?_
  refine qbr ?_
  intro b10
  refine Xdg ?_
  refine J1 (Jb (Jn (Jn ?_)))
  have hfe:fl.l=flP g (Jd g p t):=hfl.trans (StaIs.flows hS)
  have hce:c2.l=(Jd g p t).cuts:=hS.cuts
  have hAE:confirmE s c2.l fl.l (Jd g p t).rest a t=confirmE g.site (Jd g p t).cuts (flP g (Jd g p t)) (Jd g p t).rest a t:=by rw [SiteE.confirmE hS.site,hce,hfe]
  have hAR:confirmR s c2.l fl.l (Jd g p t).rest a t=confirmR g.site (Jd g p t).cuts (flP g (Jd g p t)) (Jd g p t).rest a t:=by rw [SiteE.confirmR hS.site,hce,hfe]
  rw [hAE,hAR]
  obtain ⟨e,he⟩:∃e,e=confirmE g.site (Jd g p t).cuts (flP g (Jd g p t)) (Jd g p t).rest a t:=⟨_,rfl⟩
  rw [← he]
  have hqln:q.l.length≤400:=by have:=hI2.log;rw [← hS.log] at this;exact this
  refine Xa3 ?_
  refine Xaq ?_
  refine q_c (fun hc1=>?_) (fun hc1=>?_)
  ·
   refine Jn ?_
   refine U2 (L':=⟨b8,(⟨s,t,h,x.dropped,pm.arr,w2,c2,f2,(Jd g p t).rest,q.arr⟩:XSta).cells,54⟩ :: (q.L 150 XEntry.cells ++ _)) zi zqb ?_
   refine Xa3 ?_
   refine qaa ?_
   refine Js rfl (Jda (⟨s,t,h,x.dropped,pm.arr,w2,c2,f2,(Jd g p t).rest,q.arr⟩:XSta) q b8 7 (Jd g p t).rest.zone e _ _ hqk hqln) rfl ?_
   rintro v L' R' ⟨q2,hq2k,hq2l,rfl,rfl⟩
   refine qa4 ?_
   refine Vle ?_
   refine Uv zp ?_
   refine U2 (R':=((Yw q2.arr :: (S2 ++ (Vn pm.arr :: S0))) ++ R)) (List.Sublist.refl _) (fun r hr=>Ja (by
     rw [List.cons_append,List.append_assoc,List.cons_append] at hr
     rcases List.mem_cons.1 hr with h | h
     · rw [h];exact .head _
     · exact .tail _ (.tail _ h))) ?_
   have h3:∀r∈(S2 ++ (Vn pm.arr :: (S0 ++ R))),InR r ((Yw q2.arr :: (S2 ++ (Vn pm.arr :: S0))) ++ R):=fun r hr=>Ja zX
   have h4:∀r∈S0 ++ R,InR r ((Yw q2.arr :: (S2 ++ (Vn pm.arr :: S0))) ++ R):=fun r hr=>(h6 r hr).mono h3
   refine qay ?_
   refine Zka ?_
   refine Xby ?_
   refine q_r (L':=L) (R':=((Yw q2.arr :: (S2 ++ (Vn pm.arr :: S0))) ++ R)) zLc ?_
   have e1:V7 g p a t=(Yi (Jd g p t) 7 (Jd g p t).rest.zone e,e):=by rw [V7,if_neg hl];dsimp only;rw [← he,if_pos hc1]
   exact U9f
  refine qbv ?_
  refine Vgf ?_
  refine qab ?_
  refine Zde ?_
  refine qa4 ?_
  refine U2 (L':=⟨b8,(⟨s,t,h,x.dropped,pm.arr,w2,c2,f2,confirmR g.site (Jd g p t).cuts (flP g (Jd g p t)) (Jd g p t).rest a t,q.arr⟩:XSta).cells,54⟩ :: (q.L 150 XEntry.cells ++ _)) zi zqb ?_
  refine Xa3 ?_
  refine qaa ?_
  refine Js rfl (Jda (⟨s,t,h,x.dropped,pm.arr,w2,c2,f2,confirmR g.site (Jd g p t).cuts (flP g (Jd g p t)) (Jd g p t).rest a t,q.arr⟩:XSta) q b8 5 (Jd g p t).rest.zone a _ _ hqk hqln) rfl ?_
  rintro v L' R' ⟨q2,hq2k,hq2l,rfl,rfl⟩
  refine qa4 ?_
  refine Vle ?_
  refine Uv zp ?_
  refine U2 (R':=((Yw q2.arr :: (S2 ++ (Vn pm.arr :: S0))) ++ R)) (List.Sublist.refl _) (fun r hr=>Ja (by
    rw [List.cons_append,List.append_assoc,List.cons_append] at hr
    rcases List.mem_cons.1 hr with h | h
    · rw [h];exact .head _
    · exact .tail _ (.tail _ h))) ?_
  have h3:∀r∈(S2 ++ (Vn pm.arr :: (S0 ++ R))),InR r ((Yw q2.arr :: (S2 ++ (Vn pm.arr :: S0))) ++ R):=fun r hr=>Ja zX
  have h4:∀r∈S0 ++ R,InR r ((Yw q2.arr :: (S2 ++ (Vn pm.arr :: S0))) ++ R):=fun r hr=>(h6 r hr).mono h3
  refine qay ?_
  refine Zka ?_
  refine Xbl ?_
  refine q_r (L':=L) (R':=((Yw q2.arr :: (S2 ++ (Vn pm.arr :: S0))) ++ R)) zLc ?_
  have e1:V7 g p a t=(Yi { (Jd g p t) with rest:=confirmR g.site (Jd g p t).cuts (flP g (Jd g p t)) (Jd g p t).rest a t } 5 (Jd g p t).rest.zone a,0):=by rw [V7,if_neg hl];dsimp only;rw [← he,if_neg hc1]
  have hS9:StaIs g { (Jd g p t) with rest:=confirmR g.site (Jd g p t).cuts (flP g (Jd g p t)) (Jd g p t).rest a t } (⟨s,t,h,x.dropped,pm.arr,w2,c2,f2,confirmR g.site (Jd g p t).cuts (flP g (Jd g p t)) (Jd g p t).rest a t,q.arr⟩:XSta):={ hS with rest:=rfl }
  exact ⟨(⟨s,t,h,x.dropped,pm.arr,w2,c2,f2,confirmR g.site (Jd g p t).cuts (flP g (Jd g p t)) (Jd g p t).rest a t,q2.arr⟩:XSta),Yw q2.arr :: (S2 ++ (Vn pm.arr :: S0)),by rw [e1],by rw [e1];exact hS9.note hq2l,⟨hK.site.mono h4,hK.held.mono h4,(h5 _ (.head _)).mono h3,hw2.mono h3,hc2.mono h3,hf2.mono h3,Ja (.head _)⟩,rfl,rfl⟩
end Go.Proofs.YtchfclmokpbldaaGreat
