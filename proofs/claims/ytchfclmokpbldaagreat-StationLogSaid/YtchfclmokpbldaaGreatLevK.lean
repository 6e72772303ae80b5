/-
  Texts of one chapter, merged. By an AI agent; no person has read it.
-/
import Derived.Test.YtchfclmokpbldaaGreatStaA
import Derived.Test.YtchfclmokpbldaaGreatStatM
set_option linter.unusedVariables false
set_option linter.unusedSimpArgs false
set_option maxRecDepth 20000
namespace Go.Proofs.YtchfclmokpbldaaGreat
open Go.Aw Go
section
attribute [local irreducible] CJ LJ DJ Tri YV Gives Ui J0 Ke Uh RV J2 OwL.L
section
variable {A9 B9:Prop}
theorem K6f (a:A9) (h:A9→B9:=by exact Kx zjb rfl rfl rfl rfl):B9:=h a
end
theorem SiteE.set {s s':XSite} (h:SiteE s s') (m:List XMeas) (t:Int):Kce s m t=Kce s' m t:=by
  rw [Kce,Kce,Zia,Zia,K4a,K4a,h.nfans,h.ndoors,h.sens]
  have e:∀i:Nat,(s.air.doors.l.getD i default).rests.l=(s'.air.doors.l.getD i default).rests.l:=h.door
  simp only [e]
theorem SiteE.flows {s s':XSite} (h:SiteE s s') (A:List Bool) (m:List XMeas) (t:Int):Vca s A m t=Vca s' A m t:=by
  have e:∀q:Sts,flS s.air A q=flS s'.air A q:=fun q=>by rw [flS,flS,(AirE.of (s:=mkS q) (s':=mkS q) h.air rfl).ana A]
  rw [Vca,Vca,h.set,e,h.sens]
theorem Zyb {m:XMine} {u v:Nat} (h:Conn (K5c m) u v):Conn m u v:=by
  induction h with
  | refl=>exact .refl
  | tail _ k ih=>exact .tail ih k
theorem Z6b {m:XMine} {u v:Nat} (h:Conn m u v):Conn (K5c m) u v:=by
  induction h with
  | refl=>exact .refl
  | tail _ k ih=>exact .tail ih k
theorem U3c (m:XMine) (A:List Bool):AiryIs (K5c m) A↔AiryIs m A:=
  ⟨fun h=>⟨h.len,fun i hi=>(h.iff i hi).trans ⟨fun ⟨j,h1,h2,h3⟩=>⟨j,h1,h2,Zyb h3⟩,fun ⟨j,h1,h2,h3⟩=>⟨j,h1,h2,Z6b h3⟩⟩⟩,fun h=>⟨h.len,fun i hi=>(h.iff i hi).trans ⟨fun ⟨j,h1,h2,h3⟩=>⟨j,h1,h2,Z6b h3⟩,fun ⟨j,h1,h2,h3⟩=>⟨j,h1,h2,Zyb h3⟩⟩⟩⟩
theorem SiteE.airy {s s':XSite} (h:SiteE s s') {A:List Bool} (hA:AiryIs s'.air.mine A):AiryIs s.air.mine A:=by
  have e:K5c s.air.mine=K5c s'.air.mine:=congrArg XAir.mine h.air
  rw [← U3c,e,U3c];exact hA
theorem Jhd {S:List XSens} {kind target:Int} {k:Nat} (hk:k < S.length) (h:(S.getD k default).kind=kind∧(S.getD k default).target=target) (hal:∀j:Nat,j < k→¬ ((S.getD j default).kind=kind∧(S.getD j default).target=target)):Ubc S kind target=some k:=by
  rw [Ubc,List.find?_range_eq_some]
  exact ⟨by simpa using h,by rw [List.mem_range];exact hk,fun j hj=>by have:=hal j hj;simp only [Bool.not_eq_true',decide_eq_false_iff_not];exact this⟩
theorem Zrc {S:List XSens} {kind target:Int} (hal:∀j:Nat,j < S.length→¬ ((S.getD j default).kind=kind∧(S.getD j default).target=target)):Ubc S kind target=none:=by
  rw [Ubc,List.find?_eq_none]
  intro j hj
  rw [List.mem_range] at hj
  simpa using hal j hj
structure StaV (x:XSta) (R:List Sl):Prop where
  site:SiteR x.site R
  meas:InR (Vn x.meas) R
  mok:∀m∈x.meas.l,Kna m
  mlen:x.meas.l.length≤1000
  time:0≤x.time∧x.time≤2147483648
  ok:K2 x.site=0
theorem StaV.of {g:PSite} {p:PSta} {x:XSta} {R:List Sl} (hI:Inv g p) (hx:StaIs g p x) (h1:SiteR x.site R) (h2:InR (Vn x.meas) R):StaV x R:=
  ⟨h1,h2,by rw [hx.meas];exact hI.mok,by rw [hx.meas,hI.meas];have:=hI.sok.len;omega,by rw [hx.time];exact hI.time,by rw [hx.site.err];exact hI.site⟩
theorem Ygc (x:XSta) (kind target n:Int) (L:List Blk) (R:List Sl) (h:StaV x R):
    Tri Tryz.prog 128 [x.val,.int .i64 kind,.int .i64 target,.int .i64 n].toArray L R (fun v L' R'=>v=.int .i64 (Jva x.site.sensors.l x.meas.l x.time kind target n)∧L=L'∧R=R'):=by
  have hsR:=h.site.sensors
  have hln:=(Za h.ok).len
  refine Jg 58 Tryz.call128 Tryz.func128 rfl rfl rfl ?_
  refine Xag ?_
  intro b4
  refine Xas ?_
  refine qab ?_
  refine Xaw ?_
  refine Jo [(1,Value.int _ _),(2,Value.int _ _),(3,Value.int _ _),(4,Value.pointer _),(14,Value.slice _ _ _),(15,Value.int _ _),(16,Value.int _ _)] zg fun tq0=>?_
  refine q_s [8,9,10,11,16,17,18,19,20,21,22,23,24,25,26,27,28,29,30,31,32,33,34,35,36,37,38,39,40,41,42,43,44,45,46,47,48,49,50,51,52,53,54,55,56,57] (fun g:{k:Nat // k≤x.site.sensors.l.length∧∀j:Nat,j < k→¬ ((x.site.sensors.l.getD j default).kind=kind∧(x.site.sensors.l.getD j default).target=target)}=>[(16,.int .i64 ((g.1:Nat):Int))]) (fun g=>x.site.sensors.l.length - g.1) (⟨0,by omega,fun j hj=>by omega⟩) ?_
  rintro ⟨k,hk,hal⟩ junk
  try dsimp only
  refine Xak ?_
  refine q_c (fun hc0=>?_) (fun hc0=>?_)
  ·
   have hg:=Jw (l:=x.site.sensors.l) (k:=k) default za
   refine Xa2 ?_
   refine Jx zB rfl ?_
   refine Jx zV rfl ?_
   refine qaq ?_
   intro b10
   refine qad ?_
   refine Xa9 ?_
   refine Xam ?_
   refine Xbx ?_
   apply J9 (G:=[_,_,_,_]) (j:=4) (cj:=25) rfl rfl zb rfl zdb rfl
   ·
    intro hg5
    replace hg5:=qb hg5
    refine Xam ?_
    exact zfd
   intro junk5
   refine qaf ?_
   refine q_c (fun hc1=>?_) (fun hc1=>?_)
   ·
    refine K8 (Kq (Kc (Jb (Jh ?_))))
    refine Xae ?_
    exact Kf ⟨k + 1,by omega,fun j hj=>by
    rcases Nat.lt_or_ge j k with h | h
    · exact hal j h
    · obtain rfl : j = k := by omega
      omega⟩ zm zg zi zqb zx
   have hfs:=Jhd (S:=x.site.sensors.l) (kind:=kind) (target:=target) (k:=k) za za hal
   refine qbo ?_
   refine qab ?_
   refine Jx zmb rfl ?_
   refine Xam ?_
   refine Xaa ?_
   refine q_l rfl (Vsc x.site x.meas (k:Int) x.time _ _ hsR h.meas h.mok h.time) ?_
   refine qaq ?_
   intro b11
   refine Xa0 ?_
   refine Xbe ?_
   refine qbn ?_
   refine qah ?_
   apply Ur (G:=[_,_,_]) (j:=5) (cj:=44) rfl rfl zb rfl zdb rfl
   ·
    intro hg6
    replace hg6:=qb hg6
    refine Xaa ?_
    exact zid
   intro junk6
   refine qah ?_
   apply Ur (G:=[_,_,_,_]) (j:=10) (cj:=49) rfl rfl zb rfl zdb rfl
   ·
    intro hg11
    replace hg11:=qb hg11
    refine Xam ?_
    exact zyd
   intro junk11
   refine qaf ?_
   refine q_c (fun hc2=>?_) (fun hc2=>?_)
   ·
    refine Xb8 ?_
    refine qad ?_
    refine qch ?_
    refine q_i (L':=L) (R':=R) ?_
    exact ⟨by rw [Jva,hfs];dsimp only;rw [if_pos za],rfl,rfl⟩
   refine qbv ?_
   refine qad ?_
   refine qbt ?_
   refine q_i (L':=L) (R':=R) ?_
   exact ⟨by rw [Jva,hfs];dsimp only;rw [if_neg za],rfl,rfl⟩
  refine Xb7 ?_
  refine q_i (L':=L) (R':=R) ?_
  exact ⟨by rw [Jva,Zrc fun j hj=>hal j za],rfl,rfl⟩
theorem Zdc (x:XSta) (L:List Blk) (R:List Sl) (h:StaV x R):
    Tri Tryz.prog 54 [x.val].toArray L R (fun v L' R'=>∃pf pd:Arr Int,v=.agg #[pf.val,pd.val]∧pf.l=Zia x.site x.meas.l x.time x.site.air.fans.l.length∧pd.l=K4a x.site x.meas.l x.time x.site.air.doors.l.length∧L=L'∧isl pd :: isl pf :: R=R'):=by
  have hfR:=h.site.air.fans
  have hdR:=h.site.air.doors
  have hao:=Zs (Za h.ok).air
  have hnf:=hao.nfans
  have hnd:=hao.ndoors
  refine Jg 47 Tryz.call54 Tryz.func54 rfl rfl rfl ?_
  refine Xag ?_
  intro b1
  refine qaq ?_
  intro b2
  refine qam ?_
  refine qaq ?_
  intro b3
  refine qaw ?_
  iterate 3 refine qab ?_
  refine qac ?_
  refine Xc1 ?_
  refine Jo [(1,Value.pointer _),(2,Value.pointer _),(3,Value.pointer _),(11,Value.int _ _),(12,Value.int _ _)] zg fun tq0=>?_
  refine Vm [4,12,13,14,15,16,17,18,19,20,21,22,23] ((⟨fun g=>[(12,.int .i64 ((g.1.1:Nat):Int))],fun g=>⟨b3,[g.1.2.val,.slice none 0 0],80⟩ :: (g.1.2.L 3 Jp ++ (⟨b2,[.slice none 0 0,.slice none 0 0],80⟩ :: ⟨b1,x.cells,54⟩ :: L)),fun _=>R,fun g=>x.site.air.fans.l.length - g.1.1⟩:Head {g:Nat×OwL Int // g.1≤x.site.air.fans.l.length∧g.2.ok 1 Jp∧g.2.l=Zia x.site x.meas.l x.time g.1})) (⟨(0,OwL.nil),by dsimp only;omega,OwL.nil_ok,rfl⟩) zg zU zqb ?_
  rintro ⟨⟨k,pf⟩,hk,hfk,hfl⟩ junk
  try dsimp only
  dsimp only at hk hfk hfl
  have hfn:pf.l.length=k:=by rw [hfl,U0b]
  refine Xak ?_
  refine q_c (fun hc0=>?_) (fun hc0=>?_)
  ·
   refine Xa2 ?_
   refine qad ?_
   refine qaf ?_
   refine Kj tb [] [0,1,2,3,4,5] [6,7,8] (_) _ K1 ze zi (List.nil_sublist _) ?_
   refine Xar ?_
   refine K6f ?_
   refine qbf ?_
   refine Vi rfl (Ygc x 5 (k:Int) 3 _ _ h) rfl rfl ?_
   rintro v L' R' ⟨rfl,rfl,rfl⟩
   refine ⟨zi,zw,?_⟩
   refine qc9 ?_
   rintro v L' R' ⟨b20,rfl,rfl,hR20⟩
   replace hR20:=hR20.symm;subst hR20
   refine Xcz ?_
   refine Yjb (J8 (f:=Jp) (p:=pf) (a:=Jva x.site.sensors.l x.meas.l x.time 5 (k:Int) 3) tb rfl rfl rfl rfl (hfk) zj zsb rfl zy) rfl rfl rfl ?_
   rintro v L' R' ⟨o21,rfl,hok21,rfl,rfl⟩
   refine qa1 ?_
   refine Xc0 ?_
   refine Xc7 ?_
   exact q_k ⟨(k + 1,⟨o21,pf.l ++ [Jva x.site.sensors.l x.meas.l x.time 5 (k:Int) 3]⟩),by dsimp only;omega,hok21,by dsimp only;rw [Ukd,hfl]⟩
  obtain rfl:k=x.site.air.fans.l.length:=by omega
  refine qcf ?_
  iterate 3 refine qab ?_
  refine qac ?_
  refine Xc1 ?_
  refine Jo [(1,Value.pointer _),(2,Value.pointer _),(3,Value.pointer _),(27,Value.slice _ _ _),(28,Value.int _ _),(29,Value.int _ _)] zg fun tq1=>?_
  refine Vm [5,6,29,30,31,32,33,34,35,36,37,38,39,40,41,42,43,44,45] ((⟨fun g=>[(29,.int .i64 ((g.1.1:Nat):Int))],fun g=>⟨b3,[pf.val,g.1.2.val],80⟩ :: (g.1.2.L 3 Jp ++ (pf.L 3 Jp ++ (⟨b2,[.slice none 0 0,.slice none 0 0],80⟩ :: ⟨b1,x.cells,54⟩ :: L))),fun _=>R,fun g=>x.site.air.doors.l.length - g.1.1⟩:Head {g:Nat×OwL Int // g.1≤x.site.air.doors.l.length∧g.2.ok 1 Jp∧g.2.l=K4a x.site x.meas.l x.time g.1})) (⟨(0,OwL.nil),by dsimp only;omega,OwL.nil_ok,rfl⟩) zg zU zqb ?_
  rintro ⟨⟨j,pd⟩,hj,hdk,hdl⟩ junk
  try dsimp only
  dsimp only at hj hdk hdl
  have hdn:pd.l.length=j:=by rw [hdl,Jrb]
  refine Xak ?_
  refine q_c (fun hc1=>?_) (fun hc1=>?_)
  ·
   have hg:=Jw (l:=x.site.air.doors.l) (k:=j) default za
   refine Xa2 ?_
   refine Jx zta rfl ?_
   refine qdk ?_
   refine qaq ?_
   intro b6
   refine qad ?_
   refine qak ?_
   refine qaf ?_
   refine Kj tb [] [0,1,2,3,4,5,6,7,8] [9,10,11] (_) _ K1 ze zi (List.nil_sublist _) ?_
   refine Xar ?_
   refine K6f ?_
   refine qbf ?_
   refine Xar ?_
   refine Kx ztb rfl rfl rfl rfl ?_
   refine Vi rfl (Ygc x 6 (j:Int) _ _ _ h) rfl rfl ?_
   rintro v L' R' ⟨rfl,rfl,rfl⟩
   refine ⟨zi,zw,?_⟩
   refine qc9 ?_
   rintro v L' R' ⟨b42,rfl,rfl,hR42⟩
   replace hR42:=hR42.symm;subst hR42
   refine Xcz ?_
   refine Yjb (J8 (f:=Jp) (p:=pd) (a:=Jva x.site.sensors.l x.meas.l x.time 6 (j:Int) ((x.site.air.doors.l.getD j default).rests.l.length:Int)) tb rfl rfl rfl rfl (hdk) zj zsb rfl zy) rfl rfl rfl ?_
   rintro v L' R' ⟨o43,rfl,hok43,rfl,rfl⟩
   refine qa1 ?_
   refine Xc0 ?_
   refine Xc7 ?_
   exact q_k ⟨(j + 1,⟨o43,pd.l ++ [Jva x.site.sensors.l x.meas.l x.time 6 (j:Int) ((x.site.air.doors.l.getD j default).rests.l.length:Int)]⟩),by dsimp only;omega,hok43,by dsimp only;rw [Zgc,hdl]⟩
  obtain rfl:j=x.site.air.doors.l.length:=by omega
  refine Kd (T:=3) (f:=Jp) (wd:=1) pf [] zj (fun _=>rfl) zc hfk (fun s hs=>by cases hs) ?_
  refine Uv zp ?_
  refine Kd (T:=3) (f:=Jp) (wd:=1) pd [] zj (fun _=>rfl) zc hdk (fun s hs=>by cases hs) ?_
  refine Uv zp ?_
  refine qbk ?_
  refine Xdc ?_
  refine q_r (L':=L) (R':=isl pd.arr :: isl pf.arr :: R) zBc ?_
  exact ⟨pf.arr,pd.arr,rfl,hfl,hdl,rfl,rfl⟩
theorem Zxd (s:XSite) (A:List Bool) (m:List XMeas) (t:Int) {pf pd:Arr Int} (h1:pf.l=Zia s m t s.air.fans.l.length) (h2:pd.l=K4a s m t s.air.doors.l.length):Vca s A m t=(Kwe (Umb s.air ⟨pf,pd⟩ A).2 nothingS 3 s.sensors.l m t).out:=by
  rw [Vca,← J9f s.air ⟨pf,pd⟩ A]
  have e:Ynb (⟨pf,pd⟩:XSetting)=Kce s m t:=by
    show (pf.l,pd.l)=_
    rw [h1,h2,Kce]
  rw [e]
theorem Jfb (x:XSta) (A:List Bool) (L:List Blk) (R:List Sl) (h:StaV x R) (hA:AiryIs x.site.air.mine A):
    Tri Tryz.prog 58 [x.val].toArray L R (fun v L' R'=>∃fl:Arr XSpan,v=fl.val∧fl.l=Vca x.site A x.meas.l x.time∧L=L'∧Vzd fl :: R=R'):=by
  have hsR:=h.site.sensors
  have hso:=Za h.ok
  have hln:=hso.len
  have hrn:=(Zs hso.air).mine.roads
  refine Jg 27 Tryz.call58 Tryz.func58 rfl rfl rfl ?_
  refine Xag ?_
  intro b1
  refine Xcm ?_
  refine Kn tb [0,1,2,3,4,5,6,7,8,9,10] _ K1 ze (List.Sublist.refl _) ?_
  refine qal ?_
  refine qal ?_
  refine qbc ?_
  refine Kv zjb rfl rfl rfl ?_
  refine Yt rfl (Zdc x _ _ h) rfl rfl ?_
  rintro v L' R' ⟨pf,pd,rfl,hfl,hdl,rfl,rfl⟩
  refine ⟨zi,zw,?_⟩
  refine Yt rfl (Y8c x.site.air ⟨pf,pd⟩ A _ _ (Jma h.site.air fun r hr=>Ja (.tail _ (.tail _ hr))) ⟨Ja (.tail _ (.head _)),Ja (.head _)⟩ (fun _=>hA)) rfl rfl ?_
  rintro v L' R' ⟨q,rfl,hqk,hql,rfl,rfl⟩
  refine ⟨zi,zw,?_⟩
  refine Kv zDb rfl rfl rfl ?_
  refine Kv zNb rfl rfl rfl ?_
  refine Kv zNb rfl rfl rfl ?_
  refine Kv (Ud zfb) rfl rfl rfl ?_
  refine qcg ?_
  refine qb9 ?_
  have hfit:Vja x.site.air ⟨pf,pd⟩=true:=by
    rw [Y9e x.site.air (s:=⟨pf,pd⟩) (s':=mkS (Kce x.site x.meas.l x.time)) (by show (pf.l,pd.l)=_;rw [hfl,hdl];rfl)]
    exact Jsd _ _
  have hqn:q.l.length=x.site.air.mine.roads.l.length:=by rw [hql];exact V5d hso.air hfit hA
  refine Kd (T:=90) (f:=XSpan.cells) (wd:=2) q [] zj (fun _=>rfl) zc hqk (fun s hs=>by cases hs) ?_
  refine Uv zp ?_
  have h4:∀r∈R,InR r (Vzd q.arr :: isl pd :: isl pf :: R):=fun r hr=>Ja (.tail _ (.tail _ (.tail _ hr)))
  refine Xcy ?_
  refine qab ?_
  refine Xbe ?_
  refine Xaa ?_
  refine Js rfl (Ymc q.arr x.site.sensors x.meas x.time _ _ zpb (hsR.mono h4) (h.meas.mono h4) (by show q.l.length≤1000;omega) za h.mlen h.mok h.time) rfl ?_
  rintro v L' R' ⟨p2,q2,rfl,⟨hp2k,hq2k⟩,hp2l,hq2l,rfl,rfl⟩
  refine Jx zDb rfl ?_
  refine Xa4 ?_
  refine Xcm ?_
  refine Kd (T:=90) (f:=XSpan.cells) (wd:=2) p2 [] zj (fun _=>rfl) zc hp2k (fun s hs=>by cases hs) ?_
  refine Uv zp ?_
  refine Xcy ?_
  refine Xcq ?_
  refine Ks (L':=L) (R':=Vzd p2.arr :: R) zSc ?hp ?hL ?hR
  case hp=>exact ⟨p2.arr,rfl,by show p2.l=_;rw [hp2l,Zxd x.site A x.meas.l x.time hfl hdl,← hql],rfl,rfl⟩
  case hL=>exact zi
  case hR=>
   exact fun r hr=>by
     rcases List.mem_cons.1 hr with h | h
     · rw [h];exact Ja (.head _)
     · exact Ja (.tail _ (.tail _ (.tail _ (.tail _ h))))
end
section
attribute [local irreducible] CJ LJ DJ Tri YV Gives Ui J0 Ke Uh RV J2 OwL.L
section
variable {A9 B9:Prop}
theorem Upf (a:A9) (h:A9→B9:=by exact Jx zWa rfl):B9:=h a
end
theorem Jbe (L:List Blk) (R:List Sl):
    Tri Tryz.prog 79 ([]:List Value).toArray L R (fun v L' R'=>v=(⟨true,-1,0⟩:XWatch).val∧L=L'∧R=R'):=by
  refine Jg 2 Tryz.call79 Tryz.func79 rfl rfl rfl ?_
  refine qae ?_
  refine qaq ?_
  intro b0
  refine qam ?_
  refine Jx zSb rfl ?_
  refine Xbr ?_
  refine q_r (L':=L) (R':=R) (Ya rfl zib) ?_
  exact zpd
theorem J9e (c:Arr XCut) (r:XRest) (L:List Blk) (R:List Sl) (hc:InR (Kwc c) R):
    Tri Tryz.prog 157 [c.val,r.val].toArray L R (fun v L' R'=>v=(Zt c.l r).val∧L=L'∧R=R'):=by
  refine U8 Tryz.call157 hc fun hcn=>?_
  refine Jg 39 Tryz.call157 Tryz.func157 rfl rfl rfl ?_
  refine Xag ?_
  intro b3
  refine qaq ?_
  intro b4
  refine qaw ?_
  refine Xbm ?_
  refine qah ?_
  apply J9 (G:=[_,_,_,_,_,_,_,_,_,_,_,_,_,_,_,_,_,_,_,_,_,_,_,_,_,_,_]) (j:=3) (cj:=8) rfl rfl zb rfl zdb rfl
  ·
   intro hg4
   replace hg4:=qb hg4
   refine Xaa ?_
   refine qbz ?_
   refine qah ?_
   apply Ur (G:=[_,_,_,_,_]) (j:=7) (cj:=12) rfl rfl zb rfl zdb rfl
   ·
    intro hg8
    replace hg8:=qb hg8
    refine Xaa ?_
    refine Xap ?_
    exact zyd
   intro junk8
   refine qah ?_
   apply Ur (G:=[_,_,_,_,_,_]) (j:=14) (cj:=19) rfl rfl zb rfl zdb rfl
   ·
    intro hg15
    replace hg15:=qb hg15
    have hcg:=Jw (l:=c.l) (k:=r.zone.toNat) default za
    refine Xcg ?_
    refine Upf ?_
    refine Xbv ?_
    exact qai
   intro junk15
   refine qah ?_
   apply Ur (G:=[_,_,_,_,_,_,_]) (j:=22) (cj:=27) rfl rfl zb rfl zdb rfl
   ·
    intro hg23
    replace hg23:=qb hg23
    have hcg:=Jw (l:=c.l) (k:=r.zone.toNat) default za
    refine Xcg ?_
    refine Upf ?_
    refine Xbv ?_
    exact zfd
   intro junk23
   exact qai
  intro junk4
  refine qaf ?_
  refine q_c (fun hc0=>?_) (fun hc0=>?_)
  ·
   refine qae ?_
   refine Jx zob rfl ?_
   refine qak ?_
   refine qbh ?_
   refine q_r (L':=L) (R':=R) (Ya rfl zlb) ?_
   exact ⟨by rw [Zt,if_pos (by rw [Zmb];simpa [and_assoc] using hc0)],rfl,rfl⟩
  refine qbv ?_
  refine q_l rfl (J2c _ _) ?_
  refine Xbr ?_
  refine q_r (L':=L) (R':=R) (Ya rfl zlb) ?_
  exact ⟨by
  rw [Zt,if_neg]
  rw [Zmb]
  rintro (h | ⟨h1,h2,h3⟩)
  · exact hc0.1 h
  · rcases hc0.2 with (h | h) | h
    · omega
    · rw [h] at h2;cases h2
    · exact h h3,rfl,rfl⟩
theorem Ude {A:List Blk} {R:List Sl} {p:OwL XCut} (r:XRest) (hp:InB (p.L 71 XCut.cells) A) (okp:p.ok 3 XCut.cells):
    Tri Tryz.prog 157 [p.val,r.val].toArray A R (fun v L' R'=>v=(Zt p.l r).val∧A=L'∧R=R'):=
  Tri.lendU (S:=[Kwc p.arr]) (fun w G hh s hs=>by
    rw [List.mem_singleton.1 hs]
    exact Z1a (T:=71) hh hp okp (fun _=>rfl) zc (fun s hs=>by cases hs)) (J9e p.arr r [] _ zpb)
end
end Go.Proofs.YtchfclmokpbldaaGreat
