/-
  Merged texts. By an AI agent.
-/
import Derived.Test.YtchfclmokpbldaaGreatStaA
import Derived.Test.YtchfclmokpbldaaGreatStatM
set_option linter.all false
set_option maxHeartbeats 4000000
set_option maxRecDepth 20000
namespace Go.Proofs.YtchfclmokpbldaaGreat
open Go.Aw Go
section
attribute [local irreducible] CJ LJ DJ Tri YV Gives Uq J2 Km Ur RV J4 OwL.L
section
variable {A B:Prop}
def Vxg(h:A→B:=by exact Kp ztb rfl rfl rfl rfl):=h
end
def SiteE.set {s s':XSite} (h:SiteE s s') (m:List XMeas) (t:Int):Zae s m t=Zae s' m t:=by rw [Zae,Zae,J0b,J0b,U3a,U3a,h.nfans,h.ndoors,h.sens];have e:∀i:Nat,(s.air.doors.l.getD i default).rests.l=(s'.air.doors.l.getD i default).rests.l:=h.door;simp only [e]
def SiteE.flows {s s':XSite} (h:SiteE s s') (A:List Bool) (m:List XMeas) (t:Int):Yja s A m t=Yja s' A m t:=by
 have e:∀q:Sts,flS s.air A q=flS s'.air A q:=fun q=>by rw [flS,flS,(AirE.of (s:=mkS q) (s':=mkS q) h.air rfl).ana A]
 rw [Yja,Yja,h.set,e,h.sens]
def Kqc {m:XMine} {u v:Nat} (h:Conn (Ylc m) u v):Conn m u v:=by
 induction h with
 | refl=>exact .refl
 | tail _ k ih=>exact .tail ih k
def K4c {m:XMine} {u v:Nat} (h:Conn m u v):Conn (Ylc m) u v:=by
 induction h with
 | refl=>exact .refl
 | tail _ k ih=>exact .tail ih k
def Zec (m:XMine) (A:List Bool):AiryIs (Ylc m) A↔AiryIs m A:=
 ⟨fun h=>⟨h.len,fun i hi=>(h.iff i hi).trans ⟨fun ⟨j,h1,h2,h3⟩=>⟨j,h1,h2,Kqc h3⟩,fun ⟨j,h1,h2,h3⟩=>⟨j,h1,h2,K4c h3⟩⟩⟩,fun h=>⟨h.len,fun i hi=>(h.iff i hi).trans ⟨fun ⟨j,h1,h2,h3⟩=>⟨j,h1,h2,K4c h3⟩,fun ⟨j,h1,h2,h3⟩=>⟨j,h1,h2,Kqc h3⟩⟩⟩⟩
def SiteE.airy {s s':XSite} (h:SiteE s s') {A:List Bool} (hA:AiryIs s'.air.mine A):AiryIs s.air.mine A:=by have e:Ylc s.air.mine=Ylc s'.air.mine:=congrArg XAir.mine h.air;rw [← Zec,e,Zec];exact hA
def U0d {S:List XSens} {kind target:Int} {k:Nat} (hk:k < S.length) (h:(S.getD k default).kind=kind∧(S.getD k default).target=target) (hal:∀j:Nat,j < k→¬ ((S.getD j default).kind=kind∧(S.getD j default).target=target)):J6d S kind target=some k:=by rw [J6d,yZa];exact ⟨by simpa using h,by rw [yqa];exact hk,fun j hj=>by have:=hal j hj;simp only [yqb,decide_eq_false_iff_not];exact this⟩
def Vkd {S:List XSens} {kind target:Int} (hal:∀j:Nat,j < S.length→¬ ((S.getD j default).kind=kind∧(S.getD j default).target=target)):J6d S kind target=none:=by rw [J6d,List.find?_eq_none];intro j hj;rw [yqa] at hj;simpa using hal j hj
structure StaV (x:XSta) (R:LS):Prop where
 site:SiteR x.site R
 meas:InR (Ya x.meas) R
 mok:∀m∈x.meas.l,Uaa m
 mlen:x.meas.l.length≤1000
 time:0≤x.time∧x.time≤2147483648
 ok:K8 x.site=0
def StaV.of {g:PSite} {p:PSta} {x:XSta} {R:LS} (hI:Inv g p) (hx:StaIs g p x) (h1:SiteR x.site R) (h2:InR (Ya x.meas) R):StaV x R:=
 ⟨h1,h2,by rw [hx.meas];exact hI.mok,by rw [hx.meas,hI.meas];have:=hI.sok.len;omega,by rw [hx.time];exact hI.time,by rw [hx.site.err];exact hI.site⟩
def Zfc (x:XSta) (kind target n:Int) (L:LB) (R:LS) (h:StaV x R):
 Tri Tryz.prog 128 [x.val,.int .i64 kind,.int .i64 target,.int .i64 n].toArray L R (fun v M U=>v=.int .i64 (Ksa x.site.sensors.l x.meas.l x.time kind target n)∧L=M∧R=U):=by
 have hsR:=h.site.sensors;have hln:=(Jka h.ok).len;refine Jd 58 Tryz.call128 Tryz.func128 rfl rfl rfl ?_;apply (Xaf);intro b4;apply Xap∘qab∘Xaz;refine Jl [(1,.int _ _),(2,.int _ _),(3,.int _ _),(4,.pointer _),(14,.slice _ _ _),(15,.int _ _),(16,.int _ _)] zh fun tq0=>?_;refine q_s ([8,9,10,11]++rg 16 42) (fun g:{k:Nat // k≤x.site.sensors.l.length∧∀j:Nat,j < k→¬ ((x.site.sensors.l.getD j default).kind=kind∧(x.site.sensors.l.getD j default).target=target)}=>[(16,.int .i64 ((g.1:Nat):Int))]) (fun g=>x.site.sensors.l.length - g.1) (⟨0,by omega,fun j hj=>by omega⟩) ?_;rintro ⟨k,hk,hal⟩ junk;try dsimp only
 apply (Xan);refine q_c ?_ ?_<;>intro hc0;·
  have hg:=Jt (l:=x.site.sensors.l) (k:=k) default za;apply (Xa4);refine Jy zC rfl ?_;refine Jy zba rfl ?_;apply (qaq);intro b10;apply qad∘Xbc∘Xah∘Xb3;apply Kd (G:=[_,_,_,_]) (j:=4) (cj:=25) rfl rfl zb rfl zmb rfl;·intro hg5;replace hg5:=qb hg5;exact (Xah) zzd
  intro junk5;apply (qaf);refine q_c ?_ ?_<;>intro hc1;·refine K7 (Kq (Kb (Jb (Jh ?_))));apply (Xae);exact uaS
  have hfs:=U0d (S:=x.site.sensors.l) (kind:=kind) (target:=target) (k:=k) za za hal;apply qbo∘qab;refine Jy zvb rfl ?_;apply Xah∘Xaa;refine q_l rfl (Zrb x.site x.meas (k:Int) x.time _ _ hsR h.meas h.mok h.time) ?_;apply (qaq);intro b11;apply Xa0∘Xbe∘Xcc;apply Uy (G:=[_,_,_]) (j:=5) (cj:=44) rfl rfl zb rfl zmb rfl;·intro hg6;replace hg6:=qb hg6;exact (Xaa) zAd
  intro junk6;apply (qah);apply Uy (G:=[_,_,_,_]) (j:=10) (cj:=49) rfl rfl zb rfl zmb rfl;·intro hg11;replace hg11:=qb hg11;exact (Xah) zJd
  intro junk11;apply (qaf);refine q_c ?_ ?_<;>intro hc2;·apply Xcl∘qad∘qch;refine q_i L R ?_;exact ⟨by rw [Ksa,hfs];dsimp only;rw [if_pos za],rfl,rfl⟩
  apply qbv∘qad∘qbt;refine q_i L R ?_;exact ⟨by rw [Ksa,hfs];dsimp only;rw [if_neg za],rfl,rfl⟩
 apply (Xcx);refine q_i L R ?_;exact ⟨by rw [Ksa,Vkd fun j hj=>hal j za],rfl,rfl⟩
def Udd (x:XSta) (L:LB) (R:LS) (h:StaV x R):
 Tri Tryz.prog 54 [x.val].toArray L R (fun v M U=>∃pf pd:Arr Int,v=.agg #[pf.val,pd.val]∧pf.l=J0b x.site x.meas.l x.time x.site.air.fans.l.length∧pd.l=U3a x.site x.meas.l x.time x.site.air.doors.l.length∧L=M∧isl pd :: isl pf :: R=U):=by
 have hfR:=h.site.air.fans;have hdR:=h.site.air.doors;have hao:=Y0 (Jka h.ok).air;have hnf:=hao.nfans;have hnd:=hao.ndoors;refine Jd 47 Tryz.call54 Tryz.func54 rfl rfl rfl ?_;apply (Xaf);intro b1;apply (qaq);intro b2;apply qam∘qaq;intro b3;apply (qaw);iterate 3 apply (qab)
 apply Xdb∘Xao;refine Jl [(1,.pointer _),(2,.pointer _),(3,.pointer _),(11,.int _ _),(12,.int _ _)] zh fun tq0=>?_;refine Ub ([4]++rg 12 12) ((⟨fun g=>[(12,.int .i64 ((g.1.1:Nat):Int))],fun g=>⟨b3,[g.1.2.val,.slice none 0 0],80⟩ :: (g.1.2.L 3 Jk ++ (⟨b2,[.slice none 0 0,.slice none 0 0],80⟩ :: ⟨b1,x.cells,54⟩ :: L)),fun _=>R,fun g=>x.site.air.fans.l.length - g.1.1⟩:Head {g:Nat×OwL Int // g.1≤x.site.air.fans.l.length∧g.2.ok 1 Jk∧g.2.l=J0b x.site x.meas.l x.time g.1})) (⟨(0,OwL.nil),by dsimp only;omega,OwL.nil_ok,rfl⟩) zh zZ zBb ?_;rintro ⟨⟨k,pf⟩,hk,hfk,hfl⟩ junk;try dsimp only
 dsimp only at hk hfk hfl;have hfn:pf.l.length=k:=by rw [hfl,Zkb]
 apply (Xan);refine q_c ?_ ?_<;>intro hc0;·apply Xa4∘qad∘qaf;refine J5 tb [] [0,1,2,3,4,5] [6,7,8] (_) _ Kr zc zg yd ?_;apply Xaj∘Vxg∘qbf;refine Ks rfl (Zfc x 5 (k:Int) 3 _ _ h) rfl rfl ?_;rintro v M U ⟨rfl,rfl,rfl⟩;refine ⟨zg,zq,?_⟩;apply (qc9);rintro v M U ⟨b20,rfl,rfl,hR20⟩;replace hR20:=hR20.symm;subst hR20;apply (Xb1);refine Yua (Jv (f:=Jk) (p:=pf) (a:=Ksa x.site.sensors.l x.meas.l x.time 5 (k:Int) 3) tb rfl rfl rfl rfl (hfk) zj zwb rfl zA) rfl rfl rfl ?_;rintro v M U ⟨o21,rfl,hok21,rfl,rfl⟩;apply Xc8∘Xae;exact q_k ⟨(k + 1,⟨o21,pf.l ++ [Ksa x.site.sensors.l x.meas.l x.time 5 (k:Int) 3]⟩),by dsimp only;omega,hok21,by dsimp only;rw [Zud,hfl]⟩
 obtain rfl:k=x.site.air.fans.l.length:=by omega
 apply (qcf);iterate 3 apply (qab)
 apply Xdb∘Xao;refine Jl [(1,.pointer _),(2,.pointer _),(3,.pointer _),(27,.slice _ _ _),(28,.int _ _),(29,.int _ _)] zh fun tq1=>?_;refine Ub ([5,6]++rg 29 17) ((⟨fun g=>[(29,.int .i64 ((g.1.1:Nat):Int))],fun g=>⟨b3,[pf.val,g.1.2.val],80⟩ :: (g.1.2.L 3 Jk ++ (pf.L 3 Jk ++ (⟨b2,[.slice none 0 0,.slice none 0 0],80⟩ :: ⟨b1,x.cells,54⟩ :: L))),fun _=>R,fun g=>x.site.air.doors.l.length - g.1.1⟩:Head {g:Nat×OwL Int // g.1≤x.site.air.doors.l.length∧g.2.ok 1 Jk∧g.2.l=U3a x.site x.meas.l x.time g.1})) (⟨(0,OwL.nil),by dsimp only;omega,OwL.nil_ok,rfl⟩) zh zZ zBb ?_;rintro ⟨⟨j,pd⟩,hj,hdk,hdl⟩ junk;try dsimp only
 dsimp only at hj hdk hdl;have hdn:pd.l.length=j:=by rw [hdl,Ukb]
 apply (Xan);refine q_c ?_ ?_<;>intro hc1;·have hg:=Jt (l:=x.site.air.doors.l) (k:=j) default za;apply (Xa4);refine Jy zwa rfl ?_;apply qdk∘qaq;intro b6;apply qad∘qak∘qaf;refine J5 tb [] [0,1,2,3,4,5,6,7,8] [9,10,11] (_) _ Kr zc zg yd ?_;apply Xaj∘Vxg∘qbf∘Xaj;refine Kp zKb rfl rfl rfl rfl ?_;refine Ks rfl (Zfc x 6 (j:Int) _ _ _ h) rfl rfl ?_;rintro v M U ⟨rfl,rfl,rfl⟩;refine ⟨zg,zq,?_⟩;apply (qc9);rintro v M U ⟨b42,rfl,rfl,hR42⟩;replace hR42:=hR42.symm;subst hR42;apply (Xb1);refine Yua (Jv (f:=Jk) (p:=pd) (a:=Ksa x.site.sensors.l x.meas.l x.time 6 (j:Int) ((x.site.air.doors.l.getD j default).rests.l.length:Int)) tb rfl rfl rfl rfl (hdk) zj zwb rfl zA) rfl rfl rfl ?_;rintro v M U ⟨o43,rfl,hok43,rfl,rfl⟩;apply Xc8∘Xae;exact q_k ⟨(j + 1,⟨o43,pd.l ++ [Ksa x.site.sensors.l x.meas.l x.time 6 (j:Int) ((x.site.air.doors.l.getD j default).rests.l.length:Int)]⟩),by dsimp only;omega,hok43,by dsimp only;rw [Ved,hdl]⟩
 obtain rfl:j=x.site.air.doors.l.length:=by omega
 refine Kk (T:=3) (f:=Jk) (wd:=1) pf [] zj yf ze hfk yg ?_;refine U0 zt ?_;refine Kk (T:=3) (f:=Jk) (wd:=1) pd [] zj yf ze hdk yg ?_;refine U0 zt ?_;apply qbk∘Xc5;refine q_r L (isl pd.arr :: isl pf.arr :: R) zTc ?_;exact ⟨pf.arr,pd.arr,rfl,hfl,hdl,rfl,rfl⟩
def Yre (s:XSite) (A:List Bool) (m:List XMeas) (t:Int) {pf pd:Arr Int} (h1:pf.l=J0b s m t s.air.fans.l.length) (h2:pd.l=U3a s m t s.air.doors.l.length):Yja s A m t=(Zce (Veb s.air ⟨pf,pd⟩ A).2 nothingS 3 s.sensors.l m t).out:=by
 rw [Yja,← Kug s.air ⟨pf,pd⟩ A];have e:Jxc (⟨pf,pd⟩:XSetting)=Zae s m t:=by show (pf.l,pd.l)=_;rw [h1,h2,Zae]
 rw [e]
def Zfb (x:XSta) (A:List Bool) (L:LB) (R:LS) (h:StaV x R) (hA:AiryIs x.site.air.mine A):
 Tri Tryz.prog 58 [x.val].toArray L R (fun v M U=>∃fl:Arr XSpan,v=fl.val∧fl.l=Yja x.site A x.meas.l x.time∧L=M∧Kpe fl :: R=U):=by
 have hsR:=h.site.sensors;have hso:=Jka h.ok;have hln:=hso.len;have hrn:=(Y0 hso.air).mine.roads;refine Jd 27 Tryz.call58 Tryz.func58 rfl rfl rfl ?_;apply (Xaf);intro b1;apply (Xdj);refine Kh tb [0,1,2,3,4,5,6,7,8,9,10] _ Kr zc ye ?_;apply qal∘qal∘qbc;refine K0 ztb rfl rfl rfl ?_;refine Yn rfl (Udd x _ _ h) rfl rfl ?_;rintro v M U ⟨pf,pd,rfl,hfl,hdl,rfl,rfl⟩;refine ⟨zg,zq,?_⟩;refine Yn rfl (Vld x.site.air ⟨pf,pd⟩ A _ _ (Kha h.site.air fun r hr=>Ja (.tail _ (.tail _ hr))) ⟨Ja (.tail _ (.head _)),Ja (.head _)⟩ (fun _=>hA)) rfl rfl ?_;rintro v M U ⟨q,rfl,hqk,hql,rfl,rfl⟩;refine ⟨zg,zq,?_⟩;refine K0 zPb rfl rfl rfl ?_;refine K0 zbc rfl rfl rfl ?_;refine K0 zbc rfl rfl rfl ?_;refine K0 (Ud zob) rfl rfl rfl ?_;apply qcg∘qb9;have hfit:Uza x.site.air ⟨pf,pd⟩=true:=by rw [Yqf x.site.air (s:=⟨pf,pd⟩) (s':=mkS (Zae x.site x.meas.l x.time)) (by show (pf.l,pd.l)=_;rw [hfl,hdl];rfl)];exact Y2d _ _
 have hqn:q.l.length=x.site.air.mine.roads.l.length:=by rw [hql];exact Kqe hso.air hfit hA
 refine Kk (T:=90) (f:=XSpan.cells) (wd:=2) q [] zj yf ze hqk yg ?_;refine U0 zt ?_;have h4:∀r∈R,InR r (Kpe q.arr :: isl pd :: isl pf :: R):=fun r hr=>Ja (.tail _ (.tail _ (.tail _ hr)));apply Xcr∘qab∘Xbe∘Xaa;refine Jo rfl (Utd q.arr x.site.sensors x.meas x.time _ _ zCb (hsR.mono h4) (h.meas.mono h4) (by show q.l.length≤1000;omega) za h.mlen h.mok h.time) rfl ?_;rintro v M U ⟨p2,q2,rfl,⟨hp2k,hq2k⟩,hp2l,hq2l,rfl,rfl⟩;refine Jy zPb rfl ?_;apply Xa6∘Xdj;refine Kk (T:=90) (f:=XSpan.cells) (wd:=2) p2 [] zj yf ze hp2k yg ?_;refine U0 zt ?_;apply Xcr∘Xcn;refine Kv (M:=L) (U:=Kpe p2.arr :: R) zkd ?hp ?hL ?hR;case hp=>exact ⟨p2.arr,rfl,by show p2.l=_;rw [hp2l,Yre x.site A x.meas.l x.time hfl hdl,← hql],rfl,rfl⟩
 case hL=>exact zg
 case hR=>
  exact fun r hr=>by
   rcases List.mem_cons.1 hr with h | h;·rw [h];exact Ja (.head _)
   ·exact Ja (.tail _ (.tail _ (.tail _ (.tail _ h))))
end
section
attribute [local irreducible] CJ LJ DJ Tri YV Gives Uq J2 Km Ur RV J4 OwL.L
section
variable {A B:Prop}
def U0g(h:A→B:=by exact Jy zdb rfl):=h
end
def K7d (l:XLevel) (w:XWatch) (L:LB) (R:LS) (hw:w.last≤2147483648∧w.since≤w.last):
 Tri Tryz.prog 102 [l.val,w.val].toArray L R (fun v M U=>v=.int .i64 (Jad l w)∧L=M∧R=U):=by
 refine Jd 18 Tryz.call102 Tryz.func102 rfl rfl rfl ?_;apply (Xaf);intro b2;apply (qax);intro b3;apply (Xap);refine Jy zrb rfl ?_;refine q_l rfl (Ug l _ _) ?_;apply (Xb3);apply Kd (G:=[_,_,_]) (j:=3) (cj:=8) rfl rfl zb rfl zmb rfl;·exact zxe
 intro junk4;apply (qaf);refine q_c ?_ ?_<;>intro hc0;·apply (Xa7);refine q_i L R ?_;exact ⟨by rw [Jad,if_pos za],rfl,rfl⟩
 have hl:Yr l:=by
  have h:Y1 l=0:=by omega
  rw [Y1] at h;exact ubk
 rw [Yr] at hl;apply qbv∘Xbe∘qar∘Xai;refine q_i L R ?_;exact ⟨by rw [Jad,if_neg za],rfl,rfl⟩
def Vge (L:LB) (R:LS):
 Tri Tryz.prog 79 ([]:List Value).toArray L R (fun v M U=>v=(⟨true,-1,0⟩:XWatch).val∧L=M∧R=U):=by refine Jd 2 Tryz.call79 Tryz.func79 rfl rfl rfl ?_;apply (Xco);intro b0;apply (qam);refine Jy zjc rfl ?_;apply (Xbd);refine q_r L R (Va rfl zsb) ?_;exact zDd
def Zre (c:Arr XCut) (r:XRest) (L:LB) (R:LS) (hc:InR (Uyc c) R):
 Tri Tryz.prog 157 [c.val,r.val].toArray L R (fun v M U=>v=(Kua c.l r).val∧L=M∧R=U):=by
 refine Vq Tryz.call157 hc fun hcn=>?_;refine Jd 39 Tryz.call157 Tryz.func157 rfl rfl rfl ?_;apply (Xaf);intro b3;apply (qaq);intro b4;apply qaw∘Xaa∘Xcc;apply Kd (G:=[_,_,_,_,_,_,_,_,_,_,_,_,_,_,_,_,_,_,_,_,_,_,_,_,_,_,_]) (j:=3) (cj:=8) rfl rfl zb rfl zmb rfl;·
  intro hg4;replace hg4:=qb hg4;apply Xaa∘qbz∘qah;apply Uy (G:=[_,_,_,_,_]) (j:=7) (cj:=12) rfl rfl zb rfl zmb rfl;·intro hg8;replace hg8:=qb hg8;exact (Xaa∘Xaq) zJd
  intro junk8;apply (qah);apply Uy (G:=[_,_,_,_,_,_]) (j:=14) (cj:=19) rfl rfl zb rfl zmb rfl;·intro hg15;replace hg15:=qb hg15;have hcg:=Jt (l:=c.l) (k:=r.zone.toNat) default za;exact (Xb8∘U0g∘Xbx) qai
  intro junk15;apply (qah);apply Uy (G:=[_,_,_,_,_,_,_]) (j:=22) (cj:=27) rfl rfl zb rfl zmb rfl;·intro hg23;replace hg23:=qb hg23;have hcg:=Jt (l:=c.l) (k:=r.zone.toNat) default za;exact (Xb8∘U0g∘Xbx) zzd
  intro junk23;exact qai
 intro junk4;apply (qaf);refine q_c ?_ ?_<;>intro hc0;·apply (qae);refine Jy zzb rfl ?_;apply (Xdt);refine q_r L R (Va rfl zub) ?_;exact ⟨by rw [Kua,if_pos (by rw [Ufc];simpa [and_assoc] using hc0)],rfl,rfl⟩
 apply (qbv);refine q_l rfl (Ybc _ _) ?_;apply (Xbd);refine q_r L R (Va rfl zub) ?_;exact ⟨by
 rw [Kua,if_neg];rw [Ufc];rintro (h | ⟨h1,h2,h3⟩);·exact hc0.1 h
 ·
  rcases hc0.2 with (h | h) | h;·omega
  ·rw [h] at h2;cases h2
  ·exact h h3,rfl,rfl⟩
def Kqf {A:LB} {R:LS} {p:OwL XCut} (r:XRest) (hp:InB (p.L 71 XCut.cells) A) (okp:p.ok 3 XCut.cells):
 Tri Tryz.prog 157 [p.val,r.val].toArray A R (fun v M U=>v=(Kua p.l r).val∧A=M∧R=U):=
 Tri.lendU (S:=[Uyc p.arr]) (fun w G hh s hs=>by
  rw [List.mem_singleton.1 hs]
  exact Y5 (T:=71) hh hp okp yf ze yg) (Zre p.arr r [] _ zCb)
end
end Go.Proofs.YtchfclmokpbldaaGreat
