/-
  Merged texts. By an AI agent.
-/
import Derived.Test.YtchfclmokpbldaaGreatTelF
import Derived.Test.YtchfclmokpbldaaGreatAppR
import Derived.Test.YtchfclmokpbldaaGreatStaC
import Derived.Test.YtchfclmokpbldaaGreatCloneS
set_option linter.all false
set_option maxHeartbeats 4000000
set_option maxRecDepth 20000
namespace Go.Proofs.YtchfclmokpbldaaGreat
open Go.Aw Go
section
attribute [local irreducible] CJ LJ DJ Tri YV Gives Uo J0 Kj Un RV J2 OwL.L
section
variable {A B:Prop}
def Zsd(h:A→B:=by exact Jx (J4 (qs:=[]) (out:=[_,_,_,_]) tb rfl rfl rfl rfl) rfl):=h
def Y8d(h:B:=by exact ⟨(⟨0,0,⟨0,0⟩⟩:XMeas),by rw [he],fun h=>by omega,rfl,rfl⟩):=h
def Zlf(h:A→B:=by exact Kn zha rfl rfl rfl rfl):=h
end
def K4b (a:Int) (L:LB) (R:LS) (ha:-1000000000000≤a∧a≤1000000000000):
 Tri Tryz.prog 194 [.int .i64 a].toArray L R (fun v M U=>v=.int .i64 (a / 1000)∧L=M∧R=U):=by
 have hm:=Int.tmod_def a 1000;have h1:0≤a→a.tdiv 1000=a / 1000:=fun h=>yZ h;have h2:a < 0→a.tdiv 1000= -((-a) / 1000):=fun h=>by
  have:a= -(-a):=by omega
  rw [this,Int.neg_tdiv,yZ za];omega
 refine Je 12 Tryz.call194 Tryz.func194 rfl rfl rfl ?_;apply Xac∘Xci∘qdd∘Xaq∘qaa∘qda∘Xa2;refine q_c ?_ ?_<;>intro hc0;·apply qay∘Xba∘Xau∘Xai;refine q_i L R ?_;exact ⟨by rw [show a.tdiv 1000 - 1=a / 1000 by omega],rfl,rfl⟩
 apply Xcy∘Xai;refine q_i L R ?_;exact ⟨by rw [show a.tdiv 1000=a / 1000 by omega],rfl,rfl⟩
def Jtc (s:XSens) (r:Int) (L:LB) (R:LS) (hs:U1 s=0) (hr0:-1000000≤r∧r≤1000000):
 Tri Tryz.prog 115 [s.val,.int .i64 r].toArray L R (fun v M U=>v=(K7a s r).val∧L=M∧R=U):=by
 refine Je 71 Tryz.call115 Tryz.func115 rfl rfl rfl ?_;apply (Xag);intro b2;apply (qaq);intro b4;apply qaw∘Xb5;apply Kf (G:=[_,_]) (j:=2) (cj:=10) rfl rfl zb rfl zfb rfl;·exact zdd
 intro junk3;apply (qaf);refine q_c ?_ ?_<;>intro hc0;·apply (qae);refine q_l rfl (Ua _ _) ?_;apply (Xdk);refine q_r L R zFc ?_;exact ⟨by rw [K7a,if_pos za],rfl,rfl⟩
 have hE:¬ (U1 s≠0∨¬ (0≤r∧r≤65535)):=by omega
 have hml:=Z8d (s:=s) (r:=r) hs za;have hsk:=V7b hs;rw [Zi] at hsk;have hkd:1≤s.kind∧s.kind≤6:=by
  rw [U1] at hs;split at hs;·omega
  ·omega
 apply qbv∘Xaq∘Xaa∘qaf;refine V8 ([5]++rg 17 6) ((⟨fun g=>[(5,.int .i64 g.1)],fun _=>⟨b4,[.int .i64 0,.int .i64 0],90⟩ :: ⟨b2,s.cells,88⟩ :: L,fun _=>R,fun _=>0⟩:Head {n:Int // n=if 4≤s.kind then Ykd s.kind else -1})) ?_ ?_;·
  refine Kb (Jl (Jf ?_));apply (Xay);refine q_c ?_ ?_<;>intro hc1;·apply qay∘qad;refine J5 (Jd ?_);exact q_j ⟨1,by rw [if_pos za,Ykd,if_neg za,if_neg za]⟩
  apply (Xbk);refine q_c ?_ ?_<;>intro hc2;·apply qay∘qad;refine J5 (Jd ?_);exact q_j ⟨2,by rw [if_pos za,Ykd,if_neg za,if_pos za]⟩
  apply (Xbk);refine q_c ?_ ?_<;>intro hc3;·apply qay∘qad;refine J5 (Jd ?_);exact q_j ⟨5,by rw [if_pos za,Ykd,if_pos za]⟩
  refine J1 (Jd ?_);exact q_j ⟨-1,by rw [if_neg za]⟩
 rintro ⟨ms,hms⟩ junk;try dsimp only
 have hm4:4≤s.kind↔0≤ms:=by
  rw [hms,Ykd];repeat' split
  all_goals omega
 apply Xaw∘Xcj;refine q_c ?_ ?_<;>intro hc4;·
  apply Xaw∘qaa∘Xb1;refine q_c ?_ ?_<;>intro hc5;·apply (qae);refine q_l rfl (Ua _ _) ?_;apply (qak);refine J5 (Jb (Up (Kg (Kg ?_))));refine q_r L R zFc ?_;exact ⟨by rw [if_pos za] at hms;rw [K7a,if_neg hE,if_pos za,if_pos za],rfl,rfl⟩
  apply Xcy∘qaa∘qcd∘Xdk;refine q_r L R zFc ?_;exact ⟨by rw [if_pos za] at hms;rw [K7a,if_neg hE,if_pos za,if_neg za],rfl,rfl⟩
 apply qbv∘Xaj∘qcm∘Xb4;refine Kk tb [0,1,2,5,6,8,9,10,11,14,15,3,4,7,12,13,16,17,18,19] ([Blk.mk b2 _ _]) Kr zc zi ?_;apply Xbx∘Xal∘Xbx;refine K3 (Z1a rfl za za) rfl rfl rfl ?_;apply (Xal);refine q_d rfl (K4b (s.scale * r) _ _ za) ?_;apply qc2∘qb7;refine q_d rfl (K4b (-(s.scale * r)) _ _ za) ?_;apply qb7∘qc2;refine K3 zub rfl rfl rfl ?_;apply (qbr);intro b7;apply qbg∘qc6∘Xaa∘Xcq;apply Kf (G:=[_,_,_]) (j:=3) (cj:=57) rfl rfl zb rfl zfb rfl;·exact zpd
 intro junk4;apply (qaf);refine q_c ?_ ?_<;>intro hc6;·apply qay∘Xaa;refine Jx zcc rfl ?_;apply (Xaa);refine Jx zcc rfl ?_;apply Xa7∘Xa7∘qam∘Xcs;refine q_r L R zFc ?_;exact ⟨by rw [K7a,if_neg hE,if_neg za,if_pos za,Ucf];simp only [yXb],rfl,rfl⟩
 apply qbv∘Xcs;refine q_r L R zFc ?_;exact ⟨by rw [K7a,if_neg hE,if_neg za,if_neg za,Ucf];simp only [yXb],rfl,rfl⟩
def IsAd (S:List XSens) (ad z a:Int):Prop:=(a= -1∧∀j:Nat,z < j→j < S.length→(S.getD j default).address≠ad)∨((z < a∧a < S.length)∧(S.getD a.toNat default).address=ad∧∀j:Nat,z < j→(j:Int) < a→(S.getD j default).address≠ad)
def Y1d {S:List XSens} {ad a:Int} (h:IsAd S ad (-1) a):Jpa S ad=a:=by
 rcases h with ⟨h1,h2⟩ | ⟨h1,h2,h3⟩;·rw [Jpa,List.find?_eq_none.2 (fun i hi=>by rw [ysa] at hi;simpa using h2 i za hi),h1];rfl
 ·
  have:(List.range S.length).find? (fun i=>decide ((S.getD i default).address=ad))=some a.toNat:=by rw [yXa];refine ⟨by simpa using h2,by rw [ysa];omega,fun j hj=>?_⟩;simpa using h3 j za za
  rw [Jpa,this];show ((a.toNat:Nat):Int)=a;omega
def IsAd.hit {S:List XSens} {z ad:Int} (hz:0≤z∧z < S.length) (h:(S.getD z.toNat default).address=ad):IsAd S ad (z - 1) z:=
 .inr ⟨by omega,h,fun j h1 h2=>by omega⟩
def IsAd.miss {S:List XSens} {z ad a:Int} (hz:0≤z∧z < S.length) (k:IsAd S ad z a) (h:(S.getD z.toNat default).address≠ad):IsAd S ad (z - 1) a:=by
 rcases k with ⟨h1,h2⟩ | ⟨h1,h2,h3⟩;·
  refine .inl ⟨h1, fun j hj hl => ?_⟩;rcases yba (z < j) with h4 | h4;·exact h2 j h4 hl
  ·(obtain rfl : j = z.toNat := by omega);exact h
 ·
  refine .inr ⟨by omega, h2, fun j hj hl => ?_⟩;rcases yba (z < j) with h4 | h4;·exact h3 j h4 hl
  ·(obtain rfl : j = z.toNat := by omega);exact h
def Y9b (S:Arr XSens) (f:XFrame) (t:Int) (L:LB) (R:LS) (hS:InR (Y4c S) R) (hf:InR (bsl f.data) R) (hb:BytesOk f.data.l) (hn:S.l.length≤64):
 Tri Tryz.prog 45 [S.val,f.val,.int .i64 t].toArray L R (fun v M U=>∃m:XMeas,v=.tuple #[m.val,.int .i64 (Vg S.l f.tele t)]∧(Vg S.l f.tele t=0→m=Vqb S.l f.tele t)∧L=M∧R=U):=by
 refine Ve Tryz.call45 hf fun hfn=>?_;refine Je 85 Tryz.call45 Tryz.func45 rfl rfl rfl ?_;apply (Xag);intro b4;apply (qaq);intro b6;apply Xaq∘Xb5;apply Kf (G:=[_,_]) (j:=2) (cj:=13) rfl rfl zb rfl zfb rfl;·exact zdd
 intro junk3;apply (qaf);refine q_c ?_ ?_<;>intro hc0;·
  apply qae∘Zsd∘Xb0;refine q_r L R zWc ?_;have he:Vg S.l f.tele t=8:=by rw [Vg,if_pos za]
  exact Y8d
 apply qbv∘Xaq∘Xak∘qa9∘Xa4;refine Jk [(0,.slice _ _ _),(2,.int _ _),(4,.pointer _),(6,.pointer _),(8,.int _ _),(9,.int _ _)] zh fun tq0=>?_;refine q_s ([8,9]++rg 21 13) (fun g:{g:Int×Int // (-1≤g.1∧g.1 < S.l.length)∧IsAd S.l f.address g.1 g.2}=>[(9,.int .i64 g.1.1),(8,.int .i64 g.1.2)]) (fun g=>(g.1.1 + 1).toNat) (⟨((S.l.length:Int) - 1,-1),by dsimp only;omega,.inl ⟨rfl,fun j h1 h2=>by dsimp only at h1;omega⟩⟩) ?_;rintro ⟨⟨z,a⟩,hz,ha⟩ junk;try dsimp only
 dsimp only at hz ha;apply Xaw∘Xcj;refine q_c ?_ ?_<;>intro hc1;·
  have hg:=Ju (l:=S.l) (k:=z.toNat) default za;refine J1 (Jb (Jl (Kb (Jl ?_))));refine Kk tb [0,1,2,3,4,5,6,7] _ Kr zc ye ?_;refine K3 zOc rfl rfl rfl ?_;apply (qao);refine K3 zIa rfl rfl rfl ?_;apply qce∘qbl∘Xal;refine K3 zec rfl rfl rfl ?_;apply (qbu);refine q_c ?_ ?_<;>intro hc2;·apply Xbi∘qad∘qcs∘Xbu;exact q_k ⟨(z - 1,z),by dsimp only;omega,.hit za hc2⟩
  apply qbj∘Xbu;exact q_k ⟨(z - 1,a),by dsimp only;omega,ha.miss za hc2⟩
 obtain rfl:z= -1:=by omega
 have hadr:Jpa S.l f.tele.address=a:=Y1d ha;have har:a < 0∨(0≤a∧a < S.l.length):=by
  rcases ha with h | h;·omega
  ·omega
 apply qcf∘Xb5;apply Kf (G:=[_,_,_,_,_,_]) (j:=2) (cj:=36) rfl rfl zb rfl zfb rfl;·intro hg3;replace hg3:=qb hg3;have hgA:=Ju (l:=S.l) (k:=a.toNat) default za;apply (Xas);refine Jx zab rfl ?_;refine Jx zba rfl ?_;refine q_l rfl (Usa (S.l.getD a.toNat default) _ _) ?_;exact zfd
 intro junk3;apply (qaf);refine q_c ?_ ?_<;>intro hc3;·
  apply qae∘Zsd∘Xb0;refine q_r L R zWc ?_;have he:Vg S.l f.tele t=9:=by rw [Vg,if_neg za,hadr,if_pos za]
  exact Y8d
 have hgA:=Ju (l:=S.l) (k:=a.toNat) default za;have hE1:¬ (t < 0∨2147483648 < t):=by omega
 have hE2:¬ (a < 0∨U1 (S.l.getD a.toNat default)≠0):=by omega
 have hdl:f.tele.data.length=f.data.l.length:=rfl;have htk:f.tele.kind=f.kind:=rfl;apply Xcy∘qaa;refine q_l rfl (Ua _ _) ?_;refine Jx (J4 (qs:=[(0,(Value.int _ _).cells.toList),(1,(Value.int _ _).cells.toList),(2,(Value.agg _).cells.toList)]) (out:=[_,_,_,_]) tb rfl rfl rfl rfl) rfl ?_;apply (qaq);intro b10;apply Xbh∘Xaa;refine J5 (Jb (Kb (Jl (Jf ?_))));apply (Xay);refine q_c ?_ ?_<;>intro hc4;·
  apply qbi∘Xab∘Xax;refine q_c ?_ ?_<;>intro hc5;·apply qae∘Zsd∘qak∘qad;refine J5 (Jb (Up (Kg (Kc (Kg ?_)))));exact zAd
  have h0:=Ju (l:=f.data.l) (k:=0) 0 za;have h1:=Ju (l:=f.data.l) (k:=1) 0 za;have hb0:=hb.at 0;have hb1:=hb.at 1;refine J1 (Jb ?_);refine J6 tb [] [0,1,2,3,4,5,6,7,8,9,10,11,12,13,14,15,16,17] [18] (_) _ Kr zc zi (by (repeat (first | apply List.Sublist.cons (a:=Blk.mk b10 _ _) | apply List.Sublist.cons_cons));exact yu _) ?_;apply (Xdb);refine Kn zab rfl rfl rfl rfl ?_;refine Kn zba rfl rfl rfl rfl ?_;apply Xaf∘qd2∘qci∘Zlf;refine Kn (Vzb rfl rfl ze (Kje za)) rfl rfl rfl rfl ?_;apply (Xaf);refine Kn zeb rfl rfl rfl rfl ?_;apply qci∘Zlf;refine Kn (Zne rfl rfl (Jqg za za)) rfl rfl rfl rfl ?_;refine Kp rfl (Jtc (S.l.getD a.toNat default) _ _ _ za za) rfl rfl ?_;rintro v M U ⟨rfl,rfl,rfl⟩;refine ⟨zi,zq,?_⟩;apply (Xdx);refine U1b rfl rfl rfl rfl zB zb zb zb zi ?_;refine J3 (Jd (Jb (Jl (Jf ?_))));apply qa8∘Xcf;refine q_r L R zWc ?_;have he:Vg S.l f.tele t=0:=by rw [Vg,if_neg hE1,hadr,if_neg hE2,if_neg za,if_neg za]
  exact ⟨⟨a,t,K7a (S.l.getD a.toNat default) (f.data.l.getD 0 0 * 256 + f.data.l.getD 1 0)⟩,by rw [he],fun _=>by rw [Vqb,hadr,if_pos za];rfl,rfl,rfl⟩
 apply (Xbk);refine q_c ?_ ?_<;>intro hc6;·
  apply qae∘Xab∘Xax;refine q_c ?_ ?_<;>intro hc7;·exact (qae∘Zsd∘qak∘qad∘qdb) zAd
  refine J1 (Jd (Jb (Jl (Jf ?_))));apply qa8∘Xcf;refine q_r L R zWc ?_;have he:Vg S.l f.tele t=0:=by rw [Vg,if_neg hE1,hadr,if_neg hE2,if_neg za,if_neg za]
  exact ⟨⟨a,t,nothingS⟩,by rw [he],fun _=>by rw [Vqb,hadr,if_neg za],rfl,rfl⟩
 apply qae∘Zsd∘qak∘qad∘qdb;refine q_r L R zWc ?_;have he:Vg S.l f.tele t=5:=by rw [Vg,if_neg hE1,hadr,if_neg hE2,if_pos za]
 exact Y8d
end
section
attribute [local irreducible] CJ LJ DJ Tri YV Gives Uo J0 Kj Un RV J2 OwL.L
def Ukd (g:PSite) (q:PSta×Int) (L:LB) (R:LS):Yo:=fun v M U=>∃(y:XSta) (S:LS),v=.tuple #[y.val,.int .i64 q.2]∧StaIs g q.1 y∧StaR y U∧L=M∧S ++ R=U
def K8c {g:PSite} {p:PSta} {x:XSta} (hx:StaIs g p x) {t:Int}:(t < x.time∨2147483648 < t)↔Jxa p t:=by rw [hx.time,Jxa]
def StaK.fin {x:XSta} {s:XSite} {h:Arr Int} {w:Arr XWatch} {c:Arr XCut} {f:XFeeder} {pm:OwL XMeas} {pl:OwL XEntry} {R U:LS} (k:StaK x s h w c f pm pl R) (hR:∀r∈R,InR r U) (h1:InR (Vsa pm.arr) U) (h2:InR (Umb pl.arr) U):StaR (⟨s,x.time,h,x.dropped,pm.arr,w,c,f,x.rest,pl.arr⟩:XSta) U:=⟨k.site.mono hR,k.held.mono hR,h1,k.watches.mono hR,k.cuts.mono hR,k.feeder.mono hR,h2⟩
section
variable {A B:Prop}
def Zqd(h:A→B:=by exact Jx znb rfl):=h
def Y9f(h:A→B:=by exact Ks (T:=93) (f:=XMeas.cells) (wd:=4) pm [] zj yf ze hK.km yg):=h
def Ydf(h:A→B:=by exact Ks (T:=150) (f:=XEntry.cells) (wd:=4) q2 [] zj yf ze hq2k yg):=h
end
def StaIs.flows {g:PSite} {q:PSta} {x:XSta} (h:StaIs g q x):Vna x.site g.air x.meas.l x.time=flP g q:=by rw [SiteE.flows h.site,h.meas,h.time,flP]
def Vhd (g:PSite) (p:PSta) (x:XSta) (a z t:Int) (L:LB) (R:LS) (hI:Inv g p) (hx:StaIs g p x) (hR:StaR x R):
 Tri Tryz.prog 21 [x.val,.int .i64 a,.int .i64 z,.int .i64 t].toArray L R (Ukd g (Y3d g p a z t) L R):=by
 refine Je 49 Tryz.call21 Tryz.func21 rfl rfl rfl ?_;apply (Xag);intro b4;apply (qaq);intro b8;apply Xah∘Zqd;refine Jq rfl (K6b x _ _ (.of hI hx) hR) rfl ?_;rintro v M U ⟨s,h,w,c,f,pm,pl,S0,rfl,hK,rfl,rfl⟩;apply (qaq);intro b10;apply Xbh∘Zqd∘qaa;refine q_l rfl (Yib x t _ _) ?_;apply (qaf);refine q_c ?_ ?_<;>intro hc0;·refine Jl ?_;apply (Y9f);refine V0 zy ?_;refine Ks (T:=150) (f:=XEntry.cells) (wd:=4) pl [] zj yf ze hK.kl yg ?_;refine V0 zy ?_;apply qay∘Zqd∘Xb0;refine q_r L ((Umb pl.arr :: Vsa pm.arr :: S0) ++ R) zUc ?_;have hl:Jxa p t:=(K8c hx).1 zM;exact ⟨(⟨s,x.time,h,x.dropped,pm.arr,w,c,f,x.rest,pl.arr⟩:XSta),Umb pl.arr :: Vsa pm.arr :: S0,by rw [Y3d,if_pos hl],by rw [Y3d,if_pos hl];exact hK.is hx,hK.fin (fun r hr=>Ja (.tail _ (.tail _ hr))) zDc zCb,rfl,rfl⟩
 have hl:¬ Jxa p t:=fun h=>absurd ((K8c hx).2 h) zM;have ht:=Jsc hl;have hIs:=hK.is hx;have hS0:∀r∈S0 ++ R,InR r (Vsa pm.arr :: (S0 ++ R)):=fun r hr=>Ja (.tail _ hr);apply (Y9f);refine V0 zy ?_;apply (Xcy);refine Jq rfl (Zpb g p (⟨s,x.time,h,x.dropped,pm.arr,w,c,f,x.rest,pl.arr⟩:XSta) pl b10 t _ _ hI hIs (hK.site.mono hS0) zCb (hK.watches.mono hS0) (hK.cuts.mono hS0) (hK.feeder.mono hS0) hK.kl ht) rfl ?_;rintro v M U ⟨w2,c2,f2,q,S2,hqk,hS,⟨hw2,hc2,hf2⟩,rfl,rfl⟩;apply (qa4);have hI2:=hI.settle ht.1 ht.2;have h5:∀r∈Vsa pm.arr :: (S0 ++ R),InR r (S2 ++ (Vsa pm.arr :: (S0 ++ R))):=fun r hr=>Ja (yk _ hr);have h6:∀r∈S0 ++ R,InR r (S2 ++ (Vsa pm.arr :: (S0 ++ R))):=fun r hr=>(hS0 r hr).mono h5;have hv2:StaV (⟨s,t,h,x.dropped,pm.arr,w2,c2,f2,(Ka g p t).rest,q.arr⟩:XSta) (S2 ++ (Vsa pm.arr :: (S0 ++ R))):=StaV.of hI2 hS (hK.site.mono h6) (h5 _ (.head _));have hA2:AiryIs s.air.mine g.air:=SiteE.airy hS.site hI2.airy;refine Kk tb [0,1,2,3,4,6,7,8,9,10,5,11,12,13,14,15,16,17] _ Kr zc ye ?_;apply (qal);refine K3 zmb rfl rfl rfl ?_;apply (Xal);refine K3 znb rfl rfl rfl ?_;apply (qal);refine K3 zPb rfl rfl rfl ?_;iterate 3 apply (qao)
 refine Yp rfl (Yub (⟨s,t,h,x.dropped,pm.arr,w2,c2,f2,(Ka g p t).rest,q.arr⟩:XSta) g.air _ _ hv2 hA2) rfl rfl ?_;rintro v M U ⟨fl,rfl,hfl,rfl,rfl⟩;refine ⟨zi,zq,?_⟩;refine q_d rfl (Jvf s c2 fl (Ka g p t).rest a z t _ _ ⟨(hK.site.mono h6).mono fun r hr=>Ja (.tail _ hr),hc2.mono fun r hr=>Ja (.tail _ hr),Ja (.head _)⟩) ?_;refine K3 zSb rfl rfl rfl ?_;refine K3 zZb rfl rfl rfl ?_;refine K3 zZb rfl rfl rfl ?_;apply (qbr);intro b11;apply qbg∘qcg;refine J3 (Jb (Jl (Jl ?_)));have hfe:fl.l=flP g (Ka g p t):=hfl.trans (StaIs.flows hS);have hce:c2.l=(Ka g p t).cuts:=hS.cuts;have hAE:askE s c2.l fl.l (Ka g p t).rest a z t=askE g.site (Ka g p t).cuts (flP g (Ka g p t)) (Ka g p t).rest a z t:=by rw [SiteE.askE hS.site,hce,hfe]
 have hAR:askR s c2.l fl.l (Ka g p t).rest a z t=askR g.site (Ka g p t).cuts (flP g (Ka g p t)) (Ka g p t).rest a z t:=by rw [SiteE.askR hS.site,hce,hfe]
 rw [hAE,hAR];obtain ⟨e,he⟩:∃e,e=askE g.site (Ka g p t).cuts (flP g (Ka g p t)) (Ka g p t).rest a z t:=⟨_,rfl⟩;rw [← he];have hqln:q.l.length≤400:=by have:=hI2.log;rw [← hS.log] at this;exact this
 apply Xbi∘Xax;refine q_c ?_ ?_<;>intro hc1;·
  refine Jl ?_;refine Y3 (M:=⟨b10,(⟨s,t,h,x.dropped,pm.arr,w2,c2,f2,(Ka g p t).rest,q.arr⟩:XSta).cells,54⟩ :: (q.L 150 XEntry.cells ++ _)) zi zxb ?_;apply Xbi∘qaa;refine Jq rfl (Yla (⟨s,t,h,x.dropped,pm.arr,w2,c2,f2,(Ka g p t).rest,q.arr⟩:XSta) q b10 7 z e _ _ hqk hqln) rfl ?_;rintro v M U ⟨q2,hq2k,hq2l,rfl,rfl⟩;apply qa4∘Ydf;refine V0 zy ?_;refine Y3 (U:=((Umb q2.arr :: (S2 ++ (Vsa pm.arr :: S0))) ++ R)) ye (fun r hr=>Ja (by
   rw [yz,yo,yz] at hr;rcases List.mem_cons.1 hr with h | h;·rw [h];exact .head _
   ·exact .tail _ (.tail _ h))) ?_
  have h3:∀r∈(S2 ++ (Vsa pm.arr :: (S0 ++ R))),InR r ((Umb q2.arr :: (S2 ++ (Vsa pm.arr :: S0))) ++ R):=fun r hr=>Ja zQa;have h4:∀r∈S0 ++ R,InR r ((Umb q2.arr :: (S2 ++ (Vsa pm.arr :: S0))) ++ R):=fun r hr=>(h6 r hr).mono h3;apply qay∘Zqd∘Xdm;refine q_r L ((Umb q2.arr :: (S2 ++ (Vsa pm.arr :: S0))) ++ R) zUc ?_;have e1:Y3d g p a z t=(Jua (Ka g p t) 7 z e,e):=by rw [Y3d,if_neg hl];dsimp only;rw [← he,if_pos hc1]
  exact ⟨(⟨s,t,h,x.dropped,pm.arr,w2,c2,f2,(Ka g p t).rest,q2.arr⟩:XSta),Umb q2.arr :: (S2 ++ (Vsa pm.arr :: S0)),by rw [e1],by rw [e1];exact hS.note hq2l,⟨hK.site.mono h4,hK.held.mono h4,(h5 _ (.head _)).mono h3,hw2.mono h3,hc2.mono h3,hf2.mono h3,Ja (.head _)⟩,rfl,rfl⟩
 apply (qbv);refine Jx zPb rfl ?_;apply (qab);refine Kla tb rfl rfl rfl rfl zB zb zb zb ?_;apply (qa4);refine Y3 (M:=⟨b10,(⟨s,t,h,x.dropped,pm.arr,w2,c2,f2,askR g.site (Ka g p t).cuts (flP g (Ka g p t)) (Ka g p t).rest a z t,q.arr⟩:XSta).cells,54⟩ :: (q.L 150 XEntry.cells ++ _)) zi zxb ?_;apply Xbi∘qaa;refine Jq rfl (Yla (⟨s,t,h,x.dropped,pm.arr,w2,c2,f2,askR g.site (Ka g p t).cuts (flP g (Ka g p t)) (Ka g p t).rest a z t,q.arr⟩:XSta) q b10 4 z a _ _ hqk hqln) rfl ?_;rintro v M U ⟨q2,hq2k,hq2l,rfl,rfl⟩;apply qa4∘Ydf;refine V0 zy ?_;refine Y3 (U:=((Umb q2.arr :: (S2 ++ (Vsa pm.arr :: S0))) ++ R)) ye (fun r hr=>Ja (by
  rw [yz,yo,yz] at hr;rcases List.mem_cons.1 hr with h | h;·rw [h];exact .head _
  ·exact .tail _ (.tail _ h))) ?_
 have h3:∀r∈(S2 ++ (Vsa pm.arr :: (S0 ++ R))),InR r ((Umb q2.arr :: (S2 ++ (Vsa pm.arr :: S0))) ++ R):=fun r hr=>Ja zQa;have h4:∀r∈S0 ++ R,InR r ((Umb q2.arr :: (S2 ++ (Vsa pm.arr :: S0))) ++ R):=fun r hr=>(h6 r hr).mono h3;apply qay∘Zqd∘Xcf;refine q_r L ((Umb q2.arr :: (S2 ++ (Vsa pm.arr :: S0))) ++ R) zUc ?_;have e1:Y3d g p a z t=(Jua { (Ka g p t) with rest:=askR g.site (Ka g p t).cuts (flP g (Ka g p t)) (Ka g p t).rest a z t } 4 z a,0):=by rw [Y3d,if_neg hl];dsimp only;rw [← he,if_neg hc1]
 have hS9:StaIs g { (Ka g p t) with rest:=askR g.site (Ka g p t).cuts (flP g (Ka g p t)) (Ka g p t).rest a z t } (⟨s,t,h,x.dropped,pm.arr,w2,c2,f2,askR g.site (Ka g p t).cuts (flP g (Ka g p t)) (Ka g p t).rest a z t,q.arr⟩:XSta):={ hS with rest:=rfl };exact ⟨(⟨s,t,h,x.dropped,pm.arr,w2,c2,f2,askR g.site (Ka g p t).cuts (flP g (Ka g p t)) (Ka g p t).rest a z t,q2.arr⟩:XSta),Umb q2.arr :: (S2 ++ (Vsa pm.arr :: S0)),by rw [e1],by rw [e1];exact hS9.note hq2l,⟨hK.site.mono h4,hK.held.mono h4,(h5 _ (.head _)).mono h3,hw2.mono h3,hc2.mono h3,hf2.mono h3,Ja (.head _)⟩,rfl,rfl⟩
end
end Go.Proofs.YtchfclmokpbldaaGreat
