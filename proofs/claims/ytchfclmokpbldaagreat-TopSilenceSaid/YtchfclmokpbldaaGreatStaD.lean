/-
  Merged texts. By an AI agent.
-/
import Derived.Test.YtchfclmokpbldaaGreatTelF
import Derived.Test.YtchfclmokpbldaaGreatStatM
import Derived.Test.YtchfclmokpbldaaGreatStaC
import Derived.Test.YtchfclmokpbldaaGreatCloneS
set_option linter.all false
set_option maxHeartbeats 4000000
set_option maxRecDepth 20000
namespace Go.Proofs.YtchfclmokpbldaaGreat
open Go.Aw Go
section
attribute [local irreducible] CJ LJ DJ Tri YV Gives Uq J2 Km Ur RV J4 OwL.L
section
variable {A B:Prop}
def Uze(h:A→B:=by exact Jy (J8 (qs:=[]) (out:=[_,_,_,_]) tb rfl rfl rfl rfl) rfl):=h
def Yfe(h:B:=by exact ⟨(⟨0,0,⟨0,0⟩⟩:XMeas),by rw [he],fun h=>by omega,rfl,rfl⟩):=h
def Kog(h:A→B:=by exact Kp zia rfl rfl rfl rfl):=h
end
def Vjb (a:Int) (L:LB) (R:LS) (ha:-1000000000000≤a∧a≤1000000000000):
 Tri Tryz.prog 194 [.int .i64 a].toArray L R (fun v M U=>v=.int .i64 (a / 1000)∧L=M∧R=U):=by
 have hm:=Int.tmod_def a 1000;have h1:0≤a→a.tdiv 1000=a / 1000:=fun h=>yaa h;have h2:a < 0→a.tdiv 1000= -((-a) / 1000):=fun h=>by
  have:a= -(-a):=by omega
  rw [this,Int.neg_tdiv,yaa za];omega
 refine Jd 12 Tryz.call194 Tryz.func194 rfl rfl rfl ?_;apply Xac∘Xc9∘qdd∘Xby∘qda∘Xbb;refine q_c ?_ ?_<;>intro hc0;·apply Xa9∘qa9∘Xav∘Xai;refine q_i L R ?_;exact ⟨by rw [show a.tdiv 1000 - 1=a / 1000 by omega],rfl,rfl⟩
 apply Xc6∘Xai;refine q_i L R ?_;exact ⟨by rw [show a.tdiv 1000=a / 1000 by omega],rfl,rfl⟩
def Yhc (s:XSens) (r:Int) (L:LB) (R:LS) (hs:U1 s=0) (hr0:-1000000≤r∧r≤1000000):
 Tri Tryz.prog 115 [s.val,.int .i64 r].toArray L R (fun v M U=>v=(Jpa s r).val∧L=M∧R=U):=by
 refine Jd 71 Tryz.call115 Tryz.func115 rfl rfl rfl ?_;apply (Xaf);intro b2;apply (qaq);intro b4;apply qaw∘Xcv;apply Kd (G:=[_,_]) (j:=2) (cj:=10) rfl rfl zb rfl zmb rfl;·exact zwd
 intro junk3;apply (qaf);refine q_c ?_ ?_<;>intro hc0;·apply (qae);refine q_l rfl (Ua _ _) ?_;apply (Xdt);refine q_r L R zTc ?_;exact ⟨by rw [Jpa,if_pos za],rfl,rfl⟩
 have hE:¬ (U1 s≠0∨¬ (0≤r∧r≤65535)):=by omega
 have hml:=Kwd (s:=s) (r:=r) hs za;have hsk:=Yra hs;rw [Zn] at hsk;have hkd:1≤s.kind∧s.kind≤6:=by
  rw [U1] at hs;split at hs;·omega
  ·omega
 apply qbv∘Xap∘Xaa∘qaf;refine Yj ([5]++rg 17 6) ((⟨fun g=>[(5,.int .i64 g.1)],fun _=>⟨b4,[.int .i64 0,.int .i64 0],90⟩ :: ⟨b2,s.cells,88⟩ :: L,fun _=>R,fun _=>0⟩:Head {n:Int // n=if 4≤s.kind then Kke s.kind else -1})) ?_ ?_;·
  refine Kc (Jp (Jh ?_));apply (Xax);refine q_c ?_ ?_<;>intro hc1;·apply qay∘qad;refine J7 (Jf ?_);exact q_j ⟨1,by rw [if_pos za,Kke,if_neg za,if_neg za]⟩
  apply (Xbj);refine q_c ?_ ?_<;>intro hc2;·apply qay∘qad;refine J7 (Jf ?_);exact q_j ⟨2,by rw [if_pos za,Kke,if_neg za,if_pos za]⟩
  apply (Xbj);refine q_c ?_ ?_<;>intro hc3;·apply qay∘qad;refine J7 (Jf ?_);exact q_j ⟨5,by rw [if_pos za,Kke,if_pos za]⟩
  refine J3 (Jf ?_);exact q_j ⟨-1,by rw [if_neg za]⟩
 rintro ⟨ms,hms⟩ junk;try dsimp only
 have hm4:4≤s.kind↔0≤ms:=by
  rw [hms,Kke];repeat' split
  all_goals omega
 apply Xa1∘Xcw;refine q_c ?_ ?_<;>intro hc4;·
  apply Xd0∘Xca;refine q_c ?_ ?_<;>intro hc5;·apply (qae);refine q_l rfl (Ua _ _) ?_;apply (qak);refine J7 (Jb (K6 (J6 (J6 ?_))));refine q_r L R zTc ?_;exact ⟨by rw [if_pos za] at hms;rw [Jpa,if_neg hE,if_pos za,if_pos za],rfl,rfl⟩
  apply qbv∘Xcd∘qcd∘Xdt;refine q_r L R zTc ?_;exact ⟨by rw [if_pos za] at hms;rw [Jpa,if_neg hE,if_pos za,if_neg za],rfl,rfl⟩
 apply qbv∘Xah∘qcm∘Xcb;refine Kh tb [0,1,2,5,6,8,9,10,11,14,15,3,4,7,12,13,16,17,18,19] ([Blk.mk b2 _ _]) Kr zc zg ?_;apply Xbv∘Xak∘Xbv;refine K0 (J1b rfl za za) rfl rfl rfl ?_;apply (Xak);refine q_d rfl (Vjb (s.scale * r) _ _ za) ?_;apply qc2∘qb7;refine q_d rfl (Vjb (-(s.scale * r)) _ _ za) ?_;apply qb7∘qc2;refine K0 zEb rfl rfl rfl ?_;apply (qbr);intro b7;apply qbg∘qc6∘Xaa∘Xcc;apply Kd (G:=[_,_,_]) (j:=3) (cj:=57) rfl rfl zb rfl zmb rfl;·exact zre
 intro junk4;apply (qaf);refine q_c ?_ ?_<;>intro hc6;·apply qay∘Xaa;refine Jy zgc rfl ?_;apply (Xaa);refine Jy zgc rfl ?_;apply Xa5∘Xd7∘Xc5;refine q_r L R zTc ?_;exact ⟨by rw [Jpa,if_neg hE,if_neg za,if_pos za,Zpe];simp only [ycc],rfl,rfl⟩
 apply qbv∘Xc5;refine q_r L R zTc ?_;exact ⟨by rw [Jpa,if_neg hE,if_neg za,if_neg za,Zpe];simp only [ycc],rfl,rfl⟩
def IsAd (S:List XSens) (ad z a:Int):Prop:=(a= -1∧∀j:Nat,z < j→j < S.length→(S.getD j default).address≠ad)∨((z < a∧a < S.length)∧(S.getD a.toNat default).address=ad∧∀j:Nat,z < j→(j:Int) < a→(S.getD j default).address≠ad)
def U1e {S:List XSens} {ad a:Int} (h:IsAd S ad (-1) a):Jra S ad=a:=by
 rcases h with ⟨h1,h2⟩ | ⟨h1,h2,h3⟩;·rw [Jra,List.find?_eq_none.2 (fun i hi=>by rw [yqa] at hi;simpa using h2 i za hi),h1];rfl
 ·
  have:(List.range S.length).find? (fun i=>decide ((S.getD i default).address=ad))=some a.toNat:=by rw [yZa];refine ⟨by simpa using h2,by rw [yqa];omega,fun j hj=>?_⟩;simpa using h3 j za za
  rw [Jra,this];show ((a.toNat:Nat):Int)=a;omega
def IsAd.hit {S:List XSens} {z ad:Int} (hz:0≤z∧z < S.length) (h:(S.getD z.toNat default).address=ad):IsAd S ad (z - 1) z:=
 .inr ⟨by omega,h,fun j h1 h2=>by omega⟩
def IsAd.miss {S:List XSens} {z ad a:Int} (hz:0≤z∧z < S.length) (k:IsAd S ad z a) (h:(S.getD z.toNat default).address≠ad):IsAd S ad (z - 1) a:=by
 rcases k with ⟨h1,h2⟩ | ⟨h1,h2,h3⟩;·
  refine .inl ⟨h1, fun j hj hl => ?_⟩;rcases yha (z < j) with h4 | h4;·exact h2 j h4 hl
  ·(obtain rfl : j = z.toNat := by omega);exact h
 ·
  refine .inr ⟨by omega, h2, fun j hj hl => ?_⟩;rcases yha (z < j) with h4 | h4;·exact h3 j h4 hl
  ·(obtain rfl : j = z.toNat := by omega);exact h
def Kac (S:Arr XSens) (f:XFrame) (t:Int) (L:LB) (R:LS) (hS:InR (Kcd S) R) (hf:InR (bsl f.data) R) (hb:BytesOk f.data.l) (hn:S.l.length≤64):
 Tri Tryz.prog 45 [S.val,f.val,.int .i64 t].toArray L R (fun v M U=>∃m:XMeas,v=.tuple #[m.val,.int .i64 (Vt S.l f.tele t)]∧(Vt S.l f.tele t=0→m=Vqa S.l f.tele t)∧L=M∧R=U):=by
 refine Vq Tryz.call45 hf fun hfn=>?_;refine Jd 85 Tryz.call45 Tryz.func45 rfl rfl rfl ?_;apply (Xaf);intro b4;apply (qaq);intro b6;apply Xby∘Xau;apply Kd (G:=[_,_]) (j:=2) (cj:=13) rfl rfl zb rfl zmb rfl;·exact zwd
 intro junk3;apply (qaf);refine q_c ?_ ?_<;>intro hc0;·
  apply qae∘Uze∘Xa3;refine q_r L R znd ?_;have he:Vt S.l f.tele t=8:=by rw [Vt,if_pos za]
  exact Yfe
 apply qbv∘Xap∘Xdz∘Xba;refine Jl [(0,.slice _ _ _),(2,.int _ _),(4,.pointer _),(6,.pointer _),(8,.int _ _),(9,.int _ _)] zh fun tq0=>?_;refine q_s ([8,9]++rg 21 13) (fun g:{g:Int×Int // (-1≤g.1∧g.1 < S.l.length)∧IsAd S.l f.address g.1 g.2}=>[(9,.int .i64 g.1.1),(8,.int .i64 g.1.2)]) (fun g=>(g.1.1 + 1).toNat) (⟨((S.l.length:Int) - 1,-1),by dsimp only;omega,.inl ⟨rfl,fun j h1 h2=>by dsimp only at h1;omega⟩⟩) ?_;rintro ⟨⟨z,a⟩,hz,ha⟩ junk;try dsimp only
 dsimp only at hz ha;apply Xa1∘Xcw;refine q_c ?_ ?_<;>intro hc1;·
  have hg:=Jt (l:=S.l) (k:=z.toNat) default za;refine J3 (Jb (Jp (Kc (Jp ?_))));refine Kh tb [0,1,2,3,4,5,6,7] _ Kr zc ye ?_;refine K0 zdd rfl rfl rfl ?_;apply (qao);refine K0 zKa rfl rfl rfl ?_;apply qce∘qbl∘Xak;refine K0 zyc rfl rfl rfl ?_;apply (qbu);refine q_c ?_ ?_<;>intro hc2;·apply Xa9∘qad∘qcs∘Xb2;exact q_k ⟨(z - 1,z),by dsimp only;omega,.hit za hc2⟩
  apply qbj∘Xb2;exact q_k ⟨(z - 1,a),by dsimp only;omega,ha.miss za hc2⟩
 obtain rfl:z= -1:=by omega
 have hadr:Jra S.l f.tele.address=a:=U1e ha;have har:a < 0∨(0≤a∧a < S.l.length):=by
  rcases ha with h | h;·omega
  ·omega
 apply qcf∘Xcv;apply Kd (G:=[_,_,_,_,_,_]) (j:=2) (cj:=36) rfl rfl zb rfl zmb rfl;·intro hg3;replace hg3:=qb hg3;have hgA:=Jt (l:=S.l) (k:=a.toNat) default za;apply (Xas);refine Jy zgb rfl ?_;refine Jy zba rfl ?_;refine q_l rfl (Vna (S.l.getD a.toNat default) _ _) ?_;exact zzd
 intro junk3;apply (qaf);refine q_c ?_ ?_<;>intro hc3;·
  apply qae∘Uze∘Xa3;refine q_r L R znd ?_;have he:Vt S.l f.tele t=9:=by rw [Vt,if_neg za,hadr,if_pos za]
  exact Yfe
 have hgA:=Jt (l:=S.l) (k:=a.toNat) default za;have hE1:¬ (t < 0∨2147483648 < t):=by omega
 have hE2:¬ (a < 0∨U1 (S.l.getD a.toNat default)≠0):=by omega
 have hdl:f.tele.data.length=f.data.l.length:=rfl;have htk:f.tele.kind=f.kind:=rfl;apply qbv∘Xcd;refine q_l rfl (Ua _ _) ?_;refine Jy (J8 (qs:=[(0,(Value.int _ _).cells.toList),(1,(Value.int _ _).cells.toList),(2,(Value.agg _).cells.toList)]) (out:=[_,_,_,_]) tb rfl rfl rfl rfl) rfl ?_;apply (qaq);intro b10;apply (Xdl);refine J7 (Jb (Kc (Jp (Jh ?_))));apply (Xax);refine q_c ?_ ?_<;>intro hc4;·
  apply qbi∘Xab∘Xat;refine q_c ?_ ?_<;>intro hc5;·apply qae∘Uze∘qak∘qad;refine J7 (Jb (K6 (J6 (J9 (J6 ?_)))));exact zXd
  have h0:=Jt (l:=f.data.l) (k:=0) 0 za;have h1:=Jt (l:=f.data.l) (k:=1) 0 za;have hb0:=hb.at 0;have hb1:=hb.at 1;refine J3 (Jb ?_);refine J5 tb [] [0,1,2,3,4,5,6,7,8,9,10,11,12,13,14,15,16,17] [18] (_) _ Kr zc zg (by (repeat (first | apply List.Sublist.cons (a:=Blk.mk b10 _ _) | apply List.Sublist.cons_cons));exact yv _) ?_;apply (Xdu);refine Kp zgb rfl rfl rfl rfl ?_;refine Kp zba rfl rfl rfl rfl ?_;apply Xaj∘qd2∘qci∘Kog;refine Kp (Jbc rfl rfl ze (Y7e za)) rfl rfl rfl rfl ?_;apply (Xaj);refine Kp zlb rfl rfl rfl rfl ?_;apply qci∘Kog;refine Kp (Urf rfl rfl (Yng za za)) rfl rfl rfl rfl ?_;refine Ks rfl (Yhc (S.l.getD a.toNat default) _ _ _ za za) rfl rfl ?_;rintro v M U ⟨rfl,rfl,rfl⟩;refine ⟨zg,zq,?_⟩;apply (Xeb);refine J6b rfl rfl rfl rfl zB zb zb zb zg ?_;refine J1 (Jf (Jb (Jp (Jh ?_))));apply qa8∘Xb0;refine q_r L R znd ?_;have he:Vt S.l f.tele t=0:=by rw [Vt,if_neg hE1,hadr,if_neg hE2,if_neg za,if_neg za]
  exact ⟨⟨a,t,Jpa (S.l.getD a.toNat default) (f.data.l.getD 0 0 * 256 + f.data.l.getD 1 0)⟩,by rw [he],fun _=>by rw [Vqa,hadr,if_pos za];rfl,rfl,rfl⟩
 apply (Xbj);refine q_c ?_ ?_<;>intro hc6;·
  apply qae∘Xab∘Xat;refine q_c ?_ ?_<;>intro hc7;·exact (qae∘Uze∘qak∘qad∘qdb) zXd
  refine J3 (Jf (Jb (Jp (Jh ?_))));apply qa8∘Xb0;refine q_r L R znd ?_;have he:Vt S.l f.tele t=0:=by rw [Vt,if_neg hE1,hadr,if_neg hE2,if_neg za,if_neg za]
  exact ⟨⟨a,t,nothingS⟩,by rw [he],fun _=>by rw [Vqa,hadr,if_neg za],rfl,rfl⟩
 apply qae∘Uze∘qak∘qad∘qdb;refine q_r L R znd ?_;have he:Vt S.l f.tele t=5:=by rw [Vt,if_neg hE1,hadr,if_neg hE2,if_pos za]
 exact Yfe
end
section
attribute [local irreducible] CJ LJ DJ Tri YV Gives Uq J2 Km Ur RV J4 OwL.L
section
variable {A B:Prop}
def Z2e(h:A→B:=by exact Jy ztb rfl):=h
def Jpg(h:A→B:=by exact Kk (T:=93) (f:=XMeas.cells) (wd:=4) pm [] zj yf ze hK.km yg):=h
end
def Zla (g:PSite) (q:PSta×Int) (L:LB) (R:LS):Y8:=fun v M U=>∃(y:XSta) (S:LS),v=.tuple #[y.val,.int .i64 q.2]∧StaIs g q.1 y∧StaR y U∧L=M∧S ++ R=U
def Koa {g:PSite} {p:PSta} {x:XSta} (hx:StaIs g p x) {t:Int}:(t < x.time∨2147483648 < t)↔Zu p t:=by rw [hx.time,Zu]
def StaK.fin {x:XSta} {s:XSite} {h:Arr Int} {w:Arr XWatch} {c:Arr XCut} {f:XFeeder} {pm:OwL XMeas} {pl:OwL XEntry} {R U:LS} (k:StaK x s h w c f pm pl R) (hR:∀r∈R,InR r U) (h1:InR (Ya pm.arr) U) (h2:InR (Jda pl.arr) U):StaR (⟨s,x.time,h,x.dropped,pm.arr,w,c,f,x.rest,pl.arr⟩:XSta) U:=⟨k.site.mono hR,k.held.mono hR,h1,k.watches.mono hR,k.cuts.mono hR,k.feeder.mono hR,h2⟩
def Kld (g:PSite) (p:PSta) (x:XSta) (t:Int) (L:LB) (R:LS) (hI:Inv g p) (hx:StaIs g p x) (hR:StaR x R):
 Tri Tryz.prog 25 [x.val,.int .i64 t].toArray L R (Zla g (Yib g p t) L R):=by
 refine Jd 16 Tryz.call25 Tryz.func25 rfl rfl rfl ?_;apply (Xaf);intro b2;apply (qaq);intro b4;apply Xag∘Z2e;refine Jo rfl zkc rfl ?_;rintro v M U ⟨s,h,w,c,f,pm,pl,S0,rfl,hK,rfl,rfl⟩;apply (qaq);intro b6;apply Xbc∘Z2e∘qaa;refine q_l rfl (J0a x t _ _) ?_;apply (qaf);refine q_c ?_ ?_<;>intro hc0;·refine Jp ?_;apply (Jpg);refine U0 zt ?_;refine Kk (T:=150) (f:=XEntry.cells) (wd:=4) pl [] zj yf ze hK.kl yg ?_;refine U0 zt ?_;apply qay∘Z2e∘Xa3;refine q_r L ((Jda pl.arr :: Ya pm.arr :: S0) ++ R) zgd ?_;have hl:Zu p t:=(Koa hx).1 zE;exact ⟨(⟨s,x.time,h,x.dropped,pm.arr,w,c,f,x.rest,pl.arr⟩:XSta),Jda pl.arr :: Ya pm.arr :: S0,by rw [Yib,if_pos hl],by rw [Yib,if_pos hl];exact hK.is hx,hK.fin (fun r hr=>Ja (.tail _ (.tail _ hr))) zZb zCb,rfl,rfl⟩
 have hl:¬ Zu p t:=fun h=>absurd ((Koa hx).2 h) zE;have ht:=Yw hl;have hIs:=hK.is hx;have hS0:∀r∈S0 ++ R,InR r (Ya pm.arr :: (S0 ++ R)):=fun r hr=>Ja (.tail _ hr);apply (Jpg);refine U0 zt ?_;apply (Xc6);refine Jo rfl zVc rfl ?_;rintro v M U ⟨w2,c2,f2,q,S2,hqk,hS,⟨hw2,hc2,hf2⟩,rfl,rfl⟩;apply (qa4);refine Kk (T:=150) (f:=XEntry.cells) (wd:=4) q [] zj yf ze hqk yg ?_;refine U0 zt ?_;have h3:∀r∈S2 ++ (Ya pm.arr :: (S0 ++ R)),InR r ((Jda q.arr :: (S2 ++ (Ya pm.arr :: S0))) ++ R):=fun r hr=>Ja zda;have h4:∀r∈S0 ++ R,InR r ((Jda q.arr :: (S2 ++ (Ya pm.arr :: S0))) ++ R):=fun r hr=>(hS0 r hr).mono fun r hr=>h3 r (yk _ hr);refine Ubb (U:=((Jda q.arr :: (S2 ++ (Ya pm.arr :: S0))) ++ R)) (by simp only [yu,yo]) ?_;apply qay∘Z2e∘Xb0;refine q_r L ((Jda q.arr :: (S2 ++ (Ya pm.arr :: S0))) ++ R) zgd ?_;exact ⟨(⟨s,t,h,x.dropped,pm.arr,w2,c2,f2,(Ji g p t).rest,q.arr⟩:XSta),Jda q.arr :: (S2 ++ (Ya pm.arr :: S0)),by rw [Yib,if_neg hl],by rw [Yib,if_neg hl];exact hS,⟨hK.site.mono h4,hK.held.mono h4,h3 _ (yk _ (.head _)),hw2.mono h3,hc2.mono h3,hf2.mono h3,Ja (.head _)⟩,rfl,rfl⟩
end
end Go.Proofs.YtchfclmokpbldaaGreat
