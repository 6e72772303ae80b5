/-
  Merged texts. By an AI agent.
-/
import Derived.Test.YtchfclmokpbldaaGreatTelF
import Derived.Test.YtchfclmokpbldaaGreatStatM
import Derived.Test.YtchfclmokpbldaaGreatStaC
import Derived.Test.YtchfclmokpbldaaGreatCloneS
set_option linter.all false
set_option maxHeartbeats 4000000
set_option maxRecDepth 20000
namespace Go.Proofs.YtchfclmokpbldaaGreat
open Go.Aw Go
section
attribute [local irreducible] CJ LJ DJ Tri YV Gives U0 J3 Kj Uz RV J5 OwL.L
section
variable {A B:Prop}
def Uoe(h:A→B:=by exact Jx (Kf (qs:=[]) (out:=[_,_,_,_]) tb rfl rfl rfl rfl) rfl):=h
def Ule(h:B:=by exact ⟨(⟨0,0,⟨0,0⟩⟩:XMeas),by rw [he],fun h=>by omega,rfl,rfl⟩):=h
def Yaf(h:A→B:=by exact Ku zsa rfl rfl rfl rfl):=h
end
def Upb (a:Int) (L:LB) (R:LS) (ha:-1000000000000≤a∧a≤1000000000000):
 Tri Tryz.prog 194 [.int .i64 a].toArray L R (fun v M U=>v=.int .i64 (a / 1000)∧L=M∧R=U):=by
 have hm:=Int.tmod_def a 1000;have h1:0≤a→a.tdiv 1000=a / 1000:=fun h=>yR h;have h2:a < 0→a.tdiv 1000= -((-a) / 1000):=fun h=>by
  have:a= -(-a):=by omega
  rw [this,Int.neg_tdiv,yR za];omega
 refine Jj 12 Tryz.call194 Tryz.func194 rfl rfl rfl ?_;apply Xac∘Xdh∘qdd∘Xb2∘qda∘Xbm;refine q_c ?_ ?_<;>intro hc0;·apply Xa1∘qa9∘Xau∘Xah;refine q_i L R ?_;exact ⟨by rw [show a.tdiv 1000 - 1=a / 1000 by omega],rfl,rfl⟩
 apply qbv∘qaa∘Xah;refine q_i L R ?_;exact ⟨by rw [show a.tdiv 1000=a / 1000 by omega],rfl,rfl⟩
def Uyc (s:XSens) (r:Int) (L:LB) (R:LS) (hs:Vc s=0) (hr0:-1000000≤r∧r≤1000000):
 Tri Tryz.prog 115 [s.val,.int .i64 r].toArray L R (fun v M U=>v=(Uza s r).val∧L=M∧R=U):=by
 refine Jj 71 Tryz.call115 Tryz.func115 rfl rfl rfl ?_;apply (Xaf);intro b2;apply (qaq);intro b4;apply qaw∘qaa∘Xav;apply J9 (G:=[_,_]) (j:=2) (cj:=10) rfl rfl zb rfl zfb rfl;·exact zgd
 intro junk3;apply (qaf);refine q_c ?_ ?_<;>intro hc0;·apply (qae);refine q_l rfl (Ub _ _) ?_;apply qak∘qbh;refine q_r L R zDc ?_;exact ⟨by rw [Uza,if_pos za],rfl,rfl⟩
 have hE:¬ (Vc s≠0∨¬ (0≤r∧r≤65535)):=by omega
 have hml:=Uye (s:=s) (r:=r) hs za;have hsk:=V0b hs;rw [Z7] at hsk;have hkd:1≤s.kind∧s.kind≤6:=by
  rw [Vc] at hs;split at hs;·omega
  ·omega
 apply qbv∘Xap∘Xaa∘qaf;refine Kha ([5]++rg 17 6) ((⟨fun g=>[(5,.int .i64 g.1)],fun _=>⟨b4,[.int .i64 0,.int .i64 0],90⟩ :: ⟨b2,s.cells,88⟩ :: L,fun _=>R,fun _=>0⟩:Head {n:Int // n=if 4≤s.kind then Jce s.kind else -1})) ?_ ?_;·
  refine Km (Jr (Jh ?_));apply (Xa4);refine q_c ?_ ?_<;>intro hc1;·apply qay∘qad;refine J6 (Jk ?_);exact q_j ⟨1,by rw [if_pos za,Jce,if_neg za,if_neg za]⟩
  apply (Xbp);refine q_c ?_ ?_<;>intro hc2;·apply qay∘qad;refine J6 (Jk ?_);exact q_j ⟨2,by rw [if_pos za,Jce,if_neg za,if_pos za]⟩
  apply (Xbp);refine q_c ?_ ?_<;>intro hc3;·apply qay∘qad;refine J6 (Jk ?_);exact q_j ⟨5,by rw [if_pos za,Jce,if_pos za]⟩
  refine Ka (Jk ?_);exact q_j ⟨-1,by rw [if_neg za]⟩
 rintro ⟨ms,hms⟩ junk;try dsimp only
 have hm4:4≤s.kind↔0≤ms:=by
  rw [hms,Jce];repeat' split
  all_goals omega
 apply Xb1∘Xcn;refine q_c ?_ ?_<;>intro hc4;·
  apply qbi∘Xbg∘qa5∘qaf;refine q_c ?_ ?_<;>intro hc5;·apply (qae);refine q_l rfl (Ub _ _) ?_;apply (qak);refine J6 (Jc (U4 (Ke (Ke ?_))));refine q_r L R zDc ?_;exact ⟨by rw [if_pos za] at hms;rw [Uza,if_neg hE,if_pos za,if_pos za],rfl,rfl⟩
  apply qbv∘Xbg∘qcd∘qak∘qbh;refine q_r L R zDc ?_;exact ⟨by rw [if_pos za] at hms;rw [Uza,if_neg hE,if_pos za,if_neg za],rfl,rfl⟩
 apply qbv∘Xam∘qcm∘Xb5;refine Kp tb [0,1,2,5,6,8,9,10,11,14,15,3,4,7,12,13,16,17,18,19] ([Blk.mk b2 _ _]) K3 zc zi ?_;apply Xb4∘Xan∘Xb4;refine K2 (U7d rfl za za) rfl rfl rfl ?_;apply (Xan);refine q_d rfl (Upb (s.scale * r) _ _ za) ?_;apply qc2∘qb7;refine q_d rfl (Upb (-(s.scale * r)) _ _ za) ?_;apply qb7∘qc2;refine K2 zDb rfl rfl rfl ?_;apply (qbr);intro b7;apply qbg∘qc6∘Xbj∘qah;apply J9 (G:=[_,_,_]) (j:=3) (cj:=57) rfl rfl zb rfl zfb rfl;·exact zGd
 intro junk4;apply (qaf);refine q_c ?_ ?_<;>intro hc6;·apply qay∘Xaa;refine Jx zmc rfl ?_;apply (Xaa);refine Jx zmc rfl ?_;apply Xbh∘Xbh∘qam∘Xde;refine q_r L R zDc ?_;exact ⟨by rw [Uza,if_neg hE,if_neg za,if_pos za,K0f];simp only [yTb],rfl,rfl⟩
 apply qbv∘Xde;refine q_r L R zDc ?_;exact ⟨by rw [Uza,if_neg hE,if_neg za,if_neg za,K0f];simp only [yTb],rfl,rfl⟩
def IsAd (S:List XSens) (ad z a:Int):Prop:=(a= -1∧∀j:Nat,z < j→j < S.length→(S.getD j default).address≠ad)∨((z < a∧a < S.length)∧(S.getD a.toNat default).address=ad∧∀j:Nat,z < j→(j:Int) < a→(S.getD j default).address≠ad)
def Kle {S:List XSens} {ad a:Int} (h:IsAd S ad (-1) a):J3a S ad=a:=by
 rcases h with ⟨h1,h2⟩ | ⟨h1,h2,h3⟩;·rw [J3a,List.find?_eq_none.2 (fun i hi=>by rw [yya] at hi;simpa using h2 i za hi),h1];rfl
 ·
  have:(List.range S.length).find? (fun i=>decide ((S.getD i default).address=ad))=some a.toNat:=by rw [yTa];refine ⟨by simpa using h2,by rw [yya];omega,fun j hj=>?_⟩;simpa using h3 j za za
  rw [J3a,this];show ((a.toNat:Nat):Int)=a;omega
def IsAd.hit {S:List XSens} {z ad:Int} (hz:0≤z∧z < S.length) (h:(S.getD z.toNat default).address=ad):IsAd S ad (z - 1) z:=
 .inr ⟨by omega,h,fun j h1 h2=>by omega⟩
def IsAd.miss {S:List XSens} {z ad a:Int} (hz:0≤z∧z < S.length) (k:IsAd S ad z a) (h:(S.getD z.toNat default).address≠ad):IsAd S ad (z - 1) a:=by
 rcases k with ⟨h1,h2⟩ | ⟨h1,h2,h3⟩;·
  refine .inl ⟨h1, fun j hj hl => ?_⟩;rcases yca (z < j) with h4 | h4;·exact h2 j h4 hl
  ·(obtain rfl : j = z.toNat := by omega);exact h
 ·
  refine .inr ⟨by omega, h2, fun j hj hl => ?_⟩;rcases yca (z < j) with h4 | h4;·exact h3 j h4 hl
  ·(obtain rfl : j = z.toNat := by omega);exact h
def Z7b (S:Arr XSens) (f:XFrame) (t:Int) (L:LB) (R:LS) (hS:InR (Jme S) R) (hf:InR (bsl f.data) R) (hb:BytesOk f.data.l) (hn:S.l.length≤64):
 Tri Tryz.prog 45 [S.val,f.val,.int .i64 t].toArray L R (fun v M U=>∃m:XMeas,v=.tuple #[m.val,.int .i64 (Vp S.l f.tele t)]∧(Vp S.l f.tele t=0→m=Ysb S.l f.tele t)∧L=M∧R=U):=by
 refine Vo Tryz.call45 hf fun hfn=>?_;refine Jj 85 Tryz.call45 Tryz.func45 rfl rfl rfl ?_;apply (Xaf);intro b4;apply (qaq);intro b6;apply Xb2∘Xav;apply J9 (G:=[_,_]) (j:=2) (cj:=13) rfl rfl zb rfl zfb rfl;·exact zgd
 intro junk3;apply (qaf);refine q_c ?_ ?_<;>intro hc0;·
  apply qae∘Uoe∘Xaz;refine q_r L R zXc ?_;have he:Vp S.l f.tele t=8:=by rw [Vp,if_pos za]
  exact Ule
 apply qbv∘Xap∘Xaq∘qa9∘Xcc;refine Jp [(0,.slice _ _ _),(2,.int _ _),(4,.pointer _),(6,.pointer _),(8,.int _ _),(9,.int _ _)] zh fun tq0=>?_;refine q_s ([8,9]++rg 21 13) (fun g:{g:Int×Int // (-1≤g.1∧g.1 < S.l.length)∧IsAd S.l f.address g.1 g.2}=>[(9,.int .i64 g.1.1),(8,.int .i64 g.1.2)]) (fun g=>(g.1.1 + 1).toNat) (⟨((S.l.length:Int) - 1,-1),by dsimp only;omega,.inl ⟨rfl,fun j h1 h2=>by dsimp only at h1;omega⟩⟩) ?_;rintro ⟨⟨z,a⟩,hz,ha⟩ junk;try dsimp only
 dsimp only at hz ha;apply Xb1∘Xcn;refine q_c ?_ ?_<;>intro hc1;·
  have hg:=Jw (l:=S.l) (k:=z.toNat) default za;refine Ka (Jc (Jr (Km (Jr ?_))));refine Kp tb [0,1,2,3,4,5,6,7] _ K3 zc ye ?_;refine K2 zMc rfl rfl rfl ?_;apply (qao);refine K2 zHa rfl rfl rfl ?_;apply qce∘qbl∘Xan;refine K2 zac rfl rfl rfl ?_;apply (qbu);refine q_c ?_ ?_<;>intro hc2;·apply Xa1∘qad∘qcs∘Xcr;exact q_k ⟨(z - 1,z),by dsimp only;omega,.hit za hc2⟩
  apply qbj∘Xcr;exact q_k ⟨(z - 1,a),by dsimp only;omega,ha.miss za hc2⟩
 obtain rfl:z= -1:=by omega
 have hadr:J3a S.l f.tele.address=a:=Kle ha;have har:a < 0∨(0≤a∧a < S.l.length):=by
  rcases ha with h | h;·omega
  ·omega
 apply qcf∘qaa∘Xav;apply J9 (G:=[_,_,_,_,_,_]) (j:=2) (cj:=36) rfl rfl zb rfl zfb rfl;·intro hg3;replace hg3:=qb hg3;have hgA:=Jw (l:=S.l) (k:=a.toNat) default za;apply (Xat);refine Jx zbb rfl ?_;refine Jx zZ rfl ?_;refine q_l rfl (V3a (S.l.getD a.toNat default) _ _) ?_;exact zhd
 intro junk3;apply (qaf);refine q_c ?_ ?_<;>intro hc3;·
  apply qae∘Uoe∘Xaz;refine q_r L R zXc ?_;have he:Vp S.l f.tele t=9:=by rw [Vp,if_neg za,hadr,if_pos za]
  exact Ule
 have hgA:=Jw (l:=S.l) (k:=a.toNat) default za;have hE1:¬ (t < 0∨2147483648 < t):=by omega
 have hE2:¬ (a < 0∨Vc (S.l.getD a.toNat default)≠0):=by omega
 have hdl:f.tele.data.length=f.data.l.length:=rfl;have htk:f.tele.kind=f.kind:=rfl;apply qbv∘Xbg;refine q_l rfl (Ub _ _) ?_;refine Jx (Kf (qs:=[(0,(Value.int _ _).cells.toList),(1,(Value.int _ _).cells.toList),(2,(Value.agg _).cells.toList)]) (out:=[_,_,_,_]) tb rfl rfl rfl rfl) rfl ?_;apply (qaq);intro b10;apply Xa8∘Xaa;refine J6 (Jc (Km (Jr (Jh ?_))));apply (Xa4);refine q_c ?_ ?_<;>intro hc4;·
  apply qbi∘Xab∘Xao;refine q_c ?_ ?_<;>intro hc5;·apply qae∘Uoe∘qak∘qad;refine J6 (Jc (U4 (Ke (J8 (Ke ?_)))));exact zHd
  have h0:=Jw (l:=f.data.l) (k:=0) 0 za;have h1:=Jw (l:=f.data.l) (k:=1) 0 za;have hb0:=hb.at 0;have hb1:=hb.at 1;refine Ka (Jc ?_);refine Kh tb [] [0,1,2,3,4,5,6,7,8,9,10,11,12,13,14,15,16,17] [18] (_) _ K3 zc zi zxa ?_;apply (Xdd);refine Ku zbb rfl rfl rfl rfl ?_;refine Ku zZ rfl rfl rfl rfl ?_;apply Xar∘qd2∘qci∘Yaf;refine Ku (U5c rfl rfl ze (U1e za)) rfl rfl rfl rfl ?_;apply (Xar);refine Ku zeb rfl rfl rfl rfl ?_;apply qci∘Yaf;refine Ku (J1f rfl rfl (Ksg za za)) rfl rfl rfl rfl ?_;refine Up rfl (Uyc (S.l.getD a.toNat default) _ _ _ za za) rfl rfl ?_;rintro v M U ⟨rfl,rfl,rfl⟩;refine ⟨zi,zw,?_⟩;apply qan∘qba;refine Kab rfl rfl rfl rfl zy zb zb zb zi ?_;refine Jz (Jk (Jc (Jr (Jh ?_))));apply qa8∘Xbl;refine q_r L R zXc ?_;have he:Vp S.l f.tele t=0:=by rw [Vp,if_neg hE1,hadr,if_neg hE2,if_neg za,if_neg za]
  exact ⟨⟨a,t,Uza (S.l.getD a.toNat default) (f.data.l.getD 0 0 * 256 + f.data.l.getD 1 0)⟩,by rw [he],fun _=>by rw [Ysb,hadr,if_pos za];rfl,rfl,rfl⟩
 apply (Xbp);refine q_c ?_ ?_<;>intro hc6;·
  apply qae∘Xab∘Xao;refine q_c ?_ ?_<;>intro hc7;·exact (qae∘Uoe∘qak∘qad∘qdb) zHd
  refine Ka (Jk (Jc (Jr (Jh ?_))));apply qa8∘Xbl;refine q_r L R zXc ?_;have he:Vp S.l f.tele t=0:=by rw [Vp,if_neg hE1,hadr,if_neg hE2,if_neg za,if_neg za]
  exact ⟨⟨a,t,nothingS⟩,by rw [he],fun _=>by rw [Ysb,hadr,if_neg za],rfl,rfl⟩
 apply qae∘Uoe∘qak∘qad∘qdb;refine q_r L R zXc ?_;have he:Vp S.l f.tele t=5:=by rw [Vp,if_neg hE1,hadr,if_neg hE2,if_pos za]
 exact Ule
end
section
attribute [local irreducible] CJ LJ DJ Tri YV Gives U0 J3 Kj Uz RV J5 OwL.L
section
variable {A B:Prop}
def Yee(h:A→B:=by exact Jx zlb rfl):=h
def V2f(h:A→B:=by exact Kg (T:=93) (f:=XMeas.cells) (wd:=4) pm [] zj yf ze hK.km yg):=h
end
def Zfa (g:PSite) (q:PSta×Int) (L:LB) (R:LS):Yy:=fun v M U=>∃(y:XSta) (S:LS),v=.tuple #[y.val,.int .i64 q.2]∧StaIs g q.1 y∧StaR y U∧L=M∧S ++ R=U
def J9a {g:PSite} {p:PSta} {x:XSta} (hx:StaIs g p x) {t:Int}:(t < x.time∨2147483648 < t)↔V7 p t:=by rw [hx.time,V7]
def StaK.fin {x:XSta} {s:XSite} {h:Arr Int} {w:Arr XWatch} {c:Arr XCut} {f:XFeeder} {pm:OwL XMeas} {pl:OwL XEntry} {R U:LS} (k:StaK x s h w c f pm pl R) (hR:∀r∈R,InR r U) (h1:InR (V5 pm.arr) U) (h2:InR (Zw pl.arr) U):StaR (⟨s,x.time,h,x.dropped,pm.arr,w,c,f,x.rest,pl.arr⟩:XSta) U:=⟨k.site.mono hR,k.held.mono hR,h1,k.watches.mono hR,k.cuts.mono hR,k.feeder.mono hR,h2⟩
def Kyd (g:PSite) (p:PSta) (x:XSta) (t:Int) (L:LB) (R:LS) (hI:Inv g p) (hx:StaIs g p x) (hR:StaR x R):
 Tri Tryz.prog 25 [x.val,.int .i64 t].toArray L R (Zfa g (Ufc g p t) L R):=by
 refine Jj 16 Tryz.call25 Tryz.func25 rfl rfl rfl ?_;apply (Xaf);intro b2;apply (qaq);intro b4;apply Xag∘Yee;refine Jy rfl zUb rfl ?_;rintro v M U ⟨s,h,w,c,f,pm,pl,S0,rfl,hK,rfl,rfl⟩;apply (qaq);intro b6;apply Xa8∘Yee∘qaa;refine q_l rfl (Jla x t _ _) ?_;apply (qaf);refine q_c ?_ ?_<;>intro hc0;·refine Jr ?_;apply (V2f);refine Vf zp ?_;refine Kg (T:=150) (f:=XEntry.cells) (wd:=4) pl [] zj yf ze hK.kl yg ?_;refine Vf zp ?_;apply qay∘Yee∘Xaz;refine q_r L ((Zw pl.arr :: V5 pm.arr :: S0) ++ R) zOc ?_;have hl:V7 p t:=(J9a hx).1 zF;exact ⟨(⟨s,x.time,h,x.dropped,pm.arr,w,c,f,x.rest,pl.arr⟩:XSta),Zw pl.arr :: V5 pm.arr :: S0,by rw [Ufc,if_pos hl],by rw [Ufc,if_pos hl];exact hK.is hx,hK.fin (fun r hr=>Ja (.tail _ (.tail _ hr))) zQb zsb,rfl,rfl⟩
 have hl:¬ V7 p t:=fun h=>absurd ((J9a hx).2 h) zF;have ht:=Ya hl;have hIs:=hK.is hx;have hS0:∀r∈S0 ++ R,InR r (V5 pm.arr :: (S0 ++ R)):=fun r hr=>Ja (.tail _ hr);apply (V2f);refine Vf zp ?_;apply qbv∘qaa;refine Jy rfl zEc rfl ?_;rintro v M U ⟨w2,c2,f2,q,S2,hqk,hS,⟨hw2,hc2,hf2⟩,rfl,rfl⟩;apply (qa4);refine Kg (T:=150) (f:=XEntry.cells) (wd:=4) q [] zj yf ze hqk yg ?_;refine Vf zp ?_;have h3:∀r∈S2 ++ (V5 pm.arr :: (S0 ++ R)),InR r ((Zw q.arr :: (S2 ++ (V5 pm.arr :: S0))) ++ R):=fun r hr=>Ja zba;have h4:∀r∈S0 ++ R,InR r ((Zw q.arr :: (S2 ++ (V5 pm.arr :: S0))) ++ R):=fun r hr=>(hS0 r hr).mono fun r hr=>h3 r (yi _ hr);refine Vvc (U:=((Zw q.arr :: (S2 ++ (V5 pm.arr :: S0))) ++ R)) (by simp only [yp,yq]) ?_;apply qay∘Yee∘Xbl;refine q_r L ((Zw q.arr :: (S2 ++ (V5 pm.arr :: S0))) ++ R) zOc ?_;exact ⟨(⟨s,t,h,x.dropped,pm.arr,w2,c2,f2,(Je g p t).rest,q.arr⟩:XSta),Zw q.arr :: (S2 ++ (V5 pm.arr :: S0)),by rw [Ufc,if_neg hl],by rw [Ufc,if_neg hl];exact hS,⟨hK.site.mono h4,hK.held.mono h4,h3 _ (yi _ (.head _)),hw2.mono h3,hc2.mono h3,hf2.mono h3,Ja (.head _)⟩,rfl,rfl⟩
end
end Go.Proofs.YtchfclmokpbldaaGreat
