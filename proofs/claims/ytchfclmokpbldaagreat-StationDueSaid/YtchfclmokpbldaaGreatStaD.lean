/-
  Merged texts. By an AI agent.
-/
import Derived.Test.YtchfclmokpbldaaGreatTelF
import Derived.Test.YtchfclmokpbldaaGreatStatM
import Derived.Test.YtchfclmokpbldaaGreatStaC
import Derived.Test.YtchfclmokpbldaaGreatCloneS
set_option linter.all false
set_option maxHeartbeats 4000000
set_option maxRecDepth 20000
namespace Go.Proofs.YtchfclmokpbldaaGreat
open Go.Aw Go
section
attribute [local irreducible] CJ LJ DJ Tri YV Gives Ur J3 Ko Uq RV J5 OwL.L
section
variable {A B:Prop}
def Uge(h:A→B:=by exact Jx (J4 (qs:=[]) (out:=[_,_,_,_]) tb rfl rfl rfl rfl) rfl):=h
def Vke(h:B:=by exact ⟨(⟨0,0,⟨0,0⟩⟩:XMeas),by rw [he],fun h=>by omega,rfl,rfl⟩):=h
def Jrg(h:A→B:=by exact Kr zla rfl rfl rfl rfl):=h
end
def Vgb (a:Int) (L:LB) (R:LS) (ha:-1000000000000≤a∧a≤1000000000000):
 Tri Tryz.prog 194 [.int .i64 a].toArray L R (fun v M U=>v=.int .i64 (a / 1000)∧L=M∧R=U):=by
 have hm:=Int.tmod_def a 1000;have h1:0≤a→a.tdiv 1000=a / 1000:=fun h=>yca h;have h2:a < 0→a.tdiv 1000= -((-a) / 1000):=fun h=>by
  have:a= -(-a):=by omega
  rw [this,Int.neg_tdiv,yca za];omega
 refine Jd 12 Tryz.call194 Tryz.func194 rfl rfl rfl ?_;apply Xac∘Xc3∘qdd∘Xdf∘qda∘Xa5;refine q_c ?_ ?_<;>intro hc0;·apply Xa7∘qa9∘Xav∘Xaj;refine q_i L R ?_;exact ⟨by rw [show a.tdiv 1000 - 1=a / 1000 by omega],rfl,rfl⟩
 apply qbv∘Xc5;refine q_i L R ?_;exact ⟨by rw [show a.tdiv 1000=a / 1000 by omega],rfl,rfl⟩
def Vnc (s:XSens) (r:Int) (L:LB) (R:LS) (hs:U0 s=0) (hr0:-1000000≤r∧r≤1000000):
 Tri Tryz.prog 115 [s.val,.int .i64 r].toArray L R (fun v M U=>v=(Jva s r).val∧L=M∧R=U):=by
 refine Jd 71 Tryz.call115 Tryz.func115 rfl rfl rfl ?_;apply (Xaf);intro b2;apply (qaq);intro b4;apply qaw∘Xca;apply Kf (G:=[_,_]) (j:=2) (cj:=10) rfl rfl zb rfl zmb rfl;·exact zyd
 intro junk3;apply (qaf);refine q_c ?_ ?_<;>intro hc0;·apply (qae);refine q_l rfl (K8 _ _) ?_;apply (Xds);refine q_r L R zUc ?_;exact ⟨by rw [Jva,if_pos za],rfl,rfl⟩
 have hE:¬ (U0 s≠0∨¬ (0≤r∧r≤65535)):=by omega
 have hml:=Kzd (s:=s) (r:=r) hs za;have hsk:=J5b hs;rw [Zk] at hsk;have hkd:1≤s.kind∧s.kind≤6:=by
  rw [U0] at hs;split at hs;·omega
  ·omega
 apply qbv∘Xar∘Xaa∘qaf;refine Vy ([5]++rg 17 6) ((⟨fun g=>[(5,.int .i64 g.1)],fun _=>⟨b4,[.int .i64 0,.int .i64 0],90⟩ :: ⟨b2,s.cells,88⟩ :: L,fun _=>R,fun _=>0⟩:Head {n:Int // n=if 4≤s.kind then Zqd s.kind else -1})) ?_ ?_;·
  refine Ka (Jp (Jg ?_));apply (Xax);refine q_c ?_ ?_<;>intro hc1;·apply qay∘qad;refine J7 (Je ?_);exact q_j ⟨1,by rw [if_pos za,Zqd,if_neg za,if_neg za]⟩
  apply (Xbj);refine q_c ?_ ?_<;>intro hc2;·apply qay∘qad;refine J7 (Je ?_);exact q_j ⟨2,by rw [if_pos za,Zqd,if_neg za,if_pos za]⟩
  apply (Xbj);refine q_c ?_ ?_<;>intro hc3;·apply qay∘qad;refine J7 (Je ?_);exact q_j ⟨5,by rw [if_pos za,Zqd,if_pos za]⟩
  refine J1 (Je ?_);exact q_j ⟨-1,by rw [if_neg za]⟩
 rintro ⟨ms,hms⟩ junk;try dsimp only
 have hm4:4≤s.kind↔0≤ms:=by
  rw [hms,Zqd];repeat' split
  all_goals omega
 apply Xay∘Xcq;refine q_c ?_ ?_<;>intro hc4;·
  apply Xdx∘Xb4;refine q_c ?_ ?_<;>intro hc5;·apply (qae);refine q_l rfl (K8 _ _) ?_;apply (qak);refine J7 (Jb (Ui (Kg (Kg ?_))));refine q_r L R zUc ?_;exact ⟨by rw [if_pos za] at hms;rw [Jva,if_neg hE,if_pos za,if_pos za],rfl,rfl⟩
  apply qbv∘Xb6∘qcd∘Xds;refine q_r L R zUc ?_;exact ⟨by rw [if_pos za] at hms;rw [Jva,if_neg hE,if_pos za,if_neg za],rfl,rfl⟩
 apply qbv∘Xai∘qcm∘Xcd;refine Kh tb [0,1,2,5,6,8,9,10,11,14,15,3,4,7,12,13,16,17,18,19] ([Blk.mk b2 _ _]) Kq zc zg ?_;apply Xbn∘Xak∘Xbn;refine K1 (Kpb rfl za za) rfl rfl rfl ?_;apply (Xak);refine q_d rfl (Vgb (s.scale * r) _ _ za) ?_;apply qc2∘qb7;refine q_d rfl (Vgb (-(s.scale * r)) _ _ za) ?_;apply qb7∘qc2;refine K1 zFb rfl rfl rfl ?_;apply (qbr);intro b7;apply qbg∘qc6∘Xaa∘Xcc;apply Kf (G:=[_,_,_]) (j:=3) (cj:=57) rfl rfl zb rfl zmb rfl;·exact zMd
 intro junk4;apply (qaf);refine q_c ?_ ?_<;>intro hc6;·apply qay∘Xaa;refine Jx zhc rfl ?_;apply (Xaa);refine Jx zhc rfl ?_;apply Xa8∘Xdb∘Xc1;refine q_r L R zUc ?_;exact ⟨by rw [Jva,if_neg hE,if_neg za,if_pos za,J0f];simp only [ydc],rfl,rfl⟩
 apply qbv∘Xc1;refine q_r L R zUc ?_;exact ⟨by rw [Jva,if_neg hE,if_neg za,if_neg za,J0f];simp only [ydc],rfl,rfl⟩
def IsAd (S:List XSens) (ad z a:Int):Prop:=(a= -1∧∀j:Nat,z < j→j < S.length→(S.getD j default).address≠ad)∨((z < a∧a < S.length)∧(S.getD a.toNat default).address=ad∧∀j:Nat,z < j→(j:Int) < a→(S.getD j default).address≠ad)
def Vle {S:List XSens} {ad a:Int} (h:IsAd S ad (-1) a):Jsa S ad=a:=by
 rcases h with ⟨h1,h2⟩ | ⟨h1,h2,h3⟩;·rw [Jsa,List.find?_eq_none.2 (fun i hi=>by rw [yva] at hi;simpa using h2 i za hi),h1];rfl
 ·
  have:(List.range S.length).find? (fun i=>decide ((S.getD i default).address=ad))=some a.toNat:=by rw [yXa];refine ⟨by simpa using h2,by rw [yva];omega,fun j hj=>?_⟩;simpa using h3 j za za
  rw [Jsa,this];show ((a.toNat:Nat):Int)=a;omega
def IsAd.hit {S:List XSens} {z ad:Int} (hz:0≤z∧z < S.length) (h:(S.getD z.toNat default).address=ad):IsAd S ad (z - 1) z:=
 .inr ⟨by omega,h,fun j h1 h2=>by omega⟩
def IsAd.miss {S:List XSens} {z ad a:Int} (hz:0≤z∧z < S.length) (k:IsAd S ad z a) (h:(S.getD z.toNat default).address≠ad):IsAd S ad (z - 1) a:=by
 rcases k with ⟨h1,h2⟩ | ⟨h1,h2,h3⟩;·
  refine .inl ⟨h1, fun j hj hl => ?_⟩;rcases yaa (z < j) with h4 | h4;·exact h2 j h4 hl
  ·(obtain rfl : j = z.toNat := by omega);exact h
 ·
  refine .inr ⟨by omega, h2, fun j hj hl => ?_⟩;rcases yaa (z < j) with h4 | h4;·exact h3 j h4 hl
  ·(obtain rfl : j = z.toNat := by omega);exact h
def Jqc (S:Arr XSens) (f:XFrame) (t:Int) (L:LB) (R:LS) (hS:InR (J2d S) R) (hf:InR (bsl f.data) R) (hb:BytesOk f.data.l) (hn:S.l.length≤64):
 Tri Tryz.prog 45 [S.val,f.val,.int .i64 t].toArray L R (fun v M U=>∃m:XMeas,v=.tuple #[m.val,.int .i64 (Vr S.l f.tele t)]∧(Vr S.l f.tele t=0→m=Vla S.l f.tele t)∧L=M∧R=U):=by
 refine Vb Tryz.call45 hf fun hfn=>?_;refine Jd 85 Tryz.call45 Tryz.func45 rfl rfl rfl ?_;apply (Xaf);intro b4;apply (qaq);intro b6;apply Xar∘Xca;apply Kf (G:=[_,_]) (j:=2) (cj:=13) rfl rfl zb rfl zmb rfl;·exact zyd
 intro junk3;apply (qaf);refine q_c ?_ ?_<;>intro hc0;·
  apply qae∘Uge∘Xa3;refine q_r L R zod ?_;have he:Vr S.l f.tele t=8:=by rw [Vr,if_pos za]
  exact Vke
 apply qbv∘Xar∘Xao∘qa9∘Xa4;refine Jl [(0,.slice _ _ _),(2,.int _ _),(4,.pointer _),(6,.pointer _),(8,.int _ _),(9,.int _ _)] zh fun tq0=>?_;refine q_s ([8,9]++rg 21 13) (fun g:{g:Int×Int // (-1≤g.1∧g.1 < S.l.length)∧IsAd S.l f.address g.1 g.2}=>[(9,.int .i64 g.1.1),(8,.int .i64 g.1.2)]) (fun g=>(g.1.1 + 1).toNat) (⟨((S.l.length:Int) - 1,-1),by dsimp only;omega,.inl ⟨rfl,fun j h1 h2=>by dsimp only at h1;omega⟩⟩) ?_;rintro ⟨⟨z,a⟩,hz,ha⟩ junk;try dsimp only
 dsimp only at hz ha;apply Xay∘Xcq;refine q_c ?_ ?_<;>intro hc1;·
  have hg:=Ju (l:=S.l) (k:=z.toNat) default za;refine J1 (Jb (Jp (Ka (Jp ?_))));refine Kh tb [0,1,2,3,4,5,6,7] _ Kq zc ye ?_;refine K1 zed rfl rfl rfl ?_;apply (qao);refine K1 zNa rfl rfl rfl ?_;apply Xee∘Xak;refine K1 zic rfl rfl rfl ?_;apply (qbu);refine q_c ?_ ?_<;>intro hc2;·apply Xa7∘qad∘Xed;exact q_k ⟨(z - 1,z),by dsimp only;omega,.hit za hc2⟩
  apply qbj∘Xby;exact q_k ⟨(z - 1,a),by dsimp only;omega,ha.miss za hc2⟩
 obtain rfl:z= -1:=by omega
 have hadr:Jsa S.l f.tele.address=a:=Vle ha;have har:a < 0∨(0≤a∧a < S.l.length):=by
  rcases ha with h | h;·omega
  ·omega
 apply qcf∘Xca;apply Kf (G:=[_,_,_,_,_,_]) (j:=2) (cj:=36) rfl rfl zb rfl zmb rfl;·intro hg3;replace hg3:=qb hg3;have hgA:=Ju (l:=S.l) (k:=a.toNat) default za;apply (Xas);refine Jx zhb rfl ?_;refine Jx zda rfl ?_;refine q_l rfl (Via (S.l.getD a.toNat default) _ _) ?_;exact zAd
 intro junk3;apply (qaf);refine q_c ?_ ?_<;>intro hc3;·
  apply qae∘Uge∘Xa3;refine q_r L R zod ?_;have he:Vr S.l f.tele t=9:=by rw [Vr,if_neg za,hadr,if_pos za]
  exact Vke
 have hgA:=Ju (l:=S.l) (k:=a.toNat) default za;have hE1:¬ (t < 0∨2147483648 < t):=by omega
 have hE2:¬ (a < 0∨U0 (S.l.getD a.toNat default)≠0):=by omega
 have hdl:f.tele.data.length=f.data.l.length:=rfl;have htk:f.tele.kind=f.kind:=rfl;apply qbv∘Xb6;refine q_l rfl (K8 _ _) ?_;refine Jx (J4 (qs:=[(0,(Value.int _ _).cells.toList),(1,(Value.int _ _).cells.toList),(2,(Value.agg _).cells.toList)]) (out:=[_,_,_,_]) tb rfl rfl rfl rfl) rfl ?_;apply (qaq);intro b10;apply Xbg∘Xaa;refine J7 (Jb (Ka (Jp (Jg ?_))));apply (Xax);refine q_c ?_ ?_<;>intro hc4;·
  apply qbi∘Xab∘Xat;refine q_c ?_ ?_<;>intro hc5;·apply qae∘Uge∘Xdw;refine J7 (Jb (Ui (Kg (Ke (Kg ?_)))));exact zae
  have h0:=Ju (l:=f.data.l) (k:=0) 0 za;have h1:=Ju (l:=f.data.l) (k:=1) 0 za;have hb0:=hb.at 0;have hb1:=hb.at 1;refine J1 (Jb ?_);refine J6 tb [] [0,1,2,3,4,5,6,7,8,9,10,11,12,13,14,15,16,17] [18] (_) _ Kq zc zg (by (repeat (first | apply List.Sublist.cons (a:=Blk.mk b10 _ _) | apply List.Sublist.cons_cons));exact yv _) ?_;apply (Xdt);refine Kr zhb rfl rfl rfl rfl ?_;refine Kr zda rfl rfl rfl rfl ?_;apply Xah∘qd2∘qci∘Jrg;refine Kr (Z7b rfl rfl ze (Kge za)) rfl rfl rfl rfl ?_;apply (Xah);refine Kr zlb rfl rfl rfl rfl ?_;apply qci∘Jrg;refine Kr (K7f rfl rfl (Vpg za za)) rfl rfl rfl rfl ?_;refine Ku rfl (Vnc (S.l.getD a.toNat default) _ _ _ za za) rfl rfl ?_;rintro v M U ⟨rfl,rfl,rfl⟩;refine ⟨zg,zq,?_⟩;apply (Xef);refine J2b rfl rfl rfl rfl zB zb zb zb zg ?_;refine J2 (Je (Jb (Jp (Jg ?_))));apply qa8∘Xbw;refine q_r L R zod ?_;have he:Vr S.l f.tele t=0:=by rw [Vr,if_neg hE1,hadr,if_neg hE2,if_neg za,if_neg za]
  exact ⟨⟨a,t,Jva (S.l.getD a.toNat default) (f.data.l.getD 0 0 * 256 + f.data.l.getD 1 0)⟩,by rw [he],fun _=>by rw [Vla,hadr,if_pos za];rfl,rfl,rfl⟩
 apply (Xbj);refine q_c ?_ ?_<;>intro hc6;·
  apply qae∘Xab∘Xat;refine q_c ?_ ?_<;>intro hc7;·exact (qae∘Uge∘Xdw∘qdb) zae
  refine J1 (Je (Jb (Jp (Jg ?_))));apply qa8∘Xbw;refine q_r L R zod ?_;have he:Vr S.l f.tele t=0:=by rw [Vr,if_neg hE1,hadr,if_neg hE2,if_neg za,if_neg za]
  exact ⟨⟨a,t,nothingS⟩,by rw [he],fun _=>by rw [Vla,hadr,if_neg za],rfl,rfl⟩
 apply qae∘Uge∘Xdw∘qdb;refine q_r L R zod ?_;have he:Vr S.l f.tele t=5:=by rw [Vr,if_neg hE1,hadr,if_neg hE2,if_pos za]
 exact Vke
end
section
attribute [local irreducible] CJ LJ DJ Tri YV Gives Ur J3 Ko Uq RV J5 OwL.L
section
variable {A B:Prop}
def Yre(h:A→B:=by exact Jx ztb rfl):=h
def Zbf(h:A→B:=by exact Kk (T:=93) (f:=XMeas.cells) (wd:=4) pm [] zj yf ze hK.km yg):=h
end
def V3a (g:PSite) (q:PSta×Int) (L:LB) (R:LS):Y3:=fun v M U=>∃(y:XSta) (S:LS),v=.tuple #[y.val,.int .i64 q.2]∧StaIs g q.1 y∧StaR y U∧L=M∧S ++ R=U
def Kqa {g:PSite} {p:PSta} {x:XSta} (hx:StaIs g p x) {t:Int}:(t < x.time∨2147483648 < t)↔Zt p t:=by rw [hx.time,Zt]
def StaK.fin {x:XSta} {s:XSite} {h:Arr Int} {w:Arr XWatch} {c:Arr XCut} {f:XFeeder} {pm:OwL XMeas} {pl:OwL XEntry} {R U:LS} (k:StaK x s h w c f pm pl R) (hR:∀r∈R,InR r U) (h1:InR (Yf pm.arr) U) (h2:InR (Z5 pl.arr) U):StaR (⟨s,x.time,h,x.dropped,pm.arr,w,c,f,x.rest,pl.arr⟩:XSta) U:=⟨k.site.mono hR,k.held.mono hR,h1,k.watches.mono hR,k.cuts.mono hR,k.feeder.mono hR,h2⟩
def Vsa (g:PSite) (p:PSta) (x:XSta) (t:Int) (L:LB) (R:LS) (hI:Inv g p) (hx:StaIs g p x) (hR:StaR x R):
 Tri Tryz.prog 25 [x.val,.int .i64 t].toArray L R (V3a g (Yxa g p t) L R):=by
 refine Jd 16 Tryz.call25 Tryz.func25 rfl rfl rfl ?_;apply (Xaf);intro b2;apply (qaq);intro b4;apply Xag∘Yre;refine Jm rfl zlc rfl ?_;rintro v M U ⟨s,h,w,c,f,pm,pl,S0,rfl,hK,rfl,rfl⟩;apply (qaq);intro b6;apply Xbg∘Yre∘qaa;refine q_l rfl (Jxa x t _ _) ?_;apply (qaf);refine q_c ?_ ?_<;>intro hc0;·refine Jp ?_;apply (Zbf);refine Uu zt ?_;refine Kk (T:=150) (f:=XEntry.cells) (wd:=4) pl [] zj yf ze hK.kl yg ?_;refine Uu zt ?_;apply qay∘Yre∘Xa3;refine q_r L ((Z5 pl.arr :: Yf pm.arr :: S0) ++ R) zfd ?_;have hl:Zt p t:=(Kqa hx).1 zF;exact ⟨(⟨s,x.time,h,x.dropped,pm.arr,w,c,f,x.rest,pl.arr⟩:XSta),Z5 pl.arr :: Yf pm.arr :: S0,by rw [Yxa,if_pos hl],by rw [Yxa,if_pos hl];exact hK.is hx,hK.fin (fun r hr=>Ja (.tail _ (.tail _ hr))) zZb zEb,rfl,rfl⟩
 have hl:¬ Zt p t:=fun h=>absurd ((Kqa hx).2 h) zF;have ht:=V3 hl;have hIs:=hK.is hx;have hS0:∀r∈S0 ++ R,InR r (Yf pm.arr :: (S0 ++ R)):=fun r hr=>Ja (.tail _ hr);apply (Zbf);refine Uu zt ?_;apply qbv∘qaa;refine Jm rfl zWc rfl ?_;rintro v M U ⟨w2,c2,f2,q,S2,hqk,hS,⟨hw2,hc2,hf2⟩,rfl,rfl⟩;apply (qa4);refine Kk (T:=150) (f:=XEntry.cells) (wd:=4) q [] zj yf ze hqk yg ?_;refine Uu zt ?_;have h3:∀r∈S2 ++ (Yf pm.arr :: (S0 ++ R)),InR r ((Z5 q.arr :: (S2 ++ (Yf pm.arr :: S0))) ++ R):=fun r hr=>Ja zfa;have h4:∀r∈S0 ++ R,InR r ((Z5 q.arr :: (S2 ++ (Yf pm.arr :: S0))) ++ R):=fun r hr=>(hS0 r hr).mono fun r hr=>h3 r (yk _ hr);refine Ujb (U:=((Z5 q.arr :: (S2 ++ (Yf pm.arr :: S0))) ++ R)) (by simp only [yr,yo]) ?_;apply qay∘Yre∘Xbw;refine q_r L ((Z5 q.arr :: (S2 ++ (Yf pm.arr :: S0))) ++ R) zfd ?_;exact ⟨(⟨s,t,h,x.dropped,pm.arr,w2,c2,f2,(Jh g p t).rest,q.arr⟩:XSta),Z5 q.arr :: (S2 ++ (Yf pm.arr :: S0)),by rw [Yxa,if_neg hl],by rw [Yxa,if_neg hl];exact hS,⟨hK.site.mono h4,hK.held.mono h4,h3 _ (yk _ (.head _)),hw2.mono h3,hc2.mono h3,hf2.mono h3,Ja (.head _)⟩,rfl,rfl⟩
end
end Go.Proofs.YtchfclmokpbldaaGreat
