/-
  Merged texts. By an AI agent.
-/
import Derived.Test.YtchfclmokpbldaaGreatTelF
import Derived.Test.YtchfclmokpbldaaGreatStatM
import Derived.Test.YtchfclmokpbldaaGreatStaC
import Derived.Test.YtchfclmokpbldaaGreatCloneS
set_option linter.all false
set_option maxHeartbeats 4000000
set_option maxRecDepth 20000
namespace Go.Proofs.YtchfclmokpbldaaGreat
open Go.Aw Go
section
attribute [local irreducible] CJ LJ DJ Tri YV Gives U5 J2 Kn U6 RV J4 OwL.L
section
variable {A B:Prop}
def Une(h:A→B:=by exact Jy (Ka (qs:=[]) (out:=[_,_,_,_]) tb rfl rfl rfl rfl) rfl):=h
def Koe(h:B:=by exact ⟨(⟨0,0,⟨0,0⟩⟩:XMeas),by rw [he],fun h=>by omega,rfl,rfl⟩):=h
def K9g(h:A→B:=by exact Kt zwa rfl rfl rfl rfl):=h
end
def V1b (a:Int) (L:LB) (R:LS) (ha:-1000000000000≤a∧a≤1000000000000):
 Tri Tryz.prog 194 [.int .i64 a].toArray L R (fun v U J=>v=.int .i64 (a / 1000)∧L=U∧R=J):=by
 have hm:=Int.tmod_def a 1000;have h1:0≤a→a.tdiv 1000=a / 1000:=fun h=>yda h;have h2:a < 0→a.tdiv 1000= -((-a) / 1000):=fun h=>by
  have:a= -(-a):=by omega
  rw [this,Int.neg_tdiv,yda za];omega
 refine Je 12 Tryz.call194 Tryz.func194 rfl rfl rfl ?_;apply Xae∘qam∘qaa∘qdd∘Xck∘qda∘Xa5;refine q_c ?_ ?_<;>intro hc0;·apply Xbc∘qa9∘Xas∘Xak;refine q_i L R ?_;exact ⟨by rw [show a.tdiv 1000 - 1=a / 1000 by omega],rfl,rfl⟩
 apply Xd6∘Xak;refine q_i L R ?_;exact ⟨by rw [show a.tdiv 1000=a / 1000 by omega],rfl,rfl⟩
def Kyb (s:XSens) (r:Int) (L:LB) (R:LS) (hs:Uv s=0) (hr0:-1000000≤r∧r≤1000000):
 Tri Tryz.prog 115 [s.val,.int .i64 r].toArray L R (fun v U J=>v=(Yk s r).val∧L=U∧R=J):=by
 refine Je 71 Tryz.call115 Tryz.func115 rfl rfl rfl ?_;apply (Xaf);intro b2;apply (qaq);intro b4;apply qaw∘qaa∘Xav;apply J6 (G:=[_,_]) (j:=2) (cj:=10) rfl rfl zb rfl zsb rfl;·exact zKd
 intro junk3;apply (qaf);refine q_c ?_ ?_<;>intro hc0;·apply (qae);refine q_l rfl (Ud _ _) ?_;apply (Xdp);refine q_r L R zhd ?_;exact ⟨by rw [Yk,if_pos za],rfl,rfl⟩
 have hE:¬ (Uv s≠0∨¬ (0≤r∧r≤65535)):=by omega
 have hml:=U1e (s:=s) (r:=r) hs za;have hsk:=Zcb hs;rw [Jba] at hsk;have hkd:1≤s.kind∧s.kind≤6:=by
  rw [Uv] at hs;split at hs;·omega
  ·omega
 apply qbv∘Xar∘Xaa∘qaf;refine Kaa ([5]++rg 17 6) ((⟨fun g=>[(5,.int .i64 g.1)],fun _=>⟨b4,[.int .i64 0,.int .i64 0],90⟩ :: ⟨b2,s.cells,88⟩ :: L,fun _=>R,fun _=>0⟩:Head {n:Int // n=if 4≤s.kind then Kee s.kind else -1})) ?_ ?_;·
  refine Kk (Jq (Jh ?_));apply (Xa6);refine q_c ?_ ?_<;>intro hc1;·apply qay∘qad;refine Kc (Ji ?_);exact q_j ⟨1,by rw [if_pos za,Kee,if_neg za,if_neg za]⟩
  apply (Xbx);refine q_c ?_ ?_<;>intro hc2;·apply qay∘qad;refine Kc (Ji ?_);exact q_j ⟨2,by rw [if_pos za,Kee,if_neg za,if_pos za]⟩
  apply (Xbx);refine q_c ?_ ?_<;>intro hc3;·apply qay∘qad;refine Kc (Ji ?_);exact q_j ⟨5,by rw [if_pos za,Kee,if_pos za]⟩
  refine J5 (Ji ?_);exact q_j ⟨-1,by rw [if_neg za]⟩
 rintro ⟨ms,hms⟩ junk;try dsimp only
 have hm4:4≤s.kind↔0≤ms:=by
  rw [hms,Kee];repeat' split
  all_goals omega
 apply Xa3∘Xcv;refine q_c ?_ ?_<;>intro hc4;·
  apply Xa3∘Xb8∘qaf;refine q_c ?_ ?_<;>intro hc5;·apply (qae);refine q_l rfl (Ud _ _) ?_;apply (qak);refine Kc (Jb (Uq (Kg (Kg ?_))));refine q_r L R zhd ?_;exact ⟨by rw [if_pos za] at hms;rw [Yk,if_neg hE,if_pos za,if_pos za],rfl,rfl⟩
  apply qbv∘Xbw∘qcd∘Xdp;refine q_r L R zhd ?_;exact ⟨by rw [if_pos za] at hms;rw [Yk,if_neg hE,if_pos za,if_neg za],rfl,rfl⟩
 apply qbv∘Xah∘qcm∘Xce;refine Ki tb [0,1,2,5,6,8,9,10,11,14,15,3,4,7,12,13,16,17,18,19] ([Blk.mk b2 _ _]) Kq zc zi ?_;apply Xbs∘Xai∘Xbs;refine K0 (Kkb rfl za za) rfl rfl rfl ?_;apply (Xai);refine q_d rfl (V1b (s.scale * r) _ _ za) ?_;apply qc2∘qb7;refine q_d rfl (V1b (-(s.scale * r)) _ _ za) ?_;apply qb7∘qc2;refine K0 zNb rfl rfl rfl ?_;apply (qbr);intro b7;apply qbg∘qc6∘Xaa∘Xcn;apply J6 (G:=[_,_,_]) (j:=3) (cj:=57) rfl rfl zb rfl zsb rfl;·exact zRe
 intro junk4;apply (qaf);refine q_c ?_ ?_<;>intro hc6;·apply qay∘Xaa;refine Jy ztc rfl ?_;apply (Xaa);refine Jy ztc rfl ?_;apply Xbm∘Xbm∘qam∘Xc5;refine q_r L R zhd ?_;exact ⟨by rw [Yk,if_neg hE,if_neg za,if_pos za,Vqf];simp only [ybc],rfl,rfl⟩
 apply qbv∘Xc5;refine q_r L R zhd ?_;exact ⟨by rw [Yk,if_neg hE,if_neg za,if_neg za,Vqf];simp only [ybc],rfl,rfl⟩
def IsAd (S:List XSens) (ad z a:Int):Prop:=(a= -1∧∀j:Nat,z < j→j < S.length→(S.getD j default).address≠ad)∨((z < a∧a < S.length)∧(S.getD a.toNat default).address=ad∧∀j:Nat,z < j→(j:Int) < a→(S.getD j default).address≠ad)
def Jxd {S:List XSens} {ad a:Int} (h:IsAd S ad (-1) a):Jla S ad=a:=by
 rcases h with ⟨h1,h2⟩ | ⟨h1,h2,h3⟩;·rw [Jla,List.find?_eq_none.2 (fun i hi=>by rw [yQa] at hi;simpa using h2 i za hi),h1];rfl
 ·
  have:(List.range S.length).find? (fun i=>decide ((S.getD i default).address=ad))=some a.toNat:=by rw [ycb];refine ⟨by simpa using h2,by rw [yQa];omega,fun j hj=>?_⟩;simpa using h3 j za za
  rw [Jla,this];show ((a.toNat:Nat):Int)=a;omega
def IsAd.hit {S:List XSens} {z ad:Int} (hz:0≤z∧z < S.length) (h:(S.getD z.toNat default).address=ad):IsAd S ad (z - 1) z:=
 .inr ⟨by omega,h,fun j h1 h2=>by omega⟩
def IsAd.miss {S:List XSens} {z ad a:Int} (hz:0≤z∧z < S.length) (k:IsAd S ad z a) (h:(S.getD z.toNat default).address≠ad):IsAd S ad (z - 1) a:=by
 rcases k with ⟨h1,h2⟩ | ⟨h1,h2,h3⟩;·
  refine .inl ⟨h1, fun j hj hl => ?_⟩;rcases yia (z < j) with h4 | h4;·exact h2 j h4 hl
  ·(obtain rfl : j = z.toNat := by omega);exact h
 ·
  refine .inr ⟨by omega, h2, fun j hj hl => ?_⟩;rcases yia (z < j) with h4 | h4;·exact h3 j h4 hl
  ·(obtain rfl : j = z.toNat := by omega);exact h
def Jlb (S:Arr XSens) (f:XFrame) (t:Int) (L:LB) (R:LS) (hS:InR (Zbd S) R) (hf:InR (bsl f.data) R) (hb:BytesOk f.data.l) (hn:S.l.length≤64):
 Tri Tryz.prog 45 [S.val,f.val,.int .i64 t].toArray L R (fun v U J=>∃m:XMeas,v=.tuple #[m.val,.int .i64 (Vm S.l f.tele t)]∧(Vm S.l f.tele t=0→m=J1b S.l f.tele t)∧L=U∧R=J):=by
 refine U3 Tryz.call45 hf fun hfn=>?_;refine Je 85 Tryz.call45 Tryz.func45 rfl rfl rfl ?_;apply (Xaf);intro b4;apply (qaq);intro b6;apply Xck∘Xav;apply J6 (G:=[_,_]) (j:=2) (cj:=13) rfl rfl zb rfl zsb rfl;·exact zKd
 intro junk3;apply (qaf);refine q_c ?_ ?_<;>intro hc0;·
  apply qae∘Une∘Xa4;refine q_r L R zCd ?_;have he:Vm S.l f.tele t=8:=by rw [Vm,if_pos za]
  exact Koe
 apply qbv∘Xar∘Xaq∘qa9∘Xbf;refine Jm [(0,.slice _ _ _),(2,.int _ _),(4,.pointer _),(6,.pointer _),(8,.int _ _),(9,.int _ _)] zh fun tq0=>?_;refine q_s ([8,9]++rg 21 13) (fun g:{g:Int×Int // (-1≤g.1∧g.1 < S.l.length)∧IsAd S.l f.address g.1 g.2}=>[(9,.int .i64 g.1.1),(8,.int .i64 g.1.2)]) (fun g=>(g.1.1 + 1).toNat) (⟨((S.l.length:Int) - 1,-1),by dsimp only;omega,.inl ⟨rfl,fun j h1 h2=>by dsimp only at h1;omega⟩⟩) ?_;rintro ⟨⟨z,a⟩,hz,ha⟩ junk;try dsimp only
 dsimp only at hz ha;apply Xa3∘Xcv;refine q_c ?_ ?_<;>intro hc1;·
  have hg:=Jn (l:=S.l) (k:=z.toNat) default za;refine J5 (Jb (Jq (Kk (Jq ?_))));refine Ki tb [0,1,2,3,4,5,6,7] _ Kq zc ye ?_;refine K0 zrd rfl rfl rfl ?_;apply (qao);refine K0 zMa rfl rfl rfl ?_;apply Xdx∘Xai;refine K0 zsc rfl rfl rfl ?_;apply (qbu);refine q_c ?_ ?_<;>intro hc2;·apply Xbc∘qad∘qcs∘Xch;exact q_k ⟨(z - 1,z),by dsimp only;omega,.hit za hc2⟩
  apply qbj∘Xch;exact q_k ⟨(z - 1,a),by dsimp only;omega,ha.miss za hc2⟩
 obtain rfl:z= -1:=by omega
 have hadr:Jla S.l f.tele.address=a:=Jxd ha;have har:a < 0∨(0≤a∧a < S.l.length):=by
  rcases ha with h | h;·omega
  ·omega
 apply qcf∘qaa∘Xav;apply J6 (G:=[_,_,_,_,_,_]) (j:=2) (cj:=36) rfl rfl zb rfl zsb rfl;·intro hg3;replace hg3:=qb hg3;have hgA:=Jn (l:=S.l) (k:=a.toNat) default za;apply (Xap);refine Jy znb rfl ?_;refine Jy zga rfl ?_;refine q_l rfl (Kza (S.l.getD a.toNat default) _ _) ?_;exact zNd
 intro junk3;apply (qaf);refine q_c ?_ ?_<;>intro hc3;·
  apply qae∘Une∘Xa4;refine q_r L R zCd ?_;have he:Vm S.l f.tele t=9:=by rw [Vm,if_neg za,hadr,if_pos za]
  exact Koe
 have hgA:=Jn (l:=S.l) (k:=a.toNat) default za;have hE1:¬ (t < 0∨2147483648 < t):=by omega
 have hE2:¬ (a < 0∨Uv (S.l.getD a.toNat default)≠0):=by omega
 have hdl:f.tele.data.length=f.data.l.length:=rfl;have htk:f.tele.kind=f.kind:=rfl;apply qbv∘Xbw;refine q_l rfl (Ud _ _) ?_;refine Jy (Ka (qs:=[(0,(Value.int _ _).cells.toList),(1,(Value.int _ _).cells.toList),(2,(Value.agg _).cells.toList)]) (out:=[_,_,_,_]) tb rfl rfl rfl rfl) rfl ?_;apply (qaq);intro b10;apply Xbe∘Xaa;refine Kc (Jb (Kk (Jq (Jh ?_))));apply (Xa6);refine q_c ?_ ?_<;>intro hc4;·
  apply qbi∘Xab∘Xat;refine q_c ?_ ?_<;>intro hc5;·apply qae∘Une∘qak∘qad;refine Kc (Jb (Uq (Kg (Kf (Kg ?_)))));exact zue
  have h0:=Jn (l:=f.data.l) (k:=0) 0 za;have h1:=Jn (l:=f.data.l) (k:=1) 0 za;have hb0:=hb.at 0;have hb1:=hb.at 1;refine J5 (Jb ?_);refine J7 tb [] [0,1,2,3,4,5,6,7,8,9,10,11,12,13,14,15,16,17] [18] (_) _ Kq zc zi (by (repeat (first | apply List.Sublist.cons (a:=Blk.mk b10 _ _) | apply List.Sublist.cons_cons));exact yt _) ?_;apply (Xdq);refine Kt znb rfl rfl rfl rfl ?_;refine Kt zga rfl rfl rfl rfl ?_;apply Xaj∘qd2∘qci∘K9g;refine Kt (Vuc rfl rfl ze (Vie za)) rfl rfl rfl rfl ?_;apply (Xaj);refine Kt zrb rfl rfl rfl rfl ?_;apply qci∘K9g;refine Kt (Ukf rfl rfl (Yeg za za)) rfl rfl rfl rfl ?_;refine K6 rfl (Kyb (S.l.getD a.toNat default) _ _ _ za za) rfl rfl ?_;rintro v U J ⟨rfl,rfl,rfl⟩;refine ⟨zi,zq,?_⟩;apply qan∘qba;refine Uab rfl rfl rfl rfl zB zb zb zb zi ?_;refine J1 (Ji (Jb (Jq (Jh ?_))));apply qa8∘Xb3;refine q_r L R zCd ?_;have he:Vm S.l f.tele t=0:=by rw [Vm,if_neg hE1,hadr,if_neg hE2,if_neg za,if_neg za]
  exact ⟨⟨a,t,Yk (S.l.getD a.toNat default) (f.data.l.getD 0 0 * 256 + f.data.l.getD 1 0)⟩,by rw [he],fun _=>by rw [J1b,hadr,if_pos za];rfl,rfl,rfl⟩
 apply (Xbx);refine q_c ?_ ?_<;>intro hc6;·
  apply qae∘Xab∘Xat;refine q_c ?_ ?_<;>intro hc7;·exact (qae∘Une∘qak∘qad∘qdb) zue
  refine J5 (Ji (Jb (Jq (Jh ?_))));apply qa8∘Xb3;refine q_r L R zCd ?_;have he:Vm S.l f.tele t=0:=by rw [Vm,if_neg hE1,hadr,if_neg hE2,if_neg za,if_neg za]
  exact ⟨⟨a,t,nothingS⟩,by rw [he],fun _=>by rw [J1b,hadr,if_neg za],rfl,rfl⟩
 apply qae∘Une∘qak∘qad∘qdb;refine q_r L R zCd ?_;have he:Vm S.l f.tele t=5:=by rw [Vm,if_neg hE1,hadr,if_neg hE2,if_pos za]
 exact Koe
end
section
attribute [local irreducible] CJ LJ DJ Tri YV Gives U5 J2 Kn U6 RV J4 OwL.L
def Ksb (g:PSite) (q:PSta×Int) (L:LB) (R:LS):Y3:=fun v U J=>∃(y:XSta) (S:LS),v=.tuple #[y.val,.int .i64 q.2]∧StaIs g q.1 y∧StaR y J∧L=U∧S ++ R=J
def U5a {g:PSite} {p:PSta} {x:XSta} (hx:StaIs g p x) {t:Int}:(t < x.time∨2147483648 < t)↔Jya p t:=by rw [hx.time,Jya]
def StaK.fin {x:XSta} {s:XSite} {h:Arr Int} {w:Arr XWatch} {c:Arr XCut} {f:XFeeder} {pm:OwL XMeas} {pl:OwL XEntry} {R J:LS} (k:StaK x s h w c f pm pl R) (hR:∀r∈R,InR r J) (h1:InR (Yy pm.arr) J) (h2:InR (Kia pl.arr) J):StaR (⟨s,x.time,h,x.dropped,pm.arr,w,c,f,x.rest,pl.arr⟩:XSta) J:=⟨k.site.mono hR,k.held.mono hR,h1,k.watches.mono hR,k.cuts.mono hR,k.feeder.mono hR,h2⟩
end
end Go.Proofs.YtchfclmokpbldaaGreat
