/-
  Merged texts. By an AI agent.
-/
import Derived.Test.YtchfclmokpbldaaGreatTelF
import Derived.Test.YtchfclmokpbldaaGreatStatM
import Derived.Test.YtchfclmokpbldaaGreatStaC
import Derived.Test.YtchfclmokpbldaaGreatCloneS
set_option linter.all false
set_option maxHeartbeats 4000000
set_option maxRecDepth 20000
namespace Go.Proofs.YtchfclmokpbldaaGreat
open Go.Aw Go
section
attribute [local irreducible] CJ LJ DJ Tri YV Gives Uq J2 Kj Ut RV J3 OwL.L
section
variable {A B:Prop}
def Ube(h:A→B:=by exact Jw (J8 (qs:=[]) (out:=[_,_,_,_]) tb rfl rfl rfl rfl) rfl):=h
def U0e(h:B:=by exact ⟨(⟨0,0,⟨0,0⟩⟩:XMeas),by rw [he],fun h=>by omega,rfl,rfl⟩):=h
def Zcf(h:A→B:=by exact Ku zua rfl rfl rfl rfl):=h
end
def Uub (a:Int) (L:LB) (R:LS) (ha:-1000000000000≤a∧a≤1000000000000):
 Tri Tryz.prog 194 [.int .i64 a].toArray L R (fun v U J=>v=.int .i64 (a / 1000)∧L=U∧R=J):=by
 have hm:=Int.tmod_def a 1000;have h1:0≤a→a.tdiv 1000=a / 1000:=fun h=>yT h;have h2:a < 0→a.tdiv 1000= -((-a) / 1000):=fun h=>by
  have:a= -(-a):=by omega
  rw [this,Int.neg_tdiv,yT za];omega
 refine Je 12 Tryz.call194 Tryz.func194 rfl rfl rfl ?_;apply Xae∘Xc8∘qdd∘Xc5∘qda∘Xbd;refine q_c ?_ ?_<;>intro hc0;·apply Xa5∘qa9∘Xau∘Xam;refine q_i L R ?_;exact ⟨by rw [show a.tdiv 1000 - 1=a / 1000 by omega],rfl,rfl⟩
 apply Xdz∘Xam;refine q_i L R ?_;exact ⟨by rw [show a.tdiv 1000=a / 1000 by omega],rfl,rfl⟩
def Vpa (s:XSens) (r:Int) (L:LB) (R:LS) (hs:Uo s=0) (hr0:-1000000≤r∧r≤1000000):
 Tri Tryz.prog 115 [s.val,.int .i64 r].toArray L R (fun v U J=>v=(Vn s r).val∧L=U∧R=J):=by
 refine Je 71 Tryz.call115 Tryz.func115 rfl rfl rfl ?_;apply (Xaf);intro b2;apply (qaq);intro b4;apply qaw∘Xck;apply Kf (G:=[_,_]) (j:=2) (cj:=10) rfl rfl zb rfl zmb rfl;·exact zsd
 intro junk3;apply (qaf);refine q_c ?_ ?_<;>intro hc0;·apply (qae);refine q_l rfl (Ub _ _) ?_;apply (Xdb);refine q_r L R zQc ?_;exact ⟨by rw [Vn,if_pos za],rfl,rfl⟩
 have hE:¬ (Uo s≠0∨¬ (0≤r∧r≤65535)):=by omega
 have hml:=Vee (s:=s) (r:=r) hs za;have hsk:=Z4b hs;rw [Zt] at hsk;have hkd:1≤s.kind∧s.kind≤6:=by
  rw [Uo] at hs;split at hs;·omega
  ·omega
 apply qbv∘Xar∘Xaa∘qaf;refine Vq ([5]++rg 17 6) ((⟨fun g=>[(5,.int .i64 g.1)],fun _=>⟨b4,[.int .i64 0,.int .i64 0],90⟩ :: ⟨b2,s.cells,88⟩ :: L,fun _=>R,fun _=>0⟩:Head {n:Int // n=if 4≤s.kind then Z7d s.kind else -1})) ?_ ?_;·
  refine Ki (Jq (Jg ?_));apply (Xa2);refine q_c ?_ ?_<;>intro hc1;·apply qay∘qad;refine J9 (Jh ?_);exact q_j ⟨1,by rw [if_pos za,Z7d,if_neg za,if_neg za]⟩
  apply (Xbv);refine q_c ?_ ?_<;>intro hc2;·apply qay∘qad;refine J9 (Jh ?_);exact q_j ⟨2,by rw [if_pos za,Z7d,if_neg za,if_pos za]⟩
  apply (Xbv);refine q_c ?_ ?_<;>intro hc3;·apply qay∘qad;refine J9 (Jh ?_);exact q_j ⟨5,by rw [if_pos za,Z7d,if_pos za]⟩
  refine J5 (Jh ?_);exact q_j ⟨-1,by rw [if_neg za]⟩
 rintro ⟨ms,hms⟩ junk;try dsimp only
 have hm4:4≤s.kind↔0≤ms:=by
  rw [hms,Z7d];repeat' split
  all_goals omega
 apply Xa6∘Xcu;refine q_c ?_ ?_<;>intro hc4;·
  apply Xa6∘qaa∘Xb6;refine q_c ?_ ?_<;>intro hc5;·apply (qae);refine q_l rfl (Ub _ _) ?_;apply (qak);refine J9 (Jb (Uk (Kh (Kh ?_))));refine q_r L R zQc ?_;exact ⟨by rw [if_pos za] at hms;rw [Vn,if_neg hE,if_pos za,if_pos za],rfl,rfl⟩
  apply qbv∘Xb4∘qcd∘Xdb;refine q_r L R zQc ?_;exact ⟨by rw [if_pos za] at hms;rw [Vn,if_neg hE,if_pos za,if_neg za],rfl,rfl⟩
 apply qbv∘Xah∘qcm∘Xca;refine Ke tb [0,1,2,5,6,8,9,10,11,14,15,3,4,7,12,13,16,17,18,19] ([Blk.mk b2 _ _]) Ko zc zi ?_;apply Xby∘Xal∘Xby;refine Ks (Zha rfl za za) rfl rfl rfl ?_;apply (Xal);refine q_d rfl (Uub (s.scale * r) _ _ za) ?_;apply qc2∘qb7;refine q_d rfl (Uub (-(s.scale * r)) _ _ za) ?_;apply qb7∘qc2;refine Ks zEb rfl rfl rfl ?_;apply (qbr);intro b7;apply qbg∘qc6∘Xaa∘Xcl;apply Kf (G:=[_,_,_]) (j:=3) (cj:=57) rfl rfl zb rfl zmb rfl;·exact zJd
 intro junk4;apply (qaf);refine q_c ?_ ?_<;>intro hc6;·apply qay∘Xaa;refine Jw zfc rfl ?_;apply (Xaa);refine Jw zfc rfl ?_;apply Xbk∘Xbk∘qam∘Xcz;refine q_r L R zQc ?_;exact ⟨by rw [Vn,if_neg hE,if_neg za,if_pos za,Zad];simp only [ydc],rfl,rfl⟩
 apply qbv∘Xcz;refine q_r L R zQc ?_;exact ⟨by rw [Vn,if_neg hE,if_neg za,if_neg za,Zad];simp only [ydc],rfl,rfl⟩
def IsAd (S:List XSens) (ad z a:Int):Prop:=(a= -1∧∀j:Nat,z < j→j < S.length→(S.getD j default).address≠ad)∨((z < a∧a < S.length)∧(S.getD a.toNat default).address=ad∧∀j:Nat,z < j→(j:Int) < a→(S.getD j default).address≠ad)
def Kxe {S:List XSens} {ad a:Int} (h:IsAd S ad (-1) a):J4a S ad=a:=by
 rcases h with ⟨h1,h2⟩ | ⟨h1,h2,h3⟩;·rw [J4a,List.find?_eq_none.2 (fun i hi=>by rw [yMa] at hi;simpa using h2 i za hi),h1];rfl
 ·
  have:(List.range S.length).find? (fun i=>decide ((S.getD i default).address=ad))=some a.toNat:=by rw [ybb];refine ⟨by simpa using h2,by rw [yMa];omega,fun j hj=>?_⟩;simpa using h3 j za za
  rw [J4a,this];show ((a.toNat:Nat):Int)=a;omega
def IsAd.hit {S:List XSens} {z ad:Int} (hz:0≤z∧z < S.length) (h:(S.getD z.toNat default).address=ad):IsAd S ad (z - 1) z:=
 .inr ⟨by omega,h,fun j h1 h2=>by omega⟩
def IsAd.miss {S:List XSens} {z ad a:Int} (hz:0≤z∧z < S.length) (k:IsAd S ad z a) (h:(S.getD z.toNat default).address≠ad):IsAd S ad (z - 1) a:=by
 rcases k with ⟨h1,h2⟩ | ⟨h1,h2,h3⟩;·
  refine .inl ⟨h1, fun j hj hl => ?_⟩;rcases yga (z < j) with h4 | h4;·exact h2 j h4 hl
  ·(obtain rfl : j = z.toNat := by omega);exact h
 ·
  refine .inr ⟨by omega, h2, fun j hj hl => ?_⟩;rcases yga (z < j) with h4 | h4;·exact h3 j h4 hl
  ·(obtain rfl : j = z.toNat := by omega);exact h
def Jmc (S:Arr XSens) (f:XFrame) (t:Int) (L:LB) (R:LS) (hS:InR (Jbe S) R) (hf:InR (bsl f.data) R) (hb:BytesOk f.data.l) (hn:S.l.length≤64):
 Tri Tryz.prog 45 [S.val,f.val,.int .i64 t].toArray L R (fun v U J=>∃m:XMeas,v=.tuple #[m.val,.int .i64 (Vu S.l f.tele t)]∧(Vu S.l f.tele t=0→m=Ycb S.l f.tele t)∧L=U∧R=J):=by
 refine Vm Tryz.call45 hf fun hfn=>?_;refine Je 85 Tryz.call45 Tryz.func45 rfl rfl rfl ?_;apply (Xaf);intro b4;apply (qaq);intro b6;apply Xar∘Xck;apply Kf (G:=[_,_]) (j:=2) (cj:=13) rfl rfl zb rfl zmb rfl;·exact zsd
 intro junk3;apply (qaf);refine q_c ?_ ?_<;>intro hc0;·
  apply qae∘Ube∘Xa3;refine q_r L R zjd ?_;have he:Vu S.l f.tele t=8:=by rw [Vu,if_pos za]
  exact U0e
 apply qbv∘Xar∘Xap∘qa9∘Xbq;refine Jm [(0,.slice _ _ _),(2,.int _ _),(4,.pointer _),(6,.pointer _),(8,.int _ _),(9,.int _ _)] zh fun tq0=>?_;refine q_s ([8,9]++rg 21 13) (fun g:{g:Int×Int // (-1≤g.1∧g.1 < S.l.length)∧IsAd S.l f.address g.1 g.2}=>[(9,.int .i64 g.1.1),(8,.int .i64 g.1.2)]) (fun g=>(g.1.1 + 1).toNat) (⟨((S.l.length:Int) - 1,-1),by dsimp only;omega,.inl ⟨rfl,fun j h1 h2=>by dsimp only at h1;omega⟩⟩) ?_;rintro ⟨⟨z,a⟩,hz,ha⟩ junk;try dsimp only
 dsimp only at hz ha;apply Xa6∘Xcu;refine q_c ?_ ?_<;>intro hc1;·
  have hg:=Jp (l:=S.l) (k:=z.toNat) default za;refine J5 (Jb (Jq (Ki (Jq ?_))));refine Ke tb [0,1,2,3,4,5,6,7] _ Ko zc ye ?_;refine Ks zZc rfl rfl rfl ?_;apply (qao);refine Ks zxa rfl rfl rfl ?_;apply qce∘qbl∘Xal;refine Ks zFc rfl rfl rfl ?_;apply (qbu);refine q_c ?_ ?_<;>intro hc2;·apply Xa5∘qad∘qcs∘Xcc;exact q_k ⟨(z - 1,z),by dsimp only;omega,.hit za hc2⟩
  apply qbj∘Xcc;exact q_k ⟨(z - 1,a),by dsimp only;omega,ha.miss za hc2⟩
 obtain rfl:z= -1:=by omega
 have hadr:J4a S.l f.tele.address=a:=Kxe ha;have har:a < 0∨(0≤a∧a < S.l.length):=by
  rcases ha with h | h;·omega
  ·omega
 apply qcf∘Xck;apply Kf (G:=[_,_,_,_,_,_]) (j:=2) (cj:=36) rfl rfl zb rfl zmb rfl;·intro hg3;replace hg3:=qb hg3;have hgA:=Jp (l:=S.l) (k:=a.toNat) default za;apply (Xaq);refine Jw zhb rfl ?_;refine Jw zda rfl ?_;refine q_l rfl (Z0 (S.l.getD a.toNat default) _ _) ?_;exact zvd
 intro junk3;apply (qaf);refine q_c ?_ ?_<;>intro hc3;·
  apply qae∘Ube∘Xa3;refine q_r L R zjd ?_;have he:Vu S.l f.tele t=9:=by rw [Vu,if_neg za,hadr,if_pos za]
  exact U0e
 have hgA:=Jp (l:=S.l) (k:=a.toNat) default za;have hE1:¬ (t < 0∨2147483648 < t):=by omega
 have hE2:¬ (a < 0∨Uo (S.l.getD a.toNat default)≠0):=by omega
 have hdl:f.tele.data.length=f.data.l.length:=rfl;have htk:f.tele.kind=f.kind:=rfl;apply qbv∘Xb4;refine q_l rfl (Ub _ _) ?_;refine Jw (J8 (qs:=[(0,(Value.int _ _).cells.toList),(1,(Value.int _ _).cells.toList),(2,(Value.agg _).cells.toList)]) (out:=[_,_,_,_]) tb rfl rfl rfl rfl) rfl ?_;apply (qaq);intro b10;apply Xa9∘Xaa;refine J9 (Jb (Ki (Jq (Jg ?_))));apply (Xa2);refine q_c ?_ ?_<;>intro hc4;·
  apply qbi∘Xab∘Xat;refine q_c ?_ ?_<;>intro hc5;·apply qae∘Ube∘qak∘qad;refine J9 (Jb (Uk (Kh (Kd (Kh ?_)))));exact zWd
  have h0:=Jp (l:=f.data.l) (k:=0) 0 za;have h1:=Jp (l:=f.data.l) (k:=1) 0 za;have hb0:=hb.at 0;have hb1:=hb.at 1;refine J5 (Jb ?_);refine J7 tb [] [0,1,2,3,4,5,6,7,8,9,10,11,12,13,14,15,16,17] [18] (_) _ Ko zc zi (by (repeat (first | apply List.Sublist.cons (a:=Blk.mk b10 _ _) | apply List.Sublist.cons_cons));exact yt _) ?_;apply (Xdl);refine Ku zhb rfl rfl rfl rfl ?_;refine Ku zda rfl rfl rfl rfl ?_;apply Xak∘qd2∘qci∘Zcf;refine Ku (Uxc rfl rfl ze (Yie za)) rfl rfl rfl rfl ?_;apply (Xak);refine Ku zlb rfl rfl rfl rfl ?_;apply qci∘Zcf;refine Ku (Ksf rfl rfl (Vqg za za)) rfl rfl rfl rfl ?_;refine K7 rfl (Vpa (S.l.getD a.toNat default) _ _ _ za za) rfl rfl ?_;rintro v U J ⟨rfl,rfl,rfl⟩;refine ⟨zi,zt,?_⟩;apply qan∘qba;refine J7b rfl rfl rfl rfl zC zb zb zb zi ?_;refine J1 (Jh (Jb (Jq (Jg ?_))));apply qa8∘Xb2;refine q_r L R zjd ?_;have he:Vu S.l f.tele t=0:=by rw [Vu,if_neg hE1,hadr,if_neg hE2,if_neg za,if_neg za]
  exact ⟨⟨a,t,Vn (S.l.getD a.toNat default) (f.data.l.getD 0 0 * 256 + f.data.l.getD 1 0)⟩,by rw [he],fun _=>by rw [Ycb,hadr,if_pos za];rfl,rfl,rfl⟩
 apply (Xbv);refine q_c ?_ ?_<;>intro hc6;·
  apply qae∘Xab∘Xat;refine q_c ?_ ?_<;>intro hc7;·exact (qae∘Ube∘qak∘qad∘qdb) zWd
  refine J5 (Jh (Jb (Jq (Jg ?_))));apply qa8∘Xb2;refine q_r L R zjd ?_;have he:Vu S.l f.tele t=0:=by rw [Vu,if_neg hE1,hadr,if_neg hE2,if_neg za,if_neg za]
  exact ⟨⟨a,t,nothingS⟩,by rw [he],fun _=>by rw [Ycb,hadr,if_neg za],rfl,rfl⟩
 apply qae∘Ube∘qak∘qad∘qdb;refine q_r L R zjd ?_;have he:Vu S.l f.tele t=5:=by rw [Vu,if_neg hE1,hadr,if_neg hE2,if_pos za]
 exact U0e
end
section
attribute [local irreducible] CJ LJ DJ Tri YV Gives Uq J2 Kj Ut RV J3 OwL.L
def J8b (g:PSite) (q:PSta×Int) (L:LB) (R:LS):Ys:=fun v U J=>∃(y:XSta) (S:LS),v=.tuple #[y.val,.int .i64 q.2]∧StaIs g q.1 y∧StaR y J∧L=U∧S ++ R=J
def Ura {g:PSite} {p:PSta} {x:XSta} (hx:StaIs g p x) {t:Int}:(t < x.time∨2147483648 < t)↔Jda p t:=by rw [hx.time,Jda]
def StaK.fin {x:XSta} {s:XSite} {h:Arr Int} {w:Arr XWatch} {c:Arr XCut} {f:XFeeder} {pm:OwL XMeas} {pl:OwL XEntry} {R J:LS} (k:StaK x s h w c f pm pl R) (hR:∀r∈R,InR r J) (h1:InR (Yu pm.arr) J) (h2:InR (J5a pl.arr) J):StaR (⟨s,x.time,h,x.dropped,pm.arr,w,c,f,x.rest,pl.arr⟩:XSta) J:=⟨k.site.mono hR,k.held.mono hR,h1,k.watches.mono hR,k.cuts.mono hR,k.feeder.mono hR,h2⟩
end
end Go.Proofs.YtchfclmokpbldaaGreat
