/-
  Merged texts. By an AI agent.
-/
import Derived.Test.YtchfclmokpbldaaGreatFeedT
set_option linter.all false
set_option maxHeartbeats 4000000
set_option maxRecDepth 20000
namespace Go.Proofs.YtchfclmokpbldaaGreat
open Go.Aw Go
section
attribute [local irreducible] CJ LJ DJ Tri YV Gives Ur J3 Ko Uq RV J5 OwL.L
section
variable {A B:Prop}
def U6e(h:A→B:=by exact Jx zrb rfl):=h
end
def Ueg {sw:List XSwitch} {zn:List Int} {rp s t:Int} (h:U1c sw zn rp s t=0):feedE sw zn rp=0∧(0≤s∧s < sw.length)∧Yha sw t:=by
 rw [U1c] at h;split at h;·omega
 split at h;·omega
 split at h;·exact ⟨by omega,by omega,by assumption⟩
 ·omega
def Vfb (p:OwL XSwitch) (zv:Value) (rp s t:Int) (R:LS) (hpk:p.ok 5 XSwitch.cells) (hs:0≤s∧s < p.l.length):
 Tri Tryz.prog 152 [.agg #[p.val,zv,.int .i64 rp],.int .i64 s,.int .i64 t].toArray (p.L 76 XSwitch.cells) R (fun v M U=>v=.bool (p.l.getD s.toNat default).closed∧(⟨p.o,Vj p.l s t⟩:OwL XSwitch).ok 5 XSwitch.cells∧(⟨p.o,Vj p.l s t⟩:OwL XSwitch).L 76 XSwitch.cells=M∧R=U):=by
 have hg:=Ju (l:=p.l) (k:=s.toNat) default za;obtain ⟨x,hx⟩:∃x,x=p.l.getD s.toNat default:=⟨_,rfl⟩;rw [← hx] at hg;refine Jd 30 Tryz.call152 Tryz.func152 rfl rfl rfl ?_;apply (Xaf);intro b3;apply qaz∘qam∘Xai;refine Jx zpc rfl ?_;apply qc1∘qaw∘qa6;refine Jx zSb rfl ?_;apply (qb0);refine Jx zKb rfl ?_;apply (Xbr);refine q_c ?_ ?_<;>intro hc0;·
  apply (Xc8);refine q_b (p.L 76 XSwitch.cells) R ?_;have h0:x.closed=false:=by simpa using hc0
  have h1:Vj p.l s t=p.l:=by rw [Vj,← hx,h0,if_neg ze]
  exact ⟨by rw [← hx,h0],by rw [h1];exact hpk,by rw [h1],rfl⟩
 apply (qcl);have h0:x.closed=true:=by simpa using hc0
 have hk1:=OwL.set_ok (f:=XSwitch.cells) (wd:=5) (p:=p) (i:=s.toNat) (x:=⟨x.above,x.since,x.shown,false,x.late⟩) yf hpk;have hg1:(p.l.set s.toNat ⟨x.above,x.since,x.shown,false,x.late⟩)[s.toNat]?=some ⟨x.above,x.since,x.shown,false,x.late⟩:=yN za;have hk2:=OwL.set_ok (f:=XSwitch.cells) (wd:=5) (p:=⟨p.o,(p.l.set s.toNat ⟨x.above,x.since,x.shown,false,x.late⟩)⟩) (i:=s.toNat) (x:=⟨x.above,t,x.shown,false,x.late⟩) yf hk1;have hg2:((p.l.set s.toNat ⟨x.above,x.since,x.shown,false,x.late⟩).set s.toNat ⟨x.above,t,x.shown,false,x.late⟩)[s.toNat]?=some ⟨x.above,t,x.shown,false,x.late⟩:=yN zsa;have hk3:=OwL.set_ok (f:=XSwitch.cells) (wd:=5) (p:=⟨p.o,((p.l.set s.toNat ⟨x.above,x.since,x.shown,false,x.late⟩).set s.toNat ⟨x.above,t,x.shown,false,x.late⟩)⟩) (i:=s.toNat) (x:=⟨x.above,t,0,false,x.late⟩) yf hk2;have hg3:(((p.l.set s.toNat ⟨x.above,x.since,x.shown,false,x.late⟩).set s.toNat ⟨x.above,t,x.shown,false,x.late⟩).set s.toNat ⟨x.above,t,0,false,x.late⟩)[s.toNat]?=some ⟨x.above,t,0,false,x.late⟩:=yN (by rw [yE,yE];omega);have hk4:=OwL.set_ok (f:=XSwitch.cells) (wd:=5) (p:=⟨p.o,(((p.l.set s.toNat ⟨x.above,x.since,x.shown,false,x.late⟩).set s.toNat ⟨x.above,t,x.shown,false,x.late⟩).set s.toNat ⟨x.above,t,0,false,x.late⟩)⟩) (i:=s.toNat) (x:=⟨x.above,t,0,false,false⟩) yf hk3;apply (qay);iterate 4 apply (qa6)
 apply (qaa);refine Jx zSb rfl ?_;apply (qb0);refine V8 (Jt tb (p) (⟨x.above,x.since,x.shown,false,x.late⟩) rfl rfl rfl rfl zj zi yf zi ze zb zb) ?_;rintro v M U ⟨rfl,rfl⟩;refine Jx zSb rfl ?_;apply (qb0);refine V8 (Jt tb ((⟨p.o,(p.l.set s.toNat ⟨x.above,x.since,x.shown,false,x.late⟩)⟩:OwL XSwitch)) (⟨x.above,t,x.shown,false,x.late⟩) rfl rfl rfl rfl zj zi yf zi ze zb zb) ?_;rintro v M U ⟨rfl,rfl⟩;refine Jx zSb rfl ?_;apply (qb0);refine V8 (Jt tb ((⟨p.o,((p.l.set s.toNat ⟨x.above,x.since,x.shown,false,x.late⟩).set s.toNat ⟨x.above,t,x.shown,false,x.late⟩)⟩:OwL XSwitch)) (⟨x.above,t,0,false,x.late⟩) rfl rfl rfl rfl zj zi yf zi ze zb zb) ?_;rintro v M U ⟨rfl,rfl⟩;refine Jx zSb rfl ?_;apply (qb0);refine V8 (Jt tb ((⟨p.o,(((p.l.set s.toNat ⟨x.above,x.since,x.shown,false,x.late⟩).set s.toNat ⟨x.above,t,x.shown,false,x.late⟩).set s.toNat ⟨x.above,t,0,false,x.late⟩)⟩:OwL XSwitch)) (⟨x.above,t,0,false,false⟩) rfl rfl rfl rfl zj zi yf zi ze zb zb) ?_;rintro v M U ⟨rfl,rfl⟩;apply qam∘Xbf;refine q_b ((⟨p.o,(((p.l.set s.toNat ⟨x.above,x.since,x.shown,false,x.late⟩).set s.toNat ⟨x.above,t,x.shown,false,x.late⟩).set s.toNat ⟨x.above,t,0,false,x.late⟩).set s.toNat ⟨x.above,t,0,false,false⟩⟩:OwL XSwitch).L 76 XSwitch.cells) R ?_;have h1:Vj p.l s t=(((p.l.set s.toNat ⟨x.above,x.since,x.shown,false,x.late⟩).set s.toNat ⟨x.above,t,x.shown,false,x.late⟩).set s.toNat ⟨x.above,t,0,false,x.late⟩).set s.toNat ⟨x.above,t,0,false,false⟩:=by rw [Vj,← hx,h0,if_pos rfl,yEa,yEa,yEa];rfl
 exact ⟨by rw [← hx,h0],by rw [h1];exact hk4,by rw [h1],rfl⟩
def Vhb (f:XFeeder) (s t:Int) (L:LB) (R:LS) (hf:FeederR f R):
 Tri Tryz.prog 78 [f.val,.int .i64 s,.int .i64 t].toArray L R (fun v M U=>∃(p:OwL XSwitch) (q:OwL Int) (r:Int),v=.tuple #[.agg #[p.val,q.val,.int .i64 r],.int .i64 (U1c f.switches.l f.zones.l f.reply s t)]∧(p.ok 5 XSwitch.cells∧q.ok 1 Jk)∧(U1c f.switches.l f.zones.l f.reply s t=0→p.l=Vj f.switches.l s t∧q.l=f.zones.l∧r=f.reply)∧q.L 3 Jk ++ (p.L 76 XSwitch.cells ++ L)=M∧R=U):=by
 refine Jd 25 Tryz.call78 Tryz.func78 rfl rfl rfl ?_;apply (Xaf);intro b3;apply (qaq);intro b6;apply Xar∘U6e∘Xb6;refine q_l rfl (Ydb f s t _ _ hf) ?_;apply (Xbm);refine q_c ?_ ?_<;>intro hc0;·apply (qae);refine Jx zYb rfl ?_;apply (Xcg);refine q_r L R zhd ?_;exact ⟨.nil,.nil,0,rfl,⟨OwL.nil_ok,OwL.nil_ok⟩,fun h=>absurd h hc0,by rw [Kj,Kj];rfl,rfl⟩
 have hcan:=Ueg (Decidable.not_not.1 hc0);have hok:=Vi hcan.1;have hsn:=hok.sn;have hzl:=hok.zl;apply qbv∘U6e;refine Jm rfl (J1b f _ _ hf za) rfl ?_;rintro v M U ⟨p,q,rfl,⟨hpk,hqk⟩,hpl,hql,rfl,rfl⟩;apply (qaq);intro b9;apply Xa2∘U6e∘Xb6;refine Jm rfl (Tri.at (.cons (.app .here)) (Vfb p q.val f.reply s t _ hpk (by rw [hpl];exact hcan.2.1))) rfl ?_;rintro v M U ⟨_,rfl,rfl,hpk2,rfl,rfl⟩;apply qam∘U6e∘Xbw;refine q_r (q.L 3 Jk ++ ((⟨p.o,Vj p.l s t⟩:OwL XSwitch).L 76 XSwitch.cells ++ L)) R zhd ?_;exact ⟨⟨p.o,Vj p.l s t⟩,q,f.reply,by rw [Decidable.not_not.1 hc0];simp only [OwL.val,Zkd],⟨hpk2,hqk⟩,fun _=>⟨by rw [hpl],hql,rfl⟩,rfl,rfl⟩
def Yyc (x:XSwitch) (L:LB) (R:LS):
 Tri Tryz.prog 104 [x.val].toArray L R (fun v M U=>v=.bool (Ynb x)∧L=M∧R=U):=by
 refine Jd 16 Tryz.call104 Tryz.func104 rfl rfl rfl ?_;apply (Xaf);intro b1;apply qaz∘Xd7∘Xc4;apply Us (G:=[_,_,_]) (j:=3) (cj:=6) rfl rfl zb rfl zmb rfl;·exact ubn
 intro junk4;apply (qah);apply Us (G:=[_,_,_]) (j:=8) (cj:=11) rfl rfl zb rfl zmb rfl;·intro hg9;replace hg9:=qb hg9;exact (Xaa∘qb4) qai
 intro junk9;apply (Xbf);refine q_b L R ?_;exact ⟨by rw [Ynb];try simp [Bool.and_assoc],rfl,rfl⟩
def Y8f (sw:List XSwitch) (zn:List Int) (rp:Int):Int:=if feedE sw zn rp≠0 then 0 else Ycc sw rp
def J6e (sw:List XSwitch) (rp:Int) (k:Nat):Int:=(sw.take k).foldl (Jsb rp) 1099511627776
def Jve {sw:List XSwitch} {rp:Int} {k:Nat} {x:XSwitch} (h:sw[k]?=some x):J6e sw rp (k + 1)=Jsb rp (J6e sw rp k) x:=by rw [J6e,yha,h];simp [J6e]
def Uyd (f:XFeeder) (L:LB) (R:LS) (hf:FeederR f R):
 Tri Tryz.prog 38 [f.val].toArray L R (fun v M U=>v=.int .i64 (Y8f f.switches.l f.zones.l f.reply)∧L=M∧R=U):=by
 have hsR:=hf.sw;refine Jd 27 Tryz.call38 Tryz.func38 rfl rfl rfl ?_;apply (Xaf);intro b1;apply Xar∘U6e;refine q_l rfl (Vt f _ _ hf) ?_;apply (Xat);refine q_c ?_ ?_<;>intro hc0;·apply (Xbc);refine q_i L R ?_;exact ⟨by rw [Y8f,if_pos hc0],rfl,rfl⟩
 have hok:=Vi (Decidable.not_not.1 hc0);have hsn:=hok.sn;have hrp:=hok.rp;apply qbv∘Xar∘Xaz;refine Jl [(1,.pointer _),(3,.int _ _),(10,.slice _ _ _),(11,.int _ _),(12,.int _ _)] zh fun tq0=>?_;refine q_s ([3,5]++rg 12 14) (fun g:{k:Nat // k≤f.switches.l.length}=>[(12,.int .i64 ((g.1:Nat):Int)),(3,.int .i64 (J6e f.switches.l f.reply g.1))]) (fun g=>f.switches.l.length - g.1) (⟨0,by omega⟩) ?_;rintro ⟨k,hk⟩ junk;try dsimp only
 apply (Xan);refine q_c ?_ ?_<;>intro hc1;·
  have hg:=Ju (l:=f.switches.l) (k:=k) default za;have hsi:=hok.since k za;have hds:=Jve (rp:=f.reply) hg;obtain ⟨x,hx⟩:∃x,x=f.switches.l.getD k default:=⟨_,rfl⟩;rw [← hx] at hg hsi hds;apply (qbb);refine Jx zC rfl ?_;apply (Xdy);intro b5;apply (Xa2);refine Jx zzb rfl ?_;refine q_l rfl (Yyc x _ _) ?_;apply (qaf);refine q_c ?_ ?_<;>intro hc2;·apply Xa7∘Xa6∘qar;refine Jx zPc rfl ?_;apply qad∘Xbl;exact Ki ⟨k + 1,by omega⟩ zm (by dsimp only;rw [hds,Jsb,if_pos hc2];exact ⟨rfl,rfl,trivial⟩) zg zCb zu
  apply (Xa0);exact Ki ⟨k + 1,by omega⟩ zm (by dsimp only;rw [hds,Jsb,if_neg (by simp only [hc2];decide)];exact ⟨rfl,rfl,trivial⟩) zg zCb zu
 obtain rfl:k=f.switches.l.length:=by omega
 apply (Xd0);refine q_i L R ?_;exact ⟨by rw [Y8f,if_neg hc0,Ycc,J6e,yM (ym _)],rfl,rfl⟩
end
section
attribute [local irreducible] CJ LJ DJ Tri YV Gives Ur J3 Ko Uq RV J5 OwL.L
section
variable {A B:Prop}
def Z6c(h:A→B:=by exact Jx zrb rfl):=h
def Kke(h:A→B:=by exact Jx zYb rfl):=h
def Yvf(h:B:=by exact ⟨.nil,.nil,0,by rw [he];rfl,⟨OwL.nil_ok,OwL.nil_ok⟩,fun h=>by omega,by rw [Kj,Kj];rfl,rfl⟩):=h
def V5f(h:A→B:=by exact Kr (Jw tb ((⟨p.o,p.l.set s.toNat ⟨x.above,x.since,t,x.closed,x.late⟩⟩:OwL XSwitch)) _ rfl rfl ((show _=Value.slice _ _ _ from rfl).trans (by simp only [OwL.val,yE])) rfl zi (i:=s.toNat) zk zw) rfl rfl rfl rfl):=h
def K6g(h:A→B:=by exact Jlb (Jt tb ((⟨p.o,p.l.set s.toNat ⟨x.above,x.since,t,x.closed,x.late⟩⟩:OwL XSwitch)) (⟨x.above,x.since,t,x.closed,lt⟩) rfl rfl rfl rfl zj zi yf zi ze zb zb) rfl rfl):=h
def J8g(h:B:=by exact ⟨⟨p.o,(p.l.set s.toNat ⟨x.above,x.since,t,x.closed,x.late⟩).set s.toNat ⟨x.above,x.since,t,x.closed,lt⟩⟩,q,f.reply,by simp only [he,OwL.val,yE],⟨hpk2,hqk⟩,fun _=>⟨by rw [Jga,← hx,← hpl,← hlt,yEa],hql,rfl⟩,rfl,rfl⟩):=h
def Kvg(h:B:=by exact ⟨.nil,.nil,0,.nil,.nil,by rw [he];rfl,⟨OwL.nil_ok,OwL.nil_ok,OwL.nil_ok,OwL.nil_ok⟩,fun h=>by omega,by rw [Kj,Kj];rfl,rfl⟩):=h
def Uyg(h:A→B:=by exact Kr (Kd tb ((⟨p.o,(sw.set z.toNat ⟨x.above,x.since,x.shown,x.closed,true⟩)⟩:OwL XSwitch)) rfl rfl rfl zj zi yf zi zb) rfl rfl rfl rfl):=h
end
def Jmc (f:XFeeder) (s t:Int) (L:LB) (R:LS) (hf:FeederR f R):
 Tri Tryz.prog 153 [f.val,.int .i64 s,.int .i64 t].toArray L R (fun v M U=>∃(p:OwL XSwitch) (q:OwL Int) (r:Int),v=.tuple #[.agg #[p.val,q.val,.int .i64 r],.int .i64 (Ys f.switches.l f.zones.l f.reply s t)]∧(p.ok 5 XSwitch.cells∧q.ok 1 Jk)∧
  (Ys f.switches.l f.zones.l f.reply s t=0→p.l=Jga f.switches.l s t∧q.l=f.zones.l∧r=f.reply)∧q.L 3 Jk ++ (p.L 76 XSwitch.cells ++ L)=M∧R=U):=by
 have hsR:=hf.sw;refine Jd 57 Tryz.call153 Tryz.func153 rfl rfl rfl ?_;apply (Xaf);intro b3;apply (qaq);intro b6;apply Xar∘Z6c;refine q_l rfl (Vt f _ _ hf) ?_;apply (Xbm);refine q_c ?_ ?_<;>intro hc0;·
  apply qae∘Kke∘Xcg;refine q_r L R zhd ?_;have he:Ys f.switches.l f.zones.l f.reply s t=feedE f.switches.l f.zones.l f.reply:=by rw [Ys,if_pos hc0]
  exact Yvf
 apply qbo∘Xca;apply Kf (G:=[_,_,_,_,_]) (j:=2) (cj:=18) rfl rfl zb rfl zmb rfl;·exact zue
 intro junk3;apply (qaf);refine q_c ?_ ?_<;>intro hc1;·
  apply qae∘Kke∘Xa3;refine q_r L R zhd ?_;have he:Ys f.switches.l f.zones.l f.reply s t=16:=by rw [Ys,if_neg za,if_pos za]
  exact Yvf
 apply qbo∘qaa∘Xb5;apply Us (G:=[_,_]) (j:=2) (cj:=28) rfl rfl zb rfl zmb rfl;·intro hg3;replace hg3:=qb hg3;exact (qaa) zAd
 intro junk3;apply (qaf);refine q_c ?_ ?_<;>intro hc2;·
  apply qae∘Kke∘Xa3;refine q_r L R zhd ?_;have he:Ys f.switches.l f.zones.l f.reply s t=10:=by rw [Ys,if_neg za,if_neg za,if_pos za]
  exact Yvf
 have he:Ys f.switches.l f.zones.l f.reply s t=0:=by rw [Ys,if_neg za,if_neg za,if_neg za]
 have hok:=Vi (sw:=f.switches.l) (zn:=f.zones.l) (rp:=f.reply) za;have hsn:=hok.sn;have hzl:=hok.zl;have hg:=Ju (l:=f.switches.l) (k:=s.toNat) default za;obtain ⟨x,hx⟩:∃x,x=f.switches.l.getD s.toNat default:=⟨_,rfl⟩;rw [← hx] at hg;apply qbv∘Z6c;refine Jm rfl (J1b f _ _ hf za) rfl ?_;rintro v M U ⟨p,q,rfl,⟨hpk,hqk⟩,hpl,hql,rfl,rfl⟩;apply (qaq);intro b9;apply (Xcx);have hpg:p.l[s.toNat]?=some x:=by rw [hpl];exact hg
 have hpn:p.l.length=f.switches.l.length:=by rw [hpl]
 apply qay∘Xai∘qaa;refine Jx zpc rfl ?_;apply (qb0);refine V8 (Jt tb (p) (⟨x.above,x.since,t,x.closed,x.late⟩) rfl rfl rfl rfl zj zi yf zi ze zb zb) ?_;rintro v M U ⟨rfl,rfl⟩;apply (qa4);have hpk1:=OwL.set_ok (f:=XSwitch.cells) (wd:=5) (p:=p) (i:=s.toNat) (x:=⟨x.above,x.since,t,x.closed,x.late⟩) yf hpk;have hpg1:(p.l.set s.toNat ⟨x.above,x.since,t,x.closed,x.late⟩)[s.toNat]?=some ⟨x.above,x.since,t,x.closed,x.late⟩:=yN za;refine J6 tb [] [0,1,2,3,4,5,6,7,8,9,10,11,12,13,14] [15] (_) _ Kq zc zg yd ?_;apply Xcb∘Xcb∘V5f∘qcv;refine Kr (Kd tb ((⟨p.o,p.l.set s.toNat ⟨x.above,x.since,t,x.closed,x.late⟩⟩:OwL XSwitch)) rfl rfl rfl zj zi yf zi zb) rfl rfl rfl rfl ?_;refine Kr (J0 zmb) rfl rfl rfl rfl ?_;refine V5d (k:=50) zmb (fun hg9=>?_) (fun hg9=>?_);·
  replace hg9:=qb hg9;let lt:Bool:=decide (¬ t= -1);have hlt:lt=(if t= -1 then false else x.late):=by simp only [lt,hg9];split <;> simp_all
  have hpk2:=OwL.set_ok (f:=XSwitch.cells) (wd:=5) (p:=⟨p.o,p.l.set s.toNat ⟨x.above,x.since,t,x.closed,x.late⟩⟩) (i:=s.toNat) (x:=⟨x.above,x.since,t,x.closed,lt⟩) yf hpk1;apply (qbf);refine Kr (Vcb rfl rfl) rfl rfl rfl rfl ?_;exact zBd
 replace hg9:=qb hg9;let lt:Bool:=false;have hlt:lt=(if t= -1 then false else x.late):=by simp only [lt,hg9];split <;> rfl
 have hpk2:=OwL.set_ok (f:=XSwitch.cells) (wd:=5) (p:=⟨p.o,p.l.set s.toNat ⟨x.above,x.since,t,x.closed,x.late⟩⟩) (i:=s.toNat) (x:=⟨x.above,x.since,t,x.closed,lt⟩) yf hpk1;refine Usc rfl rfl rfl ?_;refine Usc rfl rfl rfl ?_;exact zBd
def Jfc (sw:List XSwitch) (zn:List Int) (rp t:Int):Int:=if feedE sw zn rp≠0 then feedE sw zn rp else if Yha sw t then 0 else 8
def Vhd {sw:List XSwitch} {rp t z:Int} {y:XTick} (hz:0≤z∧z < sw.length) (h:Upa sw rp t (sw.length - 1 - z).toNat=y):Upa sw rp t (sw.length - 1 - (z - 1)).toNat=Jzb rp t y z.toNat:=by
 have e:((sw.length:Int) - 1 - (z - 1)).toNat=((sw.length:Int) - 1 - z).toNat + 1:=by omega
 have e2:sw.length - 1 - ((sw.length:Int) - 1 - z).toNat=z.toNat:=by omega
 rw [e,Upa,h,e2]
def Y9e {sw sw':List XSwitch} {zn:List Int} {rp t:Int} (h:feedE sw zn rp=0) (k:SwKeep sw sw' t) {i:Nat} (hi:i < sw.length):-1≤(sw'.getD i default).above∧(sw'.getD i default).above < i:=by rw [(k.at_ i hi).1];exact (Vi h).up i hi
def K8e {sw:List XSwitch} {a t:Int} {i:Nat} (h:a.toNat≠i):(Vj sw a t)[i]?=sw[i]?:=by
 rw [Vj];split;·rw [yda h]
 ·rfl
def Yic (f:XFeeder) (t:Int) (L:LB) (R:LS) (hf:FeederR f R):
 Tri Tryz.prog 158 [f.val,.int .i64 t].toArray L R (fun v M U=>∃(p:OwL XSwitch) (q:OwL Int) (r:Int) (la op:OwL Int),v=.tuple #[.agg #[p.val,q.val,.int .i64 r],la.val,op.val,.int .i64 (Jfc f.switches.l f.zones.l f.reply t)]∧(p.ok 5 XSwitch.cells∧q.ok 1 Jk∧la.ok 1 Jk∧op.ok 1 Jk)∧(Jfc f.switches.l f.zones.l f.reply t=0→p.l=(J1a f.switches.l f.reply t).sw∧q.l=f.zones.l∧r=f.reply∧la.l=(J1a f.switches.l f.reply t).late∧op.l=(J1a f.switches.l f.reply t).opened)∧op.L 3 Jk ++ (la.L 3 Jk ++ (q.L 3 Jk ++ (p.L 76 XSwitch.cells ++ L)))=M∧R=U):=by
 refine Jd 86 Tryz.call158 Tryz.func158 rfl rfl rfl ?_;apply (Xaf);intro b2;apply (qaq);intro b4;apply Xb2∘Xar∘Z6c;refine q_l rfl (Vt f _ _ hf) ?_;apply (Xbm);refine q_c ?_ ?_<;>intro hc0;·
  apply qae∘Kke∘qaa∘qak∘Xb2∘Xal;refine q_r L R (Vsf rfl zsb zVc zVc zTc) ?_;have he:Jfc f.switches.l f.zones.l f.reply t=feedE f.switches.l f.zones.l f.reply:=by rw [Jfc,if_pos hc0]
  exact Kvg
 apply qbo∘Z6c∘qaa;refine q_l rfl (Kjc f t _ _ hf) ?_;apply (Xbr);refine q_c ?_ ?_<;>intro hc1;·
  apply qae∘Kke∘qak∘Xb2∘Xal;refine q_r L R (Vsf rfl zsb zVc zVc zTc) ?_;have he:Jfc f.switches.l f.zones.l f.reply t=8:=by rw [Jfc,if_neg hc0,if_neg zL]
  exact Kvg
 have hfe:feedE f.switches.l f.zones.l f.reply=0:=by omega
 have htm:Yha f.switches.l t:=by simpa using hc1
 have he:Jfc f.switches.l f.zones.l f.reply t=0:=by rw [Jfc,if_neg hc0,if_pos htm]
 have hok:=Vi hfe;have hsn:=hok.sn;have hzl:=hok.zl;have hrp:=hok.rp;apply qbv∘Z6c;refine Jm rfl (J1b f _ _ hf za) rfl ?_;rintro v M U ⟨p,q,rfl,⟨hpk,hqk⟩,hpl,hql,rfl,rfl⟩;apply (qaq);intro b9;apply Xa2∘Xb2∘qco;have hpn:p.l.length=f.switches.l.length:=by rw [hpl]
 apply qay∘Xab∘qa9∘Xa4;refine Jl [(1,.int _ _),(2,.pointer _),(4,.pointer _),(9,.pointer _),(10,.slice _ _ _),(11,.slice _ _ _),(12,.int _ _)] zh fun tq0=>?_;refine K9 ([10,11,12,13]++rg 31 52) ((⟨fun g=>[(12,.int .i64 g.1.1),(10,g.1.2.1.1.val),(11,g.1.2.1.2.val)],fun g=>g.1.2.1.2.L 3 Jk ++ (g.1.2.1.1.L 3 Jk ++ (⟨b9,[p.val,q.val,.int .i64 f.reply],42⟩ :: (q.L 3 Jk ++ ((⟨p.o,g.1.2.2⟩:OwL XSwitch).L 76 XSwitch.cells ++ (⟨b4,[.slice none 0 0,.slice none 0 0,.int .i64 0],42⟩ :: ⟨b2,f.cells,42⟩ :: L))))),fun _=>R,fun g=>(g.1.1 + 1).toNat⟩:Head {g:Int×(OwL Int×OwL Int)×List XSwitch // (-1≤g.1∧g.1 < f.switches.l.length)∧Upa f.switches.l f.reply t (f.switches.l.length - 1 - g.1).toNat=⟨g.2.2,g.2.1.1.l,g.2.1.2.l⟩∧(g.2.1.1.ok 1 Jk∧g.2.1.2.ok 1 Jk)})) (⟨((p.l.length:Int) - 1,(OwL.nil,OwL.nil),p.l),by dsimp only;omega,by dsimp only;rw [show ((f.switches.l.length:Int) - 1 - ((p.l.length:Int) - 1)).toNat=0 by omega,Upa,hpl],OwL.nil_ok,OwL.nil_ok⟩) zh (by simp only [Kj,yx];exact zg) zCb ?_;rintro ⟨⟨z,⟨la,op⟩,sw⟩,hz,hT,hlk,hok2⟩ junk;try dsimp only
 dsimp only at hz hT hlk hok2;have hkeep:SwKeep f.switches.l sw t:=by have:=Vqa (rp:=f.reply) (t:=t) hfe (f.switches.l.length - 1 - z).toNat za;rw [hT] at this;exact this
 have hsl:=hkeep.len;have htln:=K2b (sw:=f.switches.l) (rp:=f.reply) (t:=t) (f.switches.l.length - 1 - z).toNat;rw [hT] at htln;dsimp only at htln;have hkS:(⟨p.o,sw⟩:OwL XSwitch).ok 5 XSwitch.cells:=OwL.len_ok yf hpk (hsl.trans hpn.symm);apply Xay∘Xcq;refine q_c ?_ ?_<;>intro hc2;·
  have hsu:=Vhd (rp:=f.reply) (t:=t) (z:=z) za hT;have hg:=Ju (l:=sw) (k:=z.toNat) default za;have hab:=Y9e hfe hkeep (i:=z.toNat) za;have hsi:=hkeep.at_ z.toNat za;have hsi0:=hok.since z.toNat za;have htm0:=htm.1;rw [Jzb] at hsu;dsimp only at hsu;obtain ⟨x,hx⟩:∃x,x=sw.getD z.toNat default:=⟨_,rfl⟩;rw [← hx] at hg hab hsi hsu;rw [show Uee x=⟨x.above,x.since,x.shown,x.closed,true⟩ from rfl] at hsu;have hsi1:=hsi.2.1;apply qbb∘Xai;refine Jx (Jw tb ((⟨p.o,sw⟩:OwL XSwitch)) _ rfl rfl ((show _=Value.slice _ _ _ from rfl).trans (by simp only [OwL.val,hsl,hpn])) rfl zi (i:=z.toNat) zk zw) rfl ?_;apply qc1∘qco;refine Kh tb [0,1,2,3,4,5,6,7,8,9,10,11,12,13,14,15] _ Kq zc ye ?_;apply (Xbp);refine K1 (Z9a (row:=[_,_,_,_,_]) tb ((⟨p.o,sw⟩:OwL XSwitch)) rfl rfl rfl zj zi yf zi zb zb) rfl rfl rfl ?_;refine q_d rfl (Yyc x _ _) ?_;refine K1 (Uub rfl) rfl rfl rfl ?_;apply (qb2);refine Yh (k:=44) zmb (fun hg5=>?_) (fun hg5=>?_);·replace hg5:=qb hg5;(iterate 9 apply (qap));apply (Xb8);refine K7 rfl ?_;exact zYd
  replace hg5:=qb hg5;apply qao∘Xbp∘qce;refine K1 (Kd tb ((⟨p.o,sw⟩:OwL XSwitch)) rfl rfl rfl zj zi yf zi zb) rfl rfl rfl ?_;apply qb7∘Xak;refine K1 zQc rfl rfl rfl ?_;apply (Xb8);refine q_c ?_ ?_<;>intro hc3;·exact zYd
  rw [if_pos ⟨by simpa using hg5,by omega⟩] at hsu;apply qbv∘qa6;refine Jx zSb rfl ?_;apply (qb0);refine V8 (Jt tb ((⟨p.o,sw⟩:OwL XSwitch)) (⟨x.above,x.since,x.shown,x.closed,true⟩) rfl rfl rfl rfl zj zi yf zi ze zb zb) ?_;rintro v M U ⟨rfl,rfl⟩;apply (qa4);have hk1:(⟨p.o,(sw.set z.toNat ⟨x.above,x.since,x.shown,x.closed,true⟩)⟩:OwL XSwitch).ok 5 XSwitch.cells:=OwL.set_ok (f:=XSwitch.cells) (wd:=5) (p:=(⟨p.o,sw⟩:OwL XSwitch)) (i:=z.toNat) (x:=⟨x.above,x.since,x.shown,x.closed,true⟩) yf hkS;have hg1:(sw.set z.toNat ⟨x.above,x.since,x.shown,x.closed,true⟩)[z.toNat]?=some ⟨x.above,x.since,x.shown,x.closed,true⟩:=yN za;have hl1:(sw.set z.toNat ⟨x.above,x.since,x.shown,x.closed,true⟩).length=f.switches.l.length:=by rw [yE];exact hsl
  obtain ⟨S2,hS2⟩:∃S2,S2=if 0≤x.above then Vj (sw.set z.toNat ⟨x.above,x.since,x.shown,x.closed,true⟩) x.above t else (sw.set z.toNat ⟨x.above,x.since,x.shown,x.closed,true⟩):=⟨_,rfl⟩;apply Xcl∘qcx;rintro v M U ⟨b60,rfl,rfl,hR60⟩;replace hR60:=hR60.symm;subst hR60;refine Yu (Jv (f:=Jk) (p:=la) (a:=z) tb rfl rfl rfl rfl (hlk) zj zwb rfl zA) rfl ?_;rintro v M U ⟨o61,rfl,hok61,rfl,rfl⟩;apply (Xde);refine J6 tb [] [0,1,2,3,4,5,6,7,8,9,10,11] [12,13] (_) _ Kq zc zg yd ?_;apply (qb3);refine Kr zSb rfl rfl rfl rfl ?_;apply qcv∘Uyg;refine Kr (J7c rfl rfl) rfl rfl rfl rfl ?_;refine Kr (J0 zmb) rfl rfl rfl rfl ?_;refine V5d (k:=67) zmb (fun hg5=>?_) (fun hg5=>?_);·
   replace hg5:=qb hg5;(have eS:Vj (sw.set z.toNat ⟨x.above,x.since,x.shown,x.closed,true⟩) x.above t=S2:=by rw [hS2,if_pos hg5]);have hop:=Vfb (⟨p.o,(sw.set z.toNat ⟨x.above,x.since,x.shown,x.closed,true⟩)⟩:OwL XSwitch) q.val f.reply x.above t R hk1 zu;(have hpv:(⟨p.o,(sw.set z.toNat ⟨x.above,x.since,x.shown,x.closed,true⟩)⟩:OwL XSwitch).val=p.val:=by simp only [OwL.val,hl1,hpn]);rw [hpv] at hop;dsimp only at hop;rw [eS] at hop;refine Kr zrb rfl rfl rfl rfl ?_;apply (qb3);refine Kr zSb rfl rfl rfl rfl ?_;apply qcv∘Uyg∘qbf∘qba;refine Ym rfl (Tri.at (by repeat (first | apply Seg.here | apply Seg.cons | apply Seg.app)) hop) rfl rfl ?_;rintro v M U ⟨_,rfl,rfl,hk2,rfl,rfl⟩;refine ⟨zg,zq,?_⟩;apply (Xb8);refine q_c ?_ ?_<;>intro hc4;·(have hg2:S2[z.toNat]?=some ⟨x.above,x.since,x.shown,x.closed,true⟩:=by rw [← eS,K8e za];exact hg1);apply Xcm∘qa6;refine Jx zSb rfl ?_;apply (qb0);refine Jx (Kd tb ((⟨p.o,S2⟩:OwL XSwitch)) rfl rfl rfl zj zi yf zi zb) rfl ?_;apply (qcx);rintro v M U ⟨b81,rfl,rfl,hR81⟩;replace hR81:=hR81.symm;subst hR81;refine Yu (Jv (f:=Jk) (p:=op) (a:=x.above) tb rfl rfl rfl rfl (hok2) zj zwb rfl zA) rfl ?_;rintro v M U ⟨o82,rfl,hok82,rfl,rfl⟩;apply qc4∘Xed;exact q_k ⟨(z - 1,(⟨o61,la.l ++ [z]⟩,⟨o82,op.l ++ [x.above]⟩),S2),by dsimp only;omega,by dsimp only;rw [hsu,if_pos ⟨hg5,hc4⟩,← eS,ypa za],hok61,hok82⟩
   exact ual
  replace hg5:=qb hg5;have eS:(sw.set z.toNat ⟨x.above,x.since,x.shown,x.closed,true⟩)=S2:=by rw [hS2,if_neg hg5]
  have hk2:(⟨p.o,S2⟩:OwL XSwitch).ok 5 XSwitch.cells:=by rw [← eS];exact hk1
  rw [eS];iterate 6 refine Usc rfl rfl rfl ?_
  apply qba∘qap∘Xb8;refine Z7 rfl ?_;exact ual
 obtain rfl:z= -1:=by omega
 have hTS:J1a f.switches.l f.reply t=⟨sw,la.l,op.l⟩:=by rw [J1a,← hT];congr 1;omega
 apply qbk∘Z6c∘qbm∘qbm∘qak∘Xb2∘Xaj;refine q_r (op.L 3 Jk ++ (la.L 3 Jk ++ (q.L 3 Jk ++ ((⟨p.o,sw⟩:OwL XSwitch).L 76 XSwitch.cells ++ L)))) R (Vsf rfl zsb zVc zVc zTc) ?_;exact ⟨(⟨p.o,sw⟩:OwL XSwitch),q,f.reply,la,op,by rw [he];simp only [OwL.val,hsl,hpn],⟨hkS,hqk,hlk,hok2⟩,fun _=>⟨by rw [hTS],hql,rfl,by rw [hTS],by rw [hTS]⟩,rfl,rfl⟩
end
end Go.Proofs.YtchfclmokpbldaaGreat
