/-
  Merged texts. By an AI agent.
-/
import Derived.Test.YtchfclmokpbldaaGreatStatM
import Derived.Test.YtchfclmokpbldaaGreatSiteC
import Derived.Test.YtchfclmokpbldaaGreatFits
set_option linter.all false
set_option maxHeartbeats 4000000
set_option maxRecDepth 20000
namespace Go.Proofs.YtchfclmokpbldaaGreat
open Go.Aw Go
section
attribute [local irreducible] CJ LJ DJ Tri YV Gives U7 Kb Kp U8 RV Ke OwL.L
section
variable {A B:Prop}
def Jfc(h:A→B:=by exact J0 zzb rfl):=h
def Ylf(h:A→B:=by exact J0 (Jo tb (p) _ rfl rfl rfl rfl zi (i:=s.toNat) zo zw) rfl):=h
def Kkg(h:A→B:=by exact J0 zGb rfl):=h
def U3f(h:A→B:=by exact V5 (Jp tb (p) (⟨x.above,x.since,x.shown,false,x.late⟩) rfl rfl rfl rfl zm zi yf zi zj ze ze)):=h
def Z5f(h:A→B:=by exact V5 (Jp tb ((⟨p.o,(p.l.set s.toNat ⟨x.above,x.since,x.shown,false,x.late⟩)⟩:OwL XSwitch)) (⟨x.above,t,x.shown,false,x.late⟩) rfl rfl rfl rfl zm zi yf zi zj ze ze)):=h
def Zqf(h:A→B:=by exact V5 (Jp tb ((⟨p.o,((p.l.set s.toNat ⟨x.above,x.since,x.shown,false,x.late⟩).set s.toNat ⟨x.above,t,x.shown,false,x.late⟩)⟩:OwL XSwitch)) (⟨x.above,t,0,false,x.late⟩) rfl rfl rfl rfl zm zi yf zi zj ze ze)):=h
def Vof(h:A→B:=by exact V5 (Jp tb ((⟨p.o,(((p.l.set s.toNat ⟨x.above,x.since,x.shown,false,x.late⟩).set s.toNat ⟨x.above,t,x.shown,false,x.late⟩).set s.toNat ⟨x.above,t,0,false,x.late⟩)⟩:OwL XSwitch)) (⟨x.above,t,0,false,false⟩) rfl rfl rfl rfl zm zi yf zi zj ze ze)):=h
end
def Z3b (f:XFeeder) (t:Int) (L:LB) (R:LS) (hf:FeederR f R):
 Tri Tryz.prog 252 [f.val,.int .i64 t].toArray L R (fun v M U=>v=.bool (decide (Kma f.switches.l t))∧L=M∧R=U):=by
 have hsR:=hf.sw;refine Kba Tryz.call252 hsR fun hcap=>?_;refine Jd 27 Tryz.call252 Tryz.func252 rfl rfl rfl ?_;apply (Xag);intro b2;apply Xdm∘Xcf;apply J3 (G:=[_,_]) (j:=2) (cj:=8) rfl rfl ze rfl ztb rfl;·exact zPd
 intro junk3;apply (qaf);refine q_c ?_ ?_<;>intro hc0;·exact zhf
 apply (Xcj);refine Jh [(1,.int _ _),(2,.pointer _),(5,.int _ _)] zg fun tq0=>?_;refine q_s ([4,5]++rg 12 15) (fun g:{k:Nat // k≤f.switches.l.length∧∀j:Nat,j < k→(f.switches.l.getD j default).since≤t}=>[(5,.int .i64 ((g.1:Nat):Int))]) (fun g=>f.switches.l.length - g.1) (⟨0,by omega,fun j hj=>by omega⟩) ?_;rintro ⟨k,hk,hal⟩ junk;try dsimp only
 apply (Xbm);refine q_c ?_ ?_<;>intro hc1;·
  have hg:=Js (l:=f.switches.l) (k:=k) default zc;apply Xbv∘Xaf;refine J0 zC rfl ?_;apply Xbd∘Xao;refine q_c ?_ ?_<;>intro hc2;·exact ubo
  apply (Xa4);exact uav
 exact uaT
def Yyc (f:XFeeder) (s t:Int) (L:LB) (R:LS) (hf:FeederR f R):
 Tri Tryz.prog 206 [f.val,.int .i64 s,.int .i64 t].toArray L R (fun v M U=>v=.int .i64 (Z1b f.switches.l f.zones.l f.reply s t)∧L=M∧R=U):=by
 refine Jd 26 Tryz.call206 Tryz.func206 rfl rfl rfl ?_;apply (Xag);intro b3;apply Xau∘Jfc;refine q_l rfl (Z7a f _ _ hf) ?_;apply (Xbj);refine q_c ?_ ?_<;>intro hc0;·apply (Xcx);refine q_i L R ?_;exact ⟨by rw [Z1b,if_pos hc0],rfl,rfl⟩
 apply qbo∘Xcf;apply J3 (G:=[_,_,_,_,_]) (j:=2) (cj:=15) rfl rfl ze rfl ztb rfl;·exact zke
 intro junk3;apply (qaf);refine q_c ?_ ?_<;>intro hc1;·exact ubM
 apply qbo∘Jfc∘qaa;refine q_l rfl (Z3b f t _ _ hf) ?_;apply (Xbg);refine q_c ?_ ?_<;>intro hc2;·exact zuf
 exact zvf
def Z8e {sw:List XSwitch} {zn:List Int} {rp s t:Int} (h:Z1b sw zn rp s t=0):feedE sw zn rp=0∧(0≤s∧s < sw.length)∧Kma sw t:=by
 rw [Z1b] at h;split at h;·omega
 split at h;·omega
 split at h;·exact ⟨by omega,by omega,by assumption⟩
 ·omega
def Ulb (p:OwL XSwitch) (zv:Value) (rp s t:Int) (R:LS) (hpk:p.ok 5 XSwitch.cells) (hs:0≤s∧s < p.l.length):
 Tri Tryz.prog 152 [.agg #[p.val,zv,.int .i64 rp],.int .i64 s,.int .i64 t].toArray (p.L 76 XSwitch.cells) R (fun v M U=>v=.bool (p.l.getD s.toNat default).closed∧(⟨p.o,Ye p.l s t⟩:OwL XSwitch).ok 5 XSwitch.cells∧(⟨p.o,Ye p.l s t⟩:OwL XSwitch).L 76 XSwitch.cells=M∧R=U):=by
 have hg:=Js (l:=p.l) (k:=s.toNat) default zc;obtain ⟨x,hx⟩:∃x,x=p.l.getD s.toNat default:=⟨_,rfl⟩;rw [← hx] at hg;refine Jd 30 Tryz.call152 Tryz.func152 rfl rfl rfl ?_;apply (Xag);intro b3;apply qaz∘qam∘Xaf∘Ylf∘qc1∘qaw∘qa6;refine J0 zXb rfl ?_;apply qb0∘Kkg∘Xbg;refine q_c ?_ ?_<;>intro hc0;·
  apply (Xc0);refine q_b (p.L 76 XSwitch.cells) R ?_;have h0:x.closed=false:=by simpa using hc0
  have h1:Ye p.l s t=p.l:=by rw [Ye,← hx,h0,if_neg zj]
  exact ⟨by rw [← hx,h0],by rw [h1];exact hpk,by rw [h1],rfl⟩
 apply (qcl);have h0:x.closed=true:=by simpa using hc0
 have hk1:=OwL.set_ok (f:=XSwitch.cells) (wd:=5) (p:=p) (i:=s.toNat) (x:=⟨x.above,x.since,x.shown,false,x.late⟩) yf hpk;have hg1:(p.l.set s.toNat ⟨x.above,x.since,x.shown,false,x.late⟩)[s.toNat]?=some ⟨x.above,x.since,x.shown,false,x.late⟩:=yB zc;have hk2:=OwL.set_ok (f:=XSwitch.cells) (wd:=5) (p:=⟨p.o,(p.l.set s.toNat ⟨x.above,x.since,x.shown,false,x.late⟩)⟩) (i:=s.toNat) (x:=⟨x.above,t,x.shown,false,x.late⟩) yf hk1;have hg2:((p.l.set s.toNat ⟨x.above,x.since,x.shown,false,x.late⟩).set s.toNat ⟨x.above,t,x.shown,false,x.late⟩)[s.toNat]?=some ⟨x.above,t,x.shown,false,x.late⟩:=yB zna;have hk3:=OwL.set_ok (f:=XSwitch.cells) (wd:=5) (p:=⟨p.o,((p.l.set s.toNat ⟨x.above,x.since,x.shown,false,x.late⟩).set s.toNat ⟨x.above,t,x.shown,false,x.late⟩)⟩) (i:=s.toNat) (x:=⟨x.above,t,0,false,x.late⟩) yf hk2;have hg3:(((p.l.set s.toNat ⟨x.above,x.since,x.shown,false,x.late⟩).set s.toNat ⟨x.above,t,x.shown,false,x.late⟩).set s.toNat ⟨x.above,t,0,false,x.late⟩)[s.toNat]?=some ⟨x.above,t,0,false,x.late⟩:=yB (by rw [yN,yN];omega);have hk4:=OwL.set_ok (f:=XSwitch.cells) (wd:=5) (p:=⟨p.o,(((p.l.set s.toNat ⟨x.above,x.since,x.shown,false,x.late⟩).set s.toNat ⟨x.above,t,x.shown,false,x.late⟩).set s.toNat ⟨x.above,t,0,false,x.late⟩)⟩) (i:=s.toNat) (x:=⟨x.above,t,0,false,false⟩) yf hk3;apply (qay);iterate 4 apply (qa6)
 apply (qaa);refine J0 zXb rfl ?_;apply qb0∘U3f;rintro v M U ⟨rfl,rfl⟩;refine J0 zXb rfl ?_;apply qb0∘Z5f;rintro v M U ⟨rfl,rfl⟩;refine J0 zXb rfl ?_;apply qb0∘Zqf;rintro v M U ⟨rfl,rfl⟩;refine J0 zXb rfl ?_;apply qb0∘Vof;rintro v M U ⟨rfl,rfl⟩;apply qam∘Xbb;refine q_b ((⟨p.o,(((p.l.set s.toNat ⟨x.above,x.since,x.shown,false,x.late⟩).set s.toNat ⟨x.above,t,x.shown,false,x.late⟩).set s.toNat ⟨x.above,t,0,false,x.late⟩).set s.toNat ⟨x.above,t,0,false,false⟩⟩:OwL XSwitch).L 76 XSwitch.cells) R ?_;have h1:Ye p.l s t=(((p.l.set s.toNat ⟨x.above,x.since,x.shown,false,x.late⟩).set s.toNat ⟨x.above,t,x.shown,false,x.late⟩).set s.toNat ⟨x.above,t,0,false,x.late⟩).set s.toNat ⟨x.above,t,0,false,false⟩:=by rw [Ye,← hx,h0,if_pos rfl,yra,yra,yra];rfl
 exact ⟨by rw [← hx,h0],by rw [h1];exact hk4,by rw [h1],rfl⟩
def Utb (f:XFeeder) (s t:Int) (L:LB) (R:LS) (hf:FeederR f R):
 Tri Tryz.prog 78 [f.val,.int .i64 s,.int .i64 t].toArray L R (fun v M U=>∃(p:OwL XSwitch) (q:OwL Int) (r:Int),v=.tuple #[.agg #[p.val,q.val,.int .i64 r],.int .i64 (Z1b f.switches.l f.zones.l f.reply s t)]∧(p.ok 5 XSwitch.cells∧q.ok 1 Jj)∧(Z1b f.switches.l f.zones.l f.reply s t=0→p.l=Ye f.switches.l s t∧q.l=f.zones.l∧r=f.reply)∧q.L 3 Jj ++ (p.L 76 XSwitch.cells ++ L)=M∧R=U):=by
 refine Jd 25 Tryz.call78 Tryz.func78 rfl rfl rfl ?_;apply (Xag);intro b3;apply (qaq);intro b6;apply Xau∘Jfc∘Xbu;refine q_l rfl (K9d f s t _ _ hf) ?_;apply (Xbj);refine q_c ?_ ?_<;>intro hc0;·exact zve
 have hcan:=Z8e (Decidable.not_not.1 hc0);have hok:=Zo hcan.1;have hsn:=hok.sn;have hzl:=hok.zl;apply qbv∘Jfc;refine Ju rfl (V2c f _ _ hf zc) rfl ?_;rintro v M U ⟨p,q,rfl,⟨hpk,hqk⟩,hpl,hql,rfl,rfl⟩;apply (qaq);intro b9;apply Xbe∘Jfc∘Xbu;refine Ju rfl (Tri.at (.cons (.app .here)) (Ulb p q.val f.reply s t _ hpk (by rw [hpl];exact hcan.2.1))) rfl ?_;rintro v M U ⟨_,rfl,rfl,hpk2,rfl,rfl⟩;apply qam∘Jfc∘Xc7;refine q_r (q.L 3 Jj ++ ((⟨p.o,Ye p.l s t⟩:OwL XSwitch).L 76 XSwitch.cells ++ L)) R zBd ?_;exact ⟨⟨p.o,Ye p.l s t⟩,q,f.reply,by rw [Decidable.not_not.1 hc0];simp only [OwL.val,Y7d],⟨hpk2,hqk⟩,fun _=>⟨by rw [hpl],hql,rfl⟩,rfl,rfl⟩
def K0d (f:XFeeder) (s t:Int) (L:LB) (R:LS) (hf:FeederR f R):
 Tri Tryz.prog 124 [f.val,.int .i64 s,.int .i64 t].toArray L R (fun v M U=>∃(p:OwL XSwitch) (q:OwL Int) (r:Int),v=.tuple #[.agg #[p.val,q.val,.int .i64 r],.int .i64 (Z1b f.switches.l f.zones.l f.reply s t)]∧(p.ok 5 XSwitch.cells∧q.ok 1 Jj)∧(Z1b f.switches.l f.zones.l f.reply s t=0→p.l=Ye f.switches.l s t∧q.l=f.zones.l∧r=f.reply)∧q.L 3 Jj ++ (p.L 76 XSwitch.cells ++ L)=M∧R=U):=by
 refine Jd 43 Tryz.call124 Tryz.func124 rfl rfl rfl ?_;apply (Xag);intro b3;apply (qaq);intro b6;apply Xau∘Jfc∘Xbu;refine q_l rfl (Yyc f s t _ _ hf) ?_;apply (Xbj);refine q_c ?_ ?_<;>intro hc0;·exact zve
 have hcan:=Z8e (Decidable.not_not.1 hc0);have hok:=Zo hcan.1;have hsn:=hok.sn;have hzl:=hok.zl;apply qbv∘Jfc;refine Ju rfl (Kbd f _ _ hf zc) rfl ?_;rintro v M U ⟨p,q,rfl,⟨hpk,hqk⟩,hpl,hql,rfl,rfl⟩;apply (qaq);intro b9;apply qak∘qco;have hpn:p.l.length=f.switches.l.length:=by rw [hpl]
 have hsr:=hcan.2.1;have hg:=Js (l:=p.l) (k:=s.toNat) default zc;obtain ⟨x,hx⟩:∃x,x=p.l.getD s.toNat default:=⟨_,rfl⟩;rw [← hx] at hg;apply qay∘Xaf∘Ylf∘qc1∘Xd9;refine J0 zXb rfl ?_;apply qb0∘Kkg∘qaf;refine q_c ?_ ?_<;>intro hc1;·
  have hk1:=OwL.set_ok (f:=XSwitch.cells) (wd:=5) (p:=p) (i:=s.toNat) (x:=⟨x.above,x.since,x.shown,false,x.late⟩) yf hpk;have hg1:(p.l.set s.toNat ⟨x.above,x.since,x.shown,false,x.late⟩)[s.toNat]?=some ⟨x.above,x.since,x.shown,false,x.late⟩:=yB zc;have hk2:=OwL.set_ok (f:=XSwitch.cells) (wd:=5) (p:=⟨p.o,(p.l.set s.toNat ⟨x.above,x.since,x.shown,false,x.late⟩)⟩) (i:=s.toNat) (x:=⟨x.above,t,x.shown,false,x.late⟩) yf hk1;have hg2:((p.l.set s.toNat ⟨x.above,x.since,x.shown,false,x.late⟩).set s.toNat ⟨x.above,t,x.shown,false,x.late⟩)[s.toNat]?=some ⟨x.above,t,x.shown,false,x.late⟩:=yB zna;have hk3:=OwL.set_ok (f:=XSwitch.cells) (wd:=5) (p:=⟨p.o,((p.l.set s.toNat ⟨x.above,x.since,x.shown,false,x.late⟩).set s.toNat ⟨x.above,t,x.shown,false,x.late⟩)⟩) (i:=s.toNat) (x:=⟨x.above,t,0,false,x.late⟩) yf hk2;have hg3:(((p.l.set s.toNat ⟨x.above,x.since,x.shown,false,x.late⟩).set s.toNat ⟨x.above,t,x.shown,false,x.late⟩).set s.toNat ⟨x.above,t,0,false,x.late⟩)[s.toNat]?=some ⟨x.above,t,0,false,x.late⟩:=yB (by rw [yN,yN];omega);have hk4:=OwL.set_ok (f:=XSwitch.cells) (wd:=5) (p:=⟨p.o,(((p.l.set s.toNat ⟨x.above,x.since,x.shown,false,x.late⟩).set s.toNat ⟨x.above,t,x.shown,false,x.late⟩).set s.toNat ⟨x.above,t,0,false,x.late⟩)⟩) (i:=s.toNat) (x:=⟨x.above,t,0,false,false⟩) yf hk3;apply (qay);iterate 4 apply (qa6)
  apply (qaa);refine J0 zXb rfl ?_;apply qb0∘U3f;rintro v M U ⟨rfl,rfl⟩;refine J0 zXb rfl ?_;apply qb0∘Z5f;rintro v M U ⟨rfl,rfl⟩;refine J0 zXb rfl ?_;apply qb0∘Zqf;rintro v M U ⟨rfl,rfl⟩;refine J0 zXb rfl ?_;apply qb0∘Vof;rintro v M U ⟨rfl,rfl⟩;apply qam∘Jfc∘Xc7;refine q_r (q.L 3 Jj ++ ((⟨p.o,(((p.l.set s.toNat ⟨x.above,x.since,x.shown,false,x.late⟩).set s.toNat ⟨x.above,t,x.shown,false,x.late⟩).set s.toNat ⟨x.above,t,0,false,x.late⟩).set s.toNat ⟨x.above,t,0,false,false⟩⟩:OwL XSwitch).L 76 XSwitch.cells ++ L)) R zBd ?_;exact ⟨⟨p.o,(((p.l.set s.toNat ⟨x.above,x.since,x.shown,false,x.late⟩).set s.toNat ⟨x.above,t,x.shown,false,x.late⟩).set s.toNat ⟨x.above,t,0,false,x.late⟩).set s.toNat ⟨x.above,t,0,false,false⟩⟩,q,f.reply,by rw [Decidable.not_not.1 hc0];simp only [OwL.val,yN],⟨hk4,hqk⟩,fun _=>⟨by rw [← hpl,Ye,← hx,if_pos hc1];show ((((p.l.set _ _).set _ _).set _ _).set _ _)=_;rw [yra,yra,yra];rfl,hql,rfl⟩,rfl,rfl⟩
 apply qbv∘Jfc∘Xc7;refine q_r (q.L 3 Jj ++ (p.L 76 XSwitch.cells ++ L)) R zBd ?_;exact ⟨p,q,f.reply,by rw [Decidable.not_not.1 hc0],⟨hpk,hqk⟩,fun _=>⟨by rw [← hpl,Ye,← hx,if_neg (by simp only [hc1];decide)],hql,rfl⟩,rfl,rfl⟩
def Uce (x:XSwitch) (L:LB) (R:LS):
 Tri Tryz.prog 104 [x.val].toArray L R (fun v M U=>v=.bool (Vfd x)∧L=M∧R=U):=by
 refine Jd 16 Tryz.call104 Tryz.func104 rfl rfl rfl ?_;apply (Xag);intro b1;apply qaz∘Xdu∘Xdd;apply Ue (G:=[_,_,_]) (j:=3) (cj:=6) rfl rfl ze rfl ztb rfl;·intro hg4;replace hg4:=qb hg4;exact (Xaa) zUd
 intro junk4;apply (qah);apply Ue (G:=[_,_,_]) (j:=8) (cj:=11) rfl rfl ze rfl ztb rfl;·intro hg9;replace hg9:=qb hg9;exact (Xaa∘qb4) qai
 intro junk9;apply (Xbb);refine q_b L R ?_;exact ⟨by rw [Vfd];try simp [Bool.and_assoc],rfl,rfl⟩
end
section
attribute [local irreducible] CJ LJ DJ Tri YV Gives U7 Kb Kp U8 RV Ke OwL.L
section
variable {A B:Prop}
def U1e(h:A→B:=by exact J0 zzb rfl):=h
def Kfg(h:B:=by exact ⟨.nil,.nil,0,.nil,.nil,by rw [he];rfl,⟨OwL.nil_ok,OwL.nil_ok,OwL.nil_ok,OwL.nil_ok⟩,fun h=>by omega,by rw [Kr,Kr];rfl,rfl⟩):=h
def J5g(h:A→B:=by exact Kz (Kc tb ((⟨p.o,(sw.set z.toNat ⟨x.above,x.since,x.shown,x.closed,true⟩)⟩:OwL XSwitch)) rfl rfl rfl zm zi yf zi ze) rfl rfl rfl rfl):=h
end
def Jgc (sw:List XSwitch) (zn:List Int) (rp t:Int):Int:=if feedE sw zn rp≠0 then feedE sw zn rp else if Kma sw t then 0 else 8
def Kfd {sw:List XSwitch} {rp t z:Int} {y:XTick} (hz:0≤z∧z < sw.length) (h:V0a sw rp t (sw.length - 1 - z).toNat=y):V0a sw rp t (sw.length - 1 - (z - 1)).toNat=Urb rp t y z.toNat:=by
 have e:((sw.length:Int) - 1 - (z - 1)).toNat=((sw.length:Int) - 1 - z).toNat + 1:=by omega
 have e2:sw.length - 1 - ((sw.length:Int) - 1 - z).toNat=z.toNat:=by omega
 rw [e,V0a,h,e2]
def Uue {sw sw':List XSwitch} {zn:List Int} {rp t:Int} (h:feedE sw zn rp=0) (k:SwKeep sw sw' t) {i:Nat} (hi:i < sw.length):-1≤(sw'.getD i default).above∧(sw'.getD i default).above < i:=by rw [(k.at_ i hi).1];exact (Zo h).up i hi
def Kde {sw:List XSwitch} {a t:Int} {i:Nat} (h:a.toNat≠i):(Ye sw a t)[i]?=sw[i]?:=by
 rw [Ye];split;·rw [yW h]
 ·rfl
def Jdd (f:XFeeder) (t:Int) (L:LB) (R:LS) (hf:FeederR f R):
 Tri Tryz.prog 158 [f.val,.int .i64 t].toArray L R (fun v M U=>∃(p:OwL XSwitch) (q:OwL Int) (r:Int) (la op:OwL Int),v=.tuple #[.agg #[p.val,q.val,.int .i64 r],la.val,op.val,.int .i64 (Jgc f.switches.l f.zones.l f.reply t)]∧(p.ok 5 XSwitch.cells∧q.ok 1 Jj∧la.ok 1 Jj∧op.ok 1 Jj)∧(Jgc f.switches.l f.zones.l f.reply t=0→p.l=(J4a f.switches.l f.reply t).sw∧q.l=f.zones.l∧r=f.reply∧la.l=(J4a f.switches.l f.reply t).late∧op.l=(J4a f.switches.l f.reply t).opened)∧op.L 3 Jj ++ (la.L 3 Jj ++ (q.L 3 Jj ++ (p.L 76 XSwitch.cells ++ L)))=M∧R=U):=by
 refine Jd 86 Tryz.call158 Tryz.func158 rfl rfl rfl ?_;apply (Xag);intro b2;apply (qaq);intro b4;apply Xb7∘Xau∘U1e;refine q_l rfl (Jla f _ _ hf) ?_;apply (Xbj);refine q_c ?_ ?_<;>intro hc0;·
  apply (qae);refine J0 zjc rfl ?_;apply qaa∘qak∘Xb7∘Xav;refine q_r L R (Kwg rfl zAb zgd zgd zed) ?_;have he:Jgc f.switches.l f.zones.l f.reply t=feedE f.switches.l f.zones.l f.reply:=by rw [Jgc,if_pos hc0]
  exact Kfg
 apply qbo∘U1e∘qaa;refine q_l rfl (Kqc f t _ _ hf) ?_;apply (Xbg);refine q_c ?_ ?_<;>intro hc1;·
  apply (qae);refine J0 zjc rfl ?_;apply qak∘Xb7∘Xav;refine q_r L R (Kwg rfl zAb zgd zgd zed) ?_;have he:Jgc f.switches.l f.zones.l f.reply t=8:=by rw [Jgc,if_neg hc0,if_neg zN]
  exact Kfg
 have hfe:feedE f.switches.l f.zones.l f.reply=0:=by omega
 have htm:Kma f.switches.l t:=by simpa using hc1
 have he:Jgc f.switches.l f.zones.l f.reply t=0:=by rw [Jgc,if_neg hc0,if_pos htm]
 have hok:=Zo hfe;have hsn:=hok.sn;have hzl:=hok.zl;have hrp:=hok.rp;apply qbv∘U1e;refine Ju rfl (V2c f _ _ hf zc) rfl ?_;rintro v M U ⟨p,q,rfl,⟨hpk,hqk⟩,hpl,hql,rfl,rfl⟩;apply (qaq);intro b9;apply Xbe∘Xb7∘qco;have hpn:p.l.length=f.switches.l.length:=by rw [hpl]
 apply qay∘Xab∘qa9∘Xat;refine Jh [(1,.int _ _),(2,.pointer _),(4,.pointer _),(9,.pointer _),(10,.slice _ _ _),(11,.slice _ _ _),(12,.int _ _)] zg fun tq0=>?_;refine K8 ([10,11,12,13]++rg 31 52) ((⟨fun g=>[(12,.int .i64 g.1.1),(10,g.1.2.1.1.val),(11,g.1.2.1.2.val)],fun g=>g.1.2.1.2.L 3 Jj ++ (g.1.2.1.1.L 3 Jj ++ (⟨b9,[p.val,q.val,.int .i64 f.reply],42⟩ :: (q.L 3 Jj ++ ((⟨p.o,g.1.2.2⟩:OwL XSwitch).L 76 XSwitch.cells ++ (⟨b4,[.slice none 0 0,.slice none 0 0,.int .i64 0],42⟩ :: ⟨b2,f.cells,42⟩ :: L))))),fun _=>R,fun g=>(g.1.1 + 1).toNat⟩:Head {g:Int×(OwL Int×OwL Int)×List XSwitch // (-1≤g.1∧g.1 < f.switches.l.length)∧V0a f.switches.l f.reply t (f.switches.l.length - 1 - g.1).toNat=⟨g.2.2,g.2.1.1.l,g.2.1.2.l⟩∧(g.2.1.1.ok 1 Jj∧g.2.1.2.ok 1 Jj)})) (⟨((p.l.length:Int) - 1,(OwL.nil,OwL.nil),p.l),by dsimp only;omega,by dsimp only;rw [show ((f.switches.l.length:Int) - 1 - ((p.l.length:Int) - 1)).toNat=0 by omega,V0a,hpl],OwL.nil_ok,OwL.nil_ok⟩) zg (by simp only [Kr,yv];exact zk) zJb ?_;rintro ⟨⟨z,⟨la,op⟩,sw⟩,hz,hT,hlk,hok2⟩ junk;try dsimp only
 dsimp only at hz hT hlk hok2;have hkeep:SwKeep f.switches.l sw t:=by have:=Vka (rp:=f.reply) (t:=t) hfe (f.switches.l.length - 1 - z).toNat zc;rw [hT] at this;exact this
 have hsl:=hkeep.len;have htln:=K0b (sw:=f.switches.l) (rp:=f.reply) (t:=t) (f.switches.l.length - 1 - z).toNat;rw [hT] at htln;dsimp only at htln;have hkS:(⟨p.o,sw⟩:OwL XSwitch).ok 5 XSwitch.cells:=OwL.len_ok yf hpk (hsl.trans hpn.symm);apply Xap∘Xdg;refine q_c ?_ ?_<;>intro hc2;·
  have hsu:=Kfd (rp:=f.reply) (t:=t) (z:=z) zc hT;have hg:=Js (l:=sw) (k:=z.toNat) default zc;have hab:=Uue hfe hkeep (i:=z.toNat) zc;have hsi:=hkeep.at_ z.toNat zc;have hsi0:=hok.since z.toNat zc;have htm0:=htm.1;rw [Urb] at hsu;dsimp only at hsu;obtain ⟨x,hx⟩:∃x,x=sw.getD z.toNat default:=⟨_,rfl⟩;rw [← hx] at hg hab hsi hsu;rw [show Z2d x=⟨x.above,x.since,x.shown,x.closed,true⟩ from rfl] at hsu;have hsi1:=hsi.2.1;apply (Xcz);refine J0 (Jo tb ((⟨p.o,sw⟩:OwL XSwitch)) _ rfl rfl ((show _=Value.slice _ _ _ from rfl).trans (by simp only [OwL.val,hsl,hpn])) rfl zi (i:=z.toNat) zo zw) rfl ?_;apply qc1∘qco;refine Kg tb [0,1,2,3,4,5,6,7,8,9,10,11,12,13,14,15] _ Kn zf ye ?_;apply (Xbw);refine Kq (U1a (row:=[_,_,_,_,_]) tb ((⟨p.o,sw⟩:OwL XSwitch)) rfl rfl rfl zm zi yf zi ze ze) rfl rfl rfl ?_;refine q_d rfl (Uce x _ _) ?_;refine Kq (Uva rfl) rfl rfl rfl ?_;apply (qb2);refine U9 (k:=44) ztb (fun hg5=>?_) (fun hg5=>?_);·replace hg5:=qb hg5;(iterate 9 apply (qap));apply (Xbt);refine K0 rfl ?_;exact zOe
  replace hg5:=qb hg5;apply qao∘Xbw∘qce;refine Kq (Kc tb ((⟨p.o,sw⟩:OwL XSwitch)) rfl rfl rfl zm zi yf zi ze) rfl rfl rfl ?_;apply qb7∘Xae;refine Kq zBc rfl rfl rfl ?_;apply (Xbt);refine q_c ?_ ?_<;>intro hc3;·exact zOe
  rw [if_pos ⟨by simpa using hg5,by omega⟩] at hsu;apply qbv∘qa6;refine J0 zXb rfl ?_;apply (qb0);refine V5 (Jp tb ((⟨p.o,sw⟩:OwL XSwitch)) (⟨x.above,x.since,x.shown,x.closed,true⟩) rfl rfl rfl rfl zm zi yf zi zj ze ze) ?_;rintro v M U ⟨rfl,rfl⟩;apply (qa4);have hk1:(⟨p.o,(sw.set z.toNat ⟨x.above,x.since,x.shown,x.closed,true⟩)⟩:OwL XSwitch).ok 5 XSwitch.cells:=OwL.set_ok (f:=XSwitch.cells) (wd:=5) (p:=(⟨p.o,sw⟩:OwL XSwitch)) (i:=z.toNat) (x:=⟨x.above,x.since,x.shown,x.closed,true⟩) yf hkS;have hg1:(sw.set z.toNat ⟨x.above,x.since,x.shown,x.closed,true⟩)[z.toNat]?=some ⟨x.above,x.since,x.shown,x.closed,true⟩:=yB zc;have hl1:(sw.set z.toNat ⟨x.above,x.since,x.shown,x.closed,true⟩).length=f.switches.l.length:=by rw [yN];exact hsl
  obtain ⟨S2,hS2⟩:∃S2,S2=if 0≤x.above then Ye (sw.set z.toNat ⟨x.above,x.since,x.shown,x.closed,true⟩) x.above t else (sw.set z.toNat ⟨x.above,x.since,x.shown,x.closed,true⟩):=⟨_,rfl⟩;apply Xcl∘qcx;rintro v M U ⟨b60,rfl,rfl,hR60⟩;replace hR60:=hR60.symm;subst hR60;refine Y6 (Jq (f:=Jj) (p:=la) (a:=z) tb rfl rfl rfl rfl (hlk) zm zCb rfl zz) rfl ?_;rintro v M U ⟨o61,rfl,hok61,rfl,rfl⟩;apply (Xd3);refine Kh tb [] [0,1,2,3,4,5,6,7,8,9,10,11] [12,13] (_) _ Kn zf zk yd ?_;apply (qb3);refine Kz zXb rfl rfl rfl rfl ?_;apply qcv∘J5g;refine Kz zJc rfl rfl rfl rfl ?_;refine Kz (J2 ztb) rfl rfl rfl rfl ?_;refine Zee (k:=67) ztb (fun hg5=>?_) (fun hg5=>?_);·
   replace hg5:=qb hg5;(have eS:Ye (sw.set z.toNat ⟨x.above,x.since,x.shown,x.closed,true⟩) x.above t=S2:=by rw [hS2,if_pos hg5]);have hop:=Ulb (⟨p.o,(sw.set z.toNat ⟨x.above,x.since,x.shown,x.closed,true⟩)⟩:OwL XSwitch) q.val f.reply x.above t R hk1 zt;(have hpv:(⟨p.o,(sw.set z.toNat ⟨x.above,x.since,x.shown,x.closed,true⟩)⟩:OwL XSwitch).val=p.val:=by simp only [OwL.val,hl1,hpn]);rw [hpv] at hop;dsimp only at hop;rw [eS] at hop;refine Kz zzb rfl rfl rfl rfl ?_;apply (qb3);refine Kz zXb rfl rfl rfl rfl ?_;apply qcv∘J5g∘qbf∘qba;refine Vn rfl (Tri.at (by repeat (first | apply Seg.here | apply Seg.cons | apply Seg.app)) hop) rfl rfl ?_;rintro v M U ⟨_,rfl,rfl,hk2,rfl,rfl⟩;refine ⟨zk,zu,?_⟩;apply (Xbt);refine q_c ?_ ?_<;>intro hc4;·(have hg2:S2[z.toNat]?=some ⟨x.above,x.since,x.shown,x.closed,true⟩:=by rw [← eS,Kde zc];exact hg1);apply qay∘qbm∘qa6;refine J0 zXb rfl ?_;apply (qb0);refine J0 (Kc tb ((⟨p.o,S2⟩:OwL XSwitch)) rfl rfl rfl zm zi yf zi ze) rfl ?_;apply (qcx);rintro v M U ⟨b81,rfl,rfl,hR81⟩;replace hR81:=hR81.symm;subst hR81;refine Y6 (Jq (f:=Jj) (p:=op) (a:=x.above) tb rfl rfl rfl rfl (hok2) zm zCb rfl zz) rfl ?_;rintro v M U ⟨o82,rfl,hok82,rfl,rfl⟩;apply qc4∘qcs∘Xdk;exact q_k ⟨(z - 1,(⟨o61,la.l ++ [z]⟩,⟨o82,op.l ++ [x.above]⟩),S2),by dsimp only;omega,by dsimp only;rw [hsu,if_pos ⟨hg5,hc4⟩,← eS,yja zc],hok61,hok82⟩
   exact uap
  replace hg5:=qb hg5;have eS:(sw.set z.toNat ⟨x.above,x.since,x.shown,x.closed,true⟩)=S2:=by rw [hS2,if_neg hg5]
  have hk2:(⟨p.o,S2⟩:OwL XSwitch).ok 5 XSwitch.cells:=by rw [← eS];exact hk1
  rw [eS];iterate 6 refine U7e rfl rfl rfl ?_
  apply qba∘qap∘Xbt;refine Vy rfl ?_;exact uap
 obtain rfl:z= -1:=by omega
 have hTS:J4a f.switches.l f.reply t=⟨sw,la.l,op.l⟩:=by rw [J4a,← hT];congr 1;omega
 apply qbk∘U1e∘qbm∘qbm∘qak∘Xb7∘Xam;refine q_r (op.L 3 Jj ++ (la.L 3 Jj ++ (q.L 3 Jj ++ ((⟨p.o,sw⟩:OwL XSwitch).L 76 XSwitch.cells ++ L)))) R (Kwg rfl zAb zgd zgd zed) ?_;exact ⟨(⟨p.o,sw⟩:OwL XSwitch),q,f.reply,la,op,by rw [he];simp only [OwL.val,hsl,hpn],⟨hkS,hqk,hlk,hok2⟩,fun _=>⟨by rw [hTS],hql,rfl,by rw [hTS],by rw [hTS]⟩,rfl,rfl⟩
end
end Go.Proofs.YtchfclmokpbldaaGreat
section
/-
  What an append to a full read-only slice gives. By an AI agent; no person has read it.
-/
namespace Go.Aw
open Go
section
variable {P:Program} {ρ:Operand→Value} {L:LB} {R:LS} {dst:Option Tmp} {ty:TypeId} {pos:String} {after:Array Edge} {guard:Option (Nat×Bool)} (tb:Tabs P) {T:TypeId} {x y:Operand}
end
end Go.Aw
end
namespace Go.Proofs.YtchfclmokpbldaaGreat
open Go.Aw Go
end Go.Proofs.YtchfclmokpbldaaGreat
