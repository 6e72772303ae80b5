/-
  Merged texts. By an AI agent.
-/
import Derived.Test.YtchfclmokpbldaaGreatFeedT
import Derived.Test.YtchfclmokpbldaaGreatFits
set_option linter.all false
set_option maxHeartbeats 4000000
set_option maxRecDepth 20000
namespace Go.Proofs.YtchfclmokpbldaaGreat
open Go.Aw Go
section
attribute [local irreducible] CJ LJ DJ Tri YV Gives U0 J3 Kj Uz RV J5 OwL.L
section
variable {A B:Prop}
def Yme(h:A→B:=by exact Jx zkb rfl):=h
end
def Jig {sw:List XSwitch} {zn:List Int} {rp s t:Int} (h:Jxc sw zn rp s t=0):feedE sw zn rp=0∧(0≤s∧s < sw.length)∧V7a sw t:=by
 rw [Jxc] at h;split at h;·omega
 split at h;·omega
 split at h;·exact ⟨by omega,by omega,by assumption⟩
 ·omega
def Uwb (p:OwL XSwitch) (zv:Value) (rp s t:Int) (R:LS) (hpk:p.ok 5 XSwitch.cells) (hs:0≤s∧s < p.l.length):
 Tri Tryz.prog 152 [.agg #[p.val,zv,.int .i64 rp],.int .i64 s,.int .i64 t].toArray (p.L 76 XSwitch.cells) R (fun v M U=>v=.bool (p.l.getD s.toNat default).closed∧(⟨p.o,U5 p.l s t⟩:OwL XSwitch).ok 5 XSwitch.cells∧(⟨p.o,U5 p.l s t⟩:OwL XSwitch).L 76 XSwitch.cells=M∧R=U):=by
 have hg:=Jw (l:=p.l) (k:=s.toNat) default za;obtain ⟨x,hx⟩:∃x,x=p.l.getD s.toNat default:=⟨_,rfl⟩;rw [← hx] at hg;refine Jj 30 Tryz.call152 Tryz.func152 rfl rfl rfl ?_;apply (Xaf);intro b3;apply qaz∘qam∘Xam;refine Jx zYb rfl ?_;apply qc1∘qaw∘qa6;refine Jx zLb rfl ?_;apply (qb0);refine Jx zyb rfl ?_;apply (Xbb);refine q_c ?_ ?_<;>intro hc0;·
  apply Xbe∘qbh;refine q_b (p.L 76 XSwitch.cells) R ?_;have h0:x.closed=false:=by simpa using hc0
  have h1:U5 p.l s t=p.l:=by rw [U5,← hx,h0,if_neg ze]
  exact ⟨by rw [← hx,h0],by rw [h1];exact hpk,by rw [h1],rfl⟩
 apply (qcl);have h0:x.closed=true:=by simpa using hc0
 have hk1:=OwL.set_ok (f:=XSwitch.cells) (wd:=5) (p:=p) (i:=s.toNat) (x:=⟨x.above,x.since,x.shown,false,x.late⟩) yf hpk;have hg1:(p.l.set s.toNat ⟨x.above,x.since,x.shown,false,x.late⟩)[s.toNat]?=some ⟨x.above,x.since,x.shown,false,x.late⟩:=yH za;have hk2:=OwL.set_ok (f:=XSwitch.cells) (wd:=5) (p:=⟨p.o,(p.l.set s.toNat ⟨x.above,x.since,x.shown,false,x.late⟩)⟩) (i:=s.toNat) (x:=⟨x.above,t,x.shown,false,x.late⟩) yf hk1;have hg2:((p.l.set s.toNat ⟨x.above,x.since,x.shown,false,x.late⟩).set s.toNat ⟨x.above,t,x.shown,false,x.late⟩)[s.toNat]?=some ⟨x.above,t,x.shown,false,x.late⟩:=yH (by rw [yy];omega);have hk3:=OwL.set_ok (f:=XSwitch.cells) (wd:=5) (p:=⟨p.o,((p.l.set s.toNat ⟨x.above,x.since,x.shown,false,x.late⟩).set s.toNat ⟨x.above,t,x.shown,false,x.late⟩)⟩) (i:=s.toNat) (x:=⟨x.above,t,0,false,x.late⟩) yf hk2;have hg3:(((p.l.set s.toNat ⟨x.above,x.since,x.shown,false,x.late⟩).set s.toNat ⟨x.above,t,x.shown,false,x.late⟩).set s.toNat ⟨x.above,t,0,false,x.late⟩)[s.toNat]?=some ⟨x.above,t,0,false,x.late⟩:=yH (by rw [yy,yy];omega);have hk4:=OwL.set_ok (f:=XSwitch.cells) (wd:=5) (p:=⟨p.o,(((p.l.set s.toNat ⟨x.above,x.since,x.shown,false,x.late⟩).set s.toNat ⟨x.above,t,x.shown,false,x.late⟩).set s.toNat ⟨x.above,t,0,false,x.late⟩)⟩) (i:=s.toNat) (x:=⟨x.above,t,0,false,false⟩) yf hk3;apply (qay);iterate 4 apply (qa6)
 apply (qaa);refine Jx zLb rfl ?_;apply (qb0);refine Ym (Js tb (p) (⟨x.above,x.since,x.shown,false,x.late⟩) rfl rfl rfl rfl zj zg yf zg ze zb zb) ?_;rintro v M U ⟨rfl,rfl⟩;refine Jx zLb rfl ?_;apply (qb0);refine Ym (Js tb ((⟨p.o,(p.l.set s.toNat ⟨x.above,x.since,x.shown,false,x.late⟩)⟩:OwL XSwitch)) (⟨x.above,t,x.shown,false,x.late⟩) rfl rfl rfl rfl zj zg yf zg ze zb zb) ?_;rintro v M U ⟨rfl,rfl⟩;refine Jx zLb rfl ?_;apply (qb0);refine Ym (Js tb ((⟨p.o,((p.l.set s.toNat ⟨x.above,x.since,x.shown,false,x.late⟩).set s.toNat ⟨x.above,t,x.shown,false,x.late⟩)⟩:OwL XSwitch)) (⟨x.above,t,0,false,x.late⟩) rfl rfl rfl rfl zj zg yf zg ze zb zb) ?_;rintro v M U ⟨rfl,rfl⟩;refine Jx zLb rfl ?_;apply (qb0);refine Ym (Js tb ((⟨p.o,(((p.l.set s.toNat ⟨x.above,x.since,x.shown,false,x.late⟩).set s.toNat ⟨x.above,t,x.shown,false,x.late⟩).set s.toNat ⟨x.above,t,0,false,x.late⟩)⟩:OwL XSwitch)) (⟨x.above,t,0,false,false⟩) rfl rfl rfl rfl zj zg yf zg ze zb zb) ?_;rintro v M U ⟨rfl,rfl⟩;apply qam∘Xa2;refine q_b ((⟨p.o,(((p.l.set s.toNat ⟨x.above,x.since,x.shown,false,x.late⟩).set s.toNat ⟨x.above,t,x.shown,false,x.late⟩).set s.toNat ⟨x.above,t,0,false,x.late⟩).set s.toNat ⟨x.above,t,0,false,false⟩⟩:OwL XSwitch).L 76 XSwitch.cells) R ?_;have h1:U5 p.l s t=(((p.l.set s.toNat ⟨x.above,x.since,x.shown,false,x.late⟩).set s.toNat ⟨x.above,t,x.shown,false,x.late⟩).set s.toNat ⟨x.above,t,0,false,x.late⟩).set s.toNat ⟨x.above,t,0,false,false⟩:=by rw [U5,← hx,h0,if_pos rfl,yIa,yIa,yIa];rfl
 exact ⟨by rw [← hx,h0],by rw [h1];exact hk4,by rw [h1],rfl⟩
def U3b (f:XFeeder) (s t:Int) (L:LB) (R:LS) (hf:FeederR f R):
 Tri Tryz.prog 78 [f.val,.int .i64 s,.int .i64 t].toArray L R (fun v M U=>∃(p:OwL XSwitch) (q:OwL Int) (r:Int),v=.tuple #[.agg #[p.val,q.val,.int .i64 r],.int .i64 (Jxc f.switches.l f.zones.l f.reply s t)]∧(p.ok 5 XSwitch.cells∧q.ok 1 Jo)∧(Jxc f.switches.l f.zones.l f.reply s t=0→p.l=U5 f.switches.l s t∧q.l=f.zones.l∧r=f.reply)∧q.L 3 Jo ++ (p.L 76 XSwitch.cells ++ L)=M∧R=U):=by
 refine Jj 25 Tryz.call78 Tryz.func78 rfl rfl rfl ?_;apply (Xaf);intro b3;apply (qaq);intro b6;apply Xap∘Yme∘Xbg;refine q_l rfl (Yeb f s t _ _ hf) ?_;apply (Xba);refine q_c ?_ ?_<;>intro hc0;·apply (qae);refine Jx zKb rfl ?_;apply (Xbz);refine q_r L R zPc ?_;exact ⟨.nil,.nil,0,rfl,⟨OwL.nil_ok,OwL.nil_ok⟩,fun h=>absurd h hc0,by rw [Ki,Ki];rfl,rfl⟩
 have hcan:=Jig (Decidable.not_not.1 hc0);have hok:=Vq hcan.1;have hsn:=hok.sn;have hzl:=hok.zl;apply qbv∘Yme;refine Jy rfl (Jub f _ _ hf za) rfl ?_;rintro v M U ⟨p,q,rfl,⟨hpk,hqk⟩,hpl,hql,rfl,rfl⟩;apply (qaq);intro b9;apply Xay∘Yme∘Xbg;refine Jy rfl (Tri.at (.cons (.app .here)) (Uwb p q.val f.reply s t _ hpk (by rw [hpl];exact hcan.2.1))) rfl ?_;rintro v M U ⟨_,rfl,rfl,hpk2,rfl,rfl⟩;apply qam∘Yme∘Xbl;refine q_r (q.L 3 Jo ++ ((⟨p.o,U5 p.l s t⟩:OwL XSwitch).L 76 XSwitch.cells ++ L)) R zPc ?_;exact ⟨⟨p.o,U5 p.l s t⟩,q,f.reply,by rw [Decidable.not_not.1 hc0];simp only [OwL.val,Zsd],⟨hpk2,hqk⟩,fun _=>⟨by rw [hpl],hql,rfl⟩,rfl,rfl⟩
def Kte (x:XSwitch) (L:LB) (R:LS):
 Tri Tryz.prog 104 [x.val].toArray L R (fun v M U=>v=.bool (Zya x)∧L=M∧R=U):=by
 refine Jj 16 Tryz.call104 Tryz.func104 rfl rfl rfl ?_;apply (Xaf);intro b1;apply qaz∘Xcj∘Xce;apply Ui (G:=[_,_,_]) (j:=3) (cj:=6) rfl rfl zb rfl zfb rfl;·exact ubi
 intro junk4;apply (qah);apply Ui (G:=[_,_,_]) (j:=8) (cj:=11) rfl rfl zb rfl zfb rfl;·intro hg9;replace hg9:=qb hg9;exact (Xaa) zLd
 intro junk9;apply (Xa2);refine q_b L R ?_;exact ⟨by rw [Zya];try simp [Bool.and_assoc],rfl,rfl⟩
end
section
attribute [local irreducible] CJ LJ DJ Tri YV Gives U0 J3 Kj Uz RV J5 OwL.L
section
variable {A B:Prop}
def Y0c(h:A→B:=by exact Jx zkb rfl):=h
def Vre(h:A→B:=by exact Jx zKb rfl):=h
def Kjf(h:B:=by exact ⟨.nil,.nil,0,by rw [he];rfl,⟨OwL.nil_ok,OwL.nil_ok⟩,fun h=>by omega,by rw [Ki,Ki];rfl,rfl⟩):=h
def U1f(h:A→B:=by exact Ku (Jv tb ((⟨p.o,p.l.set s.toNat ⟨x.above,x.since,t,x.closed,x.late⟩⟩:OwL XSwitch)) _ rfl rfl ((show _=Value.slice _ _ _ from rfl).trans (by simp only [OwL.val,yy])) rfl zg (i:=s.toNat) zk zu) rfl rfl rfl rfl):=h
def Ysf(h:A→B:=by exact Kvb (Js tb ((⟨p.o,p.l.set s.toNat ⟨x.above,x.since,t,x.closed,x.late⟩⟩:OwL XSwitch)) (⟨x.above,x.since,t,x.closed,lt⟩) rfl rfl rfl rfl zj zg yf zg ze zb zb) rfl rfl):=h
def Ylf(h:B:=by exact ⟨⟨p.o,(p.l.set s.toNat ⟨x.above,x.since,t,x.closed,x.late⟩).set s.toNat ⟨x.above,x.since,t,x.closed,lt⟩⟩,q,f.reply,by simp only [he,OwL.val,yy],⟨hpk2,hqk⟩,fun _=>⟨by rw [Ud,← hx,← hpl,← hlt,yIa],hql,rfl⟩,rfl,rfl⟩):=h
def Z0f(h:B:=by exact ⟨.nil,.nil,0,.nil,.nil,by rw [he];rfl,⟨OwL.nil_ok,OwL.nil_ok,OwL.nil_ok,OwL.nil_ok⟩,fun h=>by omega,by rw [Ki,Ki];rfl,rfl⟩):=h
def Yef(h:A→B:=by exact Ku (Kc tb ((⟨p.o,(sw.set z.toNat ⟨x.above,x.since,x.shown,x.closed,true⟩)⟩:OwL XSwitch)) rfl rfl rfl zj zg yf zg zb) rfl rfl rfl rfl):=h
end
def Jhc (f:XFeeder) (s t:Int) (L:LB) (R:LS) (hf:FeederR f R):
 Tri Tryz.prog 153 [f.val,.int .i64 s,.int .i64 t].toArray L R (fun v M U=>∃(p:OwL XSwitch) (q:OwL Int) (r:Int),v=.tuple #[.agg #[p.val,q.val,.int .i64 r],.int .i64 (Us f.switches.l f.zones.l f.reply s t)]∧(p.ok 5 XSwitch.cells∧q.ok 1 Jo)∧
  (Us f.switches.l f.zones.l f.reply s t=0→p.l=Ud f.switches.l s t∧q.l=f.zones.l∧r=f.reply)∧q.L 3 Jo ++ (p.L 76 XSwitch.cells ++ L)=M∧R=U):=by
 have hsR:=hf.sw;refine Jj 57 Tryz.call153 Tryz.func153 rfl rfl rfl ?_;apply (Xaf);intro b3;apply (qaq);intro b6;apply Xap∘Y0c;refine q_l rfl (Vg f _ _ hf) ?_;apply (Xba);refine q_c ?_ ?_<;>intro hc0;·
  apply qae∘Vre∘Xbz;refine q_r L R zPc ?_;have he:Us f.switches.l f.zones.l f.reply s t=feedE f.switches.l f.zones.l f.reply:=by rw [Us,if_pos hc0]
  exact Kjf
 apply Xcq∘Xav;apply J9 (G:=[_,_,_,_,_]) (j:=2) (cj:=18) rfl rfl zb rfl zfb rfl;·exact zbe
 intro junk3;apply (qaf);refine q_c ?_ ?_<;>intro hc1;·
  apply qae∘Vre∘Xaz;refine q_r L R zPc ?_;have he:Us f.switches.l f.zones.l f.reply s t=16:=by rw [Us,if_neg za,if_pos za]
  exact Kjf
 apply Xcq∘Xbu;apply Ui (G:=[_,_]) (j:=2) (cj:=28) rfl rfl zb rfl zfb rfl;·intro hg3;replace hg3:=qb hg3;exact (qaa) zhd
 intro junk3;apply (qaf);refine q_c ?_ ?_<;>intro hc2;·
  apply qae∘Vre∘Xaz;refine q_r L R zPc ?_;have he:Us f.switches.l f.zones.l f.reply s t=10:=by rw [Us,if_neg za,if_neg za,if_pos za]
  exact Kjf
 have he:Us f.switches.l f.zones.l f.reply s t=0:=by rw [Us,if_neg za,if_neg za,if_neg za]
 have hok:=Vq (sw:=f.switches.l) (zn:=f.zones.l) (rp:=f.reply) za;have hsn:=hok.sn;have hzl:=hok.zl;have hg:=Jw (l:=f.switches.l) (k:=s.toNat) default za;obtain ⟨x,hx⟩:∃x,x=f.switches.l.getD s.toNat default:=⟨_,rfl⟩;rw [← hx] at hg;apply qbv∘Y0c;refine Jy rfl (Jub f _ _ hf za) rfl ?_;rintro v M U ⟨p,q,rfl,⟨hpk,hqk⟩,hpl,hql,rfl,rfl⟩;apply (qaq);intro b9;apply (Xc3);have hpg:p.l[s.toNat]?=some x:=by rw [hpl];exact hg
 have hpn:p.l.length=f.switches.l.length:=by rw [hpl]
 apply qay∘Xam∘qaa;refine Jx zYb rfl ?_;apply (qb0);refine Ym (Js tb (p) (⟨x.above,x.since,t,x.closed,x.late⟩) rfl rfl rfl rfl zj zg yf zg ze zb zb) ?_;rintro v M U ⟨rfl,rfl⟩;apply (qa4);have hpk1:=OwL.set_ok (f:=XSwitch.cells) (wd:=5) (p:=p) (i:=s.toNat) (x:=⟨x.above,x.since,t,x.closed,x.late⟩) yf hpk;have hpg1:(p.l.set s.toNat ⟨x.above,x.since,t,x.closed,x.late⟩)[s.toNat]?=some ⟨x.above,x.since,t,x.closed,x.late⟩:=yH za;refine Kh tb [] [0,1,2,3,4,5,6,7,8,9,10,11,12,13,14] [15] (_) _ K3 zc zi yd ?_;apply Xdc∘Xdc∘U1f∘qcv;refine Ku (Kc tb ((⟨p.o,p.l.set s.toNat ⟨x.above,x.since,t,x.closed,x.late⟩⟩:OwL XSwitch)) rfl rfl rfl zj zg yf zg zb) rfl rfl rfl rfl ?_;refine Ku (Jt zfb) rfl rfl rfl rfl ?_;refine Vad (k:=50) zfb (fun hg9=>?_) (fun hg9=>?_);·
  replace hg9:=qb hg9;let lt:Bool:=decide (¬ t= -1);have hlt:lt=(if t= -1 then false else x.late):=by simp only [lt,hg9];split <;> simp_all
  have hpk2:=OwL.set_ok (f:=XSwitch.cells) (wd:=5) (p:=⟨p.o,p.l.set s.toNat ⟨x.above,x.since,t,x.closed,x.late⟩⟩) (i:=s.toNat) (x:=⟨x.above,x.since,t,x.closed,lt⟩) yf hpk1;apply (qbf);refine Ku (Jnc rfl rfl) rfl rfl rfl rfl ?_;exact zid
 replace hg9:=qb hg9;let lt:Bool:=false;have hlt:lt=(if t= -1 then false else x.late):=by simp only [lt,hg9];split <;> rfl
 have hpk2:=OwL.set_ok (f:=XSwitch.cells) (wd:=5) (p:=⟨p.o,p.l.set s.toNat ⟨x.above,x.since,t,x.closed,x.late⟩⟩) (i:=s.toNat) (x:=⟨x.above,x.since,t,x.closed,lt⟩) yf hpk1;refine Vqc rfl rfl rfl ?_;refine Vqc rfl rfl rfl ?_;exact zid
def Jac (sw:List XSwitch) (zn:List Int) (rp t:Int):Int:=if feedE sw zn rp≠0 then feedE sw zn rp else if V7a sw t then 0 else 8
def Jld {sw:List XSwitch} {rp t z:Int} {y:XTick} (hz:0≤z∧z < sw.length) (h:Vh sw rp t (sw.length - 1 - z).toNat=y):Vh sw rp t (sw.length - 1 - (z - 1)).toNat=tickAt rp t y z.toNat:=by
 have e:((sw.length:Int) - 1 - (z - 1)).toNat=((sw.length:Int) - 1 - z).toNat + 1:=by omega
 have e2:sw.length - 1 - ((sw.length:Int) - 1 - z).toNat=z.toNat:=by omega
 rw [e,Vh,h,e2]
def Zxe {sw sw':List XSwitch} {zn:List Int} {rp t:Int} (h:feedE sw zn rp=0) (k:SwKeep sw sw' t) {i:Nat} (hi:i < sw.length):-1≤(sw'.getD i default).above∧(sw'.getD i default).above < i:=by rw [(k.at_ i hi).1];exact (Vq h).up i hi
def Vae {sw:List XSwitch} {a t:Int} {i:Nat} (h:a.toNat≠i):(U5 sw a t)[i]?=sw[i]?:=by
 rw [U5];split;·rw [yda h]
 ·rfl
def Ycc (f:XFeeder) (t:Int) (L:LB) (R:LS) (hf:FeederR f R):
 Tri Tryz.prog 158 [f.val,.int .i64 t].toArray L R (fun v M U=>∃(p:OwL XSwitch) (q:OwL Int) (r:Int) (la op:OwL Int),v=.tuple #[.agg #[p.val,q.val,.int .i64 r],la.val,op.val,.int .i64 (Jac f.switches.l f.zones.l f.reply t)]∧(p.ok 5 XSwitch.cells∧q.ok 1 Jo∧la.ok 1 Jo∧op.ok 1 Jo)∧(Jac f.switches.l f.zones.l f.reply t=0→p.l=(Jda f.switches.l f.reply t).sw∧q.l=f.zones.l∧r=f.reply∧la.l=(Jda f.switches.l f.reply t).late∧op.l=(Jda f.switches.l f.reply t).opened)∧op.L 3 Jo ++ (la.L 3 Jo ++ (q.L 3 Jo ++ (p.L 76 XSwitch.cells ++ L)))=M∧R=U):=by
 refine Jj 86 Tryz.call158 Tryz.func158 rfl rfl rfl ?_;apply (Xaf);intro b2;apply (qaq);intro b4;apply Xbs∘Xap∘Y0c;refine q_l rfl (Vg f _ _ hf) ?_;apply (Xba);refine q_c ?_ ?_<;>intro hc0;·
  apply qae∘Vre∘qaa∘qak∘Xbs∘Xai;refine q_r L R (U2f rfl zmb zCc zCc zBc) ?_;have he:Jac f.switches.l f.zones.l f.reply t=feedE f.switches.l f.zones.l f.reply:=by rw [Jac,if_pos hc0]
  exact Z0f
 apply qbo∘Y0c∘qaa;refine q_l rfl (J5c f t _ _ hf) ?_;apply (Xbb);refine q_c ?_ ?_<;>intro hc1;·
  apply qae∘Vre∘qak∘Xbs∘Xai;refine q_r L R (U2f rfl zmb zCc zCc zBc) ?_;have he:Jac f.switches.l f.zones.l f.reply t=8:=by rw [Jac,if_neg hc0,if_neg zG]
  exact Z0f
 have hfe:feedE f.switches.l f.zones.l f.reply=0:=by omega
 have htm:V7a f.switches.l t:=by simpa using hc1
 have he:Jac f.switches.l f.zones.l f.reply t=0:=by rw [Jac,if_neg hc0,if_pos htm]
 have hok:=Vq hfe;have hsn:=hok.sn;have hzl:=hok.zl;have hrp:=hok.rp;apply qbv∘Y0c;refine Jy rfl (Jub f _ _ hf za) rfl ?_;rintro v M U ⟨p,q,rfl,⟨hpk,hqk⟩,hpl,hql,rfl,rfl⟩;apply (qaq);intro b9;apply Xay∘Xbs∘qco;have hpn:p.l.length=f.switches.l.length:=by rw [hpl]
 apply qay∘Xab∘qa9∘Xcc;refine Jp [(1,.int _ _),(2,.pointer _),(4,.pointer _),(9,.pointer _),(10,.slice _ _ _),(11,.slice _ _ _),(12,.int _ _)] zh fun tq0=>?_;refine Vx ([10,11,12,13]++rg 31 52) ((⟨fun g=>[(12,.int .i64 g.1.1),(10,g.1.2.1.1.val),(11,g.1.2.1.2.val)],fun g=>g.1.2.1.2.L 3 Jo ++ (g.1.2.1.1.L 3 Jo ++ (⟨b9,[p.val,q.val,.int .i64 f.reply],42⟩ :: (q.L 3 Jo ++ ((⟨p.o,g.1.2.2⟩:OwL XSwitch).L 76 XSwitch.cells ++ (⟨b4,[.slice none 0 0,.slice none 0 0,.int .i64 0],42⟩ :: ⟨b2,f.cells,42⟩ :: L))))),fun _=>R,fun g=>(g.1.1 + 1).toNat⟩:Head {g:Int×(OwL Int×OwL Int)×List XSwitch // (-1≤g.1∧g.1 < f.switches.l.length)∧Vh f.switches.l f.reply t (f.switches.l.length - 1 - g.1).toNat=⟨g.2.2,g.2.1.1.l,g.2.1.2.l⟩∧(g.2.1.1.ok 1 Jo∧g.2.1.2.ok 1 Jo)})) (⟨((p.l.length:Int) - 1,(OwL.nil,OwL.nil),p.l),by dsimp only;omega,by dsimp only;rw [show ((f.switches.l.length:Int) - 1 - ((p.l.length:Int) - 1)).toNat=0 by omega,Vh,hpl],OwL.nil_ok,OwL.nil_ok⟩) zh (by simp only [Ki,yv];exact zi) ztb ?_;rintro ⟨⟨z,⟨la,op⟩,sw⟩,hz,hT,hlk,hok2⟩ junk;try dsimp only
 dsimp only at hz hT hlk hok2;have hkeep:SwKeep f.switches.l sw t:=by have:=Vma (rp:=f.reply) (t:=t) hfe (f.switches.l.length - 1 - z).toNat za;rw [hT] at this;exact this
 have hsl:=hkeep.len;have htln:=Ugb (sw:=f.switches.l) (rp:=f.reply) (t:=t) (f.switches.l.length - 1 - z).toNat;rw [hT] at htln;dsimp only at htln;have hkS:(⟨p.o,sw⟩:OwL XSwitch).ok 5 XSwitch.cells:=OwL.len_ok yf hpk (hsl.trans hpn.symm);apply Xb1∘Xcn;refine q_c ?_ ?_<;>intro hc2;·
  have hsu:=Jld (rp:=f.reply) (t:=t) (z:=z) za hT;have hg:=Jw (l:=sw) (k:=z.toNat) default za;have hab:=Zxe hfe hkeep (i:=z.toNat) za;have hsi:=hkeep.at_ z.toNat za;have hsi0:=hok.since z.toNat za;have htm0:=htm.1;rw [tickAt] at hsu;dsimp only at hsu;obtain ⟨x,hx⟩:∃x,x=sw.getD z.toNat default:=⟨_,rfl⟩;rw [← hx] at hg hab hsi hsu;rw [show Uhb x=⟨x.above,x.since,x.shown,x.closed,true⟩ from rfl] at hsu;have hsi1:=hsi.2.1;apply qbb∘Xam;refine Jx (Jv tb ((⟨p.o,sw⟩:OwL XSwitch)) _ rfl rfl ((show _=Value.slice _ _ _ from rfl).trans (by simp only [OwL.val,hsl,hpn])) rfl zg (i:=z.toNat) zk zu) rfl ?_;apply qc1∘qco;refine Kp tb [0,1,2,3,4,5,6,7,8,9,10,11,12,13,14,15] _ K3 zc ye ?_;apply (Xbo);refine K2 (Zxb (row:=[_,_,_,_,_]) tb ((⟨p.o,sw⟩:OwL XSwitch)) rfl rfl rfl zj zg yf zg zb zb) rfl rfl rfl ?_;refine q_d rfl (Kte x _ _) ?_;refine K2 (V8a rfl) rfl rfl rfl ?_;apply (qb2);refine Yl (k:=44) zfb (fun hg5=>?_) (fun hg5=>?_);·replace hg5:=qb hg5;(iterate 9 apply (qap));apply (Xbw);refine Ua rfl ?_;exact zEd
  replace hg5:=qb hg5;apply qao∘Xbo∘qce;refine K2 (Kc tb ((⟨p.o,sw⟩:OwL XSwitch)) rfl rfl rfl zj zg yf zg zb) rfl rfl rfl ?_;apply qb7∘Xan;refine K2 zyc rfl rfl rfl ?_;apply (Xbw);refine q_c ?_ ?_<;>intro hc3;·exact zEd
  rw [if_pos ⟨by simpa using hg5,by omega⟩] at hsu;apply qbv∘qa6;refine Jx zLb rfl ?_;apply (qb0);refine Ym (Js tb ((⟨p.o,sw⟩:OwL XSwitch)) (⟨x.above,x.since,x.shown,x.closed,true⟩) rfl rfl rfl rfl zj zg yf zg ze zb zb) ?_;rintro v M U ⟨rfl,rfl⟩;apply (qa4);have hk1:(⟨p.o,(sw.set z.toNat ⟨x.above,x.since,x.shown,x.closed,true⟩)⟩:OwL XSwitch).ok 5 XSwitch.cells:=OwL.set_ok (f:=XSwitch.cells) (wd:=5) (p:=(⟨p.o,sw⟩:OwL XSwitch)) (i:=z.toNat) (x:=⟨x.above,x.since,x.shown,x.closed,true⟩) yf hkS;have hg1:(sw.set z.toNat ⟨x.above,x.since,x.shown,x.closed,true⟩)[z.toNat]?=some ⟨x.above,x.since,x.shown,x.closed,true⟩:=yH za;have hl1:(sw.set z.toNat ⟨x.above,x.since,x.shown,x.closed,true⟩).length=f.switches.l.length:=by rw [yy];exact hsl
  obtain ⟨S2,hS2⟩:∃S2,S2=if 0≤x.above then U5 (sw.set z.toNat ⟨x.above,x.since,x.shown,x.closed,true⟩) x.above t else (sw.set z.toNat ⟨x.above,x.since,x.shown,x.closed,true⟩):=⟨_,rfl⟩;apply Xb3∘qcx;rintro v M U ⟨b60,rfl,rfl,hR60⟩;replace hR60:=hR60.symm;subst hR60;refine Jqa (Kb (f:=Jo) (p:=la) (a:=z) tb rfl rfl rfl rfl (hlk) zj zxb rfl zA) rfl ?_;rintro v M U ⟨o61,rfl,hok61,rfl,rfl⟩;apply (Xcx);refine Kh tb [] [0,1,2,3,4,5,6,7,8,9,10,11] [12,13] (_) _ K3 zc zi yd ?_;apply (qb3);refine Ku zLb rfl rfl rfl rfl ?_;apply qcv∘Yef;refine Ku (Jkc rfl rfl) rfl rfl rfl rfl ?_;refine Ku (Jt zfb) rfl rfl rfl rfl ?_;refine Vad (k:=67) zfb (fun hg5=>?_) (fun hg5=>?_);·
   replace hg5:=qb hg5;(have eS:U5 (sw.set z.toNat ⟨x.above,x.since,x.shown,x.closed,true⟩) x.above t=S2:=by rw [hS2,if_pos hg5]);have hop:=Uwb (⟨p.o,(sw.set z.toNat ⟨x.above,x.since,x.shown,x.closed,true⟩)⟩:OwL XSwitch) q.val f.reply x.above t R hk1 zx;(have hpv:(⟨p.o,(sw.set z.toNat ⟨x.above,x.since,x.shown,x.closed,true⟩)⟩:OwL XSwitch).val=p.val:=by simp only [OwL.val,hl1,hpn]);rw [hpv] at hop;dsimp only at hop;rw [eS] at hop;refine Ku zkb rfl rfl rfl rfl ?_;apply (qb3);refine Ku zLb rfl rfl rfl rfl ?_;apply qcv∘Yef∘qbf∘qba;refine Yj rfl (Tri.at (by repeat (first | apply Seg.here | apply Seg.cons | apply Seg.app)) hop) rfl rfl ?_;rintro v M U ⟨_,rfl,rfl,hk2,rfl,rfl⟩;refine ⟨zi,zw,?_⟩;apply (Xbw);refine q_c ?_ ?_<;>intro hc4;·(have hg2:S2[z.toNat]?=some ⟨x.above,x.since,x.shown,x.closed,true⟩:=by rw [← eS,Vae za];exact hg1);apply Xcy∘qa6;refine Jx zLb rfl ?_;apply (qb0);refine Jx (Kc tb ((⟨p.o,S2⟩:OwL XSwitch)) rfl rfl rfl zj zg yf zg zb) rfl ?_;apply (qcx);rintro v M U ⟨b81,rfl,rfl,hR81⟩;replace hR81:=hR81.symm;subst hR81;refine Jqa (Kb (f:=Jo) (p:=op) (a:=x.above) tb rfl rfl rfl rfl (hok2) zj zxb rfl zA) rfl ?_;rintro v M U ⟨o82,rfl,hok82,rfl,rfl⟩;apply qc4∘qcs∘Xcr;exact q_k ⟨(z - 1,(⟨o61,la.l ++ [z]⟩,⟨o82,op.l ++ [x.above]⟩),S2),by dsimp only;omega,by dsimp only;rw [hsu,if_pos ⟨hg5,hc4⟩,← eS,yka za],hok61,hok82⟩
   exact uao
  replace hg5:=qb hg5;have eS:(sw.set z.toNat ⟨x.above,x.since,x.shown,x.closed,true⟩)=S2:=by rw [hS2,if_neg hg5]
  have hk2:(⟨p.o,S2⟩:OwL XSwitch).ok 5 XSwitch.cells:=by rw [← eS];exact hk1
  rw [eS];iterate 6 refine Vqc rfl rfl rfl ?_
  apply qba∘qap∘Xbw;refine Y7 rfl ?_;exact uao
 obtain rfl:z= -1:=by omega
 have hTS:Jda f.switches.l f.reply t=⟨sw,la.l,op.l⟩:=by rw [Jda,← hT];congr 1;omega
 apply qbk∘Y0c∘qbm∘qbm∘qak∘Xbs∘Xah;refine q_r (op.L 3 Jo ++ (la.L 3 Jo ++ (q.L 3 Jo ++ ((⟨p.o,sw⟩:OwL XSwitch).L 76 XSwitch.cells ++ L)))) R (U2f rfl zmb zCc zCc zBc) ?_;exact ⟨(⟨p.o,sw⟩:OwL XSwitch),q,f.reply,la,op,by rw [he];simp only [OwL.val,hsl,hpn],⟨hkS,hqk,hlk,hok2⟩,fun _=>⟨by rw [hTS],hql,rfl,by rw [hTS],by rw [hTS]⟩,rfl,rfl⟩
end
end Go.Proofs.YtchfclmokpbldaaGreat
section
/-
  What an append to a full read-only slice gives. By an AI agent; no person has read it.
-/
namespace Go.Aw
open Go
section
variable {P:Program} {ρ:Operand→Value} {L:LB} {R:LS} {dst:Option Tmp} {ty:TypeId} {pos:String} {after:Array Edge} {guard:Option (Nat×Bool)} (tb:Tabs P) {T:TypeId} {x y:Operand}
def Yhd {n : Nat} : ∀ {rows : List (List Value)}, (∀ r ∈ rows, r.length = n) → rows.flatten.length = rows.length * n
 | [],_=>by simp
 | r :: rows,h=>by rw [yYb,yo,Yhd fun r hr=>h r (by simp [hr]),h r zo,yw,yva];omega
end
end Go.Aw
end
namespace Go.Proofs.YtchfclmokpbldaaGreat
open Go.Aw Go
end Go.Proofs.YtchfclmokpbldaaGreat
