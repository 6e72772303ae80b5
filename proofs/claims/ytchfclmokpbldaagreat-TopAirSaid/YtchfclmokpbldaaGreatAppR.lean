/-
  Merged texts. By an AI agent.
-/
import Derived.Test.YtchfclmokpbldaaGreatFeedT
import Derived.Test.YtchfclmokpbldaaGreatFits
set_option linter.all false
set_option maxHeartbeats 4000000
set_option maxRecDepth 20000
namespace Go.Proofs.YtchfclmokpbldaaGreat
open Go.Aw Go
section
attribute [local irreducible] CJ LJ DJ Tri YV Gives U5 J2 Kn U6 RV J4 OwL.L
section
variable {A B:Prop}
def Z9e(h:A→B:=by exact Jy zxb rfl):=h
end
def Jbg {sw:List XSwitch} {zn:List Int} {rp s t:Int} (h:Y2c sw zn rp s t=0):feedE sw zn rp=0∧(0≤s∧s < sw.length)∧Yya sw t:=by
 rw [Y2c] at h;split at h;·omega
 split at h;·omega
 split at h;·exact ⟨by omega,by omega,by assumption⟩
 ·omega
def Vxb (p:OwL XSwitch) (zv:Value) (rp s t:Int) (R:LS) (hpk:p.ok 5 XSwitch.cells) (hs:0≤s∧s < p.l.length):
 Tri Tryz.prog 152 [.agg #[p.val,zv,.int .i64 rp],.int .i64 s,.int .i64 t].toArray (p.L 76 XSwitch.cells) R (fun v U J=>v=.bool (p.l.getD s.toNat default).closed∧(⟨p.o,Yj p.l s t⟩:OwL XSwitch).ok 5 XSwitch.cells∧(⟨p.o,Yj p.l s t⟩:OwL XSwitch).L 76 XSwitch.cells=U∧R=J):=by
 have hg:=Jn (l:=p.l) (k:=s.toNat) default za;obtain ⟨x,hx⟩:∃x,x=p.l.getD s.toNat default:=⟨_,rfl⟩;rw [← hx] at hg;refine Je 30 Tryz.call152 Tryz.func152 rfl rfl rfl ?_;apply (Xaf);intro b3;apply Xbn∘Xah;refine Jy zzc rfl ?_;apply qc1∘qaw∘qa6;refine Jy zWb rfl ?_;apply (qb0);refine Jy zPb rfl ?_;apply (Xbl);refine q_c ?_ ?_<;>intro hc0;·
  apply Xcc∘qbh;refine q_b (p.L 76 XSwitch.cells) R ?_;have h0:x.closed=false:=by simpa using hc0
  have h1:Yj p.l s t=p.l:=by rw [Yj,← hx,h0,if_neg ze]
  exact ⟨by rw [← hx,h0],by rw [h1];exact hpk,by rw [h1],rfl⟩
 apply (qcl);have h0:x.closed=true:=by simpa using hc0
 have hk1:=OwL.set_ok (f:=XSwitch.cells) (wd:=5) (p:=p) (i:=s.toNat) (x:=⟨x.above,x.since,x.shown,false,x.late⟩) yf hpk;have hg1:(p.l.set s.toNat ⟨x.above,x.since,x.shown,false,x.late⟩)[s.toNat]?=some ⟨x.above,x.since,x.shown,false,x.late⟩:=yI za;have hk2:=OwL.set_ok (f:=XSwitch.cells) (wd:=5) (p:=⟨p.o,(p.l.set s.toNat ⟨x.above,x.since,x.shown,false,x.late⟩)⟩) (i:=s.toNat) (x:=⟨x.above,t,x.shown,false,x.late⟩) yf hk1;have hg2:((p.l.set s.toNat ⟨x.above,x.since,x.shown,false,x.late⟩).set s.toNat ⟨x.above,t,x.shown,false,x.late⟩)[s.toNat]?=some ⟨x.above,t,x.shown,false,x.late⟩:=yI zha;have hk3:=OwL.set_ok (f:=XSwitch.cells) (wd:=5) (p:=⟨p.o,((p.l.set s.toNat ⟨x.above,x.since,x.shown,false,x.late⟩).set s.toNat ⟨x.above,t,x.shown,false,x.late⟩)⟩) (i:=s.toNat) (x:=⟨x.above,t,0,false,x.late⟩) yf hk2;have hg3:(((p.l.set s.toNat ⟨x.above,x.since,x.shown,false,x.late⟩).set s.toNat ⟨x.above,t,x.shown,false,x.late⟩).set s.toNat ⟨x.above,t,0,false,x.late⟩)[s.toNat]?=some ⟨x.above,t,0,false,x.late⟩:=yI (by rw [yL,yL];omega);have hk4:=OwL.set_ok (f:=XSwitch.cells) (wd:=5) (p:=⟨p.o,(((p.l.set s.toNat ⟨x.above,x.since,x.shown,false,x.late⟩).set s.toNat ⟨x.above,t,x.shown,false,x.late⟩).set s.toNat ⟨x.above,t,0,false,x.late⟩)⟩) (i:=s.toNat) (x:=⟨x.above,t,0,false,false⟩) yf hk3;apply (qay);iterate 4 apply (qa6)
 apply (qaa);refine Jy zWb rfl ?_;apply (qb0);refine V6 (Ju tb (p) (⟨x.above,x.since,x.shown,false,x.late⟩) rfl rfl rfl rfl zj zg yf zg ze zb zb) ?_;rintro v U J ⟨rfl,rfl⟩;refine Jy zWb rfl ?_;apply (qb0);refine V6 (Ju tb ((⟨p.o,(p.l.set s.toNat ⟨x.above,x.since,x.shown,false,x.late⟩)⟩:OwL XSwitch)) (⟨x.above,t,x.shown,false,x.late⟩) rfl rfl rfl rfl zj zg yf zg ze zb zb) ?_;rintro v U J ⟨rfl,rfl⟩;refine Jy zWb rfl ?_;apply (qb0);refine V6 (Ju tb ((⟨p.o,((p.l.set s.toNat ⟨x.above,x.since,x.shown,false,x.late⟩).set s.toNat ⟨x.above,t,x.shown,false,x.late⟩)⟩:OwL XSwitch)) (⟨x.above,t,0,false,x.late⟩) rfl rfl rfl rfl zj zg yf zg ze zb zb) ?_;rintro v U J ⟨rfl,rfl⟩;refine Jy zWb rfl ?_;apply (qb0);refine V6 (Ju tb ((⟨p.o,(((p.l.set s.toNat ⟨x.above,x.since,x.shown,false,x.late⟩).set s.toNat ⟨x.above,t,x.shown,false,x.late⟩).set s.toNat ⟨x.above,t,0,false,x.late⟩)⟩:OwL XSwitch)) (⟨x.above,t,0,false,false⟩) rfl rfl rfl rfl zj zg yf zg ze zb zb) ?_;rintro v U J ⟨rfl,rfl⟩;apply qam∘Xbb;refine q_b ((⟨p.o,(((p.l.set s.toNat ⟨x.above,x.since,x.shown,false,x.late⟩).set s.toNat ⟨x.above,t,x.shown,false,x.late⟩).set s.toNat ⟨x.above,t,0,false,x.late⟩).set s.toNat ⟨x.above,t,0,false,false⟩⟩:OwL XSwitch).L 76 XSwitch.cells) R ?_;have h1:Yj p.l s t=(((p.l.set s.toNat ⟨x.above,x.since,x.shown,false,x.late⟩).set s.toNat ⟨x.above,t,x.shown,false,x.late⟩).set s.toNat ⟨x.above,t,0,false,x.late⟩).set s.toNat ⟨x.above,t,0,false,false⟩:=by rw [Yj,← hx,h0,if_pos rfl,yPa,yPa,yPa];rfl
 exact ⟨by rw [← hx,h0],by rw [h1];exact hk4,by rw [h1],rfl⟩
def Vpb (f:XFeeder) (s t:Int) (L:LB) (R:LS) (hf:FeederR f R):
 Tri Tryz.prog 78 [f.val,.int .i64 s,.int .i64 t].toArray L R (fun v U J=>∃(p:OwL XSwitch) (q:OwL Int) (r:Int),v=.tuple #[.agg #[p.val,q.val,.int .i64 r],.int .i64 (Y2c f.switches.l f.zones.l f.reply s t)]∧(p.ok 5 XSwitch.cells∧q.ok 1 Jk)∧(Y2c f.switches.l f.zones.l f.reply s t=0→p.l=Yj f.switches.l s t∧q.l=f.zones.l∧r=f.reply)∧q.L 3 Jk ++ (p.L 76 XSwitch.cells ++ L)=U∧R=J):=by
 refine Je 25 Tryz.call78 Tryz.func78 rfl rfl rfl ?_;apply (Xaf);intro b3;apply (qaq);intro b6;apply Xar∘Z9e∘Xbw;refine q_l rfl (Jdc f s t _ _ hf) ?_;apply (Xbh);refine q_c ?_ ?_<;>intro hc0;·apply (qae);refine Jy zcc rfl ?_;apply (Xcl);refine q_r L R ztd ?_;exact ⟨.nil,.nil,0,rfl,⟨OwL.nil_ok,OwL.nil_ok⟩,fun h=>absurd h hc0,by rw [Km,Km];rfl,rfl⟩
 have hcan:=Jbg (Decidable.not_not.1 hc0);have hok:=Ys hcan.1;have hsn:=hok.sn;have hzl:=hok.zl;apply qbv∘Z9e;refine Jw rfl (Khb f _ _ hf za) rfl ?_;rintro v U J ⟨p,q,rfl,⟨hpk,hqk⟩,hpl,hql,rfl,rfl⟩;apply (qaq);intro b9;apply Xaz∘Z9e∘Xbw;refine Jw rfl (Tri.at (.cons (.app .here)) (Vxb p q.val f.reply s t _ hpk (by rw [hpl];exact hcan.2.1))) rfl ?_;rintro v U J ⟨_,rfl,rfl,hpk2,rfl,rfl⟩;apply qam∘Z9e∘Xb3;refine q_r (q.L 3 Jk ++ ((⟨p.o,Yj p.l s t⟩:OwL XSwitch).L 76 XSwitch.cells ++ L)) R ztd ?_;exact ⟨⟨p.o,Yj p.l s t⟩,q,f.reply,by rw [Decidable.not_not.1 hc0];simp only [OwL.val,J1e],⟨hpk2,hqk⟩,fun _=>⟨by rw [hpl],hql,rfl⟩,rfl,rfl⟩
def Uce (x:XSwitch) (L:LB) (R:LS):
 Tri Tryz.prog 104 [x.val].toArray L R (fun v U J=>v=.bool (Yvd x)∧L=U∧R=J):=by
 refine Je 16 Tryz.call104 Tryz.func104 rfl rfl rfl ?_;apply (Xaf);intro b1;apply Xbn∘Xaa∘Xcq;apply K9 (G:=[_,_,_]) (j:=3) (cj:=6) rfl rfl zb rfl zsb rfl;·exact ubq
 intro junk4;apply (qah);apply K9 (G:=[_,_,_]) (j:=8) (cj:=11) rfl rfl zb rfl zsb rfl;·intro hg9;replace hg9:=qb hg9;exact (Xaa) zge
 intro junk9;apply (Xbb);refine q_b L R ?_;exact ⟨by rw [Yvd];try simp [Bool.and_assoc],rfl,rfl⟩
end
section
attribute [local irreducible] CJ LJ DJ Tri YV Gives U5 J2 Kn U6 RV J4 OwL.L
section
variable {A B:Prop}
def Jrd(h:A→B:=by exact Jy zxb rfl):=h
def Yye(h:A→B:=by exact Jy zcc rfl):=h
def Zof(h:B:=by exact ⟨.nil,.nil,0,by rw [he];rfl,⟨OwL.nil_ok,OwL.nil_ok⟩,fun h=>by omega,by rw [Km,Km];rfl,rfl⟩):=h
def Vkf(h:A→B:=by exact Kt (Js tb ((⟨p.o,p.l.set s.toNat ⟨x.above,x.since,t,x.closed,x.late⟩⟩:OwL XSwitch)) _ rfl rfl ((show _=Value.slice _ _ _ from rfl).trans (by simp only [OwL.val,yL])) rfl zg (i:=s.toNat) zk zt) rfl rfl rfl rfl):=h
def Z8f(h:A→B:=by exact Kjb (Ju tb ((⟨p.o,p.l.set s.toNat ⟨x.above,x.since,t,x.closed,x.late⟩⟩:OwL XSwitch)) (⟨x.above,x.since,t,x.closed,lt⟩) rfl rfl rfl rfl zj zg yf zg ze zb zb) rfl rfl):=h
def Vng(h:B:=by exact ⟨⟨p.o,(p.l.set s.toNat ⟨x.above,x.since,t,x.closed,x.late⟩).set s.toNat ⟨x.above,x.since,t,x.closed,lt⟩⟩,q,f.reply,by simp only [he,OwL.val,yL],⟨hpk2,hqk⟩,fun _=>⟨by rw [J8a,← hx,← hpl,← hlt,yPa],hql,rfl⟩,rfl,rfl⟩):=h
def Ujg(h:B:=by exact ⟨.nil,.nil,0,.nil,.nil,by rw [he];rfl,⟨OwL.nil_ok,OwL.nil_ok,OwL.nil_ok,OwL.nil_ok⟩,fun h=>by omega,by rw [Km,Km];rfl,rfl⟩):=h
def Z5f(h:A→B:=by exact Kt (J9 tb ((⟨p.o,(sw.set z.toNat ⟨x.above,x.since,x.shown,x.closed,true⟩)⟩:OwL XSwitch)) rfl rfl rfl zj zg yf zg zb) rfl rfl rfl rfl):=h
end
def Khc (f:XFeeder) (s t:Int) (L:LB) (R:LS) (hf:FeederR f R):
 Tri Tryz.prog 153 [f.val,.int .i64 s,.int .i64 t].toArray L R (fun v U J=>∃(p:OwL XSwitch) (q:OwL Int) (r:Int),v=.tuple #[.agg #[p.val,q.val,.int .i64 r],.int .i64 (Yf f.switches.l f.zones.l f.reply s t)]∧(p.ok 5 XSwitch.cells∧q.ok 1 Jk)∧
  (Yf f.switches.l f.zones.l f.reply s t=0→p.l=J8a f.switches.l s t∧q.l=f.zones.l∧r=f.reply)∧q.L 3 Jk ++ (p.L 76 XSwitch.cells ++ L)=U∧R=J):=by
 have hsR:=hf.sw;refine Je 57 Tryz.call153 Tryz.func153 rfl rfl rfl ?_;apply (Xaf);intro b3;apply (qaq);intro b6;apply Xar∘Jrd;refine q_l rfl (Yo f _ _ hf) ?_;apply (Xbh);refine q_c ?_ ?_<;>intro hc0;·
  apply qae∘Yye∘Xcl;refine q_r L R ztd ?_;have he:Yf f.switches.l f.zones.l f.reply s t=feedE f.switches.l f.zones.l f.reply:=by rw [Yf,if_pos hc0]
  exact Zof
 apply Xc4∘Xav;apply J6 (G:=[_,_,_,_,_]) (j:=2) (cj:=18) rfl rfl zb rfl zsb rfl;·exact zie
 intro junk3;apply (qaf);refine q_c ?_ ?_<;>intro hc1;·
  apply qae∘Yye∘Xa4;refine q_r L R ztd ?_;have he:Yf f.switches.l f.zones.l f.reply s t=16:=by rw [Yf,if_neg za,if_pos za]
  exact Zof
 apply Xc4∘Xb7;apply K9 (G:=[_,_]) (j:=2) (cj:=28) rfl rfl zb rfl zsb rfl;·intro hg3;replace hg3:=qb hg3;exact (qaa) zNd
 intro junk3;apply (qaf);refine q_c ?_ ?_<;>intro hc2;·
  apply qae∘Yye∘Xa4;refine q_r L R ztd ?_;have he:Yf f.switches.l f.zones.l f.reply s t=10:=by rw [Yf,if_neg za,if_neg za,if_pos za]
  exact Zof
 have he:Yf f.switches.l f.zones.l f.reply s t=0:=by rw [Yf,if_neg za,if_neg za,if_neg za]
 have hok:=Ys (sw:=f.switches.l) (zn:=f.zones.l) (rp:=f.reply) za;have hsn:=hok.sn;have hzl:=hok.zl;have hg:=Jn (l:=f.switches.l) (k:=s.toNat) default za;obtain ⟨x,hx⟩:∃x,x=f.switches.l.getD s.toNat default:=⟨_,rfl⟩;rw [← hx] at hg;apply qbv∘Jrd;refine Jw rfl (Khb f _ _ hf za) rfl ?_;rintro v U J ⟨p,q,rfl,⟨hpk,hqk⟩,hpl,hql,rfl,rfl⟩;apply (qaq);intro b9;apply (Xct);have hpg:p.l[s.toNat]?=some x:=by rw [hpl];exact hg
 have hpn:p.l.length=f.switches.l.length:=by rw [hpl]
 apply qay∘Xah∘qaa;refine Jy zzc rfl ?_;apply (qb0);refine V6 (Ju tb (p) (⟨x.above,x.since,t,x.closed,x.late⟩) rfl rfl rfl rfl zj zg yf zg ze zb zb) ?_;rintro v U J ⟨rfl,rfl⟩;apply (qa4);have hpk1:=OwL.set_ok (f:=XSwitch.cells) (wd:=5) (p:=p) (i:=s.toNat) (x:=⟨x.above,x.since,t,x.closed,x.late⟩) yf hpk;have hpg1:(p.l.set s.toNat ⟨x.above,x.since,t,x.closed,x.late⟩)[s.toNat]?=some ⟨x.above,x.since,t,x.closed,x.late⟩:=yI za;refine J7 tb [] [0,1,2,3,4,5,6,7,8,9,10,11,12,13,14] [15] (_) _ Kq zc zi yd ?_;apply Xca∘Xca∘Vkf∘qcv;refine Kt (J9 tb ((⟨p.o,p.l.set s.toNat ⟨x.above,x.since,t,x.closed,x.late⟩⟩:OwL XSwitch)) rfl rfl rfl zj zg yf zg zb) rfl rfl rfl rfl ?_;refine Kt (Jr zsb) rfl rfl rfl rfl ?_;refine Zpd (k:=50) zsb (fun hg9=>?_) (fun hg9=>?_);·
  replace hg9:=qb hg9;let lt:Bool:=decide (¬ t= -1);have hlt:lt=(if t= -1 then false else x.late):=by simp only [lt,hg9];split <;> simp_all
  have hpk2:=OwL.set_ok (f:=XSwitch.cells) (wd:=5) (p:=⟨p.o,p.l.set s.toNat ⟨x.above,x.since,t,x.closed,x.late⟩⟩) (i:=s.toNat) (x:=⟨x.above,x.since,t,x.closed,lt⟩) yf hpk1;apply (qbf);refine Kt (Jxc rfl rfl) rfl rfl rfl rfl ?_;exact zPd
 replace hg9:=qb hg9;let lt:Bool:=false;have hlt:lt=(if t= -1 then false else x.late):=by simp only [lt,hg9];split <;> rfl
 have hpk2:=OwL.set_ok (f:=XSwitch.cells) (wd:=5) (p:=⟨p.o,p.l.set s.toNat ⟨x.above,x.since,t,x.closed,x.late⟩⟩) (i:=s.toNat) (x:=⟨x.above,x.since,t,x.closed,lt⟩) yf hpk1;refine V1c rfl rfl rfl ?_;refine V1c rfl rfl rfl ?_;exact zPd
def Klc (sw:List XSwitch) (zn:List Int) (rp t:Int):Int:=if feedE sw zn rp≠0 then feedE sw zn rp else if Yya sw t then 0 else 8
def Uad {sw:List XSwitch} {rp t z:Int} {y:XTick} (hz:0≤z∧z < sw.length) (h:Yva sw rp t (sw.length - 1 - z).toNat=y):Yva sw rp t (sw.length - 1 - (z - 1)).toNat=Vhb rp t y z.toNat:=by
 have e:((sw.length:Int) - 1 - (z - 1)).toNat=((sw.length:Int) - 1 - z).toNat + 1:=by omega
 have e2:sw.length - 1 - ((sw.length:Int) - 1 - z).toNat=z.toNat:=by omega
 rw [e,Yva,h,e2]
def Jef {sw sw':List XSwitch} {zn:List Int} {rp t:Int} (h:feedE sw zn rp=0) (k:SwKeep sw sw' t) {i:Nat} (hi:i < sw.length):-1≤(sw'.getD i default).above∧(sw'.getD i default).above < i:=by rw [(k.at_ i hi).1];exact (Ys h).up i hi
def Vce {sw:List XSwitch} {a t:Int} {i:Nat} (h:a.toNat≠i):(Yj sw a t)[i]?=sw[i]?:=by
 rw [Yj];split;·rw [yZ h]
 ·rfl
def Jud (f:XFeeder) (t:Int) (L:LB) (R:LS) (hf:FeederR f R):
 Tri Tryz.prog 158 [f.val,.int .i64 t].toArray L R (fun v U J=>∃(p:OwL XSwitch) (q:OwL Int) (r:Int) (la op:OwL Int),v=.tuple #[.agg #[p.val,q.val,.int .i64 r],la.val,op.val,.int .i64 (Klc f.switches.l f.zones.l f.reply t)]∧(p.ok 5 XSwitch.cells∧q.ok 1 Jk∧la.ok 1 Jk∧op.ok 1 Jk)∧(Klc f.switches.l f.zones.l f.reply t=0→p.l=(Uoa f.switches.l f.reply t).sw∧q.l=f.zones.l∧r=f.reply∧la.l=(Uoa f.switches.l f.reply t).late∧op.l=(Uoa f.switches.l f.reply t).opened)∧op.L 3 Jk ++ (la.L 3 Jk ++ (q.L 3 Jk ++ (p.L 76 XSwitch.cells ++ L)))=U∧R=J):=by
 refine Je 86 Tryz.call158 Tryz.func158 rfl rfl rfl ?_;apply (Xaf);intro b2;apply (qaq);intro b4;apply Xb2∘Xar∘Jrd;refine q_l rfl (Yo f _ _ hf) ?_;apply (Xbh);refine q_c ?_ ?_<;>intro hc0;·
  apply qae∘Yye∘qaa∘qak∘Xb2∘Xao;refine q_r L R (Ypf rfl zyb zid zid zgd) ?_;have he:Klc f.switches.l f.zones.l f.reply t=feedE f.switches.l f.zones.l f.reply:=by rw [Klc,if_pos hc0]
  exact Ujg
 apply qbo∘Jrd∘qaa;refine q_l rfl (U3c f t _ _ hf) ?_;apply (Xbl);refine q_c ?_ ?_<;>intro hc1;·
  apply qae∘Yye∘qak∘Xb2∘Xao;refine q_r L R (Ypf rfl zyb zid zid zgd) ?_;have he:Klc f.switches.l f.zones.l f.reply t=8:=by rw [Klc,if_neg hc0,if_neg zM]
  exact Ujg
 have hfe:feedE f.switches.l f.zones.l f.reply=0:=by omega
 have htm:Yya f.switches.l t:=by simpa using hc1
 have he:Klc f.switches.l f.zones.l f.reply t=0:=by rw [Klc,if_neg hc0,if_pos htm]
 have hok:=Ys hfe;have hsn:=hok.sn;have hzl:=hok.zl;have hrp:=hok.rp;apply qbv∘Jrd;refine Jw rfl (Khb f _ _ hf za) rfl ?_;rintro v U J ⟨p,q,rfl,⟨hpk,hqk⟩,hpl,hql,rfl,rfl⟩;apply (qaq);intro b9;apply Xaz∘Xb2∘qco;have hpn:p.l.length=f.switches.l.length:=by rw [hpl]
 apply qay∘Xab∘qa9∘Xbf;refine Jm [(1,.int _ _),(2,.pointer _),(4,.pointer _),(9,.pointer _),(10,.slice _ _ _),(11,.slice _ _ _),(12,.int _ _)] zh fun tq0=>?_;refine Uh ([10,11,12,13]++rg 31 52) ((⟨fun g=>[(12,.int .i64 g.1.1),(10,g.1.2.1.1.val),(11,g.1.2.1.2.val)],fun g=>g.1.2.1.2.L 3 Jk ++ (g.1.2.1.1.L 3 Jk ++ (⟨b9,[p.val,q.val,.int .i64 f.reply],42⟩ :: (q.L 3 Jk ++ ((⟨p.o,g.1.2.2⟩:OwL XSwitch).L 76 XSwitch.cells ++ (⟨b4,[.slice none 0 0,.slice none 0 0,.int .i64 0],42⟩ :: ⟨b2,f.cells,42⟩ :: L))))),fun _=>R,fun g=>(g.1.1 + 1).toNat⟩:Head {g:Int×(OwL Int×OwL Int)×List XSwitch // (-1≤g.1∧g.1 < f.switches.l.length)∧Yva f.switches.l f.reply t (f.switches.l.length - 1 - g.1).toNat=⟨g.2.2,g.2.1.1.l,g.2.1.2.l⟩∧(g.2.1.1.ok 1 Jk∧g.2.1.2.ok 1 Jk)})) (⟨((p.l.length:Int) - 1,(OwL.nil,OwL.nil),p.l),by dsimp only;omega,by dsimp only;rw [show ((f.switches.l.length:Int) - 1 - ((p.l.length:Int) - 1)).toNat=0 by omega,Yva,hpl],OwL.nil_ok,OwL.nil_ok⟩) zh (by simp only [Km,yv];exact zi) zLb ?_;rintro ⟨⟨z,⟨la,op⟩,sw⟩,hz,hT,hlk,hok2⟩ junk;try dsimp only
 dsimp only at hz hT hlk hok2;have hkeep:SwKeep f.switches.l sw t:=by have:=Yla (rp:=f.reply) (t:=t) hfe (f.switches.l.length - 1 - z).toNat za;rw [hT] at this;exact this
 have hsl:=hkeep.len;have htln:=U0b (sw:=f.switches.l) (rp:=f.reply) (t:=t) (f.switches.l.length - 1 - z).toNat;rw [hT] at htln;dsimp only at htln;have hkS:(⟨p.o,sw⟩:OwL XSwitch).ok 5 XSwitch.cells:=OwL.len_ok yf hpk (hsl.trans hpn.symm);apply Xa3∘Xcv;refine q_c ?_ ?_<;>intro hc2;·
  have hsu:=Uad (rp:=f.reply) (t:=t) (z:=z) za hT;have hg:=Jn (l:=sw) (k:=z.toNat) default za;have hab:=Jef hfe hkeep (i:=z.toNat) za;have hsi:=hkeep.at_ z.toNat za;have hsi0:=hok.since z.toNat za;have htm0:=htm.1;rw [Vhb] at hsu;dsimp only at hsu;obtain ⟨x,hx⟩:∃x,x=sw.getD z.toNat default:=⟨_,rfl⟩;rw [← hx] at hg hab hsi hsu;rw [show Uje x=⟨x.above,x.since,x.shown,x.closed,true⟩ from rfl] at hsu;have hsi1:=hsi.2.1;apply qbb∘Xah;refine Jy (Js tb ((⟨p.o,sw⟩:OwL XSwitch)) _ rfl rfl ((show _=Value.slice _ _ _ from rfl).trans (by simp only [OwL.val,hsl,hpn])) rfl zg (i:=z.toNat) zk zt) rfl ?_;apply qc1∘qco;refine Ki tb [0,1,2,3,4,5,6,7,8,9,10,11,12,13,14,15] _ Kq zc ye ?_;apply (Xbo);refine K0 (Uka (row:=[_,_,_,_,_]) tb ((⟨p.o,sw⟩:OwL XSwitch)) rfl rfl rfl zj zg yf zg zb zb) rfl rfl rfl ?_;refine q_d rfl (Uce x _ _) ?_;refine K0 (Ywa rfl) rfl rfl rfl ?_;apply (qb2);refine Vx (k:=44) zsb (fun hg5=>?_) (fun hg5=>?_);·replace hg5:=qb hg5;(iterate 9 apply (qap));apply (Xbv);refine Uf rfl ?_;exact zse
  replace hg5:=qb hg5;apply qao∘Xbo∘qce;refine K0 (J9 tb ((⟨p.o,sw⟩:OwL XSwitch)) rfl rfl rfl zj zg yf zg zb) rfl rfl rfl ?_;apply qb7∘Xai;refine K0 zdd rfl rfl rfl ?_;apply (Xbv);refine q_c ?_ ?_<;>intro hc3;·exact zse
  rw [if_pos ⟨by simpa using hg5,by omega⟩] at hsu;apply qbv∘qa6;refine Jy zWb rfl ?_;apply (qb0);refine V6 (Ju tb ((⟨p.o,sw⟩:OwL XSwitch)) (⟨x.above,x.since,x.shown,x.closed,true⟩) rfl rfl rfl rfl zj zg yf zg ze zb zb) ?_;rintro v U J ⟨rfl,rfl⟩;apply (qa4);have hk1:(⟨p.o,(sw.set z.toNat ⟨x.above,x.since,x.shown,x.closed,true⟩)⟩:OwL XSwitch).ok 5 XSwitch.cells:=OwL.set_ok (f:=XSwitch.cells) (wd:=5) (p:=(⟨p.o,sw⟩:OwL XSwitch)) (i:=z.toNat) (x:=⟨x.above,x.since,x.shown,x.closed,true⟩) yf hkS;have hg1:(sw.set z.toNat ⟨x.above,x.since,x.shown,x.closed,true⟩)[z.toNat]?=some ⟨x.above,x.since,x.shown,x.closed,true⟩:=yI za;have hl1:(sw.set z.toNat ⟨x.above,x.since,x.shown,x.closed,true⟩).length=f.switches.l.length:=by rw [yL];exact hsl
  obtain ⟨S2,hS2⟩:∃S2,S2=if 0≤x.above then Yj (sw.set z.toNat ⟨x.above,x.since,x.shown,x.closed,true⟩) x.above t else (sw.set z.toNat ⟨x.above,x.since,x.shown,x.closed,true⟩):=⟨_,rfl⟩;apply Xb5∘qcx;rintro v U J ⟨b60,rfl,rfl,hR60⟩;replace hR60:=hR60.symm;subst hR60;refine Yv (Jx (f:=Jk) (p:=la) (a:=z) tb rfl rfl rfl rfl (hlk) zj zDb rfl zy) rfl ?_;rintro v U J ⟨o61,rfl,hok61,rfl,rfl⟩;apply (Xcy);refine J7 tb [] [0,1,2,3,4,5,6,7,8,9,10,11] [12,13] (_) _ Kq zc zi yd ?_;apply (qb3);refine Kt zWb rfl rfl rfl rfl ?_;apply qcv∘Z5f;refine Kt zcd rfl rfl rfl rfl ?_;refine Kt (Jr zsb) rfl rfl rfl rfl ?_;refine Zpd (k:=67) zsb (fun hg5=>?_) (fun hg5=>?_);·
   replace hg5:=qb hg5;(have eS:Yj (sw.set z.toNat ⟨x.above,x.since,x.shown,x.closed,true⟩) x.above t=S2:=by rw [hS2,if_pos hg5]);have hop:=Vxb (⟨p.o,(sw.set z.toNat ⟨x.above,x.since,x.shown,x.closed,true⟩)⟩:OwL XSwitch) q.val f.reply x.above t R hk1 zx;(have hpv:(⟨p.o,(sw.set z.toNat ⟨x.above,x.since,x.shown,x.closed,true⟩)⟩:OwL XSwitch).val=p.val:=by simp only [OwL.val,hl1,hpn]);rw [hpv] at hop;dsimp only at hop;rw [eS] at hop;refine Kt zxb rfl rfl rfl rfl ?_;apply (qb3);refine Kt zWb rfl rfl rfl rfl ?_;apply qcv∘Z5f∘qbf∘qba;refine Yp rfl (Tri.at (by repeat (first | apply Seg.here | apply Seg.cons | apply Seg.app)) hop) rfl rfl ?_;rintro v U J ⟨_,rfl,rfl,hk2,rfl,rfl⟩;refine ⟨zi,zq,?_⟩;apply (Xbv);refine q_c ?_ ?_<;>intro hc4;·(have hg2:S2[z.toNat]?=some ⟨x.above,x.since,x.shown,x.closed,true⟩:=by rw [← eS,Vce za];exact hg1);apply Xcs∘qa6;refine Jy zWb rfl ?_;apply (qb0);refine Jy (J9 tb ((⟨p.o,S2⟩:OwL XSwitch)) rfl rfl rfl zj zg yf zg zb) rfl ?_;apply (qcx);rintro v U J ⟨b81,rfl,rfl,hR81⟩;replace hR81:=hR81.symm;subst hR81;refine Yv (Jx (f:=Jk) (p:=op) (a:=x.above) tb rfl rfl rfl rfl (hok2) zj zDb rfl zy) rfl ?_;rintro v U J ⟨o82,rfl,hok82,rfl,rfl⟩;apply qc4∘qcs∘Xch;exact q_k ⟨(z - 1,(⟨o61,la.l ++ [z]⟩,⟨o82,op.l ++ [x.above]⟩),S2),by dsimp only;omega,by dsimp only;rw [hsu,if_pos ⟨hg5,hc4⟩,← eS,yma za],hok61,hok82⟩
   exact uam
  replace hg5:=qb hg5;have eS:(sw.set z.toNat ⟨x.above,x.since,x.shown,x.closed,true⟩)=S2:=by rw [hS2,if_neg hg5]
  have hk2:(⟨p.o,S2⟩:OwL XSwitch).ok 5 XSwitch.cells:=by rw [← eS];exact hk1
  rw [eS];iterate 6 refine V1c rfl rfl rfl ?_
  apply qba∘qap∘Xbv;refine Uw rfl ?_;exact uam
 obtain rfl:z= -1:=by omega
 have hTS:Uoa f.switches.l f.reply t=⟨sw,la.l,op.l⟩:=by rw [Uoa,← hT];congr 1;omega
 apply qbk∘Jrd∘qbm∘qbm∘qak∘Xb2∘Xak;refine q_r (op.L 3 Jk ++ (la.L 3 Jk ++ (q.L 3 Jk ++ ((⟨p.o,sw⟩:OwL XSwitch).L 76 XSwitch.cells ++ L)))) R (Ypf rfl zyb zid zid zgd) ?_;exact ⟨(⟨p.o,sw⟩:OwL XSwitch),q,f.reply,la,op,by rw [he];simp only [OwL.val,hsl,hpn],⟨hkS,hqk,hlk,hok2⟩,fun _=>⟨by rw [hTS],hql,rfl,by rw [hTS],by rw [hTS]⟩,rfl,rfl⟩
end
end Go.Proofs.YtchfclmokpbldaaGreat
section
/-
  What an append to a full read-only slice gives. By an AI agent; no person has read it.
-/
namespace Go.Aw
open Go
section
variable {P:Program} {ρ:Operand→Value} {L:LB} {R:LS} {dst:Option Tmp} {ty:TypeId} {pos:String} {after:Array Edge} {guard:Option (Nat×Bool)} (tb:Tabs P) {T:TypeId} {x y:Operand}
def V3d {n : Nat} : ∀ {rows : List (List Value)}, (∀ r ∈ rows, r.length = n) → rows.flatten.length = rows.length * n
 | [],_=>by simp
 | r :: rows,h=>by rw [ydc,yl,V3d fun r hr=>h r zF,h r zo,yA,yAa];omega
end
end Go.Aw
end
namespace Go.Proofs.YtchfclmokpbldaaGreat
open Go.Aw Go
end Go.Proofs.YtchfclmokpbldaaGreat
