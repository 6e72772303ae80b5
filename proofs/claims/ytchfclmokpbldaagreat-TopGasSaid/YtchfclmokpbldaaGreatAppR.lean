/-
  Merged texts. By an AI agent.
-/
import Derived.Test.YtchfclmokpbldaaGreatFeedT
import Derived.Test.YtchfclmokpbldaaGreatFits
set_option linter.all false
set_option maxHeartbeats 4000000
set_option maxRecDepth 20000
namespace Go.Proofs.YtchfclmokpbldaaGreat
open Go.Aw Go
section
attribute [local irreducible] CJ LJ DJ Tri YV Gives Uq J2 Kj Ut RV J3 OwL.L
section
variable {A B:Prop}
def Kef(h:A→B:=by exact Jw zrb rfl):=h
end
def Zxf {sw:List XSwitch} {zn:List Int} {rp s t:Int} (h:Urc sw zn rp s t=0):feedE sw zn rp=0∧(0≤s∧s < sw.length)∧Yba sw t:=by
 rw [Urc] at h;split at h;·omega
 split at h;·omega
 split at h;·exact ⟨by omega,by omega,by assumption⟩
 ·omega
def Vab (p:OwL XSwitch) (zv:Value) (rp s t:Int) (R:LS) (hpk:p.ok 5 XSwitch.cells) (hs:0≤s∧s < p.l.length):
 Tri Tryz.prog 152 [.agg #[p.val,zv,.int .i64 rp],.int .i64 s,.int .i64 t].toArray (p.L 76 XSwitch.cells) R (fun v U J=>v=.bool (p.l.getD s.toNat default).closed∧(⟨p.o,Ye p.l s t⟩:OwL XSwitch).ok 5 XSwitch.cells∧(⟨p.o,Ye p.l s t⟩:OwL XSwitch).L 76 XSwitch.cells=U∧R=J):=by
 have hg:=Jp (l:=p.l) (k:=s.toNat) default za;obtain ⟨x,hx⟩:∃x,x=p.l.getD s.toNat default:=⟨_,rfl⟩;rw [← hx] at hg;refine Je 30 Tryz.call152 Tryz.func152 rfl rfl rfl ?_;apply (Xaf);intro b3;apply qaz∘qam∘Xah;refine Jw zkc rfl ?_;apply qc1∘qaw∘qa6;refine Jw zQb rfl ?_;apply (qb0);refine Jw zJb rfl ?_;apply (Xbj);refine q_c ?_ ?_<;>intro hc0;·
  apply Xbt∘qbh;refine q_b (p.L 76 XSwitch.cells) R ?_;have h0:x.closed=false:=by simpa using hc0
  have h1:Ye p.l s t=p.l:=by rw [Ye,← hx,h0,if_neg ze]
  exact ⟨by rw [← hx,h0],by rw [h1];exact hpk,by rw [h1],rfl⟩
 apply (qcl);have h0:x.closed=true:=by simpa using hc0
 have hk1:=OwL.set_ok (f:=XSwitch.cells) (wd:=5) (p:=p) (i:=s.toNat) (x:=⟨x.above,x.since,x.shown,false,x.late⟩) yf hpk;have hg1:(p.l.set s.toNat ⟨x.above,x.since,x.shown,false,x.late⟩)[s.toNat]?=some ⟨x.above,x.since,x.shown,false,x.late⟩:=yH za;have hk2:=OwL.set_ok (f:=XSwitch.cells) (wd:=5) (p:=⟨p.o,(p.l.set s.toNat ⟨x.above,x.since,x.shown,false,x.late⟩)⟩) (i:=s.toNat) (x:=⟨x.above,t,x.shown,false,x.late⟩) yf hk1;have hg2:((p.l.set s.toNat ⟨x.above,x.since,x.shown,false,x.late⟩).set s.toNat ⟨x.above,t,x.shown,false,x.late⟩)[s.toNat]?=some ⟨x.above,t,x.shown,false,x.late⟩:=yH zha;have hk3:=OwL.set_ok (f:=XSwitch.cells) (wd:=5) (p:=⟨p.o,((p.l.set s.toNat ⟨x.above,x.since,x.shown,false,x.late⟩).set s.toNat ⟨x.above,t,x.shown,false,x.late⟩)⟩) (i:=s.toNat) (x:=⟨x.above,t,0,false,x.late⟩) yf hk2;have hg3:(((p.l.set s.toNat ⟨x.above,x.since,x.shown,false,x.late⟩).set s.toNat ⟨x.above,t,x.shown,false,x.late⟩).set s.toNat ⟨x.above,t,0,false,x.late⟩)[s.toNat]?=some ⟨x.above,t,0,false,x.late⟩:=yH (by rw [yK,yK];omega);have hk4:=OwL.set_ok (f:=XSwitch.cells) (wd:=5) (p:=⟨p.o,(((p.l.set s.toNat ⟨x.above,x.since,x.shown,false,x.late⟩).set s.toNat ⟨x.above,t,x.shown,false,x.late⟩).set s.toNat ⟨x.above,t,0,false,x.late⟩)⟩) (i:=s.toNat) (x:=⟨x.above,t,0,false,false⟩) yf hk3;apply (qay);iterate 4 apply (qa6)
 apply (qaa);refine Jw zQb rfl ?_;apply (qb0);refine Vk (Jn tb (p) (⟨x.above,x.since,x.shown,false,x.late⟩) rfl rfl rfl rfl zj zg yf zg ze zb zb) ?_;rintro v U J ⟨rfl,rfl⟩;refine Jw zQb rfl ?_;apply (qb0);refine Vk (Jn tb ((⟨p.o,(p.l.set s.toNat ⟨x.above,x.since,x.shown,false,x.late⟩)⟩:OwL XSwitch)) (⟨x.above,t,x.shown,false,x.late⟩) rfl rfl rfl rfl zj zg yf zg ze zb zb) ?_;rintro v U J ⟨rfl,rfl⟩;refine Jw zQb rfl ?_;apply (qb0);refine Vk (Jn tb ((⟨p.o,((p.l.set s.toNat ⟨x.above,x.since,x.shown,false,x.late⟩).set s.toNat ⟨x.above,t,x.shown,false,x.late⟩)⟩:OwL XSwitch)) (⟨x.above,t,0,false,x.late⟩) rfl rfl rfl rfl zj zg yf zg ze zb zb) ?_;rintro v U J ⟨rfl,rfl⟩;refine Jw zQb rfl ?_;apply (qb0);refine Vk (Jn tb ((⟨p.o,(((p.l.set s.toNat ⟨x.above,x.since,x.shown,false,x.late⟩).set s.toNat ⟨x.above,t,x.shown,false,x.late⟩).set s.toNat ⟨x.above,t,0,false,x.late⟩)⟩:OwL XSwitch)) (⟨x.above,t,0,false,false⟩) rfl rfl rfl rfl zj zg yf zg ze zb zb) ?_;rintro v U J ⟨rfl,rfl⟩;apply qam∘Xbs;refine q_b ((⟨p.o,(((p.l.set s.toNat ⟨x.above,x.since,x.shown,false,x.late⟩).set s.toNat ⟨x.above,t,x.shown,false,x.late⟩).set s.toNat ⟨x.above,t,0,false,x.late⟩).set s.toNat ⟨x.above,t,0,false,false⟩⟩:OwL XSwitch).L 76 XSwitch.cells) R ?_;have h1:Ye p.l s t=(((p.l.set s.toNat ⟨x.above,x.since,x.shown,false,x.late⟩).set s.toNat ⟨x.above,t,x.shown,false,x.late⟩).set s.toNat ⟨x.above,t,0,false,x.late⟩).set s.toNat ⟨x.above,t,0,false,false⟩:=by rw [Ye,← hx,h0,if_pos rfl,yLa,yLa,yLa];rfl
 exact ⟨by rw [← hx,h0],by rw [h1];exact hk4,by rw [h1],rfl⟩
def U4b (f:XFeeder) (s t:Int) (L:LB) (R:LS) (hf:FeederR f R):
 Tri Tryz.prog 78 [f.val,.int .i64 s,.int .i64 t].toArray L R (fun v U J=>∃(p:OwL XSwitch) (q:OwL Int) (r:Int),v=.tuple #[.agg #[p.val,q.val,.int .i64 r],.int .i64 (Urc f.switches.l f.zones.l f.reply s t)]∧(p.ok 5 XSwitch.cells∧q.ok 1 Jj)∧(Urc f.switches.l f.zones.l f.reply s t=0→p.l=Ye f.switches.l s t∧q.l=f.zones.l∧r=f.reply)∧q.L 3 Jj ++ (p.L 76 XSwitch.cells ++ L)=U∧R=J):=by
 refine Je 25 Tryz.call78 Tryz.func78 rfl rfl rfl ?_;apply (Xaf);intro b3;apply (qaq);intro b6;apply Xar∘Kef∘Xb4;refine q_l rfl (Zub f s t _ _ hf) ?_;apply (Xbb);refine q_c ?_ ?_<;>intro hc0;·apply (qae);refine Jw zVb rfl ?_;apply (Xcg);refine q_r L R zbd ?_;exact ⟨.nil,.nil,0,rfl,⟨OwL.nil_ok,OwL.nil_ok⟩,fun h=>absurd h hc0,by rw [Kk,Kk];rfl,rfl⟩
 have hcan:=Zxf (Decidable.not_not.1 hc0);have hok:=Yn hcan.1;have hsn:=hok.sn;have hzl:=hok.zl;apply qbv∘Kef;refine Jv rfl (Keb f _ _ hf za) rfl ?_;rintro v U J ⟨p,q,rfl,⟨hpk,hqk⟩,hpl,hql,rfl,rfl⟩;apply (qaq);intro b9;apply Xaz∘Kef∘Xb4;refine Jv rfl (Tri.at (.cons (.app .here)) (Vab p q.val f.reply s t _ hpk (by rw [hpl];exact hcan.2.1))) rfl ?_;rintro v U J ⟨_,rfl,rfl,hpk2,rfl,rfl⟩;apply qam∘Kef∘Xb2;refine q_r (q.L 3 Jj ++ ((⟨p.o,Ye p.l s t⟩:OwL XSwitch).L 76 XSwitch.cells ++ L)) R zbd ?_;exact ⟨⟨p.o,Ye p.l s t⟩,q,f.reply,by rw [Decidable.not_not.1 hc0];simp only [OwL.val,Y7d],⟨hpk2,hqk⟩,fun _=>⟨by rw [hpl],hql,rfl⟩,rfl,rfl⟩
def Vje (x:XSwitch) (L:LB) (R:LS):
 Tri Tryz.prog 104 [x.val].toArray L R (fun v U J=>v=.bool (V6d x)∧L=U∧R=J):=by
 refine Je 16 Tryz.call104 Tryz.func104 rfl rfl rfl ?_;apply (Xaf);intro b1;apply qaz∘Xde∘Xcm;apply Ui (G:=[_,_,_]) (j:=3) (cj:=6) rfl rfl zb rfl zmb rfl;·exact ubp
 intro junk4;apply (qah);apply Ui (G:=[_,_,_]) (j:=8) (cj:=11) rfl rfl zb rfl zmb rfl;·intro hg9;replace hg9:=qb hg9;exact (Xaa) zNd
 intro junk9;apply (Xbs);refine q_b L R ?_;exact ⟨by rw [V6d];try simp [Bool.and_assoc],rfl,rfl⟩
end
section
attribute [local irreducible] CJ LJ DJ Tri YV Gives Uq J2 Kj Ut RV J3 OwL.L
section
variable {A B:Prop}
def Yuc(h:A→B:=by exact Jw zrb rfl):=h
def K0e(h:A→B:=by exact Jw zVb rfl):=h
def U4f(h:B:=by exact ⟨.nil,.nil,0,by rw [he];rfl,⟨OwL.nil_ok,OwL.nil_ok⟩,fun h=>by omega,by rw [Kk,Kk];rfl,rfl⟩):=h
def Yof(h:A→B:=by exact Ku (Jo tb ((⟨p.o,p.l.set s.toNat ⟨x.above,x.since,t,x.closed,x.late⟩⟩:OwL XSwitch)) _ rfl rfl ((show _=Value.slice _ _ _ from rfl).trans (by simp only [OwL.val,yK])) rfl zg (i:=s.toNat) zk zp) rfl rfl rfl rfl):=h
def J7g(h:A→B:=by exact Ywa (Jn tb ((⟨p.o,p.l.set s.toNat ⟨x.above,x.since,t,x.closed,x.late⟩⟩:OwL XSwitch)) (⟨x.above,x.since,t,x.closed,lt⟩) rfl rfl rfl rfl zj zg yf zg ze zb zb) rfl rfl):=h
def Zof(h:B:=by exact ⟨⟨p.o,(p.l.set s.toNat ⟨x.above,x.since,t,x.closed,x.late⟩).set s.toNat ⟨x.above,x.since,t,x.closed,lt⟩⟩,q,f.reply,by simp only [he,OwL.val,yK],⟨hpk2,hqk⟩,fun _=>⟨by rw [Jsa,← hx,← hpl,← hlt,yLa],hql,rfl⟩,rfl,rfl⟩):=h
def Ung(h:B:=by exact ⟨.nil,.nil,0,.nil,.nil,by rw [he];rfl,⟨OwL.nil_ok,OwL.nil_ok,OwL.nil_ok,OwL.nil_ok⟩,fun h=>by omega,by rw [Kk,Kk];rfl,rfl⟩):=h
def Jjg(h:A→B:=by exact Ku (J4 tb ((⟨p.o,(sw.set z.toNat ⟨x.above,x.since,x.shown,x.closed,true⟩)⟩:OwL XSwitch)) rfl rfl rfl zj zg yf zg zb) rfl rfl rfl rfl):=h
end
def Jnc (f:XFeeder) (s t:Int) (L:LB) (R:LS) (hf:FeederR f R):
 Tri Tryz.prog 153 [f.val,.int .i64 s,.int .i64 t].toArray L R (fun v U J=>∃(p:OwL XSwitch) (q:OwL Int) (r:Int),v=.tuple #[.agg #[p.val,q.val,.int .i64 r],.int .i64 (Ya f.switches.l f.zones.l f.reply s t)]∧(p.ok 5 XSwitch.cells∧q.ok 1 Jj)∧
  (Ya f.switches.l f.zones.l f.reply s t=0→p.l=Jsa f.switches.l s t∧q.l=f.zones.l∧r=f.reply)∧q.L 3 Jj ++ (p.L 76 XSwitch.cells ++ L)=U∧R=J):=by
 have hsR:=hf.sw;refine Je 57 Tryz.call153 Tryz.func153 rfl rfl rfl ?_;apply (Xaf);intro b3;apply (qaq);intro b6;apply Xar∘Yuc;refine q_l rfl (Yh f _ _ hf) ?_;apply (Xbb);refine q_c ?_ ?_<;>intro hc0;·
  apply qae∘K0e∘Xcg;refine q_r L R zbd ?_;have he:Ya f.switches.l f.zones.l f.reply s t=feedE f.switches.l f.zones.l f.reply:=by rw [Ya,if_pos hc0]
  exact U4f
 apply qbo∘Xck;apply Kf (G:=[_,_,_,_,_]) (j:=2) (cj:=18) rfl rfl zb rfl zmb rfl;·exact zme
 intro junk3;apply (qaf);refine q_c ?_ ?_<;>intro hc1;·
  apply qae∘K0e∘Xa3;refine q_r L R zbd ?_;have he:Ya f.switches.l f.zones.l f.reply s t=16:=by rw [Ya,if_neg za,if_pos za]
  exact U4f
 apply qbo∘qaa∘Xb7;apply Ui (G:=[_,_]) (j:=2) (cj:=28) rfl rfl zb rfl zmb rfl;·intro hg3;replace hg3:=qb hg3;exact (qaa) zvd
 intro junk3;apply (qaf);refine q_c ?_ ?_<;>intro hc2;·
  apply qae∘K0e∘Xa3;refine q_r L R zbd ?_;have he:Ya f.switches.l f.zones.l f.reply s t=10:=by rw [Ya,if_neg za,if_neg za,if_pos za]
  exact U4f
 have he:Ya f.switches.l f.zones.l f.reply s t=0:=by rw [Ya,if_neg za,if_neg za,if_neg za]
 have hok:=Yn (sw:=f.switches.l) (zn:=f.zones.l) (rp:=f.reply) za;have hsn:=hok.sn;have hzl:=hok.zl;have hg:=Jp (l:=f.switches.l) (k:=s.toNat) default za;obtain ⟨x,hx⟩:∃x,x=f.switches.l.getD s.toNat default:=⟨_,rfl⟩;rw [← hx] at hg;apply qbv∘Yuc;refine Jv rfl (Keb f _ _ hf za) rfl ?_;rintro v U J ⟨p,q,rfl,⟨hpk,hqk⟩,hpl,hql,rfl,rfl⟩;apply (qaq);intro b9;apply (Xcp);have hpg:p.l[s.toNat]?=some x:=by rw [hpl];exact hg
 have hpn:p.l.length=f.switches.l.length:=by rw [hpl]
 apply qay∘Xah∘qaa;refine Jw zkc rfl ?_;apply (qb0);refine Vk (Jn tb (p) (⟨x.above,x.since,t,x.closed,x.late⟩) rfl rfl rfl rfl zj zg yf zg ze zb zb) ?_;rintro v U J ⟨rfl,rfl⟩;apply (qa4);have hpk1:=OwL.set_ok (f:=XSwitch.cells) (wd:=5) (p:=p) (i:=s.toNat) (x:=⟨x.above,x.since,t,x.closed,x.late⟩) yf hpk;have hpg1:(p.l.set s.toNat ⟨x.above,x.since,t,x.closed,x.late⟩)[s.toNat]?=some ⟨x.above,x.since,t,x.closed,x.late⟩:=yH za;refine J7 tb [] [0,1,2,3,4,5,6,7,8,9,10,11,12,13,14] [15] (_) _ Ko zc zi yd ?_;apply Xcb∘Xcb∘Yof∘qcv;refine Ku (J4 tb ((⟨p.o,p.l.set s.toNat ⟨x.above,x.since,t,x.closed,x.late⟩⟩:OwL XSwitch)) rfl rfl rfl zj zg yf zg zb) rfl rfl rfl rfl ?_;refine Ku (Jz zmb) rfl rfl rfl rfl ?_;refine Y0d (k:=50) zmb (fun hg9=>?_) (fun hg9=>?_);·
  replace hg9:=qb hg9;let lt:Bool:=decide (¬ t= -1);have hlt:lt=(if t= -1 then false else x.late):=by simp only [lt,hg9];split <;> simp_all
  have hpk2:=OwL.set_ok (f:=XSwitch.cells) (wd:=5) (p:=⟨p.o,p.l.set s.toNat ⟨x.above,x.since,t,x.closed,x.late⟩⟩) (i:=s.toNat) (x:=⟨x.above,x.since,t,x.closed,lt⟩) yf hpk1;apply (qbf);refine Ku (Zyb rfl rfl) rfl rfl rfl rfl ?_;exact zwd
 replace hg9:=qb hg9;let lt:Bool:=false;have hlt:lt=(if t= -1 then false else x.late):=by simp only [lt,hg9];split <;> rfl
 have hpk2:=OwL.set_ok (f:=XSwitch.cells) (wd:=5) (p:=⟨p.o,p.l.set s.toNat ⟨x.above,x.since,t,x.closed,x.late⟩⟩) (i:=s.toNat) (x:=⟨x.above,x.since,t,x.closed,lt⟩) yf hpk1;refine U5c rfl rfl rfl ?_;refine U5c rfl rfl rfl ?_;exact zwd
def Jzc (sw:List XSwitch) (zn:List Int) (rp t:Int):Int:=if feedE sw zn rp≠0 then feedE sw zn rp else if Yba sw t then 0 else 8
def Kbd {sw:List XSwitch} {rp t z:Int} {y:XTick} (hz:0≤z∧z < sw.length) (h:Yea sw rp t (sw.length - 1 - z).toNat=y):Yea sw rp t (sw.length - 1 - (z - 1)).toNat=Vgb rp t y z.toNat:=by
 have e:((sw.length:Int) - 1 - (z - 1)).toNat=((sw.length:Int) - 1 - z).toNat + 1:=by omega
 have e2:sw.length - 1 - ((sw.length:Int) - 1 - z).toNat=z.toNat:=by omega
 rw [e,Yea,h,e2]
def J9f {sw sw':List XSwitch} {zn:List Int} {rp t:Int} (h:feedE sw zn rp=0) (k:SwKeep sw sw' t) {i:Nat} (hi:i < sw.length):-1≤(sw'.getD i default).above∧(sw'.getD i default).above < i:=by rw [(k.at_ i hi).1];exact (Yn h).up i hi
def Ute {sw:List XSwitch} {a t:Int} {i:Nat} (h:a.toNat≠i):(Ye sw a t)[i]?=sw[i]?:=by
 rw [Ye];split;·rw [yba h]
 ·rfl
def Y2c (f:XFeeder) (t:Int) (L:LB) (R:LS) (hf:FeederR f R):
 Tri Tryz.prog 158 [f.val,.int .i64 t].toArray L R (fun v U J=>∃(p:OwL XSwitch) (q:OwL Int) (r:Int) (la op:OwL Int),v=.tuple #[.agg #[p.val,q.val,.int .i64 r],la.val,op.val,.int .i64 (Jzc f.switches.l f.zones.l f.reply t)]∧(p.ok 5 XSwitch.cells∧q.ok 1 Jj∧la.ok 1 Jj∧op.ok 1 Jj)∧(Jzc f.switches.l f.zones.l f.reply t=0→p.l=(Uba f.switches.l f.reply t).sw∧q.l=f.zones.l∧r=f.reply∧la.l=(Uba f.switches.l f.reply t).late∧op.l=(Uba f.switches.l f.reply t).opened)∧op.L 3 Jj ++ (la.L 3 Jj ++ (q.L 3 Jj ++ (p.L 76 XSwitch.cells ++ L)))=U∧R=J):=by
 refine Je 86 Tryz.call158 Tryz.func158 rfl rfl rfl ?_;apply (Xaf);intro b2;apply (qaq);intro b4;apply Xbp∘Xar∘Yuc;refine q_l rfl (Yh f _ _ hf) ?_;apply (Xbb);refine q_c ?_ ?_<;>intro hc0;·
  apply qae∘K0e∘qaa∘qak∘Xbp∘Xao;refine q_r L R (Uyf rfl zsb zRc zRc zPc) ?_;have he:Jzc f.switches.l f.zones.l f.reply t=feedE f.switches.l f.zones.l f.reply:=by rw [Jzc,if_pos hc0]
  exact Ung
 apply qbo∘Yuc∘qaa;refine q_l rfl (Kmc f t _ _ hf) ?_;apply (Xbj);refine q_c ?_ ?_<;>intro hc1;·
  apply qae∘K0e∘qak∘Xbp∘Xao;refine q_r L R (Uyf rfl zsb zRc zRc zPc) ?_;have he:Jzc f.switches.l f.zones.l f.reply t=8:=by rw [Jzc,if_neg hc0,if_neg zL]
  exact Ung
 have hfe:feedE f.switches.l f.zones.l f.reply=0:=by omega
 have htm:Yba f.switches.l t:=by simpa using hc1
 have he:Jzc f.switches.l f.zones.l f.reply t=0:=by rw [Jzc,if_neg hc0,if_pos htm]
 have hok:=Yn hfe;have hsn:=hok.sn;have hzl:=hok.zl;have hrp:=hok.rp;apply qbv∘Yuc;refine Jv rfl (Keb f _ _ hf za) rfl ?_;rintro v U J ⟨p,q,rfl,⟨hpk,hqk⟩,hpl,hql,rfl,rfl⟩;apply (qaq);intro b9;apply Xaz∘Xbp∘qco;have hpn:p.l.length=f.switches.l.length:=by rw [hpl]
 apply qay∘Xab∘qa9∘Xbq;refine Jm [(1,.int _ _),(2,.pointer _),(4,.pointer _),(9,.pointer _),(10,.slice _ _ _),(11,.slice _ _ _),(12,.int _ _)] zh fun tq0=>?_;refine Up ([10,11,12,13]++rg 31 52) ((⟨fun g=>[(12,.int .i64 g.1.1),(10,g.1.2.1.1.val),(11,g.1.2.1.2.val)],fun g=>g.1.2.1.2.L 3 Jj ++ (g.1.2.1.1.L 3 Jj ++ (⟨b9,[p.val,q.val,.int .i64 f.reply],42⟩ :: (q.L 3 Jj ++ ((⟨p.o,g.1.2.2⟩:OwL XSwitch).L 76 XSwitch.cells ++ (⟨b4,[.slice none 0 0,.slice none 0 0,.int .i64 0],42⟩ :: ⟨b2,f.cells,42⟩ :: L))))),fun _=>R,fun g=>(g.1.1 + 1).toNat⟩:Head {g:Int×(OwL Int×OwL Int)×List XSwitch // (-1≤g.1∧g.1 < f.switches.l.length)∧Yea f.switches.l f.reply t (f.switches.l.length - 1 - g.1).toNat=⟨g.2.2,g.2.1.1.l,g.2.1.2.l⟩∧(g.2.1.1.ok 1 Jj∧g.2.1.2.ok 1 Jj)})) (⟨((p.l.length:Int) - 1,(OwL.nil,OwL.nil),p.l),by dsimp only;omega,by dsimp only;rw [show ((f.switches.l.length:Int) - 1 - ((p.l.length:Int) - 1)).toNat=0 by omega,Yea,hpl],OwL.nil_ok,OwL.nil_ok⟩) zh (by simp only [Kk,yv];exact zi) zAb ?_;rintro ⟨⟨z,⟨la,op⟩,sw⟩,hz,hT,hlk,hok2⟩ junk;try dsimp only
 dsimp only at hz hT hlk hok2;have hkeep:SwKeep f.switches.l sw t:=by have:=Vra (rp:=f.reply) (t:=t) hfe (f.switches.l.length - 1 - z).toNat za;rw [hT] at this;exact this
 have hsl:=hkeep.len;have htln:=Urb (sw:=f.switches.l) (rp:=f.reply) (t:=t) (f.switches.l.length - 1 - z).toNat;rw [hT] at htln;dsimp only at htln;have hkS:(⟨p.o,sw⟩:OwL XSwitch).ok 5 XSwitch.cells:=OwL.len_ok yf hpk (hsl.trans hpn.symm);apply Xa6∘Xcu;refine q_c ?_ ?_<;>intro hc2;·
  have hsu:=Kbd (rp:=f.reply) (t:=t) (z:=z) za hT;have hg:=Jp (l:=sw) (k:=z.toNat) default za;have hab:=J9f hfe hkeep (i:=z.toNat) za;have hsi:=hkeep.at_ z.toNat za;have hsi0:=hok.since z.toNat za;have htm0:=htm.1;rw [Vgb] at hsu;dsimp only at hsu;obtain ⟨x,hx⟩:∃x,x=sw.getD z.toNat default:=⟨_,rfl⟩;rw [← hx] at hg hab hsi hsu;rw [show Vie x=⟨x.above,x.since,x.shown,x.closed,true⟩ from rfl] at hsu;have hsi1:=hsi.2.1;apply qbb∘Xah;refine Jw (Jo tb ((⟨p.o,sw⟩:OwL XSwitch)) _ rfl rfl ((show _=Value.slice _ _ _ from rfl).trans (by simp only [OwL.val,hsl,hpn])) rfl zg (i:=z.toNat) zk zp) rfl ?_;apply qc1∘qco;refine Ke tb [0,1,2,3,4,5,6,7,8,9,10,11,12,13,14,15] _ Ko zc ye ?_;apply (Xbn);refine Ks (K2a (row:=[_,_,_,_,_]) tb ((⟨p.o,sw⟩:OwL XSwitch)) rfl rfl rfl zj zg yf zg zb zb) rfl rfl rfl ?_;refine q_d rfl (Vje x _ _) ?_;refine Ks (U5a rfl) rfl rfl rfl ?_;apply (qb2);refine U1 (k:=44) zmb (fun hg5=>?_) (fun hg5=>?_);·replace hg5:=qb hg5;(iterate 9 apply (qap));apply (Xb0);refine Uh rfl ?_;exact zUd
  replace hg5:=qb hg5;apply qao∘Xbn∘qce;refine Ks (J4 tb ((⟨p.o,sw⟩:OwL XSwitch)) rfl rfl rfl zj zg yf zg zb) rfl rfl rfl ?_;apply qb7∘Xal;refine Ks zvc rfl rfl rfl ?_;apply (Xb0);refine q_c ?_ ?_<;>intro hc3;·exact zUd
  rw [if_pos ⟨by simpa using hg5,by omega⟩] at hsu;apply qbv∘qa6;refine Jw zQb rfl ?_;apply (qb0);refine Vk (Jn tb ((⟨p.o,sw⟩:OwL XSwitch)) (⟨x.above,x.since,x.shown,x.closed,true⟩) rfl rfl rfl rfl zj zg yf zg ze zb zb) ?_;rintro v U J ⟨rfl,rfl⟩;apply (qa4);have hk1:(⟨p.o,(sw.set z.toNat ⟨x.above,x.since,x.shown,x.closed,true⟩)⟩:OwL XSwitch).ok 5 XSwitch.cells:=OwL.set_ok (f:=XSwitch.cells) (wd:=5) (p:=(⟨p.o,sw⟩:OwL XSwitch)) (i:=z.toNat) (x:=⟨x.above,x.since,x.shown,x.closed,true⟩) yf hkS;have hg1:(sw.set z.toNat ⟨x.above,x.since,x.shown,x.closed,true⟩)[z.toNat]?=some ⟨x.above,x.since,x.shown,x.closed,true⟩:=yH za;have hl1:(sw.set z.toNat ⟨x.above,x.since,x.shown,x.closed,true⟩).length=f.switches.l.length:=by rw [yK];exact hsl
  obtain ⟨S2,hS2⟩:∃S2,S2=if 0≤x.above then Ye (sw.set z.toNat ⟨x.above,x.since,x.shown,x.closed,true⟩) x.above t else (sw.set z.toNat ⟨x.above,x.since,x.shown,x.closed,true⟩):=⟨_,rfl⟩;apply Xb3∘qcx;rintro v U J ⟨b60,rfl,rfl,hR60⟩;replace hR60:=hR60.symm;subst hR60;refine Za (Jy (f:=Jj) (p:=la) (a:=z) tb rfl rfl rfl rfl (hlk) zj zwb rfl zy) rfl ?_;rintro v U J ⟨o61,rfl,hok61,rfl,rfl⟩;apply (Xc0);refine J7 tb [] [0,1,2,3,4,5,6,7,8,9,10,11] [12,13] (_) _ Ko zc zi yd ?_;apply (qb3);refine Ku zQb rfl rfl rfl rfl ?_;apply qcv∘Jjg;refine Ku (Kvc rfl rfl) rfl rfl rfl rfl ?_;refine Ku (Jz zmb) rfl rfl rfl rfl ?_;refine Y0d (k:=67) zmb (fun hg5=>?_) (fun hg5=>?_);·
   replace hg5:=qb hg5;(have eS:Ye (sw.set z.toNat ⟨x.above,x.since,x.shown,x.closed,true⟩) x.above t=S2:=by rw [hS2,if_pos hg5]);have hop:=Vab (⟨p.o,(sw.set z.toNat ⟨x.above,x.since,x.shown,x.closed,true⟩)⟩:OwL XSwitch) q.val f.reply x.above t R hk1 zx;(have hpv:(⟨p.o,(sw.set z.toNat ⟨x.above,x.since,x.shown,x.closed,true⟩)⟩:OwL XSwitch).val=p.val:=by simp only [OwL.val,hl1,hpn]);rw [hpv] at hop;dsimp only at hop;rw [eS] at hop;refine Ku zrb rfl rfl rfl rfl ?_;apply (qb3);refine Ku zQb rfl rfl rfl rfl ?_;apply qcv∘Jjg∘qbf∘qba;refine Vo rfl (Tri.at (by repeat (first | apply Seg.here | apply Seg.cons | apply Seg.app)) hop) rfl rfl ?_;rintro v U J ⟨_,rfl,rfl,hk2,rfl,rfl⟩;refine ⟨zi,zt,?_⟩;apply (Xb0);refine q_c ?_ ?_<;>intro hc4;·(have hg2:S2[z.toNat]?=some ⟨x.above,x.since,x.shown,x.closed,true⟩:=by rw [← eS,Ute za];exact hg1);apply Xcj∘qa6;refine Jw zQb rfl ?_;apply (qb0);refine Jw (J4 tb ((⟨p.o,S2⟩:OwL XSwitch)) rfl rfl rfl zj zg yf zg zb) rfl ?_;apply (qcx);rintro v U J ⟨b81,rfl,rfl,hR81⟩;replace hR81:=hR81.symm;subst hR81;refine Za (Jy (f:=Jj) (p:=op) (a:=x.above) tb rfl rfl rfl rfl (hok2) zj zwb rfl zy) rfl ?_;rintro v U J ⟨o82,rfl,hok82,rfl,rfl⟩;apply qc4∘qcs∘Xcc;exact q_k ⟨(z - 1,(⟨o61,la.l ++ [z]⟩,⟨o82,op.l ++ [x.above]⟩),S2),by dsimp only;omega,by dsimp only;rw [hsu,if_pos ⟨hg5,hc4⟩,← eS,yma za],hok61,hok82⟩
   exact uam
  replace hg5:=qb hg5;have eS:(sw.set z.toNat ⟨x.above,x.since,x.shown,x.closed,true⟩)=S2:=by rw [hS2,if_neg hg5]
  have hk2:(⟨p.o,S2⟩:OwL XSwitch).ok 5 XSwitch.cells:=by rw [← eS];exact hk1
  rw [eS];iterate 6 refine U5c rfl rfl rfl ?_
  apply qba∘qap∘Xb0;refine V4 rfl ?_;exact uam
 obtain rfl:z= -1:=by omega
 have hTS:Uba f.switches.l f.reply t=⟨sw,la.l,op.l⟩:=by rw [Uba,← hT];congr 1;omega
 apply qbk∘Yuc∘qbm∘qbm∘qak∘Xbp∘Xam;refine q_r (op.L 3 Jj ++ (la.L 3 Jj ++ (q.L 3 Jj ++ ((⟨p.o,sw⟩:OwL XSwitch).L 76 XSwitch.cells ++ L)))) R (Uyf rfl zsb zRc zRc zPc) ?_;exact ⟨(⟨p.o,sw⟩:OwL XSwitch),q,f.reply,la,op,by rw [he];simp only [OwL.val,hsl,hpn],⟨hkS,hqk,hlk,hok2⟩,fun _=>⟨by rw [hTS],hql,rfl,by rw [hTS],by rw [hTS]⟩,rfl,rfl⟩
end
end Go.Proofs.YtchfclmokpbldaaGreat
section
/-
  What an append to a full read-only slice gives. By an AI agent; no person has read it.
-/
namespace Go.Aw
open Go
section
variable {P:Program} {ρ:Operand→Value} {L:LB} {R:LS} {dst:Option Tmp} {ty:TypeId} {pos:String} {after:Array Edge} {guard:Option (Nat×Bool)} (tb:Tabs P) {T:TypeId} {x y:Operand}
def Vud {n : Nat} : ∀ {rows : List (List Value)}, (∀ r ∈ rows, r.length = n) → rows.flatten.length = rows.length * n
 | [],_=>by simp
 | r :: rows,h=>by rw [ygc,yl,Vud fun r hr=>h r zI,h r zo,yA,yya];omega
end
end Go.Aw
end
namespace Go.Proofs.YtchfclmokpbldaaGreat
open Go.Aw Go
end Go.Proofs.YtchfclmokpbldaaGreat
