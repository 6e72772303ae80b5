/-
  Merged texts. By an AI agent.
-/
import Derived.Test.YtchfclmokpbldaaGreatFeedT
set_option linter.all false
set_option maxHeartbeats 4000000
set_option maxRecDepth 20000
namespace Go.Proofs.YtchfclmokpbldaaGreat
open Go.Aw Go
section
attribute [local irreducible] CJ LJ DJ Tri YV Gives Uq J2 Km Ur RV J4 OwL.L
section
variable {A B:Prop}
def Vee(h:A→B:=by exact Jy zrb rfl):=h
end
def Kng {sw:List XSwitch} {zn:List Int} {rp s t:Int} (h:Vtc sw zn rp s t=0):feedE sw zn rp=0∧(0≤s∧s < sw.length)∧Yia sw t:=by
 rw [Vtc] at h;split at h;·omega
 split at h;·omega
 split at h;·exact ⟨by omega,by omega,by assumption⟩
 ·omega
def U7b (p:OwL XSwitch) (zv:Value) (rp s t:Int) (R:LS) (hpk:p.ok 5 XSwitch.cells) (hs:0≤s∧s < p.l.length):
 Tri Tryz.prog 152 [.agg #[p.val,zv,.int .i64 rp],.int .i64 s,.int .i64 t].toArray (p.L 76 XSwitch.cells) R (fun v M U=>v=.bool (p.l.getD s.toNat default).closed∧(⟨p.o,Yi p.l s t⟩:OwL XSwitch).ok 5 XSwitch.cells∧(⟨p.o,Yi p.l s t⟩:OwL XSwitch).L 76 XSwitch.cells=M∧R=U):=by
 have hg:=Jt (l:=p.l) (k:=s.toNat) default za;obtain ⟨x,hx⟩:∃x,x=p.l.getD s.toNat default:=⟨_,rfl⟩;rw [← hx] at hg;refine Jd 30 Tryz.call152 Tryz.func152 rfl rfl rfl ?_;apply (Xaf);intro b3;apply qaz∘qam∘Xah;refine Jy zoc rfl ?_;apply qc1∘qaw∘qa6;refine Jy zSb rfl ?_;apply (qb0);refine Jy zIb rfl ?_;apply (Xbl);refine q_c ?_ ?_<;>intro hc0;·
  apply (Xdm);refine q_b (p.L 76 XSwitch.cells) R ?_;have h0:x.closed=false:=by simpa using hc0
  have h1:Yi p.l s t=p.l:=by rw [Yi,← hx,h0,if_neg ze]
  exact ⟨by rw [← hx,h0],by rw [h1];exact hpk,by rw [h1],rfl⟩
 apply (qcl);have h0:x.closed=true:=by simpa using hc0
 have hk1:=OwL.set_ok (f:=XSwitch.cells) (wd:=5) (p:=p) (i:=s.toNat) (x:=⟨x.above,x.since,x.shown,false,x.late⟩) yf hpk;have hg1:(p.l.set s.toNat ⟨x.above,x.since,x.shown,false,x.late⟩)[s.toNat]?=some ⟨x.above,x.since,x.shown,false,x.late⟩:=yO za;have hk2:=OwL.set_ok (f:=XSwitch.cells) (wd:=5) (p:=⟨p.o,(p.l.set s.toNat ⟨x.above,x.since,x.shown,false,x.late⟩)⟩) (i:=s.toNat) (x:=⟨x.above,t,x.shown,false,x.late⟩) yf hk1;have hg2:((p.l.set s.toNat ⟨x.above,x.since,x.shown,false,x.late⟩).set s.toNat ⟨x.above,t,x.shown,false,x.late⟩)[s.toNat]?=some ⟨x.above,t,x.shown,false,x.late⟩:=yO zqa;have hk3:=OwL.set_ok (f:=XSwitch.cells) (wd:=5) (p:=⟨p.o,((p.l.set s.toNat ⟨x.above,x.since,x.shown,false,x.late⟩).set s.toNat ⟨x.above,t,x.shown,false,x.late⟩)⟩) (i:=s.toNat) (x:=⟨x.above,t,0,false,x.late⟩) yf hk2;have hg3:(((p.l.set s.toNat ⟨x.above,x.since,x.shown,false,x.late⟩).set s.toNat ⟨x.above,t,x.shown,false,x.late⟩).set s.toNat ⟨x.above,t,0,false,x.late⟩)[s.toNat]?=some ⟨x.above,t,0,false,x.late⟩:=yO (by rw [yE,yE];omega);have hk4:=OwL.set_ok (f:=XSwitch.cells) (wd:=5) (p:=⟨p.o,(((p.l.set s.toNat ⟨x.above,x.since,x.shown,false,x.late⟩).set s.toNat ⟨x.above,t,x.shown,false,x.late⟩).set s.toNat ⟨x.above,t,0,false,x.late⟩)⟩) (i:=s.toNat) (x:=⟨x.above,t,0,false,false⟩) yf hk3;apply (qay);iterate 4 apply (qa6)
 apply (qaa);refine Jy zSb rfl ?_;apply (qb0);refine Ye (Ju tb (p) (⟨x.above,x.since,x.shown,false,x.late⟩) rfl rfl rfl rfl zj zi yf zi ze zb zb) ?_;rintro v M U ⟨rfl,rfl⟩;refine Jy zSb rfl ?_;apply (qb0);refine Ye (Ju tb ((⟨p.o,(p.l.set s.toNat ⟨x.above,x.since,x.shown,false,x.late⟩)⟩:OwL XSwitch)) (⟨x.above,t,x.shown,false,x.late⟩) rfl rfl rfl rfl zj zi yf zi ze zb zb) ?_;rintro v M U ⟨rfl,rfl⟩;refine Jy zSb rfl ?_;apply (qb0);refine Ye (Ju tb ((⟨p.o,((p.l.set s.toNat ⟨x.above,x.since,x.shown,false,x.late⟩).set s.toNat ⟨x.above,t,x.shown,false,x.late⟩)⟩:OwL XSwitch)) (⟨x.above,t,0,false,x.late⟩) rfl rfl rfl rfl zj zi yf zi ze zb zb) ?_;rintro v M U ⟨rfl,rfl⟩;refine Jy zSb rfl ?_;apply (qb0);refine Ye (Ju tb ((⟨p.o,(((p.l.set s.toNat ⟨x.above,x.since,x.shown,false,x.late⟩).set s.toNat ⟨x.above,t,x.shown,false,x.late⟩).set s.toNat ⟨x.above,t,0,false,x.late⟩)⟩:OwL XSwitch)) (⟨x.above,t,0,false,false⟩) rfl rfl rfl rfl zj zi yf zi ze zb zb) ?_;rintro v M U ⟨rfl,rfl⟩;apply qam∘Xbk;refine q_b ((⟨p.o,(((p.l.set s.toNat ⟨x.above,x.since,x.shown,false,x.late⟩).set s.toNat ⟨x.above,t,x.shown,false,x.late⟩).set s.toNat ⟨x.above,t,0,false,x.late⟩).set s.toNat ⟨x.above,t,0,false,false⟩⟩:OwL XSwitch).L 76 XSwitch.cells) R ?_;have h1:Yi p.l s t=(((p.l.set s.toNat ⟨x.above,x.since,x.shown,false,x.late⟩).set s.toNat ⟨x.above,t,x.shown,false,x.late⟩).set s.toNat ⟨x.above,t,0,false,x.late⟩).set s.toNat ⟨x.above,t,0,false,false⟩:=by rw [Yi,← hx,h0,if_pos rfl,yDa,yDa,yDa];rfl
 exact ⟨by rw [← hx,h0],by rw [h1];exact hk4,by rw [h1],rfl⟩
def Vib (f:XFeeder) (s t:Int) (L:LB) (R:LS) (hf:FeederR f R):
 Tri Tryz.prog 78 [f.val,.int .i64 s,.int .i64 t].toArray L R (fun v M U=>∃(p:OwL XSwitch) (q:OwL Int) (r:Int),v=.tuple #[.agg #[p.val,q.val,.int .i64 r],.int .i64 (Vtc f.switches.l f.zones.l f.reply s t)]∧(p.ok 5 XSwitch.cells∧q.ok 1 Jk)∧(Vtc f.switches.l f.zones.l f.reply s t=0→p.l=Yi f.switches.l s t∧q.l=f.zones.l∧r=f.reply)∧q.L 3 Jk ++ (p.L 76 XSwitch.cells ++ L)=M∧R=U):=by
 refine Jd 25 Tryz.call78 Tryz.func78 rfl rfl rfl ?_;apply (Xaf);intro b3;apply (qaq);intro b6;apply Xap∘Vee∘Xcd;refine q_l rfl (Yzb f s t _ _ hf) ?_;apply (Xbi);refine q_c ?_ ?_<;>intro hc0;·apply (qae);refine Jy zYb rfl ?_;apply (Xci);refine q_r L R zhd ?_;exact ⟨.nil,.nil,0,rfl,⟨OwL.nil_ok,OwL.nil_ok⟩,fun h=>absurd h hc0,by rw [Kj,Kj];rfl,rfl⟩
 have hcan:=Kng (Decidable.not_not.1 hc0);have hok:=Yd hcan.1;have hsn:=hok.sn;have hzl:=hok.zl;apply qbv∘Vee;refine Jo rfl (Kkb f _ _ hf za) rfl ?_;rintro v M U ⟨p,q,rfl,⟨hpk,hqk⟩,hpl,hql,rfl,rfl⟩;apply (qaq);intro b9;apply Xa0∘Vee∘Xcd;refine Jo rfl (Tri.at (.cons (.app .here)) (U7b p q.val f.reply s t _ hpk (by rw [hpl];exact hcan.2.1))) rfl ?_;rintro v M U ⟨_,rfl,rfl,hpk2,rfl,rfl⟩;apply qam∘Vee∘Xb0;refine q_r (q.L 3 Jk ++ ((⟨p.o,Yi p.l s t⟩:OwL XSwitch).L 76 XSwitch.cells ++ L)) R zhd ?_;exact ⟨⟨p.o,Yi p.l s t⟩,q,f.reply,by rw [Decidable.not_not.1 hc0];simp only [OwL.val,Zxd],⟨hpk2,hqk⟩,fun _=>⟨by rw [hpl],hql,rfl⟩,rfl,rfl⟩
def Ywc (x:XSwitch) (L:LB) (R:LS):
 Tri Tryz.prog 104 [x.val].toArray L R (fun v M U=>v=.bool (Zjc x)∧L=M∧R=U):=by
 refine Jd 16 Tryz.call104 Tryz.func104 rfl rfl rfl ?_;apply (Xaf);intro b1;apply qaz∘Xcz∘Xda;apply Uy (G:=[_,_,_]) (j:=3) (cj:=6) rfl rfl zb rfl zmb rfl;·exact zqe
 intro junk4;apply (qah);apply Uy (G:=[_,_,_]) (j:=8) (cj:=11) rfl rfl zb rfl zmb rfl;·intro hg9;replace hg9:=qb hg9;exact (Xaa∘qb4) qai
 intro junk9;apply (Xbk);refine q_b L R ?_;exact ⟨by rw [Zjc];try simp [Bool.and_assoc],rfl,rfl⟩
def Ybf (sw:List XSwitch) (zn:List Int) (rp:Int):Int:=if feedE sw zn rp≠0 then 0 else Zxc sw rp
def Z5d (sw:List XSwitch) (rp:Int) (k:Nat):Int:=(sw.take k).foldl (Kvd rp) 1099511627776
def Jke {sw:List XSwitch} {rp:Int} {k:Nat} {x:XSwitch} (h:sw[k]?=some x):Z5d sw rp (k + 1)=Kvd rp (Z5d sw rp k) x:=by rw [Z5d,yfa,h];simp [Z5d]
def Jrc (f:XFeeder) (L:LB) (R:LS) (hf:FeederR f R):
 Tri Tryz.prog 38 [f.val].toArray L R (fun v M U=>v=.int .i64 (Ybf f.switches.l f.zones.l f.reply)∧L=M∧R=U):=by
 have hsR:=hf.sw;refine Jd 27 Tryz.call38 Tryz.func38 rfl rfl rfl ?_;apply (Xaf);intro b1;apply Xap∘Vee;refine q_l rfl (Vz f _ _ hf) ?_;apply (Xat);refine q_c ?_ ?_<;>intro hc0;·apply (Xa7);refine q_i L R ?_;exact ⟨by rw [Ybf,if_pos hc0],rfl,rfl⟩
 have hok:=Yd (Decidable.not_not.1 hc0);have hsn:=hok.sn;have hrp:=hok.rp;apply qbv∘Xap∘Xaz;refine Jl [(1,.pointer _),(3,.int _ _),(10,.slice _ _ _),(11,.int _ _),(12,.int _ _)] zh fun tq0=>?_;refine q_s ([3,5]++rg 12 14) (fun g:{k:Nat // k≤f.switches.l.length}=>[(12,.int .i64 ((g.1:Nat):Int)),(3,.int .i64 (Z5d f.switches.l f.reply g.1))]) (fun g=>f.switches.l.length - g.1) (⟨0,by omega⟩) ?_;rintro ⟨k,hk⟩ junk;try dsimp only
 apply (Xan);refine q_c ?_ ?_<;>intro hc1;·
  have hg:=Jt (l:=f.switches.l) (k:=k) default za;have hsi:=hok.since k za;have hds:=Jke (rp:=f.reply) hg;obtain ⟨x,hx⟩:∃x,x=f.switches.l.getD k default:=⟨_,rfl⟩;rw [← hx] at hg hsi hds;apply (qbb);refine Jy zC rfl ?_;apply qdw∘qaq;intro b5;apply (Xa0);refine Jy zzb rfl ?_;refine q_l rfl (Ywc x _ _) ?_;apply (qaf);refine q_c ?_ ?_<;>intro hc2;·apply Xa9∘Xbe∘qar;refine Jy zHc rfl ?_;apply qad∘Xa8;exact Ki ⟨k + 1,by omega⟩ zm (by dsimp only;rw [hds,Kvd,if_pos hc2];exact ⟨rfl,rfl,trivial⟩) zg zBb zu
  apply (Xay);exact Ki ⟨k + 1,by omega⟩ zm (by dsimp only;rw [hds,Kvd,if_neg (by simp only [hc2];decide)];exact ⟨rfl,rfl,trivial⟩) zg zBb zu
 obtain rfl:k=f.switches.l.length:=by omega
 apply (Xd3);refine q_i L R ?_;exact ⟨by rw [Ybf,if_neg hc0,Zxc,Z5d,yN (ym _)],rfl,rfl⟩
end
section
attribute [local irreducible] CJ LJ DJ Tri YV Gives Uq J2 Km Ur RV J4 OwL.L
section
variable {A B:Prop}
def Zwc(h:A→B:=by exact Jy zrb rfl):=h
def Y1e(h:A→B:=by exact Jy zYb rfl):=h
def Zaf(h:B:=by exact ⟨.nil,.nil,0,by rw [he];rfl,⟨OwL.nil_ok,OwL.nil_ok⟩,fun h=>by omega,by rw [Kj,Kj];rfl,rfl⟩):=h
def U8f(h:A→B:=by exact Kp (Jw tb ((⟨p.o,p.l.set s.toNat ⟨x.above,x.since,t,x.closed,x.late⟩⟩:OwL XSwitch)) _ rfl rfl ((show _=Value.slice _ _ _ from rfl).trans (by simp only [OwL.val,yE])) rfl zi (i:=s.toNat) zk zw) rfl rfl rfl rfl):=h
def Z3f(h:A→B:=by exact Jnb (Ju tb ((⟨p.o,p.l.set s.toNat ⟨x.above,x.since,t,x.closed,x.late⟩⟩:OwL XSwitch)) (⟨x.above,x.since,t,x.closed,lt⟩) rfl rfl rfl rfl zj zi yf zi ze zb zb) rfl rfl):=h
def Vag(h:B:=by exact ⟨⟨p.o,(p.l.set s.toNat ⟨x.above,x.since,t,x.closed,x.late⟩).set s.toNat ⟨x.above,x.since,t,x.closed,lt⟩⟩,q,f.reply,by simp only [he,OwL.val,yE],⟨hpk2,hqk⟩,fun _=>⟨by rw [Z1,← hx,← hpl,← hlt,yDa],hql,rfl⟩,rfl,rfl⟩):=h
def K4g(h:B:=by exact ⟨.nil,.nil,0,.nil,.nil,by rw [he];rfl,⟨OwL.nil_ok,OwL.nil_ok,OwL.nil_ok,OwL.nil_ok⟩,fun h=>by omega,by rw [Kj,Kj];rfl,rfl⟩):=h
def Z9f(h:A→B:=by exact Kp (Ke tb ((⟨p.o,(sw.set z.toNat ⟨x.above,x.since,x.shown,x.closed,true⟩)⟩:OwL XSwitch)) rfl rfl rfl zj zi yf zi zb) rfl rfl rfl rfl):=h
end
def Kcc (f:XFeeder) (s t:Int) (L:LB) (R:LS) (hf:FeederR f R):
 Tri Tryz.prog 153 [f.val,.int .i64 s,.int .i64 t].toArray L R (fun v M U=>∃(p:OwL XSwitch) (q:OwL Int) (r:Int),v=.tuple #[.agg #[p.val,q.val,.int .i64 r],.int .i64 (V7 f.switches.l f.zones.l f.reply s t)]∧(p.ok 5 XSwitch.cells∧q.ok 1 Jk)∧
  (V7 f.switches.l f.zones.l f.reply s t=0→p.l=Z1 f.switches.l s t∧q.l=f.zones.l∧r=f.reply)∧q.L 3 Jk ++ (p.L 76 XSwitch.cells ++ L)=M∧R=U):=by
 have hsR:=hf.sw;refine Jd 57 Tryz.call153 Tryz.func153 rfl rfl rfl ?_;apply (Xaf);intro b3;apply (qaq);intro b6;apply Xap∘Zwc;refine q_l rfl (Vz f _ _ hf) ?_;apply (Xbi);refine q_c ?_ ?_<;>intro hc0;·
  apply qae∘Y1e∘Xci;refine q_r L R zhd ?_;have he:V7 f.switches.l f.zones.l f.reply s t=feedE f.switches.l f.zones.l f.reply:=by rw [V7,if_pos hc0]
  exact Zaf
 apply qbo∘Xcv;apply Kd (G:=[_,_,_,_,_]) (j:=2) (cj:=18) rfl rfl zb rfl zmb rfl;·exact zse
 intro junk3;apply (qaf);refine q_c ?_ ?_<;>intro hc1;·
  apply qae∘Y1e∘Xa3;refine q_r L R zhd ?_;have he:V7 f.switches.l f.zones.l f.reply s t=16:=by rw [V7,if_neg za,if_pos za]
  exact Zaf
 apply qbo∘qaa∘Xb3;apply Uy (G:=[_,_]) (j:=2) (cj:=28) rfl rfl zb rfl zmb rfl;·intro hg3;replace hg3:=qb hg3;exact (qaa) zzd
 intro junk3;apply (qaf);refine q_c ?_ ?_<;>intro hc2;·
  apply qae∘Y1e∘Xa3;refine q_r L R zhd ?_;have he:V7 f.switches.l f.zones.l f.reply s t=10:=by rw [V7,if_neg za,if_neg za,if_pos za]
  exact Zaf
 have he:V7 f.switches.l f.zones.l f.reply s t=0:=by rw [V7,if_neg za,if_neg za,if_neg za]
 have hok:=Yd (sw:=f.switches.l) (zn:=f.zones.l) (rp:=f.reply) za;have hsn:=hok.sn;have hzl:=hok.zl;have hg:=Jt (l:=f.switches.l) (k:=s.toNat) default za;obtain ⟨x,hx⟩:∃x,x=f.switches.l.getD s.toNat default:=⟨_,rfl⟩;rw [← hx] at hg;apply qbv∘Zwc;refine Jo rfl (Kkb f _ _ hf za) rfl ?_;rintro v M U ⟨p,q,rfl,⟨hpk,hqk⟩,hpl,hql,rfl,rfl⟩;apply (qaq);intro b9;apply (Xc1);have hpg:p.l[s.toNat]?=some x:=by rw [hpl];exact hg
 have hpn:p.l.length=f.switches.l.length:=by rw [hpl]
 apply qay∘Xah∘qaa;refine Jy zoc rfl ?_;apply (qb0);refine Ye (Ju tb (p) (⟨x.above,x.since,t,x.closed,x.late⟩) rfl rfl rfl rfl zj zi yf zi ze zb zb) ?_;rintro v M U ⟨rfl,rfl⟩;apply (qa4);have hpk1:=OwL.set_ok (f:=XSwitch.cells) (wd:=5) (p:=p) (i:=s.toNat) (x:=⟨x.above,x.since,t,x.closed,x.late⟩) yf hpk;have hpg1:(p.l.set s.toNat ⟨x.above,x.since,t,x.closed,x.late⟩)[s.toNat]?=some ⟨x.above,x.since,t,x.closed,x.late⟩:=yO za;refine J5 tb [] [0,1,2,3,4,5,6,7,8,9,10,11,12,13,14] [15] (_) _ Kr zc zg yd ?_;apply Xcf∘Xcf∘U8f∘qcv;refine Kp (Ke tb ((⟨p.o,p.l.set s.toNat ⟨x.above,x.since,t,x.closed,x.late⟩⟩:OwL XSwitch)) rfl rfl rfl zj zi yf zi zb) rfl rfl rfl rfl ?_;refine Kp (Jx zmb) rfl rfl rfl rfl ?_;refine Ygd (k:=50) zmb (fun hg9=>?_) (fun hg9=>?_);·
  replace hg9:=qb hg9;let lt:Bool:=decide (¬ t= -1);have hlt:lt=(if t= -1 then false else x.late):=by simp only [lt,hg9];split <;> simp_all
  have hpk2:=OwL.set_ok (f:=XSwitch.cells) (wd:=5) (p:=⟨p.o,p.l.set s.toNat ⟨x.above,x.since,t,x.closed,x.late⟩⟩) (i:=s.toNat) (x:=⟨x.above,x.since,t,x.closed,lt⟩) yf hpk1;apply (qbf);refine Kp (Ypb rfl rfl) rfl rfl rfl rfl ?_;exact zyd
 replace hg9:=qb hg9;let lt:Bool:=false;have hlt:lt=(if t= -1 then false else x.late):=by simp only [lt,hg9];split <;> rfl
 have hpk2:=OwL.set_ok (f:=XSwitch.cells) (wd:=5) (p:=⟨p.o,p.l.set s.toNat ⟨x.above,x.since,t,x.closed,x.late⟩⟩) (i:=s.toNat) (x:=⟨x.above,x.since,t,x.closed,lt⟩) yf hpk1;refine Ydc rfl rfl rfl ?_;refine Ydc rfl rfl rfl ?_;exact zyd
def J1c (sw:List XSwitch) (zn:List Int) (rp t:Int):Int:=if feedE sw zn rp≠0 then feedE sw zn rp else if Yia sw t then 0 else 8
def Kzd {sw:List XSwitch} {rp t z:Int} {y:XTick} (hz:0≤z∧z < sw.length) (h:Yka sw rp t (sw.length - 1 - z).toNat=y):Yka sw rp t (sw.length - 1 - (z - 1)).toNat=Vkb rp t y z.toNat:=by
 have e:((sw.length:Int) - 1 - (z - 1)).toNat=((sw.length:Int) - 1 - z).toNat + 1:=by omega
 have e2:sw.length - 1 - ((sw.length:Int) - 1 - z).toNat=z.toNat:=by omega
 rw [e,Yka,h,e2]
def Kmf {sw sw':List XSwitch} {zn:List Int} {rp t:Int} (h:feedE sw zn rp=0) (k:SwKeep sw sw' t) {i:Nat} (hi:i < sw.length):-1≤(sw'.getD i default).above∧(sw'.getD i default).above < i:=by rw [(k.at_ i hi).1];exact (Yd h).up i hi
def Vue {sw:List XSwitch} {a t:Int} {i:Nat} (h:a.toNat≠i):(Yi sw a t)[i]?=sw[i]?:=by
 rw [Yi];split;·rw [yba h]
 ·rfl
def Zgc (f:XFeeder) (t:Int) (L:LB) (R:LS) (hf:FeederR f R):
 Tri Tryz.prog 158 [f.val,.int .i64 t].toArray L R (fun v M U=>∃(p:OwL XSwitch) (q:OwL Int) (r:Int) (la op:OwL Int),v=.tuple #[.agg #[p.val,q.val,.int .i64 r],la.val,op.val,.int .i64 (J1c f.switches.l f.zones.l f.reply t)]∧(p.ok 5 XSwitch.cells∧q.ok 1 Jk∧la.ok 1 Jk∧op.ok 1 Jk)∧(J1c f.switches.l f.zones.l f.reply t=0→p.l=(Uma f.switches.l f.reply t).sw∧q.l=f.zones.l∧r=f.reply∧la.l=(Uma f.switches.l f.reply t).late∧op.l=(Uma f.switches.l f.reply t).opened)∧op.L 3 Jk ++ (la.L 3 Jk ++ (q.L 3 Jk ++ (p.L 76 XSwitch.cells ++ L)))=M∧R=U):=by
 refine Jd 86 Tryz.call158 Tryz.func158 rfl rfl rfl ?_;apply (Xaf);intro b2;apply (qaq);intro b4;apply Xb4∘Xap∘Zwc;refine q_l rfl (Vz f _ _ hf) ?_;apply (Xbi);refine q_c ?_ ?_<;>intro hc0;·
  apply qae∘Y1e∘qaa∘qak∘Xb4∘Xal;refine q_r L R (Zmf rfl zsb zUc zUc zSc) ?_;have he:J1c f.switches.l f.zones.l f.reply t=feedE f.switches.l f.zones.l f.reply:=by rw [J1c,if_pos hc0]
  exact K4g
 apply qbo∘Zwc∘qaa;refine q_l rfl (Khc f t _ _ hf) ?_;apply (Xbl);refine q_c ?_ ?_<;>intro hc1;·
  apply qae∘Y1e∘qak∘Xb4∘Xal;refine q_r L R (Zmf rfl zsb zUc zUc zSc) ?_;have he:J1c f.switches.l f.zones.l f.reply t=8:=by rw [J1c,if_neg hc0,if_neg zL]
  exact K4g
 have hfe:feedE f.switches.l f.zones.l f.reply=0:=by omega
 have htm:Yia f.switches.l t:=by simpa using hc1
 have he:J1c f.switches.l f.zones.l f.reply t=0:=by rw [J1c,if_neg hc0,if_pos htm]
 have hok:=Yd hfe;have hsn:=hok.sn;have hzl:=hok.zl;have hrp:=hok.rp;apply qbv∘Zwc;refine Jo rfl (Kkb f _ _ hf za) rfl ?_;rintro v M U ⟨p,q,rfl,⟨hpk,hqk⟩,hpl,hql,rfl,rfl⟩;apply (qaq);intro b9;apply Xa0∘Xb4∘qco;have hpn:p.l.length=f.switches.l.length:=by rw [hpl]
 apply qay∘Xab∘qa9∘Xba;refine Jl [(1,.int _ _),(2,.pointer _),(4,.pointer _),(9,.pointer _),(10,.slice _ _ _),(11,.slice _ _ _),(12,.int _ _)] zh fun tq0=>?_;refine Ub ([10,11,12,13]++rg 31 52) ((⟨fun g=>[(12,.int .i64 g.1.1),(10,g.1.2.1.1.val),(11,g.1.2.1.2.val)],fun g=>g.1.2.1.2.L 3 Jk ++ (g.1.2.1.1.L 3 Jk ++ (⟨b9,[p.val,q.val,.int .i64 f.reply],42⟩ :: (q.L 3 Jk ++ ((⟨p.o,g.1.2.2⟩:OwL XSwitch).L 76 XSwitch.cells ++ (⟨b4,[.slice none 0 0,.slice none 0 0,.int .i64 0],42⟩ :: ⟨b2,f.cells,42⟩ :: L))))),fun _=>R,fun g=>(g.1.1 + 1).toNat⟩:Head {g:Int×(OwL Int×OwL Int)×List XSwitch // (-1≤g.1∧g.1 < f.switches.l.length)∧Yka f.switches.l f.reply t (f.switches.l.length - 1 - g.1).toNat=⟨g.2.2,g.2.1.1.l,g.2.1.2.l⟩∧(g.2.1.1.ok 1 Jk∧g.2.1.2.ok 1 Jk)})) (⟨((p.l.length:Int) - 1,(OwL.nil,OwL.nil),p.l),by dsimp only;omega,by dsimp only;rw [show ((f.switches.l.length:Int) - 1 - ((p.l.length:Int) - 1)).toNat=0 by omega,Yka,hpl],OwL.nil_ok,OwL.nil_ok⟩) zh (by simp only [Kj,yx];exact zg) zBb ?_;rintro ⟨⟨z,⟨la,op⟩,sw⟩,hz,hT,hlk,hok2⟩ junk;try dsimp only
 dsimp only at hz hT hlk hok2;have hkeep:SwKeep f.switches.l sw t:=by have:=Vwa (rp:=f.reply) (t:=t) hfe (f.switches.l.length - 1 - z).toNat za;rw [hT] at this;exact this
 have hsl:=hkeep.len;have htln:=Urb (sw:=f.switches.l) (rp:=f.reply) (t:=t) (f.switches.l.length - 1 - z).toNat;rw [hT] at htln;dsimp only at htln;have hkS:(⟨p.o,sw⟩:OwL XSwitch).ok 5 XSwitch.cells:=OwL.len_ok yf hpk (hsl.trans hpn.symm);apply Xa1∘Xcw;refine q_c ?_ ?_<;>intro hc2;·
  have hsu:=Kzd (rp:=f.reply) (t:=t) (z:=z) za hT;have hg:=Jt (l:=sw) (k:=z.toNat) default za;have hab:=Kmf hfe hkeep (i:=z.toNat) za;have hsi:=hkeep.at_ z.toNat za;have hsi0:=hok.since z.toNat za;have htm0:=htm.1;rw [Vkb] at hsu;dsimp only at hsu;obtain ⟨x,hx⟩:∃x,x=sw.getD z.toNat default:=⟨_,rfl⟩;rw [← hx] at hg hab hsi hsu;rw [show V9e x=⟨x.above,x.since,x.shown,x.closed,true⟩ from rfl] at hsu;have hsi1:=hsi.2.1;apply qbb∘Xah;refine Jy (Jw tb ((⟨p.o,sw⟩:OwL XSwitch)) _ rfl rfl ((show _=Value.slice _ _ _ from rfl).trans (by simp only [OwL.val,hsl,hpn])) rfl zi (i:=z.toNat) zk zw) rfl ?_;apply qc1∘qco;refine Kh tb [0,1,2,3,4,5,6,7,8,9,10,11,12,13,14,15] _ Kr zc ye ?_;apply (Xbp);refine K0 (Jgb (row:=[_,_,_,_,_]) tb ((⟨p.o,sw⟩:OwL XSwitch)) rfl rfl rfl zj zi yf zi zb zb) rfl rfl rfl ?_;refine q_d rfl (Ywc x _ _) ?_;refine K0 (Kab rfl) rfl rfl rfl ?_;apply (qb2);refine Vj (k:=44) zmb (fun hg5=>?_) (fun hg5=>?_);·replace hg5:=qb hg5;(iterate 9 apply (qap));apply (Xb7);refine K9 rfl ?_;exact zUd
  replace hg5:=qb hg5;apply qao∘Xbp∘qce;refine K0 (Ke tb ((⟨p.o,sw⟩:OwL XSwitch)) rfl rfl rfl zj zi yf zi zb) rfl rfl rfl ?_;apply qb7∘Xak;refine K0 zPc rfl rfl rfl ?_;apply (Xb7);refine q_c ?_ ?_<;>intro hc3;·exact zUd
  rw [if_pos ⟨by simpa using hg5,by omega⟩] at hsu;apply qbv∘qa6;refine Jy zSb rfl ?_;apply (qb0);refine Ye (Ju tb ((⟨p.o,sw⟩:OwL XSwitch)) (⟨x.above,x.since,x.shown,x.closed,true⟩) rfl rfl rfl rfl zj zi yf zi ze zb zb) ?_;rintro v M U ⟨rfl,rfl⟩;apply (qa4);have hk1:(⟨p.o,(sw.set z.toNat ⟨x.above,x.since,x.shown,x.closed,true⟩)⟩:OwL XSwitch).ok 5 XSwitch.cells:=OwL.set_ok (f:=XSwitch.cells) (wd:=5) (p:=(⟨p.o,sw⟩:OwL XSwitch)) (i:=z.toNat) (x:=⟨x.above,x.since,x.shown,x.closed,true⟩) yf hkS;have hg1:(sw.set z.toNat ⟨x.above,x.since,x.shown,x.closed,true⟩)[z.toNat]?=some ⟨x.above,x.since,x.shown,x.closed,true⟩:=yO za;have hl1:(sw.set z.toNat ⟨x.above,x.since,x.shown,x.closed,true⟩).length=f.switches.l.length:=by rw [yE];exact hsl
  obtain ⟨S2,hS2⟩:∃S2,S2=if 0≤x.above then Yi (sw.set z.toNat ⟨x.above,x.since,x.shown,x.closed,true⟩) x.above t else (sw.set z.toNat ⟨x.above,x.since,x.shown,x.closed,true⟩):=⟨_,rfl⟩;apply Xcg∘qcx;rintro v M U ⟨b60,rfl,rfl,hR60⟩;replace hR60:=hR60.symm;subst hR60;refine Y3 (Jv (f:=Jk) (p:=la) (a:=z) tb rfl rfl rfl rfl (hlk) zj zwb rfl zA) rfl ?_;rintro v M U ⟨o61,rfl,hok61,rfl,rfl⟩;apply (Xdj);refine J5 tb [] [0,1,2,3,4,5,6,7,8,9,10,11] [12,13] (_) _ Kr zc zg yd ?_;apply (qb3);refine Kp zSb rfl rfl rfl rfl ?_;apply qcv∘Z9f;refine Kp (Kxc rfl rfl) rfl rfl rfl rfl ?_;refine Kp (Jx zmb) rfl rfl rfl rfl ?_;refine Ygd (k:=67) zmb (fun hg5=>?_) (fun hg5=>?_);·
   replace hg5:=qb hg5;(have eS:Yi (sw.set z.toNat ⟨x.above,x.since,x.shown,x.closed,true⟩) x.above t=S2:=by rw [hS2,if_pos hg5]);have hop:=U7b (⟨p.o,(sw.set z.toNat ⟨x.above,x.since,x.shown,x.closed,true⟩)⟩:OwL XSwitch) q.val f.reply x.above t R hk1 zu;(have hpv:(⟨p.o,(sw.set z.toNat ⟨x.above,x.since,x.shown,x.closed,true⟩)⟩:OwL XSwitch).val=p.val:=by simp only [OwL.val,hl1,hpn]);rw [hpv] at hop;dsimp only at hop;rw [eS] at hop;refine Kp zrb rfl rfl rfl rfl ?_;apply (qb3);refine Kp zSb rfl rfl rfl rfl ?_;apply qcv∘Z9f∘qbf∘qba;refine Yn rfl (Tri.at (by repeat (first | apply Seg.here | apply Seg.cons | apply Seg.app)) hop) rfl rfl ?_;rintro v M U ⟨_,rfl,rfl,hk2,rfl,rfl⟩;refine ⟨zg,zq,?_⟩;apply (Xb7);refine q_c ?_ ?_<;>intro hc4;·(have hg2:S2[z.toNat]?=some ⟨x.above,x.since,x.shown,x.closed,true⟩:=by rw [← eS,Vue za];exact hg1);apply Xcr∘qa6;refine Jy zSb rfl ?_;apply (qb0);refine Jy (Ke tb ((⟨p.o,S2⟩:OwL XSwitch)) rfl rfl rfl zj zi yf zi zb) rfl ?_;apply (qcx);rintro v M U ⟨b81,rfl,rfl,hR81⟩;replace hR81:=hR81.symm;subst hR81;refine Y3 (Jv (f:=Jk) (p:=op) (a:=x.above) tb rfl rfl rfl rfl (hok2) zj zwb rfl zA) rfl ?_;rintro v M U ⟨o82,rfl,hok82,rfl,rfl⟩;apply qc4∘qcs∘Xb2;exact q_k ⟨(z - 1,(⟨o61,la.l ++ [z]⟩,⟨o82,op.l ++ [x.above]⟩),S2),by dsimp only;omega,by dsimp only;rw [hsu,if_pos ⟨hg5,hc4⟩,← eS,yia za],hok61,hok82⟩
   exact uam
  replace hg5:=qb hg5;have eS:(sw.set z.toNat ⟨x.above,x.since,x.shown,x.closed,true⟩)=S2:=by rw [hS2,if_neg hg5]
  have hk2:(⟨p.o,S2⟩:OwL XSwitch).ok 5 XSwitch.cells:=by rw [← eS];exact hk1
  rw [eS];iterate 6 refine Ydc rfl rfl rfl ?_
  apply qba∘qap∘Xb7;refine Zm rfl ?_;exact uam
 obtain rfl:z= -1:=by omega
 have hTS:Uma f.switches.l f.reply t=⟨sw,la.l,op.l⟩:=by rw [Uma,← hT];congr 1;omega
 apply qbk∘Zwc∘qbm∘qbm∘qak∘Xb4∘Xai;refine q_r (op.L 3 Jk ++ (la.L 3 Jk ++ (q.L 3 Jk ++ ((⟨p.o,sw⟩:OwL XSwitch).L 76 XSwitch.cells ++ L)))) R (Zmf rfl zsb zUc zUc zSc) ?_;exact ⟨(⟨p.o,sw⟩:OwL XSwitch),q,f.reply,la,op,by rw [he];simp only [OwL.val,hsl,hpn],⟨hkS,hqk,hlk,hok2⟩,fun _=>⟨by rw [hTS],hql,rfl,by rw [hTS],by rw [hTS]⟩,rfl,rfl⟩
end
end Go.Proofs.YtchfclmokpbldaaGreat
