/-
  Merged texts. By an AI agent.
-/
import Derived.Test.YtchfclmokpbldaaGreatEval
import Derived.Test.YtchfclmokpbldaaGreatCongrS
import Derived.Test.YtchfclmokpbldaaGreatSiteS
import Derived.Test.YtchfclmokpbldaaGreatFans
set_option linter.all false
set_option maxHeartbeats 4000000
set_option maxRecDepth 20000
namespace Go.Proofs.YtchfclmokpbldaaGreat
open Go.Aw Go
section
attribute [local irreducible] CJ LJ DJ Tri YV Gives Uq J2 Km Ur RV J4 OwL.L
section
variable {A B:Prop}
def Y6c(h:A→B:=by exact K0 zdd rfl rfl rfl):=h
def Vtf(h:A→B:=by exact Jo rfl (ih (i - 1) _ za za za) rfl):=h
def Vlf(h:A→B:=by exact Jy zcb rfl):=h
def Kig(h:B:=by exact ⟨-1,0,rfl,Vv za (by rw [Ue,if_neg h0,← hx,if_neg hc1,if_neg hc3,if_neg za]),rfl,rfl⟩):=h
def Vtg(h:A→B:=by exact Kh tb [0,1,2,3,5,6,7,8,4,9,10,11] ([Blk.mk b7 _ _]) Kr zc zg):=h
end
structure PartQ (l:List XNode) (n:Nat) (i f d:Int):Prop where
 bnd:0≤d∧d≤n
 yes:∀a b,Ue l n i=some (a,b)→f=a∧d=b
 no:Ue l n i=none→f= -1
def Vv {l:List XNode} {n:Nat} {i:Int} {d:Int} (hd:0≤d∧d≤n) (h:Ue l n i=none):PartQ l n i (-1) d:=⟨hd,(fun a b hh=>by rw [h] at hh;cases hh),fun _=>rfl⟩
def Zqa {l:List XNode} {n:Nat} {i f d:Int} (h:Ue l n i=some (f,d)):PartQ l n i f d:=
 ⟨by have:=(Y4 _ _ _ _ h).2.1;omega,(fun a b hh=>by rw [h] at hh;cases hh;exact ⟨rfl,rfl⟩),fun hh=>by rw [h] at hh;cases hh⟩
def Vud (l:Arr XNode) (n:Nat) (i:Int) (L:LB) (R:LS) (hi:i < 0):
 Tri Tryz.prog 176 [l.val,.int .i64 i].toArray L R (fun v M U=>∃f d:Int,v=.tuple #[.int .i64 f,.int .i64 d]∧PartQ l.l n i f d∧L=M∧R=U):=by
 refine Jd 116 Tryz.call176 Tryz.func176 rfl rfl rfl ?_;apply Xac∘Xby∘Xau;apply Kd (G:=[_,_,_,_]) (j:=2) (cj:=15) rfl rfl zb rfl zmb rfl;·exact zue
 intro junk3;apply (qaf);refine q_c ?_ ?_<;>intro hc0;·apply Xac∘Xal;refine q_r L R zed ?_;exact ⟨-1,0,rfl,Vv za (Vba hi n),rfl,rfl⟩
 (exfalso;omega)
def Jtd (l : Arr XNode) (n : Nat) (R : LS) (hl : InR (Yfc l) R) (hn : n ≤ 64)
 (ih:∀(i:Int) (L:LB),i < n→i < l.l.length→-1≤i→Tri Tryz.prog 176 [l.val,.int .i64 i].toArray L R (fun v M U=>∃f d:Int,v=.tuple #[.int .i64 f,.int .i64 d]∧PartQ l.l n i f d∧L=M∧R=U))
 (i:Int) (L:LB) (hi:i < n + 1) (hil:i < l.l.length) (hi1:-1≤i):
 Tri Tryz.prog 176 [l.val,.int .i64 i].toArray L R (fun v M U=>∃f d:Int,v=.tuple #[.int .i64 f,.int .i64 d]∧PartQ l.l (n + 1) i f d∧L=M∧R=U):=by
 refine Jd 116 Tryz.call176 Tryz.func176 rfl rfl rfl ?_;apply Xac∘Xby∘Xau;apply Kd (G:=[_,_,_,_]) (j:=2) (cj:=15) rfl rfl zb rfl zmb rfl;·exact zue
 intro junk3;apply (qaf);refine q_c ?_ ?_<;>intro hc0;·apply Xac∘Xal;refine q_r L R zed ?_;exact ⟨-1,0,rfl,Vv za (Vba za _),rfl,rfl⟩
 have hxg:=Jt (l:=l.l) (k:=i.toNat) default za;obtain ⟨x,hx⟩:∃x,x=l.l.getD i.toNat default:=⟨_,rfl⟩;rw [← hx] at hxg;have h0:¬ i < 0:=by omega
 apply (Xdk);refine Jy zfb rfl ?_;apply (Xcs);intro b6;apply (Xdl);refine J7 (Jb (Kc (Jp (Jh ?_))));apply (Xax);refine q_c ?_ ?_<;>intro hc1;·
  have hpf:Ue l.l (n + 1) i=if x.left=0∧x.right=0∧0≤x.cond∧x.cond < 64 then some (i,1) else none:=by rw [Ue,if_neg h0,← hx,if_pos hc1]
  apply qbi∘Xbt;apply Kd (G:=[_,_,_]) (j:=3) (cj:=32) rfl rfl zb rfl zmb rfl;·intro hg4;replace hg4:=qb hg4;exact (Xaa) zAd
  intro junk4;apply (qah);apply Kd (G:=[_,_,_]) (j:=8) (cj:=37) rfl rfl zb rfl zmb rfl;·intro hg9;replace hg9:=qb hg9;exact (Xaa) zzd
  intro junk9;apply (qah);apply Kd (G:=[_,_,_]) (j:=13) (cj:=42) rfl rfl zb rfl zmb rfl;·intro hg14;replace hg14:=qb hg14;exact (Xaa) zzd
  intro junk14;apply (qaf);refine q_c ?_ ?_<;>intro hc2;·apply Xac∘qad;refine J7 (Jb (K6 (J6 (J9 (J6 ?_)))));refine q_r L R zed ?_;exact ⟨-1,0,rfl,Vv za (by rw [hpf,if_neg za]),rfl,rfl⟩
  apply Xc6∘qad∘qad∘qdb;refine q_r L R zed ?_;exact ⟨i,1,rfl,Zqa (by rw [hpf,if_pos za]),rfl,rfl⟩
 apply (Xbj);refine q_c ?_ ?_<;>intro hc3;·
  have hpf:=Kpb (n:=n) h0 hx hc1 hc3;apply qbi∘Xaa∘Xb3;apply Kd (G:=[_,_,_]) (j:=3) (cj:=53) rfl rfl zb rfl zmb rfl;·exact zqe
  intro junk4;apply (qah);apply Kd (G:=[_,_,_,_,_]) (j:=8) (cj:=58) rfl rfl zb rfl zmb rfl;·intro hg9;replace hg9:=qb hg9;exact (Xdx) qai
  intro junk9;apply (qaf);refine q_c ?_ ?_<;>intro hc4;·
   apply Xac∘qad;refine J7 (Jb (K6 (J6 (J9 (J6 ?_)))));refine q_r L R zed ?_;refine ⟨-1,0,rfl,Vv za ?_,rfl,rfl⟩;rw [hpf];cases Ue l.l n (i - 1) with
   | none=>rfl
   | some z=>obtain ⟨a,b⟩:=z;exact if_neg za
  apply Xdk∘qa9∘Vtf;rintro v M U ⟨f,d,rfl,hP,rfl,rfl⟩;have hPb:=hP.bnd;refine Jy zPb rfl ?_;apply Xdc∘Xav∘Xa2∘qad∘qad∘qdb;refine q_r L R zed ?_;refine ⟨f,d + 1,rfl,?_,rfl,rfl⟩;cases hq:Ue l.l n (i - 1) with
  | none=>rw [hP.no hq];exact Vv za (by rw [hpf,hq])
  | some z=>obtain ⟨a,b⟩:=z;obtain ⟨rfl,rfl⟩:=hP.yes _ _ hq;exact Zqa (by rw [hpf,hq];exact if_pos za)
 apply qbi∘Xax;refine q_c ?_ ?_<;>intro hc5;·refine J3 (Jb ?_);exact uab
 apply qay∘Xax;exact uab
def Yyb (l:Arr XNode) (R:LS) (hl:InR (Yfc l) R):∀(n:Nat),n≤64→∀(i:Int) (L:LB),i < n→i < l.l.length→-1≤i→
 Tri Tryz.prog 176 [l.val,.int .i64 i].toArray L R (fun v M U=>∃f d:Int,v=.tuple #[.int .i64 f,.int .i64 d]∧PartQ l.l n i f d∧L=M∧R=U)
 | 0,_,i,L,hi,_,_=>Vud l 0 i L R za
 | n + 1,hn,i,L,hi,hil,hi1=>Jtd l n R hl za (fun i L h1 h2 h3=>Yyb l R hl n za i L h1 h2 h3) i L hi hil hi1
def V4c (l:Arr XNode) (L:LB) (R:LS) (hl:InR (Yfc l) R):
 Tri Tryz.prog 100 [l.val].toArray L R (fun v M U=>v=.bool (Y6 l.l)∧L=M∧R=U):=by
 refine Jd 27 Tryz.call100 Tryz.func100 rfl rfl rfl ?_;apply Xbh∘qaw∘Xaq∘Xau;apply Kd (G:=[_,_,_]) (j:=3) (cj:=8) rfl rfl zb rfl zmb rfl;·intro hg4;replace hg4:=qb hg4;exact (Xaq∘qa5) qai
 intro junk4;apply (qaf);refine q_c ?_ ?_<;>intro hc0;·exact ubi
 apply Xdy∘Xdz;refine Jo rfl (Yyb l _ hl l.l.length za _ _ za za za) rfl ?_;rintro v M U ⟨f,d,rfl,hP,rfl,rfl⟩;refine Jy zPb rfl ?_;apply Xdc∘Xav∘Xcc;apply Uy (G:=[_,_]) (j:=2) (cj:=23) rfl rfl zb rfl zmb rfl;·intro hg3;replace hg3:=qb hg3;exact (qaa∘qbx) qai
 intro junk3;apply (Xbk);refine q_b L R ?_;refine ⟨?_,rfl,rfl⟩;rw [Y6,show decide (1≤l.l.length∧l.l.length≤64)=true from decide_eq_true za];refine congrArg Value.bool ?_;cases hq:Ue l.l l.l.length ((l.l.length:Int) - 1) with
 | none=>rw [hP.no hq];rfl
 | some z=>obtain ⟨a,b⟩:=z;obtain ⟨rfl,rfl⟩:=hP.yes _ _ hq;rw [yjb];simp
def Z6c (l:Arr XNode) (vals:Arr Int) (R:LS) (hl:InR (Yfc l) R) (hv:InR (isl vals) R) (hr:Y6 l.l=true):∀(k:Nat) (L:LB),k < l.l.length→
 Tri Tryz.prog 101 [l.val,vals.val,.int .i64 (k:Int)].toArray L R (fun v M U=>v=.int .i64 (Una vals.l (Uf l.l vals.l k) (l.l.getD k default))∧L=M∧R=U):=by
 intro k;induction k using Nat.strongRecOn with
 | _ k ih=>
 intro L hk;have hln:=(Jxa.1 hr).1;have hxg:=Jt (l:=l.l) (k:=k) default hk;have hno:=Zsb hr k hk;rw [Vlb] at hno;obtain ⟨x,hx⟩:∃x,x=l.l.getD k default:=⟨_,rfl⟩;rw [← hx] at hxg hno;rw [← hx];have call:∀(j:Int) (L:LB),0≤j→j < k→Tri Tryz.prog 101 [l.val,vals.val,.int .i64 j].toArray L R (fun v M U=>v=.int .i64 ((Uf l.l vals.l k).getD j.toNat 0)∧L=M∧R=U):=fun j L h1 h2=>by have:=ih j.toNat za L za;rw [← Zi (l:=l.l) (vals:=vals.l) (k:=k) za,yia h1] at this;exact this
 have hev:∀j:Nat,-1≤(Uf l.l vals.l k).getD j 0∧(Uf l.l vals.l k).getD j 0≤1:=fun j=>Uta k j;have hev1:=hev x.left.toNat;refine Jd 74 Tryz.call101 Tryz.func101 rfl rfl rfl ?_;apply Xac∘qam∘Xas;refine Jy zC rfl ?_;apply (Xcs);intro b7;apply (Xdl);refine J7 (Jb (Kc (Jp (Jh ?_))));apply (Xax);refine q_c ?_ ?_<;>intro hc0;·
  apply qbi∘Xaa∘Xaq∘qbz∘qah;apply Kd (G:=[_,_,_,_,_,_]) (j:=5) (cj:=21) rfl rfl zb rfl zmb rfl;·intro hg6;replace hg6:=qb hg6;have hcg:=Jt (l:=vals.l) (k:=x.cond.toNat) 0 za;exact (Xb8∘Vlf∘qa7) zJd
  intro junk6;apply (qah);apply Kd (G:=[_,_,_,_,_,_]) (j:=13) (cj:=29) rfl rfl zb rfl zmb rfl;·intro hg14;replace hg14:=qb hg14;have hcg:=Jt (l:=vals.l) (k:=x.cond.toNat) 0 za;exact (Xb8∘Vlf∘qa7∘qa5) qai
  intro junk14;apply (qaf);refine q_c ?_ ?_<;>intro hc1;·apply (Xac);refine J7 (Jb (K6 (J6 (J9 (J6 ?_)))));refine q_i L R ?_;exact ⟨by rw [U1c hc0,Kec,if_neg za],rfl,rfl⟩
  have hcg:=Jt (l:=vals.l) (k:=x.cond.toNat) 0 za;apply qbv∘Xb8∘Vlf∘qa7∘qad∘qdb;refine q_i L R ?_;exact ⟨by rw [U1c hc0,Kec,if_pos za],rfl,rfl⟩
 apply (Xbj);refine q_c ?_ ?_<;>intro hc2;·apply qae∘qbm∘Xb8;refine q_l rfl (call x.left _ za za) ?_;apply qcq∘qad∘qdb;refine q_i L R ?_;exact ⟨by rw [V0e hc2],rfl,rfl⟩
 apply (Xbj);refine q_c ?_ ?_<;>intro hc3;·refine Jp ?_;apply Vtg∘Y6c∘Y6c∘Xak∘Y6c∘Y6c∘Xak;refine q_d rfl (call x.left _ za za) ?_;refine q_d rfl (call x.right _ za za) ?_;refine K0 zHc rfl rfl rfl ?_;apply (qcg);refine J1 (Jb (K6 (J9 (J6 ?_))));refine q_i L R ?_;exact ⟨by rw [K8e hc3],rfl,rfl⟩
 refine J3 (Jf (Jb (Jp ?_)));apply Vtg∘Y6c∘Y6c∘Xak∘Y6c∘Y6c∘Xak;refine q_d rfl (call x.left _ za za) ?_;refine q_d rfl (call x.right _ za za) ?_;refine K0 zgc rfl rfl rfl ?_;apply (qcg);refine J1 (Jb (K6 ?_));refine q_i L R ?_;exact ⟨by rw [Y8e hc0 hc2 hc3],rfl,rfl⟩
def Vdd (l:Arr XNode) (vals:Arr Int) (L:LB) (R:LS) (hl:InR (Yfc l) R) (hv:InR (isl vals) R):
 Tri Tryz.prog 36 [l.val,vals.val].toArray L R (fun v M U=>v=.int .i64 (Kpa l.l vals.l)∧L=M∧R=U):=by
 refine Jd 14 Tryz.call36 Tryz.func36 rfl rfl rfl ?_;apply Xac∘qaw∘qbm;refine q_l rfl (V4c l _ _ hl) ?_;apply (Xbl);refine q_c ?_ ?_<;>intro hc0;·apply (Xa7);refine q_i L R ?_;exact ⟨by rw [Kpa,if_neg zE],rfl,rfl⟩
 have hr:Y6 l.l=true:=by simpa using hc0
 have hln:=(Jxa.1 hr).1;apply (qbv);iterate 3 apply (qbm)
 apply qag∘qa9;refine q_l rfl (Tri.cast (Z6c l vals _ hl hv hr (l.l.length - 1) _ za) (by rw [show ((l.l.length - 1:Nat):Int)=(l.l.length:Int) - 1 by omega];rfl)) ?_;apply (Xai);refine q_i L R ?_;exact ⟨by rw [Kpa,if_pos hr,Zi za],rfl,rfl⟩
end
section
attribute [local irreducible] CJ LJ DJ Tri YV Gives Uq J2 Km Ur RV J4 OwL.L
def Jcd (x:XSpan):Int:=if Z1d x=1 then x.low else if Z1d x= -1 then -x.high else 0
def Jxe (r:XRoad) (fr:Int):Int:=1000 * r.len * r.area * fr
def U3c (r:XRoad) (x:XSpan) (fr sec:Int):Prop:=Jxe r fr=0∨0 < Jcd x∧Jxe r fr≤Jcd x * sec
instance (r:XRoad) (x:XSpan) (fr sec:Int):Decidable (U3c r x fr sec):=by unfold U3c;infer_instance
def Ypf {x:XSpan} (h:Z1d x=1):Jcd x=x.low∧0 < x.low:=by
 refine ⟨by rw [Jcd,if_pos h],?_⟩;rw [Z1d] at h;split at h;·cases h
 split at h;·assumption
 split at h <;> cases h
def Y7f {x:XSpan} (h:Z1d x= -1):Jcd x= -x.high∧x.high < 0:=by
 refine ⟨by rw [Jcd,if_neg za,if_pos h],?_⟩;rw [Z1d] at h;split at h;·cases h
 split at h;·cases h
 split at h;·assumption
 ·cases h
def V1g {x:XSpan} (h:Z1d x≠1) (h':Z1d x≠-1):Jcd x=0:=by rw [Jcd,if_neg h,if_neg h']
def J7f {r:XRoad} {fr:Int} (h1:1≤r.len∧r.len≤100000) (h2:1≤r.area∧r.area≤1000) (h3:0≤fr∧fr≤100):
 (0≤1000 * r.len * r.area∧1000 * r.len * r.area≤100000000000)∧0≤1000 * r.len * r.area * fr∧1000 * r.len * r.area * fr≤10000000000000:=by have a0:0≤1000 * r.len * r.area:=yT za za;have a1:1000 * r.len * r.area≤100000000 * 1000:=yma za za za za;have b0:0≤1000 * r.len * r.area * fr:=yT a0 za;have b1:1000 * r.len * r.area * fr≤100000000000 * 100:=yma za za za za;omega
def Zke {n s l:Int} (hn:1≤n) (hs:0 < s):(n + s - 1).tdiv s≤l↔n≤l * s:=by rw [yaa za];have h:=Int.ediv_lt_iff_lt_mul (a:=n + s - 1) (b:=l + 1) hs;rw [Int.add_mul,Int.one_mul] at h;omega
def Vwd (r:XRoad) (x:XSpan) (fr sec:Int) (L:LB) (R:LS) (h1:1≤r.len∧r.len≤100000) (h2:1≤r.area∧r.area≤1000) (h3:0≤fr∧fr≤100) (h4:0≤sec∧sec≤2147483648):
 Tri Tryz.prog 233 [r.val,x.val,.int .i64 fr,.int .i64 sec].toArray L R (fun v M U=>v=.bool (decide (U3c r x fr sec))∧L=M∧R=U):=by
 have hN:=J7f h1 h2 h3;refine Jd 44 Tryz.call233 Tryz.func233 rfl rfl rfl ?_;apply (Xaf);intro b4;apply (qax);intro b5;apply qaz∘Xcz∘qcm∘Xaa∘qcm∘Xdn∘Xby∘Xbm;refine q_c ?_ ?_<;>intro hc0;·apply (Xdm);refine q_b L R ?_;exact ⟨by rw [decide_eq_true (p:=U3c r x fr sec) (.inl hc0)],rfl,rfl⟩
 have hn1:1≤1000 * r.len * r.area * fr:=by omega
 apply qbo∘qaa∘Xbm;refine q_c ?_ ?_<;>intro hc1;·apply (Xdm);refine q_b L R ?_;refine ⟨by rw [decide_eq_false (p:=U3c r x fr sec)];rintro (h | ⟨_,h⟩) <;> rw [Jxe] at h;omega;rw [hc1,ylc] at h;omega,rfl,rfl⟩
 have hcl:=fun l=>Zke (l:=l) hn1 (show 0 < sec by omega);have hq0:0≤(1000 * r.len * r.area * fr + sec - 1).tdiv sec:=Int.tdiv_nonneg za za;have hq1:(1000 * r.len * r.area * fr + sec - 1).tdiv sec≤100000000000000:=by rw [yaa za];have:=yub (a:=1000 * r.len * r.area * fr + sec - 1) sec za;omega
 apply Xc6∘Xa2∘qa9∘qaa∘qdd∘Xap∘qbe;refine q_l rfl (U4c x _ _) ?_;refine J7 (Jb (Kc (Jp (Jh ?_))));apply (Xax);refine q_c ?_ ?_<;>intro hc2;·apply qae∘Xah∘qbz∘qaz∘qdb;refine q_b L R ?_;have hd:=Ypf hc2;refine ⟨congrArg Value.bool (decide_eq_decide.2 ?_),rfl,rfl⟩;rw [hcl,U3c,Jxe,hd.1];omega
 apply (Xbj);refine q_c ?_ ?_<;>intro hc3;·apply qae∘Xah∘qcq∘qbx∘qaz∘qdb;refine q_b L R ?_;have hd:=Y7f hc3;refine ⟨congrArg Value.bool (decide_eq_decide.2 ?_),rfl,rfl⟩;have:=hcl (-x.high);rw [U3c,Jxe,hd.1];omega
 refine J3 (Jf (Jb (Jp (Jh ?_))));apply (Xbk);refine q_b L R ?_;have hd:=V1g hc2 hc3;refine ⟨by rw [decide_eq_false (p:=U3c r x fr sec)];rintro (h | ⟨h,_⟩);rw [Jxe] at h;omega;omega,rfl,rfl⟩
end
section
def Y0d {e:Int} (h:nzO e=none):e=0:=by
 rw [nzO] at h;split at h;·assumption
 ·cases h
def Uxf {e x:Int} (h:nzO e=some x):x≠0:=by
 rw [nzO] at h;split at h;·cases h
 ·cases h;assumption
structure SiteOk (s:XSite):Prop where
 air:Kx s.air=0
 len:s.sensors.l.length≤64∧s.conds.l.length≤64∧s.zones.l.length≤16∧s.persons.l.length≤64
 sens:∀i:Nat,i < s.sensors.l.length→Zy s.air s.sensors.l i=none
 cond:∀c∈s.conds.l,Kt s.sensors.l s.air.mine.roads.l.length c=0
 zone:∀z∈s.zones.l,V4 s.conds.l.length s.air.mine.roads.l.length z=0
 pers:∀p∈s.persons.l,1≤p∧p≤3
def Ybe {a:XAir} {S:List XSens} {i:Nat} {e:Int} (h:Zy a S i=some e):e≠0:=by
 rw [Zy] at h;split at h;·cases h;assumption
 split at h;·cases h;decide
 split at h;·cases h;decide
 ·cases h
def Jka {s:XSite} (h:K8 s=0):SiteOk s:=by
 rw [K8] at h;split at h;·omega
 split at h;·omega
 split at h;·omega
 split at h;·omega
 split at h;·omega
 rename_i h1 h2 h3 h4 h5;refine ⟨by omega,by omega,fun i hi=>?_,fun c hc=>?_,fun z hz=>?_,fun p hp=>?_⟩;·
  have h3' : Ux s.air s.sensors.l = 0 := by omega
  exact Vy (f:=Zy s.air s.sensors.l) (fun x e hx=>Ybe hx) h3' i (List.mem_range.2 hi)
 ·
  have h4' : K2a s = 0 := by omega
  exact Y0d (Vy (f:=fun c=>nzO (Kt s.sensors.l s.air.mine.roads.l.length c)) (fun x e hx=>Uxf hx) h4' c hc)
 ·
  have h5' : Zl s = 0 := by omega
  exact Y0d (Vy (f:=fun z=>nzO (V4 s.conds.l.length s.air.mine.roads.l.length z)) (fun x e hx=>Uxf hx) h5' z hz)
 ·
  have:=Vy (f:=fun p:Int=>if p < 1∨3 < p then some 19 else none) (fun x e hx=>by
   split at hx;·cases hx;decide
   ·cases hx) h p hp
  exact uaL
def Vxa {α β:Type} {f:α→Option β} {l:List α} (h:∀x∈l,f x=none):l.findSome? f=none:=List.findSome?_eq_none_iff.2 h
def SiteOk.err {s:XSite} (h:SiteOk s):K8 s=0:=by
 have h1:=h.air;have h2:=h.len;have e1:Ux s.air s.sensors.l=0:=by rw [Ux,Vxa (fun i hi=>h.sens i (List.mem_range.1 hi))];rfl
 have e2:K2a s=0:=by rw [K2a,Vxa (fun c hc=>by rw [nzO,if_pos (h.cond c hc)])];rfl
 have e3:Zl s=0:=by rw [Zl,Vxa (fun z hz=>by rw [nzO,if_pos (h.zone z hz)])];rfl
 have e4:J4a s=0:=by rw [J4a,Vxa (fun p hp=>if_neg (by have:=h.pers p hp;omega))];rfl
 rw [K8,if_neg za,if_neg za,if_neg za,if_neg za,if_neg za,e4]
def K2b {S:List XSens} {n:Nat} {c:XCond} (h:Kt S n c=0):(1≤c.kind∧c.kind≤5)∧(0≤c.value∧c.value≤1099511627776)∧(c.kind=1→Yr c.level)∧
 (c.kind=5→0≤c.target∧c.target < n)∧(c.kind≠5→0≤c.target∧c.target < S.length)∧(c.kind=3→(S.getD c.target.toNat default).kind=5):=by
 rw [Kt] at h;split at h;·omega
 rename_i h1;split at h;·omega
 rename_i h2;have h3:Ko S n c=0:=by omega
 have h4:c.kind=1→Yr c.level:=fun hk=>by rw [if_pos hk,Y1] at h;exact ubk
 rw [Ko] at h3;split at h3;·exact ubj
 split at h3;·
  split at h3;·rename_i h5;exact ⟨by omega,by omega,h4,by omega,by omega,fun _=>h5.2⟩
  ·omega
 split at h3;·exact ubj
 ·omega
structure WrO {α:Type} (l0:List α) (g:Nat→α) (i:Nat) (l:List α):Prop where
 len:l.length=l0.length
 don:∀j:Nat,j < i→l[j]?=some (g j)
 old:∀j:Nat,i≤j→l[j]?=l0[j]?
def WrO.zero {α:Type} {l0:List α} {g:Nat→α}:WrO l0 g 0 l0:=⟨rfl,fun j hj=>by omega,fun j _=>rfl⟩
def WrO.next {α:Type} {l0:List α} {g:Nat→α} {i:Nat} {l:List α} (h:WrO l0 g i l) (hi:i < l0.length) {x:α} (hx:x=g i):WrO l0 g (i + 1) (l.set i x):=by
 have hl:=h.len;refine ⟨by simp [hl],fun j hj=>?_,fun j h1=>?_⟩;·
  rw [yG];split;·rename_i e;rw [if_pos za,hx,e]
  ·exact h.don j za
 ·rw [yba za];exact h.old j za
def WrO.stay {α:Type} {l0:List α} {g:Nat→α} {i:Nat} {l:List α} (h:WrO l0 g i l) (hx:l0[i]?=some (g i)):WrO l0 g (i + 1) l:=by
 refine ⟨h.len,fun j hj=>?_,fun j h1=>h.old j za⟩;rcases yl j i with h1 | h1;·exact h.don j h1
 ·
  obtain rfl : j = i := by omega
  rw [h.old j (ym _),hx]
def WrO.done {α:Type} {l0:List α} {g:Nat→α} {l:List α} (h:WrO l0 g l0.length l):l=(List.range l0.length).map g:=by
 have hl:=h.len;refine yra fun j=>?_;rcases yl j l0.length with hj | hj;·rw [h.don j hj,yr,yU hj];rfl
 ·rw [yt za,yt zD]
end
end Go.Proofs.YtchfclmokpbldaaGreat
