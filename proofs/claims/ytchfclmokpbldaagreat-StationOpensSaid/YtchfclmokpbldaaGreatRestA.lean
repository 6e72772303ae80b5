/-
  Merged texts. By an AI agent.
-/
import Derived.Test.YtchfclmokpbldaaGreatCutB
import Derived.Test.YtchfclmokpbldaaGreatRefA
import Derived.Test.YtchfclmokpbldaaGreatAnal
import Derived.Test.YtchfclmokpbldaaGreatSiteS
import Derived.Test.YtchfclmokpbldaaGreatFans
set_option linter.all false
set_option maxHeartbeats 4000000
set_option maxRecDepth 20000
namespace Go.Proofs.YtchfclmokpbldaaGreat
open Go.Aw Go
section
attribute [local irreducible] CJ LJ DJ Tri YV Gives U7 Kb Kp U8 RV Ke OwL.L
def Z7c (x:XSpan):Int:=if Zbd x=1 then x.low else if Zbd x= -1 then -x.high else 0
def Zad (r:XRoad) (fr:Int):Int:=1000 * r.len * r.area * fr
def Ukc (r:XRoad) (x:XSpan) (fr sec:Int):Prop:=Zad r fr=0∨0 < Z7c x∧Zad r fr≤Z7c x * sec
instance (r:XRoad) (x:XSpan) (fr sec:Int):Decidable (Ukc r x fr sec):=by unfold Ukc;infer_instance
def K6f {x:XSpan} (h:Zbd x=1):Z7c x=x.low∧0 < x.low:=by
 refine ⟨by rw [Z7c,if_pos h],?_⟩;rw [Zbd] at h;split at h;·cases h
 split at h;·assumption
 split at h <;> cases h
def Kof {x:XSpan} (h:Zbd x= -1):Z7c x= -x.high∧x.high < 0:=by
 refine ⟨by rw [Z7c,if_neg zc,if_pos h],?_⟩;rw [Zbd] at h;split at h;·cases h
 split at h;·cases h
 split at h;·assumption
 ·cases h
def Z0f {x:XSpan} (h:Zbd x≠1) (h':Zbd x≠-1):Z7c x=0:=by rw [Z7c,if_neg h,if_neg h']
def Zfe {r:XRoad} {fr:Int} (h1:1≤r.len∧r.len≤100000) (h2:1≤r.area∧r.area≤1000) (h3:0≤fr∧fr≤100):
 (0≤1000 * r.len * r.area∧1000 * r.len * r.area≤100000000000)∧0≤1000 * r.len * r.area * fr∧1000 * r.len * r.area * fr≤10000000000000:=by have a0:0≤1000 * r.len * r.area:=yR zc zc;have a1:1000 * r.len * r.area≤100000000 * 1000:=yea zc zc zc zc;have b0:0≤1000 * r.len * r.area * fr:=yR a0 zc;have b1:1000 * r.len * r.area * fr≤100000000000 * 100:=yea zc zc zc zc;omega
def Vje {n s l:Int} (hn:1≤n) (hs:0 < s):(n + s - 1).tdiv s≤l↔n≤l * s:=by rw [yO zc];have h:=Int.ediv_lt_iff_lt_mul (a:=n + s - 1) (b:=l + 1) hs;rw [Int.add_mul,Int.one_mul] at h;omega
def Kxd (r:XRoad) (x:XSpan) (fr sec:Int) (L:LB) (R:LS) (h1:1≤r.len∧r.len≤100000) (h2:1≤r.area∧r.area≤1000) (h3:0≤fr∧fr≤100) (h4:0≤sec∧sec≤2147483648):
 Tri Tryz.prog 233 [r.val,x.val,.int .i64 fr,.int .i64 sec].toArray L R (fun v M U=>v=.bool (decide (Ukc r x fr sec))∧L=M∧R=U):=by
 have hN:=Zfe h1 h2 h3;refine Jd 44 Tryz.call233 Tryz.func233 rfl rfl rfl ?_;apply (Xag);intro b4;apply (qax);intro b5;apply qaz∘Xdu∘qcm∘Xaa∘qcm∘Xed∘Xau∘qaa∘Xa6;refine q_c ?_ ?_<;>intro hc0;·apply (Xc0);refine q_b L R ?_;exact ⟨by rw [decide_eq_true (p:=Ukc r x fr sec) (.inl hc0)],rfl,rfl⟩
 have hn1:1≤1000 * r.len * r.area * fr:=by omega
 apply qbo∘qaa∘Xa6;refine q_c ?_ ?_<;>intro hc1;·apply (Xc0);refine q_b L R ?_;refine ⟨by rw [decide_eq_false (p:=Ukc r x fr sec)];rintro (h | ⟨_,h⟩) <;> rw [Zad] at h;omega;rw [hc1,ydc] at h;omega,rfl,rfl⟩
 have hcl:=fun l=>Vje (l:=l) hn1 (show 0 < sec by omega);have hq0:0≤(1000 * r.len * r.area * fr + sec - 1).tdiv sec:=Int.tdiv_nonneg zc zc;have hq1:(1000 * r.len * r.area * fr + sec - 1).tdiv sec≤100000000000000:=by rw [yO zc];have:=yzb (a:=1000 * r.len * r.area * fr + sec - 1) sec zc;omega
 apply qbv∘Xbu∘qar∘qa9∘qaa∘qdd∘Xau∘qbe;refine q_l rfl (Uoc x _ _) ?_;refine J6 (Ja (Jy (Ji (Je ?_))));apply (Xba);refine q_c ?_ ?_<;>intro hc2;·apply qae∘Xaf∘qbz∘qaz∘qdb;refine q_b L R ?_;have hd:=K6f hc2;refine ⟨congrArg Value.bool (decide_eq_decide.2 ?_),rfl,rfl⟩;rw [hcl,Ukc,Zad,hd.1];omega
 apply (Xbx);refine q_c ?_ ?_<;>intro hc3;·apply qae∘Xaf∘qcq∘qbx∘qaz∘qdb;refine q_b L R ?_;have hd:=Kof hc3;refine ⟨congrArg Value.bool (decide_eq_decide.2 ?_),rfl,rfl⟩;have:=hcl (-x.high);rw [Ukc,Zad,hd.1];omega
 refine Jt (Jg (Ja (Ji (Je ?_))));apply (Xbb);refine q_b L R ?_;have hd:=Z0f hc2 hc3;refine ⟨by rw [decide_eq_false (p:=Ukc r x fr sec)];rintro (h | ⟨h,_⟩);rw [Zad] at h;omega;omega,rfl,rfl⟩
end
section
def Vhd {e:Int} (h:nzO e=none):e=0:=by
 rw [nzO] at h;split at h;·assumption
 ·cases h
def Jdf {e x:Int} (h:nzO e=some x):x≠0:=by
 rw [nzO] at h;split at h;·cases h
 ·cases h;assumption
structure SiteOk (s:XSite):Prop where
 air:Ko s.air=0
 len:s.sensors.l.length≤64∧s.conds.l.length≤64∧s.zones.l.length≤16∧s.persons.l.length≤64
 sens:∀i:Nat,i < s.sensors.l.length→Yx s.air s.sensors.l i=none
 cond:∀c∈s.conds.l,J7 s.sensors.l s.air.mine.roads.l.length c=0
 zone:∀z∈s.zones.l,Yi s.conds.l.length s.air.mine.roads.l.length z=0
 pers:∀p∈s.persons.l,1≤p∧p≤3
def K7e {a:XAir} {S:List XSens} {i:Nat} {e:Int} (h:Yx a S i=some e):e≠0:=by
 rw [Yx] at h;split at h;·cases h;assumption
 split at h;·cases h;decide
 split at h;·cases h;decide
 ·cases h
def Ys {s:XSite} (h:K7 s=0):SiteOk s:=by
 rw [K7] at h;split at h;·omega
 split at h;·omega
 split at h;·omega
 split at h;·omega
 split at h;·omega
 rename_i h1 h2 h3 h4 h5;refine ⟨by omega,by omega,fun i hi=>?_,fun c hc=>?_,fun z hz=>?_,fun p hp=>?_⟩;·
  have h3' : Uf s.air s.sensors.l = 0 := by omega
  exact Yg (f:=Yx s.air s.sensors.l) (fun x e hx=>K7e hx) h3' i (List.mem_range.2 hi)
 ·
  have h4' : Zv s = 0 := by omega
  exact Vhd (Yg (f:=fun c=>nzO (J7 s.sensors.l s.air.mine.roads.l.length c)) (fun x e hx=>Jdf hx) h4' c hc)
 ·
  have h5' : Yd s = 0 := by omega
  exact Vhd (Yg (f:=fun z=>nzO (Yi s.conds.l.length s.air.mine.roads.l.length z)) (fun x e hx=>Jdf hx) h5' z hz)
 ·
  have:=Yg (f:=fun p:Int=>if p < 1∨3 < p then some 19 else none) (fun x e hx=>by
   split at hx;·cases hx;decide
   ·cases hx) h p hp
  exact ua2
def Vpa {α β:Type} {f:α→Option β} {l:List α} (h:∀x∈l,f x=none):l.findSome? f=none:=List.findSome?_eq_none_iff.2 h
def SiteOk.err {s:XSite} (h:SiteOk s):K7 s=0:=by
 have h1:=h.air;have h2:=h.len;have e1:Uf s.air s.sensors.l=0:=by rw [Uf,Vpa (fun i hi=>h.sens i (List.mem_range.1 hi))];rfl
 have e2:Zv s=0:=by rw [Zv,Vpa (fun c hc=>by rw [nzO,if_pos (h.cond c hc)])];rfl
 have e3:Yd s=0:=by rw [Yd,Vpa (fun z hz=>by rw [nzO,if_pos (h.zone z hz)])];rfl
 have e4:Yu s=0:=by rw [Yu,Vpa (fun p hp=>if_neg (by have:=h.pers p hp;omega))];rfl
 rw [K7,if_neg zc,if_neg zc,if_neg zc,if_neg zc,if_neg zc,e4]
def Vnc {S:List XSens} {n:Nat} {c:XCond} (h:J7 S n c=0):(1≤c.kind∧c.kind≤5)∧(0≤c.value∧c.value≤1099511627776)∧(c.kind=1→Zj c.level)∧
 (c.kind=5→0≤c.target∧c.target < n)∧(c.kind≠5→0≤c.target∧c.target < S.length)∧(c.kind=3→(S.getD c.target.toNat default).kind=5):=by
 rw [J7] at h;split at h;·omega
 rename_i h1;split at h;·omega
 rename_i h2;have h3:J4 S n c=0:=by omega
 have h4:c.kind=1→Zj c.level:=fun hk=>by
  rw [if_pos hk,Za] at h;split at h;·assumption
  ·omega
 rw [J4] at h3;split at h3;·exact ubD
 split at h3;·
  split at h3;·rename_i h5;exact ⟨by omega,by omega,h4,by omega,by omega,fun _=>h5.2⟩
  ·omega
 split at h3;·exact ubD
 ·omega
structure WrO {α:Type} (l0:List α) (g:Nat→α) (i:Nat) (l:List α):Prop where
 len:l.length=l0.length
 don:∀j:Nat,j < i→l[j]?=some (g j)
 old:∀j:Nat,i≤j→l[j]?=l0[j]?
def WrO.zero {α:Type} {l0:List α} {g:Nat→α}:WrO l0 g 0 l0:=⟨rfl,fun j hj=>by omega,fun j _=>rfl⟩
def WrO.next {α:Type} {l0:List α} {g:Nat→α} {i:Nat} {l:List α} (h:WrO l0 g i l) (hi:i < l0.length) {x:α} (hx:x=g i):WrO l0 g (i + 1) (l.set i x):=by
 have hl:=h.len;refine ⟨by simp [hl],fun j hj=>?_,fun j h1=>?_⟩;·
  rw [yE];split;·rename_i e;rw [if_pos zc,hx,e]
  ·exact h.don j zc
 ·rw [yW zc];exact h.old j zc
def WrO.stay {α:Type} {l0:List α} {g:Nat→α} {i:Nat} {l:List α} (h:WrO l0 g i l) (hx:l0[i]?=some (g i)):WrO l0 g (i + 1) l:=by
 refine ⟨h.len,fun j hj=>?_,fun j h1=>h.old j zc⟩;rcases yk j i with h1 | h1;·exact h.don j h1
 ·
  obtain rfl : j = i := by omega
  rw [h.old j (yn _),hx]
def WrO.done {α:Type} {l0:List α} {g:Nat→α} {l:List α} (h:WrO l0 g l0.length l):l=(List.range l0.length).map g:=by
 have hl:=h.len;refine yfa fun j=>?_;rcases yk j l0.length with hj | hj;·rw [h.don j hj,yt,yZ hj];rfl
 ·rw [yq zc,yq zH]
end
section
attribute [local irreducible] CJ LJ DJ Tri YV Gives U7 Kb Kp U8 RV Ke OwL.L
section
variable {A B:Prop}
def Yff(h:A→B:=by exact Kq (by first | exact Jf tb rfl rfl rfl rfl zB (i:=k.toNat) zo zc | exact Jm tb rfl rfl rfl rfl (i:=k.toNat) zo zc) rfl rfl rfl):=h
def U2f(h:A→B:=by exact Kq (by first | exact Jf tb rfl rfl rfl rfl zB (i:=(z.roads.l.getD j 0).toNat) zo zc | exact Jm tb rfl rfl rfl rfl (i:=(z.roads.l.getD j 0).toNat) zo zc) rfl rfl rfl):=h
end
def Vke {s:XSite} (h:SiteOk s) {r:XRoad} (hr:r∈s.air.mine.roads.l):(1≤r.len∧r.len≤100000)∧(1≤r.area∧r.area≤1000):=by
 have h1:Ui s.air.mine=0:=by
  have:=h.air;rw [Ko] at this;split at this;·exact this
  ·rename_i h2;exact Decidable.not_not.1 h2
 unfold Ui at h1;split at h1;·cases h1
 split at h1;·rename_i e he;subst h1;obtain ⟨x,_,hx⟩:=yw he;unfold Y1 at hx;split at hx <;> cases hx
 have hall:=Yg (f:=Vb s.air.mine.places.l.length) (fun x e hx he=>by
  subst he;unfold Vb at hx;split at hx;·cases hx
  ·split at hx <;> cases hx) h1
 have:=hall r hr;unfold Vb at this;split at this;·cases this
 split at this;·cases this
 rename_i h2;omega
def Y9e {s:XSite} (h:SiteOk s) {z:XZone} (hz:z∈s.zones.l):(0≤z.hold∧z.hold≤100000)∧(0≤z.fresh∧z.fresh≤100)∧∀i:Nat,i < z.roads.l.length→0≤z.roads.l.getD i 0∧z.roads.l.getD i 0 < s.air.mine.roads.l.length:=by
 have:=h.zone z hz;rw [Yi] at this;split at this;·omega
 split at this;·cases this
 rename_i h1;split at this;·cases this
 rename_i h2;refine ⟨by omega,by omega,fun i hi=>?_⟩;have:¬ V8 s.air.mine.roads.l.length z.roads.l i:=fun hb=>h2 ⟨i,hi,hb⟩;rw [V8] at this;omega
def Ywe {s:XSite} (h:SiteOk s) {z:XZone} (hz:z∈s.zones.l):z.roads.l.length≤128:=by
 have:=h.zone z hz;rw [Yi] at this;split at this;·omega
 split at this;·cases this
 split at this;·cases this
 rename_i h2;have hb:∀i:Nat,i < z.roads.l.length→¬ V8 s.air.mine.roads.l.length z.roads.l i:=fun i hi hb=>h2 ⟨i,hi,hb⟩;have up:∀i:Nat,i < z.roads.l.length→(i:Int)≤z.roads.l.getD i 0:=by
  intro i;induction i with
  | zero=>intro hi;have:=hb 0 hi;rw [V8] at this;omega
  | succ i ih=>intro hi;have h1:=ih zc;have h2:=hb (i + 1) hi;rw [V8,Nat.add_sub_cancel] at h2;omega
 have hn:=(Ve h.air).mine.roads;rcases yk 128 z.roads.l.length with h3 | h3;·have h4 := up 128 h3;have h5:=hb 128 h3;rw [V8] at h5;omega
 ·exact h3
def K7a (s:XSite) (fl:List XSpan) (z:XZone) (sec r:Int):Prop:=¬ Ukc (s.air.mine.roads.l.getD r.toNat default) (fl.getD r.toNat default) z.fresh sec
instance (s:XSite) (fl:List XSpan) (z:XZone) (sec r:Int):Decidable (K7a s fl z sec r):=by unfold K7a;infer_instance
def Z2a (s:XSite) (fl:List XSpan) (c:XCut) (z:XZone) (t:Int):Int:=
 if c.off=false then 10
 else if (c.clear < 0∨t < c.clear)∨t - c.clear < z.hold then 20
 else if∃r∈z.roads.l,K7a s fl z (t - c.clear) r then 20 else 0
def readyE (s:XSite) (c:List XCut) (fl:List XSpan) (k t:Int):Int:=
 if k < 0∨(c.length:Int)≤k then 17 else Z2a s fl (c.getD k.toNat default) (s.zones.l.getD k.toNat default) t
def Zqe {s:XSite} {fl:List XSpan} {c:XCut} {z:XZone} {t:Int} (h1:c.off=true) (h2:¬ ((c.clear < 0∨t < c.clear)∨t - c.clear < z.hold)) (h3:∀j:Nat,j < z.roads.l.length→¬ K7a s fl z (t - c.clear) (z.roads.l.getD j 0)):Z2a s fl c z t=0:=by rw [Z2a,if_neg (by rw [h1];decide),if_neg h2,if_neg];rintro ⟨r,hr,hw⟩;obtain ⟨j,hj,rfl⟩:=yGa hr;have:=h3 j hj;rw [yh,yx hj] at this;exact this hw
def Ztd {s:XSite} {fl:List XSpan} {c:XCut} {z:XZone} {t r:Int} (h1:c.off=true) (h2:¬ ((c.clear < 0∨t < c.clear)∨t - c.clear < z.hold)) (hr:r∈z.roads.l) (h3:K7a s fl z (t - c.clear) r):Z2a s fl c z t=20:=by rw [Z2a,if_neg (by rw [h1];decide),if_neg h2,if_pos ⟨r,hr,h3⟩]
structure RestA (s:XSite) (c:Arr XCut) (fl:Arr XSpan) (R:LS):Prop where
 site:SiteR s R
 cuts:InR (J6c c) R
 flows:InR (J2c fl) R
def Zmd (s:XSite) (c:Arr XCut) (fl:Arr XSpan) (k t:Int) (L:LB) (R:LS) (h:RestA s c fl R) (hok:SiteOk s) (hlen:c.l.length=s.zones.l.length∧fl.l.length=s.air.mine.roads.l.length) (ht:0≤t∧t≤2147483648):
 Tri Tryz.prog 163 [s.val,c.val,fl.val,.int .i64 k,.int .i64 t].toArray L R (fun v M U=>v=.int .i64 (readyE s c.l fl.l k t)∧L=M∧R=U):=by
 have hcR:=h.cuts;have hfR:=h.flows;have hzR:=h.site.zones;have hrR:=h.site.air.roads;have hsl:=hok.len;refine Jd 80 Tryz.call163 Tryz.func163 rfl rfl rfl ?_;apply (Xag);intro b5;apply Xau∘Xcf;apply J3 (G:=[_,_,_,_]) (j:=2) (cj:=17) rfl rfl ze rfl ztb rfl;·exact zte
 intro junk3;apply (qaf);refine q_c ?_ ?_<;>intro hc0;·apply (Xa1);refine q_i L R ?_;exact ⟨by rw [readyE,if_pos zc],rfl,rfl⟩
 have hcg:=Js (l:=c.l) (k:=k.toNat) default zc;have hzg:=Js (l:=s.zones.l) (k:=k.toNat) default zc;have he:readyE s c.l fl.l k t=Z2a s fl.l (c.l.getD k.toNat default) (s.zones.l.getD k.toNat default) t:=by rw [readyE,if_neg zc]
 obtain ⟨z,hz⟩:∃z,z=s.zones.l.getD k.toNat default:=⟨_,rfl⟩;obtain ⟨x,hx⟩:∃x,x=c.l.getD k.toNat default:=⟨_,rfl⟩;rw [← hz] at hzg he;rw [← hx] at hcg he;have hzr:=Y9e hok (yi hzg);have hzl:=Ywe hok (yi hzg);have hzroR:InR (isl z.roads) R:=InR.zroads hzR hzg;apply (qcl);refine Kg tb [0,1,2,3,4,5,6,7,8,9,10,11,12] _ Kn zf ye ?_;refine Kq zrd rfl rfl rfl ?_;apply qao∘Yff∘qdv∘Xa8∘Yff∘qdp∘qbr;intro b11;apply (qbr);intro b12;apply qbg∘qbg∘qc6∘Xaa∘Xbg;refine q_c ?_ ?_<;>intro hc1;·apply (Xa1);refine q_i L R ?_;exact ⟨by rw [he,Z2a,if_pos zN],rfl,rfl⟩
 have hoff:x.off=true:=by simpa using hc1
 apply qbo∘Xa7;apply J3 (G:=[_,_,_,_]) (j:=3) (cj:=38) rfl rfl ze rfl ztb rfl;·intro hg4;replace hg4:=qb hg4;exact (Xaf) zpf
 intro junk4;apply (qah);apply J3 (G:=[_,_,_,_,_,_,_]) (j:=9) (cj:=44) rfl rfl ze rfl ztb rfl;·intro hg10;replace hg10:=qb hg10;exact (qaa∘Xaa∘qa9) zge
 intro junk10;apply (qaf);refine q_c ?_ ?_<;>intro hc2;·apply (Xa1);refine q_i L R ?_;exact ⟨by rw [he,Z2a,if_neg (by rw [hoff];decide),if_pos zc],rfl,rfl⟩
 apply (Xd8);refine Jh [(2,.slice _ _ _),(4,.int _ _),(5,.pointer _),(11,.pointer _),(12,.pointer _),(54,.slice _ _ _),(55,.int _ _),(56,.int _ _)] zg fun tq0=>?_;refine q_s ([10,14]++rg 56 24) (fun g:{j:Nat // j≤z.roads.l.length∧∀m:Nat,m < j→¬ K7a s fl.l z (t - x.clear) (z.roads.l.getD m 0)}=>[(56,.int .i64 ((g.1:Nat):Int))]) (fun g=>z.roads.l.length - g.1) (⟨0,by omega,fun m hm=>by omega⟩) ?_;rintro ⟨j,hj,hal⟩ junk;try dsimp only
 apply (Xay);refine q_c ?_ ?_<;>intro hc3;·
  have hjg:=Js (l:=z.roads.l) (k:=j) 0 zc;have hjr:=hzr.2.2 j zc;have hrg:=Js (l:=s.air.mine.roads.l) (k:=(z.roads.l.getD j 0).toNat) default zc;have hfg:=Js (l:=fl.l) (k:=(z.roads.l.getD j 0).toNat) default zc;have hrr:=Vke hok (yi hrg);apply (qbb);refine J0 zX rfl ?_;apply qa7∘Xdf;refine Kg tb [0,1,2,3,4,5,6,7,8,9,10,11,12,13,14,15,16,17,18] _ Kn zf ye ?_;iterate 3 apply (qal)
  apply qat∘qao∘U2f;refine Kq zPa rfl rfl rfl ?_;refine Kq zrd rfl rfl rfl ?_;apply qao∘U2f∘qdo∘Xa8∘Xae∘qb7;refine q_d rfl (Kxd (s.air.mine.roads.l.getD (z.roads.l.getD j 0).toNat default) (fl.l.getD (z.roads.l.getD j 0).toNat default) z.fresh (t - x.clear) _ _ hrr.1 hrr.2 hzr.2.1 zc) ?_;refine Kq (Uva rfl) rfl rfl rfl ?_;apply (qbu);refine q_c ?_ ?_<;>intro hc4;·apply (Xbr);refine q_i L R ?_;exact ⟨by rw [he,Ztd hoff zc (yi hjg) (by rw [K7a];simpa using hc4)],rfl,rfl⟩
  apply (Xbk);exact Ka (⟨j + 1,by omega,fun m hm=>by
  rcases yk m j with h | h;·exact hal m h
  ·(obtain rfl : m = j := by omega);rw [K7a];simpa using hc4⟩) zp zg zk zJb zt
 apply (Xca);refine q_i L R ?_;exact ⟨by rw [he,Zqe hoff zc (fun m hm=>hal m zc)],rfl,rfl⟩
end
section
attribute [local irreducible] CJ LJ DJ Tri YV Gives U7 Kb Kp U8 RV Ke OwL.L
section
variable {A B:Prop}
def V5e(h:A→B:=by exact J0 zZb rfl):=h
def Kpf(h:A→B:=by exact J0 zxb rfl):=h
end
structure XRest where
 zone:Int
 first:Int
 second:Int
 step:Int
 time:Int
 deriving DecidableEq
abbrev XRest.val (x:XRest):Value:=.agg #[.int .i64 x.zone,.int .i64 x.first,.int .i64 x.second,.int .i64 x.step,.int .i64 x.time]
def noRest:XRest:=⟨-1,-1,-1,0,0⟩
def sharedE (s:XSite) (nc nf:Nat) (t:Int):Int:=if K7 s≠0 then K7 s else if ¬ (nc=s.zones.l.length∧nf=s.air.mine.roads.l.length) then 11 else if t < 0∨2147483648 < t then 8 else 0
def Voc (s:XSite) (c:Arr XCut) (fl:Arr XSpan) (t:Int) (L:LB) (R:LS) (h:RestA s c fl R):
 Tri Tryz.prog 162 [s.val,c.val,fl.val,.int .i64 t].toArray L R (fun v M U=>v=.int .i64 (sharedE s c.l.length fl.l.length t)∧L=M∧R=U):=by
 refine Jd 37 Tryz.call162 Tryz.func162 rfl rfl rfl ?_;apply (Xag);intro b4;apply Xau∘Kpf;refine q_l rfl (Kka s _ _ h.site) ?_;apply (Xbj);refine q_c ?_ ?_<;>intro hc0;·apply (Xcx);refine q_i L R ?_;exact ⟨by rw [sharedE,if_pos hc0],rfl,rfl⟩
 apply qbo∘Xaq∘Xab∘Xb8;apply J3 (G:=[_,_,_,_,_,_,_,_]) (j:=6) (cj:=21) rfl rfl ze rfl ztb rfl;·
  intro hg7;replace hg7:=qb hg7;apply (Xaq);iterate 3 apply (qab)
  exact (Xcc) zUd
 intro junk7;apply (qaf);refine q_c ?_ ?_<;>intro hc1;·apply (Xa1);refine q_i L R ?_;exact ⟨by rw [sharedE,if_neg zc,if_pos zc],rfl,rfl⟩
 apply qbo∘Xcf;apply J3 (G:=[_,_]) (j:=2) (cj:=33) rfl rfl ze rfl ztb rfl;·exact zPd
 intro junk3;apply (qaf);refine q_c ?_ ?_<;>intro hc2;·apply (Xa1);refine q_i L R ?_;exact ⟨by rw [sharedE,if_neg zc,if_neg zc,if_pos zc],rfl,rfl⟩
 apply (Xb4);refine q_i L R ?_;exact ⟨by rw [sharedE,if_neg zc,if_neg zc,if_neg zc],rfl,rfl⟩
def Jge {s:XSite} {nc nf:Nat} {t:Int} (h:sharedE s nc nf t=0):SiteOk s∧(nc=s.zones.l.length∧nf=s.air.mine.roads.l.length)∧0≤t∧t≤2147483648:=by
 rw [sharedE] at h;split at h;·omega
 rename_i h1;split at h;·omega
 split at h;·omega
 exact ⟨Ys (Decidable.not_not.1 h1),by omega,by omega⟩
def V3d (L:LB) (R:LS):Tri Tryz.prog 77 ([]:List Value).toArray L R (fun v M U=>v=noRest.val∧L=M∧R=U):=by refine Jd 2 Tryz.call77 Tryz.func77 rfl rfl rfl ?_;exact zXf
def askE (s:XSite) (c:List XCut) (fl:List XSpan) (r:XRest) (p k t:Int):Int:=
 if sharedE s c.length fl.length t≠0 then sharedE s c.length fl.length t
 else if r.zone≠-1 then 10
 else if p < 0∨(s.persons.l.length:Int)≤p∨s.persons.l.getD p.toNat 0≠1 then 19
 else readyE s c fl k t
def askR (s:XSite) (c:List XCut) (fl:List XSpan) (r:XRest) (p k t:Int):XRest:=if askE s c fl r p k t=0 then ⟨k,p,-1,1,t⟩ else r
def K7c {s:XSite} {c:List XCut} {fl:List XSpan} {r:XRest} {p k t e:Int} (h:askE s c fl r p k t=e) (he:e≠0):askR s c fl r p k t=r:=by rw [askR,if_neg zc]
def Utf (s:XSite) (c:Arr XCut) (fl:Arr XSpan) (r:XRest) (p k t:Int) (L:LB) (R:LS) (h:RestA s c fl R):
 Tri Tryz.prog 84 [s.val,c.val,fl.val,r.val,.int .i64 p,.int .i64 k,.int .i64 t].toArray L R (fun v M U=>v=.tuple #[(askR s c.l fl.l r p k t).val,.int .i64 (askE s c.l fl.l r p k t)]∧L=M∧R=U):=by
 have hpR:=h.site.persons;refine Jd 64 Tryz.call84 Tryz.func84 rfl rfl rfl ?_;apply (Xag);intro b7;apply (qax);intro b10;apply (qaq);intro b14;apply Xau∘Kpf∘qbm∘Xaj;refine q_l rfl (Voc s c fl t _ _ h) ?_;apply (Xbj);refine q_c ?_ ?_<;>intro hc0;·
  apply qae∘V5e∘Xc6;refine q_r L R (Vt rfl zLb zed) ?_;have he:askE s c.l fl.l r p k t=sharedE s c.l.length fl.l.length t:=by rw [askE,if_pos hc0]
  exact ⟨by rw [K7c he hc0,he],rfl,rfl⟩
 obtain ⟨hok,hln,ht⟩:=Jge (s:=s) (nc:=c.l.length) (nf:=fl.l.length) (t:=t) zc;apply Xch∘Xaw;refine q_c ?_ ?_<;>intro hc1;·
  apply qae∘V5e∘Xcb;refine q_r L R (Vt rfl zLb zed) ?_;have he:askE s c.l fl.l r p k t=10:=by rw [askE,if_neg hc0,if_pos hc1]
  exact ⟨by rw [K7c he zc,he],rfl,rfl⟩
 apply qbo∘Xcf;apply J3 (G:=[_,_,_,_,_]) (j:=2) (cj:=33) rfl rfl ze rfl ztb rfl;·exact zke
 intro junk3;apply (qah);apply J3 (G:=[_,_,_,_,_,_,_]) (j:=9) (cj:=40) rfl rfl ze rfl ztb rfl;·intro hg10;replace hg10:=qb hg10;have hpg:=Js (l:=s.persons.l) (k:=p.toNat) 0 zc;apply (Xaf);refine J0 (by first | exact Jf tb rfl rfl rfl rfl zB (i:=p.toNat) zo zc | exact Jm tb rfl rfl rfl rfl (i:=p.toNat) zo zc) rfl ?_;exact (Xex) qai
 intro junk10;apply (qaf);refine q_c ?_ ?_<;>intro hc2;·
  apply qae∘V5e∘Xcb;refine q_r L R (Vt rfl zLb zed) ?_;have he:askE s c.l fl.l r p k t=19:=by rw [askE,if_neg hc0,if_neg hc1,if_pos zc]
  exact ⟨by rw [K7c he zc,he],rfl,rfl⟩
 have he:askE s c.l fl.l r p k t=readyE s c.l fl.l k t:=by rw [askE,if_neg hc0,if_neg hc1,if_neg zc]
 apply qbo∘Kpf∘qbm∘Xaj∘qaa;refine q_l rfl (Zmd s c fl k t _ _ h hok hln ht) ?_;apply (Xbj);refine q_c ?_ ?_<;>intro hc3;·apply qae∘V5e∘Xc6;refine q_r L R (Vt rfl zLb zed) ?_;exact ⟨by rw [K7c he hc3,he],rfl,rfl⟩
 apply (qbv);iterate 3 apply (qaa)
 refine J0 (Kf (qs:=[(0,(Value.int _ _).cells.toList),(1,(Value.int _ _).cells.toList),(2,(Value.int _ _).cells.toList),(3,(Value.int _ _).cells.toList),(4,(Value.int _ _).cells.toList)]) (out:=[_,_,_,_,_]) tb rfl rfl rfl rfl) rfl ?_;apply (Xc7);refine q_r L R (Vt rfl zLb zed) ?_;exact ⟨by rw [askR,if_pos zc,he,show readyE s c.l fl.l k t=0 by omega],rfl,rfl⟩
def Z7f (r:XRest) (t:Int):Prop:=t < r.time∨r.time < t - 600
instance (r:XRest) (t:Int):Decidable (Z7f r t):=by unfold Z7f;infer_instance
def Kpe (s:XSite) (r:XRest) (p:Int):Prop:=
 p < 0∨(s.persons.l.length:Int)≤p∨p=r.first∨r.first < 0∨(s.persons.l.length:Int)≤r.first∨s.persons.l.getD p.toNat 0=s.persons.l.getD r.first.toNat 0
instance (s:XSite) (r:XRest) (p:Int):Decidable (Kpe s r p):=by unfold Kpe;infer_instance
end
end Go.Proofs.YtchfclmokpbldaaGreat
