/-
  Merged texts. By an AI agent.
-/
import Derived.Test.YtchfclmokpbldaaGreatSiteS
import Derived.Test.YtchfclmokpbldaaGreatFans
import Derived.Test.YtchfclmokpbldaaGreatRestP
import Derived.Test.YtchfclmokpbldaaGreatRuleP
set_option linter.all false
set_option maxHeartbeats 4000000
set_option maxRecDepth 20000
namespace Go.Proofs.YtchfclmokpbldaaGreat
open Go.Aw Go
section
def Ynd {e:Int} (h:nzO e=none):e=0:=by
 rw [nzO] at h;split at h;·assumption
 ·cases h
def Kqf {e x:Int} (h:nzO e=some x):x≠0:=by
 rw [nzO] at h;split at h;·cases h
 ·cases h;assumption
structure SiteOk (s:XSite):Prop where
 air:Kx s.air=0
 len:s.sensors.l.length≤64∧s.conds.l.length≤64∧s.zones.l.length≤16∧s.persons.l.length≤64
 sens:∀i:Nat,i < s.sensors.l.length→Z6 s.air s.sensors.l i=none
 cond:∀c∈s.conds.l,Kv s.sensors.l s.air.mine.roads.l.length c=0
 zone:∀z∈s.zones.l,Y5 s.conds.l.length s.air.mine.roads.l.length z=0
 pers:∀p∈s.persons.l,1≤p∧p≤3
def Use {a:XAir} {S:List XSens} {i:Nat} {e:Int} (h:Z6 a S i=some e):e≠0:=by
 rw [Z6] at h;split at h;·cases h;assumption
 split at h;·cases h;decide
 split at h;·cases h;decide
 ·cases h
def Z5 {s:XSite} (h:Uf s=0):SiteOk s:=by
 rw [Uf] at h;split at h;·omega
 split at h;·omega
 split at h;·omega
 split at h;·omega
 split at h;·omega
 rename_i h1 h2 h3 h4 h5;refine ⟨by omega,by omega,fun i hi=>?_,fun c hc=>?_,fun z hz=>?_,fun p hp=>?_⟩;·
  have h3' : Uz s.air s.sensors.l = 0 := by omega
  exact V2 (f:=Z6 s.air s.sensors.l) (fun x e hx=>Use hx) h3' i (List.mem_range.2 hi)
 ·
  have h4' : Kka s = 0 := by omega
  exact Ynd (V2 (f:=fun c=>nzO (Kv s.sensors.l s.air.mine.roads.l.length c)) (fun x e hx=>Kqf hx) h4' c hc)
 ·
  have h5' : Zb s = 0 := by omega
  exact Ynd (V2 (f:=fun z=>nzO (Y5 s.conds.l.length s.air.mine.roads.l.length z)) (fun x e hx=>Kqf hx) h5' z hz)
 ·
  have:=V2 (f:=fun p:Int=>if p < 1∨3 < p then some 19 else none) (fun x e hx=>by
   split at hx;·cases hx;decide
   ·cases hx) h p hp
  exact uaO
def Vja {α β:Type} {f:α→Option β} {l:List α} (h:∀x∈l,f x=none):l.findSome? f=none:=List.findSome?_eq_none_iff.2 h
def SiteOk.err {s:XSite} (h:SiteOk s):Uf s=0:=by
 have h1:=h.air;have h2:=h.len;have e1:Uz s.air s.sensors.l=0:=by rw [Uz,Vja (fun i hi=>h.sens i (List.mem_range.1 hi))];rfl
 have e2:Kka s=0:=by rw [Kka,Vja (fun c hc=>by rw [nzO,if_pos (h.cond c hc)])];rfl
 have e3:Zb s=0:=by rw [Zb,Vja (fun z hz=>by rw [nzO,if_pos (h.zone z hz)])];rfl
 have e4:Jla s=0:=by rw [Jla,Vja (fun p hp=>if_neg (by have:=h.pers p hp;omega))];rfl
 rw [Uf,if_neg za,if_neg za,if_neg za,if_neg za,if_neg za,e4]
def Vbc {S:List XSens} {n:Nat} {c:XCond} (h:Kv S n c=0):(1≤c.kind∧c.kind≤5)∧(0≤c.value∧c.value≤1099511627776)∧(c.kind=1→Jia c.level)∧
 (c.kind=5→0≤c.target∧c.target < n)∧(c.kind≠5→0≤c.target∧c.target < S.length)∧(c.kind=3→(S.getD c.target.toNat default).kind=5):=by
 rw [Kv] at h;split at h;·omega
 rename_i h1;split at h;·omega
 rename_i h2;have h3:Kr S n c=0:=by omega
 have h4:c.kind=1→Jia c.level:=fun hk=>by
  rw [if_pos hk,Jxa] at h;split at h;·assumption
  ·omega
 rw [Kr] at h3;split at h3;·exact ubm
 split at h3;·
  split at h3;·rename_i h5;exact ⟨by omega,by omega,h4,by omega,by omega,fun _=>h5.2⟩
  ·omega
 split at h3;·exact ubm
 ·omega
structure WrO {α:Type} (l0:List α) (g:Nat→α) (i:Nat) (l:List α):Prop where
 len:l.length=l0.length
 don:∀j:Nat,j < i→l[j]?=some (g j)
 old:∀j:Nat,i≤j→l[j]?=l0[j]?
def WrO.zero {α:Type} {l0:List α} {g:Nat→α}:WrO l0 g 0 l0:=⟨rfl,fun j hj=>by omega,fun j _=>rfl⟩
def WrO.next {α:Type} {l0:List α} {g:Nat→α} {i:Nat} {l:List α} (h:WrO l0 g i l) (hi:i < l0.length) {x:α} (hx:x=g i):WrO l0 g (i + 1) (l.set i x):=by
 have hl:=h.len;refine ⟨by simp [hl],fun j hj=>?_,fun j h1=>?_⟩;·
  rw [yM];split;·rename_i e;rw [if_pos za,hx,e]
  ·exact h.don j za
 ·rw [yba za];exact h.old j za
def WrO.stay {α:Type} {l0:List α} {g:Nat→α} {i:Nat} {l:List α} (h:WrO l0 g i l) (hx:l0[i]?=some (g i)):WrO l0 g (i + 1) l:=by
 refine ⟨h.len,fun j hj=>?_,fun j h1=>h.old j za⟩;rcases yk j i with h1 | h1;·exact h.don j h1
 ·
  obtain rfl : j = i := by omega
  rw [h.old j (ym _),hx]
def WrO.done {α:Type} {l0:List α} {g:Nat→α} {l:List α} (h:WrO l0 g l0.length l):l=(List.range l0.length).map g:=by
 have hl:=h.len;refine yBa fun j=>?_;rcases yk j l0.length with hj | hj;·rw [h.don j hj,yq,yL hj];rfl
 ·rw [yu za,yu zE]
end
section
attribute [local irreducible] CJ LJ DJ Tri YV Gives Uq J2 Kj Ut RV J3 OwL.L
section
variable {A B:Prop}
def Zpf(h:A→B:=by exact Ks (by first | exact Jd tb rfl rfl rfl rfl zu (i:=k.toNat) zk za | exact Jl tb rfl rfl rfl rfl (i:=k.toNat) zk za) rfl rfl rfl):=h
def Zgf(h:A→B:=by exact Ks (by first | exact Jd tb rfl rfl rfl rfl zu (i:=(z.roads.l.getD j 0).toNat) zk za | exact Jl tb rfl rfl rfl rfl (i:=(z.roads.l.getD j 0).toNat) zk za) rfl rfl rfl):=h
end
def Zze {s:XSite} (h:SiteOk s) {r:XRoad} (hr:r∈s.air.mine.roads.l):(1≤r.len∧r.len≤100000)∧(1≤r.area∧r.area≤1000):=by
 have h1:Ul s.air.mine=0:=by
  have:=h.air;rw [Kx] at this;split at this;·exact this
  ·rename_i h2;exact Decidable.not_not.1 h2
 unfold Ul at h1;split at h1;·cases h1
 split at h1;·rename_i e he;subst h1;obtain ⟨x,_,hx⟩:=yy he;unfold Uga at hx;split at hx <;> cases hx
 have hall:=V2 (f:=Yr s.air.mine.places.l.length) (fun x e hx he=>by
  subst he;unfold Yr at hx;split at hx;·cases hx
  ·split at hx <;> cases hx) h1
 have:=hall r hr;unfold Yr at this;split at this;·cases this
 split at this;·cases this
 rename_i h2;omega
def Kgf {s:XSite} (h:SiteOk s) {z:XZone} (hz:z∈s.zones.l):(0≤z.hold∧z.hold≤100000)∧(0≤z.fresh∧z.fresh≤100)∧∀i:Nat,i < z.roads.l.length→0≤z.roads.l.getD i 0∧z.roads.l.getD i 0 < s.air.mine.roads.l.length:=by
 have:=h.zone z hz;rw [Y5] at this;split at this;·omega
 split at this;·cases this
 rename_i h1;split at this;·cases this
 rename_i h2;refine ⟨by omega,by omega,fun i hi=>?_⟩;have:¬ Yp s.air.mine.roads.l.length z.roads.l i:=fun hb=>h2 ⟨i,hi,hb⟩;rw [Yp] at this;omega
def Yte {s:XSite} (h:SiteOk s) {z:XZone} (hz:z∈s.zones.l):z.roads.l.length≤128:=by
 have:=h.zone z hz;rw [Y5] at this;split at this;·omega
 split at this;·cases this
 split at this;·cases this
 rename_i h2;have hb:∀i:Nat,i < z.roads.l.length→¬ Yp s.air.mine.roads.l.length z.roads.l i:=fun i hi hb=>h2 ⟨i,hi,hb⟩;have up:∀i:Nat,i < z.roads.l.length→(i:Int)≤z.roads.l.getD i 0:=by
  intro i;induction i with
  | zero=>intro hi;have:=hb 0 hi;rw [Yp] at this;omega
  | succ i ih=>intro hi;have h1:=ih za;have h2:=hb (i + 1) hi;rw [Yp,Nat.add_sub_cancel] at h2;omega
 have hn:=(V3 h.air).mine.roads;rcases yk 128 z.roads.l.length with h3 | h3;·have h4 := up 128 h3;have h5:=hb 128 h3;rw [Yp] at h5;omega
 ·exact h3
def Uda (s:XSite) (fl:List XSpan) (z:XZone) (sec r:Int):Prop:=¬ Uyc (s.air.mine.roads.l.getD r.toNat default) (fl.getD r.toNat default) z.fresh sec
instance (s:XSite) (fl:List XSpan) (z:XZone) (sec r:Int):Decidable (Uda s fl z sec r):=by unfold Uda;infer_instance
def Uzb (s:XSite) (fl:List XSpan) (c:XCut) (z:XZone) (t:Int):Int:=
 if c.off=false then 10
 else if (c.clear < 0∨t < c.clear)∨t - c.clear < z.hold then 20
 else if∃r∈z.roads.l,Uda s fl z (t - c.clear) r then 20 else 0
def readyE (s:XSite) (c:List XCut) (fl:List XSpan) (k t:Int):Int:=
 if k < 0∨(c.length:Int)≤k then 17 else Uzb s fl (c.getD k.toNat default) (s.zones.l.getD k.toNat default) t
def Yze {s:XSite} {fl:List XSpan} {c:XCut} {z:XZone} {t:Int} (h1:c.off=true) (h2:¬ ((c.clear < 0∨t < c.clear)∨t - c.clear < z.hold)) (h3:∀j:Nat,j < z.roads.l.length→¬ Uda s fl z (t - c.clear) (z.roads.l.getD j 0)):Uzb s fl c z t=0:=by rw [Uzb,if_neg (by rw [h1];decide),if_neg h2,if_neg];rintro ⟨r,hr,hw⟩;obtain ⟨j,hj,rfl⟩:=yza hr;have:=h3 j hj;rw [yi,yB hj] at this;exact this hw
def Kge {s:XSite} {fl:List XSpan} {c:XCut} {z:XZone} {t r:Int} (h1:c.off=true) (h2:¬ ((c.clear < 0∨t < c.clear)∨t - c.clear < z.hold)) (hr:r∈z.roads.l) (h3:Uda s fl z (t - c.clear) r):Uzb s fl c z t=20:=by rw [Uzb,if_neg (by rw [h1];decide),if_neg h2,if_pos ⟨r,hr,h3⟩]
structure RestA (s:XSite) (c:Arr XCut) (fl:Arr XSpan) (R:LS):Prop where
 site:SiteR s R
 cuts:InR (Vuc c) R
 flows:InR (Jkc fl) R
def Ygb (s:XSite) (c:Arr XCut) (fl:Arr XSpan) (k t:Int) (L:LB) (R:LS) (h:RestA s c fl R) (hok:SiteOk s) (hlen:c.l.length=s.zones.l.length∧fl.l.length=s.air.mine.roads.l.length) (ht:0≤t∧t≤2147483648):
 Tri Tryz.prog 163 [s.val,c.val,fl.val,.int .i64 k,.int .i64 t].toArray L R (fun v U J=>v=.int .i64 (readyE s c.l fl.l k t)∧L=U∧R=J):=by
 have hcR:=h.cuts;have hfR:=h.flows;have hzR:=h.site.zones;have hrR:=h.site.air.roads;have hsl:=hok.len;refine Je 80 Tryz.call163 Tryz.func163 rfl rfl rfl ?_;apply (Xaf);intro b5;apply Xar∘Xck;apply Kf (G:=[_,_,_,_]) (j:=2) (cj:=17) rfl rfl zb rfl zmb rfl;·intro hg3;replace hg3:=qb hg3;exact (qaa∘Xap) zyd
 intro junk3;apply (qaf);refine q_c ?_ ?_<;>intro hc0;·apply (Xa8);refine q_i L R ?_;exact ⟨by rw [readyE,if_pos za],rfl,rfl⟩
 have hcg:=Jp (l:=c.l) (k:=k.toNat) default za;have hzg:=Jp (l:=s.zones.l) (k:=k.toNat) default za;have he:readyE s c.l fl.l k t=Uzb s fl.l (c.l.getD k.toNat default) (s.zones.l.getD k.toNat default) t:=by rw [readyE,if_neg za]
 obtain ⟨z,hz⟩:∃z,z=s.zones.l.getD k.toNat default:=⟨_,rfl⟩;obtain ⟨x,hx⟩:∃x,x=c.l.getD k.toNat default:=⟨_,rfl⟩;rw [← hz] at hzg he;rw [← hx] at hcg he;have hzr:=Kgf hok (yh hzg);have hzl:=Yte hok (yh hzg);have hzroR:InR (isl z.roads) R:=InR.zroads hzR hzg;apply (qcl);refine Ke tb [0,1,2,3,4,5,6,7,8,9,10,11,12] _ Ko zc ye ?_;refine Ks zZc rfl rfl rfl ?_;apply qao∘Zpf∘qdv∘Xby∘Zpf∘qdp∘qbr;intro b11;apply (qbr);intro b12;apply qbg∘qbg∘qc6∘Xaa∘Xbj;refine q_c ?_ ?_<;>intro hc1;·apply (Xa8);refine q_i L R ?_;exact ⟨by rw [he,Uzb,if_pos zL],rfl,rfl⟩
 have hoff:x.off=true:=by simpa using hc1
 apply qbo∘Xbm;apply Kf (G:=[_,_,_,_]) (j:=3) (cj:=38) rfl rfl zb rfl zmb rfl;·intro hg4;replace hg4:=qb hg4;exact (Xah∘qa5) qai
 intro junk4;apply (qah);apply Kf (G:=[_,_,_,_,_,_,_]) (j:=9) (cj:=44) rfl rfl zb rfl zmb rfl;·intro hg10;replace hg10:=qb hg10;exact (qaa∘Xaa∘qa9) zHd
 intro junk10;apply (qaf);refine q_c ?_ ?_<;>intro hc2;·apply (Xa8);refine q_i L R ?_;exact ⟨by rw [he,Uzb,if_neg (by rw [hoff];decide),if_pos za],rfl,rfl⟩
 apply (Xc2);refine Jm [(2,.slice _ _ _),(4,.int _ _),(5,.pointer _),(11,.pointer _),(12,.pointer _),(54,.slice _ _ _),(55,.int _ _),(56,.int _ _)] zh fun tq0=>?_;refine q_s ([10,14]++rg 56 24) (fun g:{j:Nat // j≤z.roads.l.length∧∀m:Nat,m < j→¬ Uda s fl.l z (t - x.clear) (z.roads.l.getD m 0)}=>[(56,.int .i64 ((g.1:Nat):Int))]) (fun g=>z.roads.l.length - g.1) (⟨0,by omega,fun m hm=>by omega⟩) ?_;rintro ⟨j,hj,hal⟩ junk;try dsimp only
 apply (Xaj);refine q_c ?_ ?_<;>intro hc3;·
  have hjg:=Jp (l:=z.roads.l) (k:=j) 0 za;have hjr:=hzr.2.2 j za;have hrg:=Jp (l:=s.air.mine.roads.l) (k:=(z.roads.l.getD j 0).toNat) default za;have hfg:=Jp (l:=fl.l) (k:=(z.roads.l.getD j 0).toNat) default za;have hrr:=Zze hok (yh hrg);apply (qbb);refine Jw zQa rfl ?_;apply qa7∘Xca;refine Ke tb [0,1,2,3,4,5,6,7,8,9,10,11,12,13,14,15,16,17,18] _ Ko zc ye ?_;iterate 3 apply (qal)
  apply qat∘qao∘Zgf;refine Ks zbb rfl rfl rfl ?_;refine Ks zZc rfl rfl rfl ?_;apply qao∘Zgf∘qdo∘Xby∘Xal∘qb7;refine q_d rfl (K6d (s.air.mine.roads.l.getD (z.roads.l.getD j 0).toNat default) (fl.l.getD (z.roads.l.getD j 0).toNat default) z.fresh (t - x.clear) _ _ hrr.1 hrr.2 hzr.2.1 za) ?_;refine Ks (U5a rfl) rfl rfl rfl ?_;apply (qbu);refine q_c ?_ ?_<;>intro hc4;·apply (Xcf);refine q_i L R ?_;exact ⟨by rw [he,Kge hoff za (yh hjg) (by rw [Uda];simpa using hc4)],rfl,rfl⟩
  apply (Xaw);exact Ka (⟨j + 1,by omega,fun m hm=>by
  rcases yk m j with h | h;·exact hal m h
  ·(obtain rfl : m = j := by omega);rw [Uda];simpa using hc4⟩) zm zh zi zAb zx
 apply (Xcq);refine q_i L R ?_;exact ⟨by rw [he,Yze hoff za (fun m hm=>hal m za)],rfl,rfl⟩
end
section
attribute [local irreducible] CJ LJ DJ Tri YV Gives Uq J2 Kj Ut RV J3 OwL.L
section
variable {A B:Prop}
def Ypa(h:A→B:=by exact Jw zCb rfl):=h
def Kte(h:A→B:=by exact Jw zvb rfl):=h
end
structure XRest where
 zone:Int
 first:Int
 second:Int
 step:Int
 time:Int
 deriving DecidableEq
def XRest.cells (x:XRest):List Value:=[.int .i64 x.zone,.int .i64 x.first,.int .i64 x.second,.int .i64 x.step,.int .i64 x.time]
abbrev XRest.val (x:XRest):Value:=.agg #[.int .i64 x.zone,.int .i64 x.first,.int .i64 x.second,.int .i64 x.step,.int .i64 x.time]
def noRest:XRest:=⟨-1,-1,-1,0,0⟩
def sharedE (s:XSite) (nc nf:Nat) (t:Int):Int:=if Uf s≠0 then Uf s else if ¬ (nc=s.zones.l.length∧nf=s.air.mine.roads.l.length) then 11 else if t < 0∨2147483648 < t then 8 else 0
def Voa (s:XSite) (c:Arr XCut) (fl:Arr XSpan) (t:Int) (L:LB) (R:LS) (h:RestA s c fl R):
 Tri Tryz.prog 162 [s.val,c.val,fl.val,.int .i64 t].toArray L R (fun v U J=>v=.int .i64 (sharedE s c.l.length fl.l.length t)∧L=U∧R=J):=by
 refine Je 37 Tryz.call162 Tryz.func162 rfl rfl rfl ?_;apply (Xaf);intro b4;apply Xar∘Kte;refine q_l rfl (Kia s _ _ h.site) ?_;apply (Xbb);refine q_c ?_ ?_<;>intro hc0;·apply (Xdx);refine q_i L R ?_;exact ⟨by rw [sharedE,if_pos hc0],rfl,rfl⟩
 apply qbo∘Xap∘Xab∘Xb7;apply Kf (G:=[_,_,_,_,_,_,_,_]) (j:=6) (cj:=21) rfl rfl zb rfl zmb rfl;·
  intro hg7;replace hg7:=qb hg7;apply (Xap);iterate 3 apply (qab)
  exact (qac∘qag) zvd
 intro junk7;apply (qaf);refine q_c ?_ ?_<;>intro hc1;·apply (Xa8);refine q_i L R ?_;exact ⟨by rw [sharedE,if_neg za,if_pos za],rfl,rfl⟩
 apply qbo∘Xck;apply Kf (G:=[_,_]) (j:=2) (cj:=33) rfl rfl zb rfl zmb rfl;·exact zsd
 intro junk3;apply (qaf);refine q_c ?_ ?_<;>intro hc2;·apply (Xa8);refine q_i L R ?_;exact ⟨by rw [sharedE,if_neg za,if_neg za,if_pos za],rfl,rfl⟩
 apply (Xcy);refine q_i L R ?_;exact ⟨by rw [sharedE,if_neg za,if_neg za,if_neg za],rfl,rfl⟩
def J3b {s:XSite} {nc nf:Nat} {t:Int} (h:sharedE s nc nf t=0):SiteOk s∧(nc=s.zones.l.length∧nf=s.air.mine.roads.l.length)∧0≤t∧t≤2147483648:=by
 rw [sharedE] at h;split at h;·omega
 rename_i h1;split at h;·omega
 split at h;·omega
 exact ⟨Z5 (Decidable.not_not.1 h1),by omega,by omega⟩
def Uqc (L:LB) (R:LS):Tri Tryz.prog 77 ([]:List Value).toArray L R (fun v U J=>v=noRest.val∧L=U∧R=J):=by refine Je 2 Tryz.call77 Tryz.func77 rfl rfl rfl ?_;apply (Xd2);intro b0;apply (qam);refine Jw (J8 (qs:=[(0,(Value.int _ _).cells.toList),(1,(Value.int _ _).cells.toList),(2,(Value.int _ _).cells.toList)]) (out:=[_,_,_,_,_]) tb rfl rfl rfl rfl) rfl ?_;apply (Xbl);refine q_r L R (Vs rfl ztb) ?_;exact zDd
def askE (s:XSite) (c:List XCut) (fl:List XSpan) (r:XRest) (p k t:Int):Int:=
 if sharedE s c.length fl.length t≠0 then sharedE s c.length fl.length t
 else if r.zone≠-1 then 10
 else if p < 0∨(s.persons.l.length:Int)≤p∨s.persons.l.getD p.toNat 0≠1 then 19
 else readyE s c fl k t
def askR (s:XSite) (c:List XCut) (fl:List XSpan) (r:XRest) (p k t:Int):XRest:=if askE s c fl r p k t=0 then ⟨k,p,-1,1,t⟩ else r
def V8c {s:XSite} {c:List XCut} {fl:List XSpan} {r:XRest} {p k t e:Int} (h:askE s c fl r p k t=e) (he:e≠0):askR s c fl r p k t=r:=by rw [askR,if_neg za]
def Vxf (s:XSite) (c:Arr XCut) (fl:Arr XSpan) (r:XRest) (p k t:Int) (L:LB) (R:LS) (h:RestA s c fl R):
 Tri Tryz.prog 84 [s.val,c.val,fl.val,r.val,.int .i64 p,.int .i64 k,.int .i64 t].toArray L R (fun v U J=>v=.tuple #[(askR s c.l fl.l r p k t).val,.int .i64 (askE s c.l fl.l r p k t)]∧L=U∧R=J):=by
 have hpR:=h.site.persons;refine Je 64 Tryz.call84 Tryz.func84 rfl rfl rfl ?_;apply (Xaf);intro b7;apply (qax);intro b10;apply (qaq);intro b14;apply Xar∘Kte∘qbm∘Xaq;refine q_l rfl (Voa s c fl t _ _ h) ?_;apply (Xbb);refine q_c ?_ ?_<;>intro hc0;·
  apply qae∘Ypa∘Xcg;refine q_r L R zdd ?_;have he:askE s c.l fl.l r p k t=sharedE s c.l.length fl.l.length t:=by rw [askE,if_pos hc0]
  exact ⟨by rw [V8c he hc0,he],rfl,rfl⟩
 obtain ⟨hok,hln,ht⟩:=J3b (s:=s) (nc:=c.l.length) (nf:=fl.l.length) (t:=t) za;apply Xcx∘Xat;refine q_c ?_ ?_<;>intro hc1;·
  apply qae∘Ypa∘Xa3;refine q_r L R zdd ?_;have he:askE s c.l fl.l r p k t=10:=by rw [askE,if_neg hc0,if_pos hc1]
  exact ⟨by rw [V8c he za,he],rfl,rfl⟩
 apply qbo∘Xck;apply Kf (G:=[_,_,_,_,_]) (j:=2) (cj:=33) rfl rfl zb rfl zmb rfl;·exact zme
 intro junk3;apply (qah);apply Kf (G:=[_,_,_,_,_,_,_]) (j:=9) (cj:=40) rfl rfl zb rfl zmb rfl;·intro hg10;replace hg10:=qb hg10;have hpg:=Jp (l:=s.persons.l) (k:=p.toNat) 0 za;apply (Xah);refine Jw zib rfl ?_;exact (Xbc) zvd
 intro junk10;apply (qaf);refine q_c ?_ ?_<;>intro hc2;·
  apply qae∘Ypa∘Xa3;refine q_r L R zdd ?_;have he:askE s c.l fl.l r p k t=19:=by rw [askE,if_neg hc0,if_neg hc1,if_pos za]
  exact ⟨by rw [V8c he za,he],rfl,rfl⟩
 have he:askE s c.l fl.l r p k t=readyE s c.l fl.l k t:=by rw [askE,if_neg hc0,if_neg hc1,if_neg za]
 apply qbo∘Kte∘qbm∘Xaq∘qaa;refine q_l rfl (Ygb s c fl k t _ _ h hok hln ht) ?_;apply (Xbb);refine q_c ?_ ?_<;>intro hc3;·apply qae∘Ypa∘Xcg;refine q_r L R zdd ?_;exact ⟨by rw [V8c he hc3,he],rfl,rfl⟩
 apply (qbv);iterate 3 apply (qaa)
 refine Jw (J8 (qs:=[(0,(Value.int _ _).cells.toList),(1,(Value.int _ _).cells.toList),(2,(Value.int _ _).cells.toList),(3,(Value.int _ _).cells.toList),(4,(Value.int _ _).cells.toList)]) (out:=[_,_,_,_,_]) tb rfl rfl rfl rfl) rfl ?_;apply (Xb2);refine q_r L R zdd ?_;exact ⟨by rw [askR,if_pos za,he,show readyE s c.l fl.l k t=0 by omega],rfl,rfl⟩
def Ygc (r:XRest) (t:Int):Prop:=t < r.time∨r.time < t - 600
instance (r:XRest) (t:Int):Decidable (Ygc r t):=by unfold Ygc;infer_instance
def Vvd (r:XRest) (t:Int) (L:LB) (R:LS) (ht:0≤t∧t≤2147483648):
 Tri Tryz.prog 164 [r.val,.int .i64 t].toArray L R (fun v U J=>v=.bool (decide (Ygc r t))∧L=U∧R=J):=by
 refine Je 16 Tryz.call164 Tryz.func164 rfl rfl rfl ?_;apply (Xaf);intro b2;apply qaz∘Xc8∘Xbm;apply Kf (G:=[_,_,_,_,_]) (j:=4) (cj:=9) rfl rfl zb rfl zmb rfl;·intro hg5;replace hg5:=qb hg5;exact (Xdy) zOd
 intro junk5;apply (Xbs);refine q_b L R ?_;exact ⟨by refine congrArg Value.bool ?_;rw [yCb,decide_eq_true_iff (p:=Ygc r t),Ygc];simp,rfl,rfl⟩
def Z8 (s:XSite) (r:XRest) (p:Int):Prop:=
 p < 0∨(s.persons.l.length:Int)≤p∨p=r.first∨r.first < 0∨(s.persons.l.length:Int)≤r.first∨s.persons.l.getD p.toNat 0=s.persons.l.getD r.first.toNat 0
instance (s:XSite) (r:XRest) (p:Int):Decidable (Z8 s r p):=by unfold Z8;infer_instance
def confirmE (s:XSite) (c:List XCut) (fl:List XSpan) (r:XRest) (p t:Int):Int:=
 if sharedE s c.length fl.length t≠0 then sharedE s c.length fl.length t
 else if r.zone= -1∨r.step≠1 then 10
 else if Z8 s r p then 19
 else if Ygc r t then 8
 else readyE s c fl r.zone t
def confirmR (s:XSite) (c:List XCut) (fl:List XSpan) (r:XRest) (p t:Int):XRest:=if confirmE s c fl r p t=0 then ⟨r.zone,r.first,p,2,t⟩ else r
def V6 {s:XSite} {c:List XCut} {fl:List XSpan} {r:XRest} {p t e:Int} (h:confirmE s c fl r p t=e) (he:e≠0):confirmR s c fl r p t=r:=by rw [confirmR,if_neg za]
def J3d (s:XSite) (c:Arr XCut) (fl:Arr XSpan) (r:XRest) (p t:Int) (L:LB) (R:LS) (h:RestA s c fl R):
 Tri Tryz.prog 86 [s.val,c.val,fl.val,r.val,.int .i64 p,.int .i64 t].toArray L R (fun v U J=>v=.tuple #[(confirmR s c.l fl.l r p t).val,.int .i64 (confirmE s c.l fl.l r p t)]∧L=U∧R=J):=by
 have hpR:=h.site.persons;refine Je 102 Tryz.call86 Tryz.func86 rfl rfl rfl ?_;apply (Xaf);intro b6;apply (qax);intro b9;apply (qaq);intro b12;apply Xar∘Kte∘qbm∘Xaq;refine q_l rfl (Voa s c fl t _ _ h) ?_;apply (Xbb);refine q_c ?_ ?_<;>intro hc0;·
  apply qae∘Ypa∘Xcg;refine q_r L R zdd ?_;have he:confirmE s c.l fl.l r p t=sharedE s c.l.length fl.l.length t:=by rw [confirmE,if_pos hc0]
  exact ⟨by rw [V6 he hc0,he],rfl,rfl⟩
 obtain ⟨hok,hln,ht⟩:=J3b (s:=s) (nc:=c.l.length) (nf:=fl.l.length) (t:=t) za;apply Xcx∘Xcl;apply Kf (G:=[_,_,_]) (j:=3) (cj:=30) rfl rfl zb rfl zmb rfl;·exact ubp
 intro junk4;apply (qaf);refine q_c ?_ ?_<;>intro hc1;·
  apply qae∘Ypa∘Xa3;refine q_r L R zdd ?_;have he:confirmE s c.l fl.l r p t=10:=by rw [confirmE,if_neg hc0,if_pos za]
  exact ⟨by rw [V6 he za,he],rfl,rfl⟩
 apply qbv∘Xab∘qad∘qco;refine Ke tb [0,1,2,3,4,5,6,7,8,9,10,11,12,13,14,15,16,17,18,19,20,21,22,23,24,25,26,27,28,29,30,31,32,33,34,35,36,37,38,39] _ Ko zc ye ?_;apply (qao);refine Ks zvc rfl rfl rfl ?_;apply (qb2);refine U1 (k:=41) zmb (fun hg2=>?_) (fun hg2=>?_);·
  replace hg2:=qb hg2;iterate 3 apply (qap)
  apply (Xbh);iterate 4 apply (qap)
  exact (Xbh) zne
 replace hg2:=qb hg2;apply (Xdo);refine Ks (Kvc rfl rfl) rfl rfl rfl ?_;apply (Xbh);refine U1 (k:=46) zmb (fun hg7=>?_) (fun hg7=>?_);·
  replace hg7:=qb hg7;iterate 4 apply (qap)
  exact (Xbh) zne
 replace hg7:=qb hg7;apply qao∘Xal;refine Ks zFc rfl rfl rfl ?_;apply (Xbh);refine U1 (k:=52) zmb (fun hg13=>?_) (fun hg13=>?_);·replace hg13:=qb hg13;exact zne
 replace hg13:=qb hg13;apply (Xal);refine Ks zvc rfl rfl rfl ?_;apply (Xbh);refine U1 (k:=57) zmb (fun hg18=>?_) (fun hg18=>?_);·
  replace hg18:=qb hg18;iterate 4 apply (qap)
  exact (Xbh) znd
 replace hg18:=qb hg18;apply (Xby);refine Ks (Kvc rfl rfl) rfl rfl rfl ?_;apply (Xbh);refine U1 (k:=63) zmb (fun hg24=>?_) (fun hg24=>?_);·replace hg24:=qb hg24;exact znd
 replace hg24:=qb hg24;have hpg:=Jp (l:=s.persons.l) (k:=p.toNat) 0 za;have hqg:=Jp (l:=s.persons.l) (k:=r.first.toNat) 0 za;apply (Xby);refine Ks zib rfl rfl rfl ?_;apply qce∘qbl∘Xal∘Xal;refine Ks (by first | exact Jd tb rfl rfl rfl rfl zu (i:=r.first.toNat) zk za | exact Jl tb rfl rfl rfl rfl (i:=r.first.toNat) zk za) rfl rfl rfl ?_;apply qce∘qbl;refine Ks zFc rfl rfl rfl ?_;apply (Xb0);refine q_c ?_ ?_<;>intro hc2;·
  apply qae∘Ypa∘Xa3;refine q_r L R zdd ?_;have he:confirmE s c.l fl.l r p t=19:=by rw [confirmE,if_neg hc0,if_neg za,if_pos zba]
  exact ⟨by rw [V6 he za,he],rfl,rfl⟩
 have hbp:¬ Z8 s r p:=by rw [Z8];omega
 apply qbo∘Ypa∘qaa;refine q_l rfl (Vvd r t _ _ ht) ?_;apply (qaf);refine q_c ?_ ?_<;>intro hc3;·
  apply qae∘Ypa∘Xa3;refine q_r L R zdd ?_;have he:confirmE s c.l fl.l r p t=8:=by rw [confirmE,if_neg hc0,if_neg za,if_neg hbp,if_pos zka]
  exact ⟨by rw [V6 he za,he],rfl,rfl⟩
 have he:confirmE s c.l fl.l r p t=readyE s c.l fl.l r.zone t:=by rw [confirmE,if_neg hc0,if_neg za,if_neg hbp,if_neg zka]
 apply qbo∘Kte∘qbm∘qbm∘Xah;refine q_l rfl (Ygb s c fl r.zone t _ _ h hok hln ht) ?_;apply (Xbb);refine q_c ?_ ?_<;>intro hc4;·apply qae∘Ypa∘Xcg;refine q_r L R zdd ?_;exact ⟨by rw [V6 he hc4,he],rfl,rfl⟩
 apply qbv∘Ypa∘qaq;intro b17;apply Xaz∘Xb4∘Xbk∘Xbk∘Xbk∘qam∘Ypa∘Xb2;refine q_r L R zdd ?_;exact ⟨by rw [confirmR,if_pos za,he,show readyE s c.l fl.l r.zone t=0 by omega],rfl,rfl⟩
end
section
end
end Go.Proofs.YtchfclmokpbldaaGreat
