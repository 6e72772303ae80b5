/-
  Merged texts. By an AI agent.
-/
import Derived.Test.YtchfclmokpbldaaGreatSiteS
import Derived.Test.YtchfclmokpbldaaGreatFans
import Derived.Test.YtchfclmokpbldaaGreatRestP
import Derived.Test.YtchfclmokpbldaaGreatRuleP
set_option linter.all false
set_option maxHeartbeats 4000000
set_option maxRecDepth 20000
namespace Go.Proofs.YtchfclmokpbldaaGreat
open Go.Aw Go
section
def U1d {e:Int} (h:nzO e=none):e=0:=by
 rw [nzO] at h;split at h;·assumption
 ·cases h
def Zse {e x:Int} (h:nzO e=some x):x≠0:=by
 rw [nzO] at h;split at h;·cases h
 ·cases h;assumption
structure SiteOk (s:XSite):Prop where
 air:Kv s.air=0
 len:s.sensors.l.length≤64∧s.conds.l.length≤64∧s.zones.l.length≤16∧s.persons.l.length≤64
 sens:∀i:Nat,i < s.sensors.l.length→Z2 s.air s.sensors.l i=none
 cond:∀c∈s.conds.l,Ko s.sensors.l s.air.mine.roads.l.length c=0
 zone:∀z∈s.zones.l,V6 s.conds.l.length s.air.mine.roads.l.length z=0
 pers:∀p∈s.persons.l,1≤p∧p≤3
def K2e {a:XAir} {S:List XSens} {i:Nat} {e:Int} (h:Z2 a S i=some e):e≠0:=by
 rw [Z2] at h;split at h;·cases h;assumption
 split at h;·cases h;decide
 split at h;·cases h;decide
 ·cases h
def Z4 {s:XSite} (h:K5 s=0):SiteOk s:=by
 rw [K5] at h;split at h;·omega
 split at h;·omega
 split at h;·omega
 split at h;·omega
 split at h;·omega
 rename_i h1 h2 h3 h4 h5;refine ⟨by omega,by omega,fun i hi=>?_,fun c hc=>?_,fun z hz=>?_,fun p hp=>?_⟩;·
  have h3' : Um s.air s.sensors.l = 0 := by omega
  exact Vl (f:=Z2 s.air s.sensors.l) (fun x e hx=>K2e hx) h3' i (List.mem_range.2 hi)
 ·
  have h4' : J8a s = 0 := by omega
  exact U1d (Vl (f:=fun c=>nzO (Ko s.sensors.l s.air.mine.roads.l.length c)) (fun x e hx=>Zse hx) h4' c hc)
 ·
  have h5' : Yt s = 0 := by omega
  exact U1d (Vl (f:=fun z=>nzO (V6 s.conds.l.length s.air.mine.roads.l.length z)) (fun x e hx=>Zse hx) h5' z hz)
 ·
  have:=Vl (f:=fun p:Int=>if p < 1∨3 < p then some 19 else none) (fun x e hx=>by
   split at hx;·cases hx;decide
   ·cases hx) h p hp
  exact uaJ
def Uma {α β:Type} {f:α→Option β} {l:List α} (h:∀x∈l,f x=none):l.findSome? f=none:=List.findSome?_eq_none_iff.2 h
def SiteOk.err {s:XSite} (h:SiteOk s):K5 s=0:=by
 have h1:=h.air;have h2:=h.len;have e1:Um s.air s.sensors.l=0:=by rw [Um,Uma (fun i hi=>h.sens i (List.mem_range.1 hi))];rfl
 have e2:J8a s=0:=by rw [J8a,Uma (fun c hc=>by rw [nzO,if_pos (h.cond c hc)])];rfl
 have e3:Yt s=0:=by rw [Yt,Uma (fun z hz=>by rw [nzO,if_pos (h.zone z hz)])];rfl
 have e4:Jca s=0:=by rw [Jca,Uma (fun p hp=>if_neg (by have:=h.pers p hp;omega))];rfl
 rw [K5,if_neg za,if_neg za,if_neg za,if_neg za,if_neg za,e4]
def Kmc {S:List XSens} {n:Nat} {c:XCond} (h:Ko S n c=0):(1≤c.kind∧c.kind≤5)∧(0≤c.value∧c.value≤1099511627776)∧(c.kind=1→Zb c.level)∧
 (c.kind=5→0≤c.target∧c.target < n)∧(c.kind≠5→0≤c.target∧c.target < S.length)∧(c.kind=3→(S.getD c.target.toNat default).kind=5):=by
 rw [Ko] at h;split at h;·omega
 rename_i h1;split at h;·omega
 rename_i h2;have h3:Ki S n c=0:=by omega
 have h4:c.kind=1→Zb c.level:=fun hk=>by
  rw [if_pos hk,Zx] at h;split at h;·assumption
  ·omega
 rw [Ki] at h3;split at h3;·exact ubg
 split at h3;·
  split at h3;·rename_i h5;exact ⟨by omega,by omega,h4,by omega,by omega,fun _=>h5.2⟩
  ·omega
 split at h3;·exact ubg
 ·omega
structure WrO {α:Type} (l0:List α) (g:Nat→α) (i:Nat) (l:List α):Prop where
 len:l.length=l0.length
 don:∀j:Nat,j < i→l[j]?=some (g j)
 old:∀j:Nat,i≤j→l[j]?=l0[j]?
def WrO.zero {α:Type} {l0:List α} {g:Nat→α}:WrO l0 g 0 l0:=⟨rfl,fun j hj=>by omega,fun j _=>rfl⟩
def WrO.next {α:Type} {l0:List α} {g:Nat→α} {i:Nat} {l:List α} (h:WrO l0 g i l) (hi:i < l0.length) {x:α} (hx:x=g i):WrO l0 g (i + 1) (l.set i x):=by
 have hl:=h.len;refine ⟨by simp [hl],fun j hj=>?_,fun j h1=>?_⟩;·
  rw [yJ];split;·rename_i e;rw [if_pos za,hx,e]
  ·exact h.don j za
 ·rw [yaa za];exact h.old j za
def WrO.stay {α:Type} {l0:List α} {g:Nat→α} {i:Nat} {l:List α} (h:WrO l0 g i l) (hx:l0[i]?=some (g i)):WrO l0 g (i + 1) l:=by
 refine ⟨h.len,fun j hj=>?_,fun j h1=>h.old j za⟩;rcases yl j i with h1 | h1;·exact h.don j h1
 ·
  obtain rfl : j = i := by omega
  rw [h.old j (yn _),hx]
def WrO.done {α:Type} {l0:List α} {g:Nat→α} {l:List α} (h:WrO l0 g l0.length l):l=(List.range l0.length).map g:=by
 have hl:=h.len;refine yoa fun j=>?_;rcases yl j l0.length with hj | hj;·rw [h.don j hj,yt,yda hj];rfl
 ·rw [yr za,yr zC]
end
section
attribute [local irreducible] CJ LJ DJ Tri YV Gives Uo J0 Kj Un RV J2 OwL.L
section
variable {A B:Prop}
def Vpf(h:A→B:=by exact K3 (by first | exact Jh tb rfl rfl rfl rfl zx (i:=k.toNat) zk za | exact Jn tb rfl rfl rfl rfl (i:=k.toNat) zk za) rfl rfl rfl):=h
def Y6f(h:A→B:=by exact K3 (by first | exact Jh tb rfl rfl rfl rfl zx (i:=(z.roads.l.getD j 0).toNat) zk za | exact Jn tb rfl rfl rfl rfl (i:=(z.roads.l.getD j 0).toNat) zk za) rfl rfl rfl):=h
end
def U1e {s:XSite} (h:SiteOk s) {r:XRoad} (hr:r∈s.air.mine.roads.l):(1≤r.len∧r.len≤100000)∧(1≤r.area∧r.area≤1000):=by
 have h1:Uf s.air.mine=0:=by
  have:=h.air;rw [Kv] at this;split at this;·exact this
  ·rename_i h2;exact Decidable.not_not.1 h2
 unfold Uf at h1;split at h1;·cases h1
 split at h1;·rename_i e he;subst h1;obtain ⟨x,_,hx⟩:=yy he;unfold Z3 at hx;split at hx <;> cases hx
 have hall:=Vl (f:=Vm s.air.mine.places.l.length) (fun x e hx he=>by
  subst he;unfold Vm at hx;split at hx;·cases hx
  ·split at hx <;> cases hx) h1
 have:=hall r hr;unfold Vm at this;split at this;·cases this
 split at this;·cases this
 rename_i h2;omega
def Vje {s:XSite} (h:SiteOk s) {z:XZone} (hz:z∈s.zones.l):(0≤z.hold∧z.hold≤100000)∧(0≤z.fresh∧z.fresh≤100)∧∀i:Nat,i < z.roads.l.length→0≤z.roads.l.getD i 0∧z.roads.l.getD i 0 < s.air.mine.roads.l.length:=by
 have:=h.zone z hz;rw [V6] at this;split at this;·omega
 split at this;·cases this
 rename_i h1;split at this;·cases this
 rename_i h2;refine ⟨by omega,by omega,fun i hi=>?_⟩;have:¬ Vv s.air.mine.roads.l.length z.roads.l i:=fun hb=>h2 ⟨i,hi,hb⟩;rw [Vv] at this;omega
def V9e {s:XSite} (h:SiteOk s) {z:XZone} (hz:z∈s.zones.l):z.roads.l.length≤128:=by
 have:=h.zone z hz;rw [V6] at this;split at this;·omega
 split at this;·cases this
 split at this;·cases this
 rename_i h2;have hb:∀i:Nat,i < z.roads.l.length→¬ Vv s.air.mine.roads.l.length z.roads.l i:=fun i hi hb=>h2 ⟨i,hi,hb⟩;have up:∀i:Nat,i < z.roads.l.length→(i:Int)≤z.roads.l.getD i 0:=by
  intro i;induction i with
  | zero=>intro hi;have:=hb 0 hi;rw [Vv] at this;omega
  | succ i ih=>intro hi;have h1:=ih za;have h2:=hb (i + 1) hi;rw [Vv,Nat.add_sub_cancel] at h2;omega
 have hn:=(Yy h.air).mine.roads;rcases yl 128 z.roads.l.length with h3 | h3;·have h4 := up 128 h3;have h5:=hb 128 h3;rw [Vv] at h5;omega
 ·exact h3
def Kva (s:XSite) (fl:List XSpan) (z:XZone) (sec r:Int):Prop:=¬ J6c (s.air.mine.roads.l.getD r.toNat default) (fl.getD r.toNat default) z.fresh sec
instance (s:XSite) (fl:List XSpan) (z:XZone) (sec r:Int):Decidable (Kva s fl z sec r):=by unfold Kva;infer_instance
def Zba (s:XSite) (fl:List XSpan) (c:XCut) (z:XZone) (t:Int):Int:=
 if c.off=false then 10
 else if (c.clear < 0∨t < c.clear)∨t - c.clear < z.hold then 20
 else if∃r∈z.roads.l,Kva s fl z (t - c.clear) r then 20 else 0
def readyE (s:XSite) (c:List XCut) (fl:List XSpan) (k t:Int):Int:=
 if k < 0∨(c.length:Int)≤k then 17 else Zba s fl (c.getD k.toNat default) (s.zones.l.getD k.toNat default) t
def Vre {s:XSite} {fl:List XSpan} {c:XCut} {z:XZone} {t:Int} (h1:c.off=true) (h2:¬ ((c.clear < 0∨t < c.clear)∨t - c.clear < z.hold)) (h3:∀j:Nat,j < z.roads.l.length→¬ Kva s fl z (t - c.clear) (z.roads.l.getD j 0)):Zba s fl c z t=0:=by rw [Zba,if_neg (by rw [h1];decide),if_neg h2,if_neg];rintro ⟨r,hr,hw⟩;obtain ⟨j,hj,rfl⟩:=yvb hr;have:=h3 j hj;rw [yh,yH hj] at this;exact this hw
def Yzd {s:XSite} {fl:List XSpan} {c:XCut} {z:XZone} {t r:Int} (h1:c.off=true) (h2:¬ ((c.clear < 0∨t < c.clear)∨t - c.clear < z.hold)) (hr:r∈z.roads.l) (h3:Kva s fl z (t - c.clear) r):Zba s fl c z t=20:=by rw [Zba,if_neg (by rw [h1];decide),if_neg h2,if_pos ⟨r,hr,h3⟩]
structure RestA (s:XSite) (c:Arr XCut) (fl:Arr XSpan) (R:LS):Prop where
 site:SiteR s R
 cuts:InR (Y5c c) R
 flows:InR (Yvd fl) R
def Jse (s:XSite) (c:Arr XCut) (fl:Arr XSpan) (k t:Int) (L:LB) (R:LS) (h:RestA s c fl R) (hok:SiteOk s) (hlen:c.l.length=s.zones.l.length∧fl.l.length=s.air.mine.roads.l.length) (ht:0≤t∧t≤2147483648):
 Tri Tryz.prog 163 [s.val,c.val,fl.val,.int .i64 k,.int .i64 t].toArray L R (fun v M U=>v=.int .i64 (readyE s c.l fl.l k t)∧L=M∧R=U):=by
 have hcR:=h.cuts;have hfR:=h.flows;have hzR:=h.site.zones;have hrR:=h.site.air.roads;have hsl:=hok.len;refine Je 80 Tryz.call163 Tryz.func163 rfl rfl rfl ?_;apply (Xag);intro b5;apply Xaq∘Xb5;apply Kf (G:=[_,_,_,_]) (j:=2) (cj:=17) rfl rfl zb rfl zfb rfl;·intro hg3;replace hg3:=qb hg3;exact (qaa∘Xak) zhd
 intro junk3;apply (qaf);refine q_c ?_ ?_<;>intro hc0;·apply (Xa6);refine q_i L R ?_;exact ⟨by rw [readyE,if_pos za],rfl,rfl⟩
 have hcg:=Ju (l:=c.l) (k:=k.toNat) default za;have hzg:=Ju (l:=s.zones.l) (k:=k.toNat) default za;have he:readyE s c.l fl.l k t=Zba s fl.l (c.l.getD k.toNat default) (s.zones.l.getD k.toNat default) t:=by rw [readyE,if_neg za]
 obtain ⟨z,hz⟩:∃z,z=s.zones.l.getD k.toNat default:=⟨_,rfl⟩;obtain ⟨x,hx⟩:∃x,x=c.l.getD k.toNat default:=⟨_,rfl⟩;rw [← hz] at hzg he;rw [← hx] at hcg he;have hzr:=Vje hok (yi hzg);have hzl:=V9e hok (yi hzg);have hzroR:InR (isl z.roads) R:=InR.zroads hzR hzg;apply (qcl);refine Kk tb [0,1,2,3,4,5,6,7,8,9,10,11,12] _ Kr zc ye ?_;refine K3 zOc rfl rfl rfl ?_;apply qao∘Vpf∘qdv∘Xbx∘Vpf∘qdp∘qbr;intro b11;apply (qbr);intro b12;apply qbg∘qbg∘qc6∘Xaa∘Xbg;refine q_c ?_ ?_<;>intro hc1;·apply (Xa6);refine q_i L R ?_;exact ⟨by rw [he,Zba,if_pos zJ],rfl,rfl⟩
 have hoff:x.off=true:=by simpa using hc1
 apply qbo∘Xbn;apply Kf (G:=[_,_,_,_]) (j:=3) (cj:=38) rfl rfl zb rfl zfb rfl;·intro hg4;replace hg4:=qb hg4;exact (Xaj∘qa5) qai
 intro junk4;apply (qah);apply Kf (G:=[_,_,_,_,_,_,_]) (j:=9) (cj:=44) rfl rfl zb rfl zfb rfl;·intro hg10;replace hg10:=qb hg10;exact (qaa∘Xaa∘qa9) znd
 intro junk10;apply (qaf);refine q_c ?_ ?_<;>intro hc2;·apply (Xa6);refine q_i L R ?_;exact ⟨by rw [he,Zba,if_neg (by rw [hoff];decide),if_pos za],rfl,rfl⟩
 apply (Xcp);refine Jk [(2,.slice _ _ _),(4,.int _ _),(5,.pointer _),(11,.pointer _),(12,.pointer _),(54,.slice _ _ _),(55,.int _ _),(56,.int _ _)] zh fun tq0=>?_;refine q_s ([10,14]++rg 56 24) (fun g:{j:Nat // j≤z.roads.l.length∧∀m:Nat,m < j→¬ Kva s fl.l z (t - x.clear) (z.roads.l.getD m 0)}=>[(56,.int .i64 ((g.1:Nat):Int))]) (fun g=>z.roads.l.length - g.1) (⟨0,by omega,fun m hm=>by omega⟩) ?_;rintro ⟨j,hj,hal⟩ junk;try dsimp only
 apply (Xan);refine q_c ?_ ?_<;>intro hc3;·
  have hjg:=Ju (l:=z.roads.l) (k:=j) 0 za;have hjr:=hzr.2.2 j za;have hrg:=Ju (l:=s.air.mine.roads.l) (k:=(z.roads.l.getD j 0).toNat) default za;have hfg:=Ju (l:=fl.l) (k:=(z.roads.l.getD j 0).toNat) default za;have hrr:=U1e hok (yi hrg);apply (qbb);refine Jx zwa rfl ?_;apply qa7∘Xb4;refine Kk tb [0,1,2,3,4,5,6,7,8,9,10,11,12,13,14,15,16,17,18] _ Kr zc ye ?_;iterate 3 apply (qal)
  apply qat∘qao∘Y6f;refine K3 zVa rfl rfl rfl ?_;refine K3 zOc rfl rfl rfl ?_;apply qao∘Y6f∘qdo∘Xbx∘Xal∘qb7;refine q_d rfl (Jdd (s.air.mine.roads.l.getD (z.roads.l.getD j 0).toNat default) (fl.l.getD (z.roads.l.getD j 0).toNat default) z.fresh (t - x.clear) _ _ hrr.1 hrr.2 hzr.2.1 za) ?_;refine K3 (Kpb rfl) rfl rfl rfl ?_;apply (qbu);refine q_c ?_ ?_<;>intro hc4;·apply (Xb7);refine q_i L R ?_;exact ⟨by rw [he,Yzd hoff za (yi hjg) (by rw [Kva];simpa using hc4)],rfl,rfl⟩
  apply (Xa3);exact Kq (⟨j + 1,by omega,fun m hm=>by
  rcases yl m j with h | h;·exact hal m h
  ·(obtain rfl : m = j := by omega);rw [Kva];simpa using hc4⟩) zm zh zi zxb zw
 apply (Xcx);refine q_i L R ?_;exact ⟨by rw [he,Vre hoff za (fun m hm=>hal m za)],rfl,rfl⟩
end
section
attribute [local irreducible] CJ LJ DJ Tri YV Gives Uo J0 Kj Un RV J2 OwL.L
section
variable {A B:Prop}
def U3e(h:A→B:=by exact Jx zPb rfl):=h
def Khf(h:A→B:=by exact Jx zmb rfl):=h
end
structure XRest where
 zone:Int
 first:Int
 second:Int
 step:Int
 time:Int
 deriving DecidableEq
abbrev XRest.val (x:XRest):Value:=.agg #[.int .i64 x.zone,.int .i64 x.first,.int .i64 x.second,.int .i64 x.step,.int .i64 x.time]
def noRest:XRest:=⟨-1,-1,-1,0,0⟩
def sharedE (s:XSite) (nc nf:Nat) (t:Int):Int:=if K5 s≠0 then K5 s else if ¬ (nc=s.zones.l.length∧nf=s.air.mine.roads.l.length) then 11 else if t < 0∨2147483648 < t then 8 else 0
def K2c (s:XSite) (c:Arr XCut) (fl:Arr XSpan) (t:Int) (L:LB) (R:LS) (h:RestA s c fl R):
 Tri Tryz.prog 162 [s.val,c.val,fl.val,.int .i64 t].toArray L R (fun v M U=>v=.int .i64 (sharedE s c.l.length fl.l.length t)∧L=M∧R=U):=by
 refine Je 37 Tryz.call162 Tryz.func162 rfl rfl rfl ?_;apply (Xag);intro b4;apply Xaq∘Khf;refine q_l rfl (J5a s _ _ h.site) ?_;apply (Xbp);refine q_c ?_ ?_<;>intro hc0;·apply (Xdr);refine q_i L R ?_;exact ⟨by rw [sharedE,if_pos hc0],rfl,rfl⟩
 apply qbo∘Xak∘Xab∘Xcn;apply Kf (G:=[_,_,_,_,_,_,_,_]) (j:=6) (cj:=21) rfl rfl zb rfl zfb rfl;·
  intro hg7;replace hg7:=qb hg7;apply (Xak);iterate 3 apply (qab)
  exact (Xcw) zfd
 intro junk7;apply (qaf);refine q_c ?_ ?_<;>intro hc1;·apply (Xa6);refine q_i L R ?_;exact ⟨by rw [sharedE,if_neg za,if_pos za],rfl,rfl⟩
 apply qbo∘Xb5;apply Kf (G:=[_,_]) (j:=2) (cj:=33) rfl rfl zb rfl zfb rfl;·exact zdd
 intro junk3;apply (qaf);refine q_c ?_ ?_<;>intro hc2;·apply (Xa6);refine q_i L R ?_;exact ⟨by rw [sharedE,if_neg za,if_neg za,if_pos za],rfl,rfl⟩
 apply (Xco);refine q_i L R ?_;exact ⟨by rw [sharedE,if_neg za,if_neg za,if_neg za],rfl,rfl⟩
def Z4d {s:XSite} {nc nf:Nat} {t:Int} (h:sharedE s nc nf t=0):SiteOk s∧(nc=s.zones.l.length∧nf=s.air.mine.roads.l.length)∧0≤t∧t≤2147483648:=by
 rw [sharedE] at h;split at h;·omega
 rename_i h1;split at h;·omega
 split at h;·omega
 exact ⟨Z4 (Decidable.not_not.1 h1),by omega,by omega⟩
def Ktd (L:LB) (R:LS):Tri Tryz.prog 77 ([]:List Value).toArray L R (fun v M U=>v=noRest.val∧L=M∧R=U):=by refine Je 2 Tryz.call77 Tryz.func77 rfl rfl rfl ?_;apply (Xcg);intro b0;apply (qam);refine Jx (J4 (qs:=[(0,(Value.int _ _).cells.toList),(1,(Value.int _ _).cells.toList),(2,(Value.int _ _).cells.toList)]) (out:=[_,_,_,_,_]) tb rfl rfl rfl rfl) rfl ?_;apply (Xa8);refine q_r L R (U8 rfl zvb) ?_;exact zkd
def askE (s:XSite) (c:List XCut) (fl:List XSpan) (r:XRest) (p k t:Int):Int:=
 if sharedE s c.length fl.length t≠0 then sharedE s c.length fl.length t
 else if r.zone≠-1 then 10
 else if p < 0∨(s.persons.l.length:Int)≤p∨s.persons.l.getD p.toNat 0≠1 then 19
 else readyE s c fl k t
def askR (s:XSite) (c:List XCut) (fl:List XSpan) (r:XRest) (p k t:Int):XRest:=if askE s c fl r p k t=0 then ⟨k,p,-1,1,t⟩ else r
def J3c {s:XSite} {c:List XCut} {fl:List XSpan} {r:XRest} {p k t e:Int} (h:askE s c fl r p k t=e) (he:e≠0):askR s c fl r p k t=r:=by rw [askR,if_neg za]
def Jvf (s:XSite) (c:Arr XCut) (fl:Arr XSpan) (r:XRest) (p k t:Int) (L:LB) (R:LS) (h:RestA s c fl R):
 Tri Tryz.prog 84 [s.val,c.val,fl.val,r.val,.int .i64 p,.int .i64 k,.int .i64 t].toArray L R (fun v M U=>v=.tuple #[(askR s c.l fl.l r p k t).val,.int .i64 (askE s c.l fl.l r p k t)]∧L=M∧R=U):=by
 have hpR:=h.site.persons;refine Je 64 Tryz.call84 Tryz.func84 rfl rfl rfl ?_;apply (Xag);intro b7;apply (qax);intro b10;apply (qaq);intro b14;apply Xaq∘Khf∘qbm∘Xas;refine q_l rfl (K2c s c fl t _ _ h) ?_;apply (Xbp);refine q_c ?_ ?_<;>intro hc0;·
  apply qae∘U3e∘Xdm;refine q_r L R (Yz rfl zvb zEc) ?_;have he:askE s c.l fl.l r p k t=sharedE s c.l.length fl.l.length t:=by rw [askE,if_pos hc0]
  exact ⟨by rw [J3c he hc0,he],rfl,rfl⟩
 obtain ⟨hok,hln,ht⟩:=Z4d (s:=s) (nc:=c.l.length) (nf:=fl.l.length) (t:=t) za;apply Xc7∘Xax;refine q_c ?_ ?_<;>intro hc1;·
  apply qae∘U3e∘Xb0;refine q_r L R (Yz rfl zvb zEc) ?_;have he:askE s c.l fl.l r p k t=10:=by rw [askE,if_neg hc0,if_pos hc1]
  exact ⟨by rw [J3c he za,he],rfl,rfl⟩
 apply qbo∘Xb5;apply Kf (G:=[_,_,_,_,_]) (j:=2) (cj:=33) rfl rfl zb rfl zfb rfl;·intro hg3;replace hg3:=qb hg3;exact zQd
 intro junk3;apply (qah);apply Kf (G:=[_,_,_,_,_,_,_]) (j:=9) (cj:=40) rfl rfl zb rfl zfb rfl;·intro hg10;replace hg10:=qb hg10;have hpg:=Ju (l:=s.persons.l) (k:=p.toNat) 0 za;apply (Xaj);refine Jx (by first | exact Jh tb rfl rfl rfl rfl zx (i:=p.toNat) zk za | exact Jn tb rfl rfl rfl rfl (i:=p.toNat) zk za) rfl ?_;exact (Xb3) zfd
 intro junk10;apply (qaf);refine q_c ?_ ?_<;>intro hc2;·
  apply qae∘U3e∘Xb0;refine q_r L R (Yz rfl zvb zEc) ?_;have he:askE s c.l fl.l r p k t=19:=by rw [askE,if_neg hc0,if_neg hc1,if_pos za]
  exact ⟨by rw [J3c he za,he],rfl,rfl⟩
 have he:askE s c.l fl.l r p k t=readyE s c.l fl.l k t:=by rw [askE,if_neg hc0,if_neg hc1,if_neg za]
 apply qbo∘Khf∘qbm∘Xas∘qaa;refine q_l rfl (Jse s c fl k t _ _ h hok hln ht) ?_;apply (Xbp);refine q_c ?_ ?_<;>intro hc3;·apply qae∘U3e∘Xdm;refine q_r L R (Yz rfl zvb zEc) ?_;exact ⟨by rw [J3c he hc3,he],rfl,rfl⟩
 apply (qbv);iterate 3 apply (qaa)
 refine Jx (J4 (qs:=[(0,(Value.int _ _).cells.toList),(1,(Value.int _ _).cells.toList),(2,(Value.int _ _).cells.toList),(3,(Value.int _ _).cells.toList),(4,(Value.int _ _).cells.toList)]) (out:=[_,_,_,_,_]) tb rfl rfl rfl rfl) rfl ?_;apply (Xcf);refine q_r L R (Yz rfl zvb zEc) ?_;exact ⟨by rw [askR,if_pos za,he,show readyE s c.l fl.l k t=0 by omega],rfl,rfl⟩
def Vue (r:XRest) (t:Int):Prop:=t < r.time∨r.time < t - 600
instance (r:XRest) (t:Int):Decidable (Vue r t):=by unfold Vue;infer_instance
def Z3c (s:XSite) (r:XRest) (p:Int):Prop:=
 p < 0∨(s.persons.l.length:Int)≤p∨p=r.first∨r.first < 0∨(s.persons.l.length:Int)≤r.first∨s.persons.l.getD p.toNat 0=s.persons.l.getD r.first.toNat 0
instance (s:XSite) (r:XRest) (p:Int):Decidable (Z3c s r p):=by unfold Z3c;infer_instance
def K7d (s:XSite) (c:List XCut) (fl:List XSpan) (r:XRest) (p t:Int):Int:=
 if sharedE s c.length fl.length t≠0 then sharedE s c.length fl.length t
 else if r.zone= -1∨r.step≠1 then 10
 else if Z3c s r p then 19
 else if Vue r t then 8
 else readyE s c fl r.zone t
def U7e (s:XSite) (c:List XCut) (fl:List XSpan) (r:XRest) (p t:Int):XRest:=if K7d s c fl r p t=0 then ⟨r.zone,r.first,p,2,t⟩ else r
end
section
def shN (n:Nat) (x:XNode):XNode:=⟨x.kind,x.cond,if x.kind=1 then x.left else x.left + n,if x.kind=3∨x.kind=4 then x.right + n else x.right⟩
def K5d {l m:List XNode} {i:Nat} (h:i < l.length):(l ++ m).getD i default=l.getD i default:=by rw [yh,yx h,← yh]
def V0a {a c : List XNode} : ∀ (n : Nat) (i f d : Int), i < a.length → Vf a n i = some (f, d) → Vf (a ++ c) n i = some (f, d)
 | 0,i,f,d,_,h=>by rw [Vf] at h;cases h
 | n + 1,i,f,d,hi,h=>by
  rw [Vf] at h ⊢
  split at h
  ·cases h
  rename_i h0
  rw [if_neg h0,K5d za]
  split at h
  ·rename_i h1;rw [if_pos h1];exact h
  rename_i h1
  rw [if_neg h1]
  split at h
  ·rename_i h2
   rw [if_pos h2]
   split at h
   ·cases h
   rename_i f' d' hp
   rw [V0a n _ _ _ za hp]
   exact h
  rename_i h2
  rw [if_neg h2]
  split at h
  ·rename_i h3
   rw [if_pos h3]
   split at h
   ·cases h
   rename_i x y hp
   rw [V0a n _ _ _ za hp]
   dsimp only
   split at h
   ·rename_i h4
    rw [if_pos h4]
    split at h
    ·cases h
    rename_i x' y' hq
    have:=(Jja _ _ _ _ hp).1
    rw [V0a n _ _ _ za hq]
    exact h
   ·cases h
  ·cases h
def J5f {a b c:List XNode} {i:Nat} (h:i < b.length):(a ++ b.map (shN a.length) ++ c).getD (a.length + i) default=shN a.length (b.getD i default):=by rw [K5d zC,yh,yD za,Nat.add_sub_cancel_left,yt,Ju (l:=b) (k:=i) default h];rfl
def Utb {a b c : List XNode} : ∀ (n : Nat) (i f d : Int), i < b.length → Vf b n i = some (f, d) → Vf (a ++ b.map (shN a.length) ++ c) n (a.length + i) = some (a.length + f, d)
 | 0,i,f,d,_,h=>by rw [Vf] at h;cases h
 | n + 1,i,f,d,hi,h=>by
  rw [Vf] at h ⊢
  split at h
  ·cases h
  rename_i h0
  rw [if_neg za,show ((a.length:Int) + i).toNat=a.length + i.toNat by omega,J5f za]
  generalize b.getD i.toNat default=x at h ⊢
  split at h
  ·rename_i h1
   have e1:(shN a.length x).kind=1:=h1
   rw [if_pos e1]
   split at h
   ·rename_i h2
    rw [if_pos (by rw [shN,if_pos h1,if_neg za];exact h2)]
    cases h
    rfl
   ·cases h
  rename_i h1
  have e1:¬ (shN a.length x).kind=1:=h1
  rw [if_neg e1]
  split at h
  ·rename_i h2
   have e2:(shN a.length x).kind=2:=h2
   rw [if_pos e2]
   split at h
   ·cases h
   rename_i f' d' hp
   have ih:=Utb (a:=a) (c:=c) n _ _ _ za hp
   rw [show (a.length:Int) + i - 1=a.length + (i - 1) by omega,ih]
   dsimp only
   split at h
   ·rename_i h3
    rw [if_pos (by rw [shN,if_neg h1,if_neg za];dsimp only;omega)]
    cases h
    rfl
   ·cases h
  rename_i h2
  have e2:¬ (shN a.length x).kind=2:=h2
  rw [if_neg e2]
  split at h
  ·rename_i h3
   have e3:(shN a.length x).kind=3∨(shN a.length x).kind=4:=h3
   rw [if_pos e3]
   split at h
   ·cases h
   rename_i m r hp
   have ih:=Utb (a:=a) (c:=c) n _ _ _ za hp
   rw [show (a.length:Int) + i - 1=a.length + (i - 1) by omega,ih]
   dsimp only
   split at h
   ·rename_i h4
    rw [if_pos (by rw [shN,if_neg h1,if_pos h3];dsimp only;omega)]
    split at h
    ·cases h
    rename_i f' q hq
    have:=(Jja _ _ _ _ hp).1
    have ih2:=Utb (a:=a) (c:=c) n _ _ _ za hq
    rw [show (a.length:Int) + m - 1=a.length + (m - 1) by omega,ih2]
    dsimp only
    cases h
    rfl
   ·cases h
  ·cases h
def Zde : Nat → Nat
 | 0=>1
 | n + 1=>2 * Zde n + 1
structure RuleD (conds:Nat) (dp:Nat) (l:List XNode):Prop where
 len:1≤l.length∧l.length≤Zde dp
 part:∃d:Int,Vf l l.length ((l.length:Int) - 1)=some (0,d)∧d≤dp + 1
 conds:∀x∈l,x.kind=1→x.cond < conds
 kind:∀x∈l,1≤x.kind∧x.kind≤4
 small:∀x∈l,(0≤x.left∧x.left≤l.length)∧0≤x.right∧x.right≤l.length
def U2e : ∀ n, 1 ≤ Zde n
 | 0=>yn _
 | n + 1=>by rw [Zde];omega
def RuleD.leaf {conds dp:Nat} {k:Int} (hk:0≤k∧k < conds) (hc:conds≤64):RuleD conds dp [⟨1,k,0,0⟩]:=by
 have:=U2e dp;refine ⟨by simp;omega,⟨1,?_,by omega⟩,fun x hx _=>?_,fun x hx=>?_,fun x hx=>?_⟩;·
  have e:Vf [⟨1,k,0,0⟩] 1 0=some (0,1):=by have e0:([⟨1,k,0,0⟩]:List XNode).getD (0:Int).toNat default=⟨1,k,0,0⟩:=rfl;rw [Vf,if_neg za,e0,if_pos (show (⟨1,k,0,0⟩:XNode).kind=1 from rfl),if_pos (show (⟨1,k,0,0⟩:XNode).left=0∧(⟨1,k,0,0⟩:XNode).right=0∧0≤(⟨1,k,0,0⟩:XNode).cond∧(⟨1,k,0,0⟩:XNode).cond < 64 from ⟨rfl,rfl,hk.1,(by show k < 64;omega)⟩)]
  exact e
 ·rw [List.mem_singleton.1 hx];exact hk.2
 ·rw [List.mem_singleton.1 hx];dsimp only;omega
 ·rw [List.mem_singleton.1 hx];dsimp only;simp
def RuleD.neg {conds dp:Nat} {a:List XNode} (ha:RuleD conds dp a):RuleD conds (dp + 1) (a ++ [⟨2,0,(a.length:Int) - 1,0⟩]):=by
 have hl:=ha.len;obtain ⟨d,hp,hd⟩:=ha.part;refine ⟨by rw [yj,Zde];simp;omega,⟨d + 1,?_,by omega⟩,fun x hx hk=>?_,fun x hx=>?_,fun x hx=>?_⟩;·
  rw [yj, ym, Vf];rw [if_neg za];have e:(a ++ [(⟨2,0,(a.length:Int) - 1,0⟩:XNode)]).getD (((a.length + 1:Nat):Int) - 1).toNat default=⟨2,0,(a.length:Int) - 1,0⟩:=by rw [show (((a.length + 1:Nat):Int) - 1).toNat=a.length by omega,yh,yD za,yGb];rfl
  rw [e,if_neg (show ¬ (2:Int)=1 by decide),if_pos (show (2:Int)=2 from rfl),show ((a.length + 1:Nat):Int) - 1 - 1=(a.length:Int) - 1 by omega,V0a _ _ _ _ za hp];dsimp only;rw [if_pos ⟨rfl,rfl,by omega⟩]
 ·
  rcases List.mem_append.1 hx with h | h;·exact ha.conds x h hk
  ·rw [List.mem_singleton.1 h] at hk;cases hk
 ·
  rcases List.mem_append.1 hx with h | h;·exact ha.kind x h
  ·exact ua1
 ·
  rw [yj, ym];rcases List.mem_append.1 hx with h | h;·have:=ha.small x h;omega
  ·exact ua1
def RuleD.two {conds dp:Nat} {a b:List XNode} {k:Int} (ha:RuleD conds dp a) (hb:RuleD conds dp b) (hk:k=3∨k=4):
 RuleD conds (dp + 1) (a ++ b.map (shN a.length) ++ [⟨k,0,(a.length:Int) - 1,((a.length + b.length:Nat):Int) - 1⟩]):=by
 have hl:=ha.len;have hl2:=hb.len;obtain ⟨d,hp,hd⟩:=ha.part;obtain ⟨d2,hp2,hd2⟩:=hb.part;have hlen:(a ++ b.map (shN a.length) ++ [(⟨k,0,(a.length:Int) - 1,((a.length + b.length:Nat):Int) - 1⟩:XNode)]).length=a.length + b.length + 1:=by simp;omega
 refine ⟨by rw [hlen,Zde];omega,⟨max d d2 + 1,?_,by omega⟩,fun x hx hk1=>?_,fun x hx=>?_,fun x hx=>?_⟩;·
  rw [hlen, Vf, if_neg za];have e:(a ++ b.map (shN a.length) ++ [(⟨k,0,(a.length:Int) - 1,((a.length + b.length:Nat):Int) - 1⟩:XNode)]).getD (((a.length + b.length + 1:Nat):Int) - 1).toNat default=⟨k,0,(a.length:Int) - 1,((a.length + b.length:Nat):Int) - 1⟩:=by rw [show (((a.length + b.length + 1:Nat):Int) - 1).toNat=a.length + b.length by omega,yh,yD zo,show a.length + b.length - (a ++ b.map (shN a.length)).length=0 by simp];rfl
  rw [e,if_neg zw,if_neg zw,if_pos hk];have p1:=Utb (a:=a) (c:=[(⟨k,0,(a.length:Int) - 1,((a.length + b.length:Nat):Int) - 1⟩:XNode)]) _ _ _ _ za hp2;have p2:=V0a (c:=b.map (shN a.length) ++ [(⟨k,0,(a.length:Int) - 1,((a.length + b.length:Nat):Int) - 1⟩:XNode)]) _ _ _ _ za hp;rw [← yo] at p2;rw [show ((a.length + b.length + 1:Nat):Int) - 1 - 1=(a.length:Int) + ((b.length:Int) - 1) by omega,K8a _ (a.length + b.length) _ _ za p1];dsimp only;rw [if_pos ⟨rfl,by omega,by omega⟩,show (a.length:Int) + 0 - 1=(a.length:Int) - 1 by omega,K8a _ (a.length + b.length) _ _ za p2]
 ·
  rcases List.mem_append.1 hx with h | h;·
   rcases List.mem_append.1 h with h | h;·exact ha.conds x h hk1
   ·obtain ⟨y, hy, rfl⟩ := List.mem_map.1 h;exact hb.conds y hy hk1
  ·rw [List.mem_singleton.1 h] at hk1;dsimp only at hk1;omega
 ·
  rcases List.mem_append.1 hx with h | h;·
   rcases List.mem_append.1 h with h | h;·exact ha.kind x h
   ·obtain ⟨y, hy, rfl⟩ := List.mem_map.1 h;exact hb.kind y hy
  ·exact ua1
 ·
  rw [hlen];rcases List.mem_append.1 hx with h | h;·
   rcases List.mem_append.1 h with h | h;·have:=ha.small x h;omega
   ·obtain ⟨y, hy, rfl⟩ := List.mem_map.1 h;have:=hb.small y hy;rw [shN];dsimp only;constructor <;> split <;> omega
  ·exact ua1
def RuleD.right {conds:Nat} {l:List XNode} (h:RuleD conds 2 l):Koa l=true:=by obtain ⟨d,hp,hd⟩:=h.part;have hl:=h.len;have e:Zde 2=7:=rfl;exact Yoa.2 ⟨by omega,d,hp,by omega⟩
def RuleD.err {conds:Nat} {l:List XNode} (h:RuleD conds 2 l):Za l conds=0:=by rw [Za,if_neg (by rw [h.right];decide),if_neg];rintro ⟨x,hx,hk,hc⟩;have:=h.conds x hx hk;omega
end
end Go.Proofs.YtchfclmokpbldaaGreat
