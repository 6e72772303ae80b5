/-
  Merged texts. By an AI agent.
-/
import Derived.Test.YtchfclmokpbldaaGreatSiteS
import Derived.Test.YtchfclmokpbldaaGreatFans
import Derived.Test.YtchfclmokpbldaaGreatRestP
import Derived.Test.YtchfclmokpbldaaGreatRuleP
set_option linter.all false
set_option maxHeartbeats 4000000
set_option maxRecDepth 20000
namespace Go.Proofs.YtchfclmokpbldaaGreat
open Go.Aw Go
section
def V7d {e:Int} (h:nzO e=none):e=0:=by
 rw [nzO] at h;split at h;·assumption
 ·cases h
def Kgf {e x:Int} (h:nzO e=some x):x≠0:=by
 rw [nzO] at h;split at h;·cases h
 ·cases h;assumption
structure SiteOk (s:XSite):Prop where
 air:K1 s.air=0
 len:s.sensors.l.length≤64∧s.conds.l.length≤64∧s.zones.l.length≤16∧s.persons.l.length≤64
 sens:∀i:Nat,i < s.sensors.l.length→Z1 s.air s.sensors.l i=none
 cond:∀c∈s.conds.l,Ks s.sensors.l s.air.mine.roads.l.length c=0
 zone:∀z∈s.zones.l,Yx s.conds.l.length s.air.mine.roads.l.length z=0
 pers:∀p∈s.persons.l,1≤p∧p≤3
def Jue {a:XAir} {S:List XSens} {i:Nat} {e:Int} (h:Z1 a S i=some e):e≠0:=by
 rw [Z1] at h;split at h;·cases h;assumption
 split at h;·cases h;decide
 split at h;·cases h;decide
 ·cases h
def Zz {s:XSite} (h:K6 s=0):SiteOk s:=by
 rw [K6] at h;split at h;·omega
 split at h;·omega
 split at h;·omega
 split at h;·omega
 split at h;·omega
 rename_i h1 h2 h3 h4 h5;refine ⟨by omega,by omega,fun i hi=>?_,fun c hc=>?_,fun z hz=>?_,fun p hp=>?_⟩;·
  have h3' : Ur s.air s.sensors.l = 0 := by omega
  exact Vs (f:=Z1 s.air s.sensors.l) (fun x e hx=>Jue hx) h3' i (List.mem_range.2 hi)
 ·
  have h4' : Kla s = 0 := by omega
  exact V7d (Vs (f:=fun c=>nzO (Ks s.sensors.l s.air.mine.roads.l.length c)) (fun x e hx=>Kgf hx) h4' c hc)
 ·
  have h5' : Y8 s = 0 := by omega
  exact V7d (Vs (f:=fun z=>nzO (Yx s.conds.l.length s.air.mine.roads.l.length z)) (fun x e hx=>Kgf hx) h5' z hz)
 ·
  have:=Vs (f:=fun p:Int=>if p < 1∨3 < p then some 19 else none) (fun x e hx=>by
   split at hx;·cases hx;decide
   ·cases hx) h p hp
  exact uaY
def Vga {α β:Type} {f:α→Option β} {l:List α} (h:∀x∈l,f x=none):l.findSome? f=none:=List.findSome?_eq_none_iff.2 h
def SiteOk.err {s:XSite} (h:SiteOk s):K6 s=0:=by
 have h1:=h.air;have h2:=h.len;have e1:Ur s.air s.sensors.l=0:=by rw [Ur,Vga (fun i hi=>h.sens i (List.mem_range.1 hi))];rfl
 have e2:Kla s=0:=by rw [Kla,Vga (fun c hc=>by rw [nzO,if_pos (h.cond c hc)])];rfl
 have e3:Y8 s=0:=by rw [Y8,Vga (fun z hz=>by rw [nzO,if_pos (h.zone z hz)])];rfl
 have e4:Jia s=0:=by rw [Jia,Vga (fun p hp=>if_neg (by have:=h.pers p hp;omega))];rfl
 rw [K6,if_neg za,if_neg za,if_neg za,if_neg za,if_neg za,e4]
def Knb {S:List XSens} {n:Nat} {c:XCond} (h:Ks S n c=0):(1≤c.kind∧c.kind≤5)∧(0≤c.value∧c.value≤1099511627776)∧(c.kind=1→Jba c.level)∧
 (c.kind=5→0≤c.target∧c.target < n)∧(c.kind≠5→0≤c.target∧c.target < S.length)∧(c.kind=3→(S.getD c.target.toNat default).kind=5):=by
 rw [Ks] at h;split at h;·omega
 rename_i h1;split at h;·omega
 rename_i h2;have h3:Kk S n c=0:=by omega
 have h4:c.kind=1→Jba c.level:=fun hk=>by
  rw [if_pos hk,Jya] at h;split at h;·assumption
  ·omega
 rw [Kk] at h3;split at h3;·exact ubf
 split at h3;·
  split at h3;·rename_i h5;exact ⟨by omega,by omega,h4,by omega,by omega,fun _=>h5.2⟩
  ·omega
 split at h3;·exact ubf
 ·omega
structure WrO {α:Type} (l0:List α) (g:Nat→α) (i:Nat) (l:List α):Prop where
 len:l.length=l0.length
 don:∀j:Nat,j < i→l[j]?=some (g j)
 old:∀j:Nat,i≤j→l[j]?=l0[j]?
def WrO.zero {α:Type} {l0:List α} {g:Nat→α}:WrO l0 g 0 l0:=⟨rfl,fun j hj=>by omega,fun j _=>rfl⟩
def WrO.next {α:Type} {l0:List α} {g:Nat→α} {i:Nat} {l:List α} (h:WrO l0 g i l) (hi:i < l0.length) {x:α} (hx:x=g i):WrO l0 g (i + 1) (l.set i x):=by
 have hl:=h.len;refine ⟨by simp [hl],fun j hj=>?_,fun j h1=>?_⟩;·
  rw [yK];split;·rename_i e;rw [if_pos za,hx,e]
  ·exact h.don j za
 ·rw [yda za];exact h.old j za
def WrO.stay {α:Type} {l0:List α} {g:Nat→α} {i:Nat} {l:List α} (h:WrO l0 g i l) (hx:l0[i]?=some (g i)):WrO l0 g (i + 1) l:=by
 refine ⟨h.len,fun j hj=>?_,fun j h1=>h.old j za⟩;rcases yk j i with h1 | h1;·exact h.don j h1
 ·
  obtain rfl : j = i := by omega
  rw [h.old j (yl _),hx]
def WrO.done {α:Type} {l0:List α} {g:Nat→α} {l:List α} (h:WrO l0 g l0.length l):l=(List.range l0.length).map g:=by
 have hl:=h.len;refine yxa fun j=>?_;rcases yk j l0.length with hj | hj;·rw [h.don j hj,yt,yN hj];rfl
 ·rw [yr za,yr zD]
end
section
attribute [local irreducible] CJ LJ DJ Tri YV Gives U0 J3 Kj Uz RV J5 OwL.L
section
variable {A B:Prop}
def Yxf(h:A→B:=by exact K2 (by first | exact Jf tb rfl rfl rfl rfl zt (i:=k.toNat) zk za | exact Jl tb rfl rfl rfl rfl (i:=k.toNat) zk za) rfl rfl rfl):=h
def Yff(h:A→B:=by exact K2 (by first | exact Jf tb rfl rfl rfl rfl zt (i:=(z.roads.l.getD j 0).toNat) zk za | exact Jl tb rfl rfl rfl rfl (i:=(z.roads.l.getD j 0).toNat) zk za) rfl rfl rfl):=h
end
def Z1e {s:XSite} (h:SiteOk s) {r:XRoad} (hr:r∈s.air.mine.roads.l):(1≤r.len∧r.len≤100000)∧(1≤r.area∧r.area≤1000):=by
 have h1:Vv s.air.mine=0:=by
  have:=h.air;rw [K1] at this;split at this;·exact this
  ·rename_i h2;exact Decidable.not_not.1 h2
 unfold Vv at h1;split at h1;·cases h1
 split at h1;·rename_i e he;subst h1;obtain ⟨x,_,hx⟩:=yI he;unfold Vva at hx;split at hx <;> cases hx
 have hall:=Vs (f:=Zn s.air.mine.places.l.length) (fun x e hx he=>by
  subst he;unfold Zn at hx;split at hx;·cases hx
  ·split at hx <;> cases hx) h1
 have:=hall r hr;unfold Zn at this;split at this;·cases this
 split at this;·cases this
 rename_i h2;omega
def Jyf {s:XSite} (h:SiteOk s) {z:XZone} (hz:z∈s.zones.l):(0≤z.hold∧z.hold≤100000)∧(0≤z.fresh∧z.fresh≤100)∧∀i:Nat,i < z.roads.l.length→0≤z.roads.l.getD i 0∧z.roads.l.getD i 0 < s.air.mine.roads.l.length:=by
 have:=h.zone z hz;rw [Yx] at this;split at this;·omega
 split at this;·cases this
 rename_i h1;split at this;·cases this
 rename_i h2;refine ⟨by omega,by omega,fun i hi=>?_⟩;have:¬ Yi s.air.mine.roads.l.length z.roads.l i:=fun hb=>h2 ⟨i,hi,hb⟩;rw [Yi] at this;omega
def Zpe {s:XSite} (h:SiteOk s) {z:XZone} (hz:z∈s.zones.l):z.roads.l.length≤128:=by
 have:=h.zone z hz;rw [Yx] at this;split at this;·omega
 split at this;·cases this
 split at this;·cases this
 rename_i h2;have hb:∀i:Nat,i < z.roads.l.length→¬ Yi s.air.mine.roads.l.length z.roads.l i:=fun i hi hb=>h2 ⟨i,hi,hb⟩;have up:∀i:Nat,i < z.roads.l.length→(i:Int)≤z.roads.l.getD i 0:=by
  intro i;induction i with
  | zero=>intro hi;have:=hb 0 hi;rw [Yi] at this;omega
  | succ i ih=>intro hi;have h1:=ih za;have h2:=hb (i + 1) hi;rw [Yi,Nat.add_sub_cancel] at h2;omega
 have hn:=(Zj h.air).mine.roads;rcases yk 128 z.roads.l.length with h3 | h3;·have h4 := up 128 h3;have h5:=hb 128 h3;rw [Yi] at h5;omega
 ·exact h3
def Uda (s:XSite) (fl:List XSpan) (z:XZone) (sec r:Int):Prop:=¬ U7c (s.air.mine.roads.l.getD r.toNat default) (fl.getD r.toNat default) z.fresh sec
instance (s:XSite) (fl:List XSpan) (z:XZone) (sec r:Int):Decidable (Uda s fl z sec r):=by unfold Uda;infer_instance
def Jwb (s:XSite) (fl:List XSpan) (c:XCut) (z:XZone) (t:Int):Int:=
 if c.off=false then 10
 else if (c.clear < 0∨t < c.clear)∨t - c.clear < z.hold then 20
 else if∃r∈z.roads.l,Uda s fl z (t - c.clear) r then 20 else 0
def readyE (s:XSite) (c:List XCut) (fl:List XSpan) (k t:Int):Int:=
 if k < 0∨(c.length:Int)≤k then 17 else Jwb s fl (c.getD k.toNat default) (s.zones.l.getD k.toNat default) t
def Y0e {s:XSite} {fl:List XSpan} {c:XCut} {z:XZone} {t:Int} (h1:c.off=true) (h2:¬ ((c.clear < 0∨t < c.clear)∨t - c.clear < z.hold)) (h3:∀j:Nat,j < z.roads.l.length→¬ Uda s fl z (t - c.clear) (z.roads.l.getD j 0)):Jwb s fl c z t=0:=by rw [Jwb,if_neg (by rw [h1];decide),if_neg h2,if_neg];rintro ⟨r,hr,hw⟩;obtain ⟨j,hj,rfl⟩:=yMa hr;have:=h3 j hj;rw [yh,yC hj] at this;exact this hw
def Ume {s:XSite} {fl:List XSpan} {c:XCut} {z:XZone} {t r:Int} (h1:c.off=true) (h2:¬ ((c.clear < 0∨t < c.clear)∨t - c.clear < z.hold)) (hr:r∈z.roads.l) (h3:Uda s fl z (t - c.clear) r):Jwb s fl c z t=20:=by rw [Jwb,if_neg (by rw [h1];decide),if_neg h2,if_pos ⟨r,hr,h3⟩]
structure RestA (s:XSite) (c:Arr XCut) (fl:Arr XSpan) (R:LS):Prop where
 site:SiteR s R
 cuts:InR (Unc c) R
 flows:InR (Jke fl) R
def Zob (s:XSite) (c:Arr XCut) (fl:Arr XSpan) (k t:Int) (L:LB) (R:LS) (h:RestA s c fl R) (hok:SiteOk s) (hlen:c.l.length=s.zones.l.length∧fl.l.length=s.air.mine.roads.l.length) (ht:0≤t∧t≤2147483648):
 Tri Tryz.prog 163 [s.val,c.val,fl.val,.int .i64 k,.int .i64 t].toArray L R (fun v M U=>v=.int .i64 (readyE s c.l fl.l k t)∧L=M∧R=U):=by
 have hcR:=h.cuts;have hfR:=h.flows;have hzR:=h.site.zones;have hrR:=h.site.air.roads;have hsl:=hok.len;refine Jj 80 Tryz.call163 Tryz.func163 rfl rfl rfl ?_;apply (Xaf);intro b5;apply Xb2∘Xav;apply J9 (G:=[_,_,_,_]) (j:=2) (cj:=17) rfl rfl zb rfl zfb rfl;·intro hg3;replace hg3:=qb hg3;exact (qaa∘Xaq) zjd
 intro junk3;apply (qaf);refine q_c ?_ ?_<;>intro hc0;·apply (Xa6);refine q_i L R ?_;exact ⟨by rw [readyE,if_pos za],rfl,rfl⟩
 have hcg:=Jw (l:=c.l) (k:=k.toNat) default za;have hzg:=Jw (l:=s.zones.l) (k:=k.toNat) default za;have he:readyE s c.l fl.l k t=Jwb s fl.l (c.l.getD k.toNat default) (s.zones.l.getD k.toNat default) t:=by rw [readyE,if_neg za]
 obtain ⟨z,hz⟩:∃z,z=s.zones.l.getD k.toNat default:=⟨_,rfl⟩;obtain ⟨x,hx⟩:∃x,x=c.l.getD k.toNat default:=⟨_,rfl⟩;rw [← hz] at hzg he;rw [← hx] at hcg he;have hzr:=Jyf hok (yj hzg);have hzl:=Zpe hok (yj hzg);have hzroR:InR (isl z.roads) R:=InR.zroads hzR hzg;apply (qcl);refine Kp tb [0,1,2,3,4,5,6,7,8,9,10,11,12] _ K3 zc ye ?_;refine K2 zMc rfl rfl rfl ?_;apply qao∘Yxf∘qdv∘Xb4∘Yxf∘qdp∘qbr;intro b11;apply (qbr);intro b12;apply qbg∘qbg∘qc6∘Xaa∘Xbb;refine q_c ?_ ?_<;>intro hc1;·apply (Xa6);refine q_i L R ?_;exact ⟨by rw [he,Jwb,if_pos zG],rfl,rfl⟩
 have hoff:x.off=true:=by simpa using hc1
 apply qbo∘Xbc;apply J9 (G:=[_,_,_,_]) (j:=3) (cj:=38) rfl rfl zb rfl zfb rfl;·intro hg4;replace hg4:=qb hg4;exact (Xam∘qa5) qai
 intro junk4;apply (qah);apply J9 (G:=[_,_,_,_,_,_,_]) (j:=9) (cj:=44) rfl rfl zb rfl zfb rfl;·intro hg10;replace hg10:=qb hg10;exact (qaa∘Xaa∘qa9) zsd
 intro junk10;apply (qaf);refine q_c ?_ ?_<;>intro hc2;·apply (Xa6);refine q_i L R ?_;exact ⟨by rw [he,Jwb,if_neg (by rw [hoff];decide),if_pos za],rfl,rfl⟩
 apply (Xco);refine Jp [(2,.slice _ _ _),(4,.int _ _),(5,.pointer _),(11,.pointer _),(12,.pointer _),(54,.slice _ _ _),(55,.int _ _),(56,.int _ _)] zh fun tq0=>?_;refine q_s ([10,14]++rg 56 24) (fun g:{j:Nat // j≤z.roads.l.length∧∀m:Nat,m < j→¬ Uda s fl.l z (t - x.clear) (z.roads.l.getD m 0)}=>[(56,.int .i64 ((g.1:Nat):Int))]) (fun g=>z.roads.l.length - g.1) (⟨0,by omega,fun m hm=>by omega⟩) ?_;rintro ⟨j,hj,hal⟩ junk;try dsimp only
 apply (Xak);refine q_c ?_ ?_<;>intro hc3;·
  have hjg:=Jw (l:=z.roads.l) (k:=j) 0 za;have hjr:=hzr.2.2 j za;have hrg:=Jw (l:=s.air.mine.roads.l) (k:=(z.roads.l.getD j 0).toNat) default za;have hfg:=Jw (l:=fl.l) (k:=(z.roads.l.getD j 0).toNat) default za;have hrr:=Z1e hok (yj hrg);apply (qbb);refine Jx zLa rfl ?_;apply qa7∘Xb5;refine Kp tb [0,1,2,3,4,5,6,7,8,9,10,11,12,13,14,15,16,17,18] _ K3 zc ye ?_;iterate 3 apply (qal)
  apply qat∘qao∘Yff;refine K2 zVa rfl rfl rfl ?_;refine K2 zMc rfl rfl rfl ?_;apply qao∘Yff∘qdo∘Xb4∘Xan∘qb7;refine q_d rfl (K5d (s.air.mine.roads.l.getD (z.roads.l.getD j 0).toNat default) (fl.l.getD (z.roads.l.getD j 0).toNat default) z.fresh (t - x.clear) _ _ hrr.1 hrr.2 hzr.2.1 za) ?_;refine K2 (V8a rfl) rfl rfl rfl ?_;apply (qbu);refine q_c ?_ ?_<;>intro hc4;·apply (Xby);refine q_i L R ?_;exact ⟨by rw [he,Ume hoff za (yj hjg) (by rw [Uda];simpa using hc4)],rfl,rfl⟩
  apply (Xax);exact Kr (⟨j + 1,by omega,fun m hm=>by
  rcases yk m j with h | h;·exact hal m h
  ·(obtain rfl : m = j := by omega);rw [Uda];simpa using hc4⟩) zm zh zi ztb zx
 apply (Xca);refine q_i L R ?_;exact ⟨by rw [he,Y0e hoff za (fun m hm=>hal m za)],rfl,rfl⟩
end
section
attribute [local irreducible] CJ LJ DJ Tri YV Gives U0 J3 Kj Uz RV J5 OwL.L
section
variable {A B:Prop}
def Yha(h:A→B:=by exact Jx zqb rfl):=h
def Kfe(h:A→B:=by exact Jx zob rfl):=h
end
structure XRest where
 zone:Int
 first:Int
 second:Int
 step:Int
 time:Int
 deriving DecidableEq
def XRest.cells (x:XRest):List Value:=[.int .i64 x.zone,.int .i64 x.first,.int .i64 x.second,.int .i64 x.step,.int .i64 x.time]
abbrev XRest.val (x:XRest):Value:=.agg #[.int .i64 x.zone,.int .i64 x.first,.int .i64 x.second,.int .i64 x.step,.int .i64 x.time]
def noRest:XRest:=⟨-1,-1,-1,0,0⟩
def sharedE (s:XSite) (nc nf:Nat) (t:Int):Int:=if K6 s≠0 then K6 s else if ¬ (nc=s.zones.l.length∧nf=s.air.mine.roads.l.length) then 11 else if t < 0∨2147483648 < t then 8 else 0
def Vaa (s:XSite) (c:Arr XCut) (fl:Arr XSpan) (t:Int) (L:LB) (R:LS) (h:RestA s c fl R):
 Tri Tryz.prog 162 [s.val,c.val,fl.val,.int .i64 t].toArray L R (fun v M U=>v=.int .i64 (sharedE s c.l.length fl.l.length t)∧L=M∧R=U):=by
 refine Jj 37 Tryz.call162 Tryz.func162 rfl rfl rfl ?_;apply (Xaf);intro b4;apply Xap∘Kfe;refine q_l rfl (Kja s _ _ h.site) ?_;apply (Xba);refine q_c ?_ ?_<;>intro hc0;·apply (Xdl);refine q_i L R ?_;exact ⟨by rw [sharedE,if_pos hc0],rfl,rfl⟩
 apply qbo∘Xaq∘Xab∘Xbu;apply J9 (G:=[_,_,_,_,_,_,_,_]) (j:=6) (cj:=21) rfl rfl zb rfl zfb rfl;·
  intro hg7;replace hg7:=qb hg7;apply (Xaq);iterate 3 apply (qab)
  exact (Xcz) zhd
 intro junk7;apply (qaf);refine q_c ?_ ?_<;>intro hc1;·apply (Xa6);refine q_i L R ?_;exact ⟨by rw [sharedE,if_neg za,if_pos za],rfl,rfl⟩
 apply Xcq∘Xav;apply J9 (G:=[_,_]) (j:=2) (cj:=33) rfl rfl zb rfl zfb rfl;·exact zgd
 intro junk3;apply (qaf);refine q_c ?_ ?_<;>intro hc2;·apply (Xa6);refine q_i L R ?_;exact ⟨by rw [sharedE,if_neg za,if_neg za,if_pos za],rfl,rfl⟩
 apply (Xcf);refine q_i L R ?_;exact ⟨by rw [sharedE,if_neg za,if_neg za,if_neg za],rfl,rfl⟩
def J7b {s:XSite} {nc nf:Nat} {t:Int} (h:sharedE s nc nf t=0):SiteOk s∧(nc=s.zones.l.length∧nf=s.air.mine.roads.l.length)∧0≤t∧t≤2147483648:=by
 rw [sharedE] at h;split at h;·omega
 rename_i h1;split at h;·omega
 split at h;·omega
 exact ⟨Zz (Decidable.not_not.1 h1),by omega,by omega⟩
def K5c (L:LB) (R:LS):Tri Tryz.prog 77 ([]:List Value).toArray L R (fun v M U=>v=noRest.val∧L=M∧R=U):=by refine Jj 2 Tryz.call77 Tryz.func77 rfl rfl rfl ?_;apply qae∘qaq;intro b0;apply (qam);refine Jx (Kf (qs:=[(0,(Value.int _ _).cells.toList),(1,(Value.int _ _).cells.toList),(2,(Value.int _ _).cells.toList)]) (out:=[_,_,_,_,_]) tb rfl rfl rfl rfl) rfl ?_;apply (Xbr);refine q_r L R (Yc rfl znb) ?_;exact zrd
def askE (s:XSite) (c:List XCut) (fl:List XSpan) (r:XRest) (p k t:Int):Int:=
 if sharedE s c.length fl.length t≠0 then sharedE s c.length fl.length t
 else if r.zone≠-1 then 10
 else if p < 0∨(s.persons.l.length:Int)≤p∨s.persons.l.getD p.toNat 0≠1 then 19
 else readyE s c fl k t
def askR (s:XSite) (c:List XCut) (fl:List XSpan) (r:XRest) (p k t:Int):XRest:=if askE s c fl r p k t=0 then ⟨k,p,-1,1,t⟩ else r
def U2c {s:XSite} {c:List XCut} {fl:List XSpan} {r:XRest} {p k t e:Int} (h:askE s c fl r p k t=e) (he:e≠0):askR s c fl r p k t=r:=by rw [askR,if_neg za]
def Vkf (s:XSite) (c:Arr XCut) (fl:Arr XSpan) (r:XRest) (p k t:Int) (L:LB) (R:LS) (h:RestA s c fl R):
 Tri Tryz.prog 84 [s.val,c.val,fl.val,r.val,.int .i64 p,.int .i64 k,.int .i64 t].toArray L R (fun v M U=>v=.tuple #[(askR s c.l fl.l r p k t).val,.int .i64 (askE s c.l fl.l r p k t)]∧L=M∧R=U):=by
 have hpR:=h.site.persons;refine Jj 64 Tryz.call84 Tryz.func84 rfl rfl rfl ?_;apply (Xaf);intro b7;apply (qax);intro b10;apply (qaq);intro b14;apply Xap∘Kfe∘qbm∘Xat;refine q_l rfl (Vaa s c fl t _ _ h) ?_;apply (Xba);refine q_c ?_ ?_<;>intro hc0;·
  apply qae∘Yha∘Xbz;refine q_r L R zQc ?_;have he:askE s c.l fl.l r p k t=sharedE s c.l.length fl.l.length t:=by rw [askE,if_pos hc0]
  exact ⟨by rw [U2c he hc0,he],rfl,rfl⟩
 obtain ⟨hok,hln,ht⟩:=J7b (s:=s) (nc:=c.l.length) (nf:=fl.l.length) (t:=t) za;apply qbo∘Xaa∘Xao;refine q_c ?_ ?_<;>intro hc1;·
  apply qae∘Yha∘Xaz;refine q_r L R zQc ?_;have he:askE s c.l fl.l r p k t=10:=by rw [askE,if_neg hc0,if_pos hc1]
  exact ⟨by rw [U2c he za,he],rfl,rfl⟩
 apply Xcq∘Xav;apply J9 (G:=[_,_,_,_,_]) (j:=2) (cj:=33) rfl rfl zb rfl zfb rfl;·exact zbe
 intro junk3;apply (qah);apply J9 (G:=[_,_,_,_,_,_,_]) (j:=9) (cj:=40) rfl rfl zb rfl zfb rfl;·intro hg10;replace hg10:=qb hg10;have hpg:=Jw (l:=s.persons.l) (k:=p.toNat) 0 za;apply (Xam);refine Jx zcb rfl ?_;exact (Xbv) zhd
 intro junk10;apply (qaf);refine q_c ?_ ?_<;>intro hc2;·
  apply qae∘Yha∘Xaz;refine q_r L R zQc ?_;have he:askE s c.l fl.l r p k t=19:=by rw [askE,if_neg hc0,if_neg hc1,if_pos za]
  exact ⟨by rw [U2c he za,he],rfl,rfl⟩
 have he:askE s c.l fl.l r p k t=readyE s c.l fl.l k t:=by rw [askE,if_neg hc0,if_neg hc1,if_neg za]
 apply qbo∘Kfe∘qbm∘Xat∘qaa;refine q_l rfl (Zob s c fl k t _ _ h hok hln ht) ?_;apply (Xba);refine q_c ?_ ?_<;>intro hc3;·apply qae∘Yha∘Xbz;refine q_r L R zQc ?_;exact ⟨by rw [U2c he hc3,he],rfl,rfl⟩
 apply (qbv);iterate 3 apply (qaa)
 refine Jx (Kf (qs:=[(0,(Value.int _ _).cells.toList),(1,(Value.int _ _).cells.toList),(2,(Value.int _ _).cells.toList),(3,(Value.int _ _).cells.toList),(4,(Value.int _ _).cells.toList)]) (out:=[_,_,_,_,_]) tb rfl rfl rfl rfl) rfl ?_;apply (Xbl);refine q_r L R zQc ?_;exact ⟨by rw [askR,if_pos za,he,show readyE s c.l fl.l k t=0 by omega],rfl,rfl⟩
def Vbc (r:XRest) (t:Int):Prop:=t < r.time∨r.time < t - 600
instance (r:XRest) (t:Int):Decidable (Vbc r t):=by unfold Vbc;infer_instance
def Yld (r:XRest) (t:Int) (L:LB) (R:LS) (ht:0≤t∧t≤2147483648):
 Tri Tryz.prog 164 [r.val,.int .i64 t].toArray L R (fun v M U=>v=.bool (decide (Vbc r t))∧L=M∧R=U):=by
 refine Jj 16 Tryz.call164 Tryz.func164 rfl rfl rfl ?_;apply (Xaf);intro b2;apply qaz∘Xdh∘Xbc;apply J9 (G:=[_,_,_,_,_]) (j:=4) (cj:=9) rfl rfl zb rfl zfb rfl;·intro hg5;replace hg5:=qb hg5;exact (Xam∘qa9) zyd
 intro junk5;apply (Xa2);refine q_b L R ?_;exact ⟨by refine congrArg Value.bool ?_;rw [ytb,decide_eq_true_iff (p:=Vbc r t),Vbc];simp,rfl,rfl⟩
def Jaa (s:XSite) (r:XRest) (p:Int):Prop:=
 p < 0∨(s.persons.l.length:Int)≤p∨p=r.first∨r.first < 0∨(s.persons.l.length:Int)≤r.first∨s.persons.l.getD p.toNat 0=s.persons.l.getD r.first.toNat 0
instance (s:XSite) (r:XRest) (p:Int):Decidable (Jaa s r p):=by unfold Jaa;infer_instance
def confirmE (s:XSite) (c:List XCut) (fl:List XSpan) (r:XRest) (p t:Int):Int:=
 if sharedE s c.length fl.length t≠0 then sharedE s c.length fl.length t
 else if r.zone= -1∨r.step≠1 then 10
 else if Jaa s r p then 19
 else if Vbc r t then 8
 else readyE s c fl r.zone t
def confirmR (s:XSite) (c:List XCut) (fl:List XSpan) (r:XRest) (p t:Int):XRest:=if confirmE s c fl r p t=0 then ⟨r.zone,r.first,p,2,t⟩ else r
def Vw {s:XSite} {c:List XCut} {fl:List XSpan} {r:XRest} {p t e:Int} (h:confirmE s c fl r p t=e) (he:e≠0):confirmR s c fl r p t=r:=by rw [confirmR,if_neg za]
def K1d (s:XSite) (c:Arr XCut) (fl:Arr XSpan) (r:XRest) (p t:Int) (L:LB) (R:LS) (h:RestA s c fl R):
 Tri Tryz.prog 86 [s.val,c.val,fl.val,r.val,.int .i64 p,.int .i64 t].toArray L R (fun v M U=>v=.tuple #[(confirmR s c.l fl.l r p t).val,.int .i64 (confirmE s c.l fl.l r p t)]∧L=M∧R=U):=by
 have hpR:=h.site.persons;refine Jj 102 Tryz.call86 Tryz.func86 rfl rfl rfl ?_;apply (Xaf);intro b6;apply (qax);intro b9;apply (qaq);intro b12;apply Xap∘Kfe∘qbm∘Xat;refine q_l rfl (Vaa s c fl t _ _ h) ?_;apply (Xba);refine q_c ?_ ?_<;>intro hc0;·
  apply qae∘Yha∘Xbz;refine q_r L R zQc ?_;have he:confirmE s c.l fl.l r p t=sharedE s c.l.length fl.l.length t:=by rw [confirmE,if_pos hc0]
  exact ⟨by rw [Vw he hc0,he],rfl,rfl⟩
 obtain ⟨hok,hln,ht⟩:=J7b (s:=s) (nc:=c.l.length) (nf:=fl.l.length) (t:=t) za;apply Xcv∘qah;apply J9 (G:=[_,_,_]) (j:=3) (cj:=30) rfl rfl zb rfl zfb rfl;·exact ubi
 intro junk4;apply (qaf);refine q_c ?_ ?_<;>intro hc1;·
  apply qae∘Yha∘Xaz;refine q_r L R zQc ?_;have he:confirmE s c.l fl.l r p t=10:=by rw [confirmE,if_neg hc0,if_pos za]
  exact ⟨by rw [Vw he za,he],rfl,rfl⟩
 apply qbv∘Xab∘qad∘qco;refine Kp tb [0,1,2,3,4,5,6,7,8,9,10,11,12,13,14,15,16,17,18,19,20,21,22,23,24,25,26,27,28,29,30,31,32,33,34,35,36,37,38,39] _ K3 zc ye ?_;apply (qao);refine K2 zyc rfl rfl rfl ?_;apply (qb2);refine Yl (k:=41) zfb (fun hg2=>?_) (fun hg2=>?_);·
  replace hg2:=qb hg2;iterate 3 apply (qap)
  apply (Xbi);iterate 4 apply (qap)
  exact (Xbi) zde
 replace hg2:=qb hg2;apply qao∘qao;refine K2 (Jkc rfl rfl) rfl rfl rfl ?_;apply (Xbi);refine Yl (k:=46) zfb (fun hg7=>?_) (fun hg7=>?_);·
  replace hg7:=qb hg7;iterate 4 apply (qap)
  exact (Xbi) zde
 replace hg7:=qb hg7;apply qao∘Xan;refine K2 zac rfl rfl rfl ?_;apply (Xbi);refine Yl (k:=52) zfb (fun hg13=>?_) (fun hg13=>?_);·replace hg13:=qb hg13;exact zde
 replace hg13:=qb hg13;apply (Xan);refine K2 zyc rfl rfl rfl ?_;apply (Xbi);refine Yl (k:=57) zfb (fun hg18=>?_) (fun hg18=>?_);·
  replace hg18:=qb hg18;iterate 4 apply (qap)
  exact (Xbi) zbd
 replace hg18:=qb hg18;apply (Xb4);refine K2 (Jkc rfl rfl) rfl rfl rfl ?_;apply (Xbi);refine Yl (k:=63) zfb (fun hg24=>?_) (fun hg24=>?_);·replace hg24:=qb hg24;exact zbd
 replace hg24:=qb hg24;have hpg:=Jw (l:=s.persons.l) (k:=p.toNat) 0 za;have hqg:=Jw (l:=s.persons.l) (k:=r.first.toNat) 0 za;apply (Xb4);refine K2 zcb rfl rfl rfl ?_;apply qce∘qbl∘Xan∘Xan;refine K2 (by first | exact Jf tb rfl rfl rfl rfl zt (i:=r.first.toNat) zk za | exact Jl tb rfl rfl rfl rfl (i:=r.first.toNat) zk za) rfl rfl rfl ?_;apply qce∘qbl;refine K2 zac rfl rfl rfl ?_;apply (Xbw);refine q_c ?_ ?_<;>intro hc2;·
  apply qae∘Yha∘Xaz;refine q_r L R zQc ?_;have he:confirmE s c.l fl.l r p t=19:=by rw [confirmE,if_neg hc0,if_neg za,if_pos zW]
  exact ⟨by rw [Vw he za,he],rfl,rfl⟩
 have hbp:¬ Jaa s r p:=by rw [Jaa];omega
 apply qbo∘Yha∘qaa;refine q_l rfl (Yld r t _ _ ht) ?_;apply (qaf);refine q_c ?_ ?_<;>intro hc3;·
  apply qae∘Yha∘Xaz;refine q_r L R zQc ?_;have he:confirmE s c.l fl.l r p t=8:=by rw [confirmE,if_neg hc0,if_neg za,if_neg hbp,if_pos zV]
  exact ⟨by rw [Vw he za,he],rfl,rfl⟩
 have he:confirmE s c.l fl.l r p t=readyE s c.l fl.l r.zone t:=by rw [confirmE,if_neg hc0,if_neg za,if_neg hbp,if_neg zV]
 apply qbo∘Kfe∘qbm∘qbm∘Xam;refine q_l rfl (Zob s c fl r.zone t _ _ h hok hln ht) ?_;apply (Xba);refine q_c ?_ ?_<;>intro hc4;·apply qae∘Yha∘Xbz;refine q_r L R zQc ?_;exact ⟨by rw [Vw he hc4,he],rfl,rfl⟩
 apply qbv∘Yha∘qaq;intro b17;apply Xay∘Xbg∘Xbh∘Xbh∘Xbh∘qam∘Yha∘Xbl;refine q_r L R zQc ?_;exact ⟨by rw [confirmR,if_pos za,he,show readyE s c.l fl.l r.zone t=0 by omega],rfl,rfl⟩
end
section
end
end Go.Proofs.YtchfclmokpbldaaGreat
