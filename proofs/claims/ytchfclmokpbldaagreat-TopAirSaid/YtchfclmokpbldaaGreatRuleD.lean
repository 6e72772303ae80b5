/-
  Merged texts. By an AI agent.
-/
import Derived.Test.YtchfclmokpbldaaGreatSiteS
import Derived.Test.YtchfclmokpbldaaGreatFans
import Derived.Test.YtchfclmokpbldaaGreatRestP
import Derived.Test.YtchfclmokpbldaaGreatRuleP
set_option linter.all false
set_option maxHeartbeats 4000000
set_option maxRecDepth 20000
namespace Go.Proofs.YtchfclmokpbldaaGreat
open Go.Aw Go
section
def Ysd {e:Int} (h:nzO e=none):e=0:=by
 rw [nzO] at h;split at h;·assumption
 ·cases h
def Umf {e x:Int} (h:nzO e=some x):x≠0:=by
 rw [nzO] at h;split at h;·cases h
 ·cases h;assumption
structure SiteOk (s:XSite):Prop where
 air:Ky s.air=0
 len:s.sensors.l.length≤64∧s.conds.l.length≤64∧s.zones.l.length≤16∧s.persons.l.length≤64
 sens:∀i:Nat,i < s.sensors.l.length→Jda s.air s.sensors.l i=none
 cond:∀c∈s.conds.l,Kv s.sensors.l s.air.mine.roads.l.length c=0
 zone:∀z∈s.zones.l,Y8 s.conds.l.length s.air.mine.roads.l.length z=0
 pers:∀p∈s.persons.l,1≤p∧p≤3
def Yne {a:XAir} {S:List XSens} {i:Nat} {e:Int} (h:Jda a S i=some e):e≠0:=by
 rw [Jda] at h;split at h;·cases h;assumption
 split at h;·cases h;decide
 split at h;·cases h;decide
 ·cases h
def Z2 {s:XSite} (h:Ue s=0):SiteOk s:=by
 rw [Ue] at h;split at h;·omega
 split at h;·omega
 split at h;·omega
 split at h;·omega
 split at h;·omega
 rename_i h1 h2 h3 h4 h5;refine ⟨by omega,by omega,fun i hi=>?_,fun c hc=>?_,fun z hz=>?_,fun p hp=>?_⟩;·
  have h3' : U0 s.air s.sensors.l = 0 := by omega
  exact V3 (f:=Jda s.air s.sensors.l) (fun x e hx=>Yne hx) h3' i (List.mem_range.2 hi)
 ·
  have h4' : Kpa s = 0 := by omega
  exact Ysd (V3 (f:=fun c=>nzO (Kv s.sensors.l s.air.mine.roads.l.length c)) (fun x e hx=>Umf hx) h4' c hc)
 ·
  have h5' : Zk s = 0 := by omega
  exact Ysd (V3 (f:=fun z=>nzO (Y8 s.conds.l.length s.air.mine.roads.l.length z)) (fun x e hx=>Umf hx) h5' z hz)
 ·
  have:=V3 (f:=fun p:Int=>if p < 1∨3 < p then some 19 else none) (fun x e hx=>by
   split at hx;·cases hx;decide
   ·cases hx) h p hp
  exact uaR
def V5a {α β:Type} {f:α→Option β} {l:List α} (h:∀x∈l,f x=none):l.findSome? f=none:=List.findSome?_eq_none_iff.2 h
def SiteOk.err {s:XSite} (h:SiteOk s):Ue s=0:=by
 have h1:=h.air;have h2:=h.len;have e1:U0 s.air s.sensors.l=0:=by rw [U0,V5a (fun i hi=>h.sens i (List.mem_range.1 hi))];rfl
 have e2:Kpa s=0:=by rw [Kpa,V5a (fun c hc=>by rw [nzO,if_pos (h.cond c hc)])];rfl
 have e3:Zk s=0:=by rw [Zk,V5a (fun z hz=>by rw [nzO,if_pos (h.zone z hz)])];rfl
 have e4:Jza s=0:=by rw [Jza,V5a (fun p hp=>if_neg (by have:=h.pers p hp;omega))];rfl
 rw [Ue,if_neg za,if_neg za,if_neg za,if_neg za,if_neg za,e4]
def V4c {S:List XSens} {n:Nat} {c:XCond} (h:Kv S n c=0):(1≤c.kind∧c.kind≤5)∧(0≤c.value∧c.value≤1099511627776)∧(c.kind=1→Jpa c.level)∧
 (c.kind=5→0≤c.target∧c.target < n)∧(c.kind≠5→0≤c.target∧c.target < S.length)∧(c.kind=3→(S.getD c.target.toNat default).kind=5):=by
 rw [Kv] at h;split at h;·omega
 rename_i h1;split at h;·omega
 rename_i h2;have h3:Kr S n c=0:=by omega
 have h4:c.kind=1→Jpa c.level:=fun hk=>by
  rw [if_pos hk,J5a] at h;split at h;·assumption
  ·omega
 rw [Kr] at h3;split at h3;·exact ubo
 split at h3;·
  split at h3;·rename_i h5;exact ⟨by omega,by omega,h4,by omega,by omega,fun _=>h5.2⟩
  ·omega
 split at h3;·exact ubo
 ·omega
structure WrO {α:Type} (l0:List α) (g:Nat→α) (i:Nat) (l:List α):Prop where
 len:l.length=l0.length
 don:∀j:Nat,j < i→l[j]?=some (g j)
 old:∀j:Nat,i≤j→l[j]?=l0[j]?
def WrO.zero {α:Type} {l0:List α} {g:Nat→α}:WrO l0 g 0 l0:=⟨rfl,fun j hj=>by omega,fun j _=>rfl⟩
def WrO.next {α:Type} {l0:List α} {g:Nat→α} {i:Nat} {l:List α} (h:WrO l0 g i l) (hi:i < l0.length) {x:α} (hx:x=g i):WrO l0 g (i + 1) (l.set i x):=by
 have hl:=h.len;refine ⟨by simp [hl],fun j hj=>?_,fun j h1=>?_⟩;·
  rw [yO];split;·rename_i e;rw [if_pos za,hx,e]
  ·exact h.don j za
 ·rw [yZ za];exact h.old j za
def WrO.stay {α:Type} {l0:List α} {g:Nat→α} {i:Nat} {l:List α} (h:WrO l0 g i l) (hx:l0[i]?=some (g i)):WrO l0 g (i + 1) l:=by
 refine ⟨h.len,fun j hj=>?_,fun j h1=>h.old j za⟩;rcases yk j i with h1 | h1;·exact h.don j h1
 ·
  obtain rfl : j = i := by omega
  rw [h.old j (ym _),hx]
def WrO.done {α:Type} {l0:List α} {g:Nat→α} {l:List α} (h:WrO l0 g l0.length l):l=(List.range l0.length).map g:=by
 have hl:=h.len;refine yDa fun j=>?_;rcases yk j l0.length with hj | hj;·rw [h.don j hj,yr,yV hj];rfl
 ·rw [yu za,yu zH]
end
section
attribute [local irreducible] CJ LJ DJ Tri YV Gives U5 J2 Kn U6 RV J4 OwL.L
section
variable {A B:Prop}
def Jpg(h:A→B:=by exact K0 (by first | exact Jd tb rfl rfl rfl rfl zu (i:=k.toNat) zk za | exact Jl tb rfl rfl rfl rfl (i:=k.toNat) zk za) rfl rfl rfl):=h
def Vdg(h:A→B:=by exact K0 (by first | exact Jd tb rfl rfl rfl rfl zu (i:=(z.roads.l.getD j 0).toNat) zk za | exact Jl tb rfl rfl rfl rfl (i:=(z.roads.l.getD j 0).toNat) zk za) rfl rfl rfl):=h
end
def Jgf {s:XSite} (h:SiteOk s) {r:XRoad} (hr:r∈s.air.mine.roads.l):(1≤r.len∧r.len≤100000)∧(1≤r.area∧r.area≤1000):=by
 have h1:Ua s.air.mine=0:=by
  have:=h.air;rw [Ky] at this;split at this;·exact this
  ·rename_i h2;exact Decidable.not_not.1 h2
 unfold Ua at h1;split at h1;·cases h1
 split at h1;·rename_i e he;subst h1;obtain ⟨x,_,hx⟩:=yw he;unfold Zs at hx;split at hx <;> cases hx
 have hall:=V3 (f:=Vk s.air.mine.places.l.length) (fun x e hx he=>by
  subst he;unfold Vk at hx;split at hx;·cases hx
  ·split at hx <;> cases hx) h1
 have:=hall r hr;unfold Vk at this;split at this;·cases this
 split at this;·cases this
 rename_i h2;omega
def Zze {s:XSite} (h:SiteOk s) {z:XZone} (hz:z∈s.zones.l):(0≤z.hold∧z.hold≤100000)∧(0≤z.fresh∧z.fresh≤100)∧∀i:Nat,i < z.roads.l.length→0≤z.roads.l.getD i 0∧z.roads.l.getD i 0 < s.air.mine.roads.l.length:=by
 have:=h.zone z hz;rw [Y8] at this;split at this;·omega
 split at this;·cases this
 rename_i h1;split at this;·cases this
 rename_i h2;refine ⟨by omega,by omega,fun i hi=>?_⟩;have:¬ Y2 s.air.mine.roads.l.length z.roads.l i:=fun hb=>h2 ⟨i,hi,hb⟩;rw [Y2] at this;omega
def Jyf {s:XSite} (h:SiteOk s) {z:XZone} (hz:z∈s.zones.l):z.roads.l.length≤128:=by
 have:=h.zone z hz;rw [Y8] at this;split at this;·omega
 split at this;·cases this
 split at this;·cases this
 rename_i h2;have hb:∀i:Nat,i < z.roads.l.length→¬ Y2 s.air.mine.roads.l.length z.roads.l i:=fun i hi hb=>h2 ⟨i,hi,hb⟩;have up:∀i:Nat,i < z.roads.l.length→(i:Int)≤z.roads.l.getD i 0:=by
  intro i;induction i with
  | zero=>intro hi;have:=hb 0 hi;rw [Y2] at this;omega
  | succ i ih=>intro hi;have h1:=ih za;have h2:=hb (i + 1) hi;rw [Y2,Nat.add_sub_cancel] at h2;omega
 have hn:=(V1 h.air).mine.roads;rcases yk 128 z.roads.l.length with h3 | h3;·have h4 := up 128 h3;have h5:=hb 128 h3;rw [Y2] at h5;omega
 ·exact h3
def U2a (s:XSite) (fl:List XSpan) (z:XZone) (sec r:Int):Prop:=¬ V7c (s.air.mine.roads.l.getD r.toNat default) (fl.getD r.toNat default) z.fresh sec
instance (s:XSite) (fl:List XSpan) (z:XZone) (sec r:Int):Decidable (U2a s fl z sec r):=by unfold U2a;infer_instance
def V4b (s:XSite) (fl:List XSpan) (c:XCut) (z:XZone) (t:Int):Int:=
 if c.off=false then 10
 else if (c.clear < 0∨t < c.clear)∨t - c.clear < z.hold then 20
 else if∃r∈z.roads.l,U2a s fl z (t - c.clear) r then 20 else 0
def readyE (s:XSite) (c:List XCut) (fl:List XSpan) (k t:Int):Int:=
 if k < 0∨(c.length:Int)≤k then 17 else V4b s fl (c.getD k.toNat default) (s.zones.l.getD k.toNat default) t
def J2f {s:XSite} {fl:List XSpan} {c:XCut} {z:XZone} {t:Int} (h1:c.off=true) (h2:¬ ((c.clear < 0∨t < c.clear)∨t - c.clear < z.hold)) (h3:∀j:Nat,j < z.roads.l.length→¬ U2a s fl z (t - c.clear) (z.roads.l.getD j 0)):V4b s fl c z t=0:=by rw [V4b,if_neg (by rw [h1];decide),if_neg h2,if_neg];rintro ⟨r,hr,hw⟩;obtain ⟨j,hj,rfl⟩:=yWa hr;have:=h3 j hj;rw [yh,yC hj] at this;exact this hw
def Y2e {s:XSite} {fl:List XSpan} {c:XCut} {z:XZone} {t r:Int} (h1:c.off=true) (h2:¬ ((c.clear < 0∨t < c.clear)∨t - c.clear < z.hold)) (hr:r∈z.roads.l) (h3:U2a s fl z (t - c.clear) r):V4b s fl c z t=20:=by rw [V4b,if_neg (by rw [h1];decide),if_neg h2,if_pos ⟨r,hr,h3⟩]
structure RestA (s:XSite) (c:Arr XCut) (fl:Arr XSpan) (R:LS):Prop where
 site:SiteR s R
 cuts:InR (Vic c) R
 flows:InR (Yob fl) R
def Yyb (s:XSite) (c:Arr XCut) (fl:Arr XSpan) (k t:Int) (L:LB) (R:LS) (h:RestA s c fl R) (hok:SiteOk s) (hlen:c.l.length=s.zones.l.length∧fl.l.length=s.air.mine.roads.l.length) (ht:0≤t∧t≤2147483648):
 Tri Tryz.prog 163 [s.val,c.val,fl.val,.int .i64 k,.int .i64 t].toArray L R (fun v U J=>v=.int .i64 (readyE s c.l fl.l k t)∧L=U∧R=J):=by
 have hcR:=h.cuts;have hfR:=h.flows;have hzR:=h.site.zones;have hrR:=h.site.air.roads;have hsl:=hok.len;refine Je 80 Tryz.call163 Tryz.func163 rfl rfl rfl ?_;apply (Xaf);intro b5;apply Xck∘Xav;apply J6 (G:=[_,_,_,_]) (j:=2) (cj:=17) rfl rfl zb rfl zsb rfl;·intro hg3;replace hg3:=qb hg3;exact (qaa∘Xaq) zhe
 intro junk3;apply (qaf);refine q_c ?_ ?_<;>intro hc0;·apply (Xba);refine q_i L R ?_;exact ⟨by rw [readyE,if_pos za],rfl,rfl⟩
 have hcg:=Jn (l:=c.l) (k:=k.toNat) default za;have hzg:=Jn (l:=s.zones.l) (k:=k.toNat) default za;have he:readyE s c.l fl.l k t=V4b s fl.l (c.l.getD k.toNat default) (s.zones.l.getD k.toNat default) t:=by rw [readyE,if_neg za]
 obtain ⟨z,hz⟩:∃z,z=s.zones.l.getD k.toNat default:=⟨_,rfl⟩;obtain ⟨x,hx⟩:∃x,x=c.l.getD k.toNat default:=⟨_,rfl⟩;rw [← hz] at hzg he;rw [← hx] at hcg he;have hzr:=Zze hok (yi hzg);have hzl:=Jyf hok (yi hzg);have hzroR:InR (isl z.roads) R:=InR.zroads hzR hzg;apply (qcl);refine Ki tb [0,1,2,3,4,5,6,7,8,9,10,11,12] _ Kq zc ye ?_;refine K0 zrd rfl rfl rfl ?_;apply qao∘Jpg∘qdv∘Xbs∘Jpg∘qdp∘qbr;intro b11;apply (qbr);intro b12;apply qbg∘qbg∘qc6∘Xaa∘Xbl;refine q_c ?_ ?_<;>intro hc1;·apply (Xba);refine q_i L R ?_;exact ⟨by rw [he,V4b,if_pos zM],rfl,rfl⟩
 have hoff:x.off=true:=by simpa using hc1
 apply qbo∘Xbj;apply J6 (G:=[_,_,_,_]) (j:=3) (cj:=38) rfl rfl zb rfl zsb rfl;·intro hg4;replace hg4:=qb hg4;exact (Xah∘qa5) qai
 intro junk4;apply (qah);apply J6 (G:=[_,_,_,_,_,_,_]) (j:=9) (cj:=44) rfl rfl zb rfl zsb rfl;·intro hg10;replace hg10:=qb hg10;exact (qaa∘Xaa∘qa9) zYd
 intro junk10;apply (qaf);refine q_c ?_ ?_<;>intro hc2;·apply (Xba);refine q_i L R ?_;exact ⟨by rw [he,V4b,if_neg (by rw [hoff];decide),if_pos za],rfl,rfl⟩
 apply (Xc3);refine Jm [(2,.slice _ _ _),(4,.int _ _),(5,.pointer _),(11,.pointer _),(12,.pointer _),(54,.slice _ _ _),(55,.int _ _),(56,.int _ _)] zh fun tq0=>?_;refine q_s ([10,14]++rg 56 24) (fun g:{j:Nat // j≤z.roads.l.length∧∀m:Nat,m < j→¬ U2a s fl.l z (t - x.clear) (z.roads.l.getD m 0)}=>[(56,.int .i64 ((g.1:Nat):Int))]) (fun g=>z.roads.l.length - g.1) (⟨0,by omega,fun m hm=>by omega⟩) ?_;rintro ⟨j,hj,hal⟩ junk;try dsimp only
 apply (Xam);refine q_c ?_ ?_<;>intro hc3;·
  have hjg:=Jn (l:=z.roads.l) (k:=j) 0 za;have hjr:=hzr.2.2 j za;have hrg:=Jn (l:=s.air.mine.roads.l) (k:=(z.roads.l.getD j 0).toNat) default za;have hfg:=Jn (l:=fl.l) (k:=(z.roads.l.getD j 0).toNat) default za;have hrr:=Jgf hok (yi hrg);apply (qbb);refine Jy zPa rfl ?_;apply qa7∘Xce;refine Ki tb [0,1,2,3,4,5,6,7,8,9,10,11,12,13,14,15,16,17,18] _ Kq zc ye ?_;iterate 3 apply (qal)
  apply qat∘qao∘Vdg;refine K0 zdb rfl rfl rfl ?_;refine K0 zrd rfl rfl rfl ?_;apply qao∘Vdg∘qdo∘Xbs∘Xai∘qb7;refine q_d rfl (Kqd (s.air.mine.roads.l.getD (z.roads.l.getD j 0).toNat default) (fl.l.getD (z.roads.l.getD j 0).toNat default) z.fresh (t - x.clear) _ _ hrr.1 hrr.2 hzr.2.1 za) ?_;refine K0 (Ywa rfl) rfl rfl rfl ?_;apply (qbu);refine q_c ?_ ?_<;>intro hc4;·apply (Xby);refine q_i L R ?_;exact ⟨by rw [he,Y2e hoff za (yi hjg) (by rw [U2a];simpa using hc4)],rfl,rfl⟩
  apply (Xaw);exact Kd (⟨j + 1,by omega,fun m hm=>by
  rcases yk m j with h | h;·exact hal m h
  ·(obtain rfl : m = j := by omega);rw [U2a];simpa using hc4⟩) zm zh zi zLb zx
 apply (Xco);refine q_i L R ?_;exact ⟨by rw [he,J2f hoff za (fun m hm=>hal m za)],rfl,rfl⟩
end
section
attribute [local irreducible] CJ LJ DJ Tri YV Gives U5 J2 Kn U6 RV J4 OwL.L
section
variable {A B:Prop}
def Zfa(h:A→B:=by exact Jy zKb rfl):=h
def Y6e(h:A→B:=by exact Jy zAb rfl):=h
end
structure XRest where
 zone:Int
 first:Int
 second:Int
 step:Int
 time:Int
 deriving DecidableEq
def XRest.cells (x:XRest):List Value:=[.int .i64 x.zone,.int .i64 x.first,.int .i64 x.second,.int .i64 x.step,.int .i64 x.time]
abbrev XRest.val (x:XRest):Value:=.agg #[.int .i64 x.zone,.int .i64 x.first,.int .i64 x.second,.int .i64 x.step,.int .i64 x.time]
def noRest:XRest:=⟨-1,-1,-1,0,0⟩
def sharedE (s:XSite) (nc nf:Nat) (t:Int):Int:=if Ue s≠0 then Ue s else if ¬ (nc=s.zones.l.length∧nf=s.air.mine.roads.l.length) then 11 else if t < 0∨2147483648 < t then 8 else 0
def Yoa (s:XSite) (c:Arr XCut) (fl:Arr XSpan) (t:Int) (L:LB) (R:LS) (h:RestA s c fl R):
 Tri Tryz.prog 162 [s.val,c.val,fl.val,.int .i64 t].toArray L R (fun v U J=>v=.int .i64 (sharedE s c.l.length fl.l.length t)∧L=U∧R=J):=by
 refine Je 37 Tryz.call162 Tryz.func162 rfl rfl rfl ?_;apply (Xaf);intro b4;apply Xar∘Y6e;refine q_l rfl (Kqa s _ _ h.site) ?_;apply (Xbh);refine q_c ?_ ?_<;>intro hc0;·apply (Xdm);refine q_i L R ?_;exact ⟨by rw [sharedE,if_pos hc0],rfl,rfl⟩
 apply qbo∘Xaq∘Xab∘Xb7;apply J6 (G:=[_,_,_,_,_,_,_,_]) (j:=6) (cj:=21) rfl rfl zb rfl zsb rfl;·
  intro hg7;replace hg7:=qb hg7;apply (Xaq);iterate 3 apply (qab)
  exact (qac∘qag) zNd
 intro junk7;apply (qaf);refine q_c ?_ ?_<;>intro hc1;·apply (Xba);refine q_i L R ?_;exact ⟨by rw [sharedE,if_neg za,if_pos za],rfl,rfl⟩
 apply Xc4∘Xav;apply J6 (G:=[_,_]) (j:=2) (cj:=33) rfl rfl zb rfl zsb rfl;·exact zKd
 intro junk3;apply (qaf);refine q_c ?_ ?_<;>intro hc2;·apply (Xba);refine q_i L R ?_;exact ⟨by rw [sharedE,if_neg za,if_neg za,if_pos za],rfl,rfl⟩
 apply (Xc2);refine q_i L R ?_;exact ⟨by rw [sharedE,if_neg za,if_neg za,if_neg za],rfl,rfl⟩
def Kvb {s:XSite} {nc nf:Nat} {t:Int} (h:sharedE s nc nf t=0):SiteOk s∧(nc=s.zones.l.length∧nf=s.air.mine.roads.l.length)∧0≤t∧t≤2147483648:=by
 rw [sharedE] at h;split at h;·omega
 rename_i h1;split at h;·omega
 split at h;·omega
 exact ⟨Z2 (Decidable.not_not.1 h1),by omega,by omega⟩
def Vzc (L:LB) (R:LS):Tri Tryz.prog 77 ([]:List Value).toArray L R (fun v U J=>v=noRest.val∧L=U∧R=J):=by refine Je 2 Tryz.call77 Tryz.func77 rfl rfl rfl ?_;apply (Xd9);intro b0;apply (qam);refine Jy (Ka (qs:=[(0,(Value.int _ _).cells.toList),(1,(Value.int _ _).cells.toList),(2,(Value.int _ _).cells.toList)]) (out:=[_,_,_,_,_]) tb rfl rfl rfl rfl) rfl ?_;apply (Xbp);refine q_r L R (Vu rfl zzb) ?_;exact zbe
def askE (s:XSite) (c:List XCut) (fl:List XSpan) (r:XRest) (p k t:Int):Int:=
 if sharedE s c.length fl.length t≠0 then sharedE s c.length fl.length t
 else if r.zone≠-1 then 10
 else if p < 0∨(s.persons.l.length:Int)≤p∨s.persons.l.getD p.toNat 0≠1 then 19
 else readyE s c fl k t
def askR (s:XSite) (c:List XCut) (fl:List XSpan) (r:XRest) (p k t:Int):XRest:=if askE s c fl r p k t=0 then ⟨k,p,-1,1,t⟩ else r
def Y4c {s:XSite} {c:List XCut} {fl:List XSpan} {r:XRest} {p k t e:Int} (h:askE s c fl r p k t=e) (he:e≠0):askR s c fl r p k t=r:=by rw [askR,if_neg za]
def V9f (s:XSite) (c:Arr XCut) (fl:Arr XSpan) (r:XRest) (p k t:Int) (L:LB) (R:LS) (h:RestA s c fl R):
 Tri Tryz.prog 84 [s.val,c.val,fl.val,r.val,.int .i64 p,.int .i64 k,.int .i64 t].toArray L R (fun v U J=>v=.tuple #[(askR s c.l fl.l r p k t).val,.int .i64 (askE s c.l fl.l r p k t)]∧L=U∧R=J):=by
 have hpR:=h.site.persons;refine Je 64 Tryz.call84 Tryz.func84 rfl rfl rfl ?_;apply (Xaf);intro b7;apply (qax);intro b10;apply (qaq);intro b14;apply Xar∘Y6e∘qbm∘Xap;refine q_l rfl (Yoa s c fl t _ _ h) ?_;apply (Xbh);refine q_c ?_ ?_<;>intro hc0;·
  apply qae∘Zfa∘Xcl;refine q_r L R zwd ?_;have he:askE s c.l fl.l r p k t=sharedE s c.l.length fl.l.length t:=by rw [askE,if_pos hc0]
  exact ⟨by rw [Y4c he hc0,he],rfl,rfl⟩
 obtain ⟨hok,hln,ht⟩:=Kvb (s:=s) (nc:=c.l.length) (nf:=fl.l.length) (t:=t) za;apply Xc1∘Xat;refine q_c ?_ ?_<;>intro hc1;·
  apply qae∘Zfa∘Xa4;refine q_r L R zwd ?_;have he:askE s c.l fl.l r p k t=10:=by rw [askE,if_neg hc0,if_pos hc1]
  exact ⟨by rw [Y4c he za,he],rfl,rfl⟩
 apply Xc4∘Xav;apply J6 (G:=[_,_,_,_,_]) (j:=2) (cj:=33) rfl rfl zb rfl zsb rfl;·exact zie
 intro junk3;apply (qah);apply J6 (G:=[_,_,_,_,_,_,_]) (j:=9) (cj:=40) rfl rfl zb rfl zsb rfl;·intro hg10;replace hg10:=qb hg10;have hpg:=Jn (l:=s.persons.l) (k:=p.toNat) 0 za;apply (Xah);refine Jy zob rfl ?_;exact (Xa9) zNd
 intro junk10;apply (qaf);refine q_c ?_ ?_<;>intro hc2;·
  apply qae∘Zfa∘Xa4;refine q_r L R zwd ?_;have he:askE s c.l fl.l r p k t=19:=by rw [askE,if_neg hc0,if_neg hc1,if_pos za]
  exact ⟨by rw [Y4c he za,he],rfl,rfl⟩
 have he:askE s c.l fl.l r p k t=readyE s c.l fl.l k t:=by rw [askE,if_neg hc0,if_neg hc1,if_neg za]
 apply qbo∘Y6e∘qbm∘Xap∘qaa;refine q_l rfl (Yyb s c fl k t _ _ h hok hln ht) ?_;apply (Xbh);refine q_c ?_ ?_<;>intro hc3;·apply qae∘Zfa∘Xcl;refine q_r L R zwd ?_;exact ⟨by rw [Y4c he hc3,he],rfl,rfl⟩
 apply (qbv);iterate 3 apply (qaa)
 refine Jy (Ka (qs:=[(0,(Value.int _ _).cells.toList),(1,(Value.int _ _).cells.toList),(2,(Value.int _ _).cells.toList),(3,(Value.int _ _).cells.toList),(4,(Value.int _ _).cells.toList)]) (out:=[_,_,_,_,_]) tb rfl rfl rfl rfl) rfl ?_;apply (Xb3);refine q_r L R zwd ?_;exact ⟨by rw [askR,if_pos za,he,show readyE s c.l fl.l k t=0 by omega],rfl,rfl⟩
def Jjd (r:XRest) (t:Int):Prop:=t < r.time∨r.time < t - 600
instance (r:XRest) (t:Int):Decidable (Jjd r t):=by unfold Jjd;infer_instance
def Y5d (r:XRest) (t:Int) (L:LB) (R:LS) (ht:0≤t∧t≤2147483648):
 Tri Tryz.prog 164 [r.val,.int .i64 t].toArray L R (fun v U J=>v=.bool (decide (Jjd r t))∧L=U∧R=J):=by
 refine Je 16 Tryz.call164 Tryz.func164 rfl rfl rfl ?_;apply (Xaf);intro b2;apply Xbn∘qaa∘Xbj;apply J6 (G:=[_,_,_,_,_]) (j:=4) (cj:=9) rfl rfl zb rfl zsb rfl;·intro hg5;replace hg5:=qb hg5;exact (Xd4) zme
 intro junk5;apply (Xbb);refine q_b L R ?_;exact ⟨by refine congrArg Value.bool ?_;rw [yzb,decide_eq_true_iff (p:=Jjd r t),Jjd];simp,rfl,rfl⟩
def Jia (s:XSite) (r:XRest) (p:Int):Prop:=
 p < 0∨(s.persons.l.length:Int)≤p∨p=r.first∨r.first < 0∨(s.persons.l.length:Int)≤r.first∨s.persons.l.getD p.toNat 0=s.persons.l.getD r.first.toNat 0
instance (s:XSite) (r:XRest) (p:Int):Decidable (Jia s r p):=by unfold Jia;infer_instance
def confirmE (s:XSite) (c:List XCut) (fl:List XSpan) (r:XRest) (p t:Int):Int:=
 if sharedE s c.length fl.length t≠0 then sharedE s c.length fl.length t
 else if r.zone= -1∨r.step≠1 then 10
 else if Jia s r p then 19
 else if Jjd r t then 8
 else readyE s c fl r.zone t
def confirmR (s:XSite) (c:List XCut) (fl:List XSpan) (r:XRest) (p t:Int):XRest:=if confirmE s c fl r p t=0 then ⟨r.zone,r.first,p,2,t⟩ else r
def V4 {s:XSite} {c:List XCut} {fl:List XSpan} {r:XRest} {p t e:Int} (h:confirmE s c fl r p t=e) (he:e≠0):confirmR s c fl r p t=r:=by rw [confirmR,if_neg za]
def Vod (s:XSite) (c:Arr XCut) (fl:Arr XSpan) (r:XRest) (p t:Int) (L:LB) (R:LS) (h:RestA s c fl R):
 Tri Tryz.prog 86 [s.val,c.val,fl.val,r.val,.int .i64 p,.int .i64 t].toArray L R (fun v U J=>v=.tuple #[(confirmR s c.l fl.l r p t).val,.int .i64 (confirmE s c.l fl.l r p t)]∧L=U∧R=J):=by
 have hpR:=h.site.persons;refine Je 102 Tryz.call86 Tryz.func86 rfl rfl rfl ?_;apply (Xaf);intro b6;apply (qax);intro b9;apply (qaq);intro b12;apply Xar∘Y6e∘qbm∘Xap;refine q_l rfl (Yoa s c fl t _ _ h) ?_;apply (Xbh);refine q_c ?_ ?_<;>intro hc0;·
  apply qae∘Zfa∘Xcl;refine q_r L R zwd ?_;have he:confirmE s c.l fl.l r p t=sharedE s c.l.length fl.l.length t:=by rw [confirmE,if_pos hc0]
  exact ⟨by rw [V4 he hc0,he],rfl,rfl⟩
 obtain ⟨hok,hln,ht⟩:=Kvb (s:=s) (nc:=c.l.length) (nf:=fl.l.length) (t:=t) za;apply Xc1∘Xcn;apply J6 (G:=[_,_,_]) (j:=3) (cj:=30) rfl rfl zb rfl zsb rfl;·exact ubq
 intro junk4;apply (qaf);refine q_c ?_ ?_<;>intro hc1;·
  apply qae∘Zfa∘Xa4;refine q_r L R zwd ?_;have he:confirmE s c.l fl.l r p t=10:=by rw [confirmE,if_neg hc0,if_pos za]
  exact ⟨by rw [V4 he za,he],rfl,rfl⟩
 apply qbv∘Xab∘qad∘qco;refine Ki tb [0,1,2,3,4,5,6,7,8,9,10,11,12,13,14,15,16,17,18,19,20,21,22,23,24,25,26,27,28,29,30,31,32,33,34,35,36,37,38,39] _ Kq zc ye ?_;apply (qao);refine K0 zdd rfl rfl rfl ?_;apply (qb2);refine Vx (k:=41) zsb (fun hg2=>?_) (fun hg2=>?_);·
  replace hg2:=qb hg2;iterate 3 apply (qap)
  apply (Xbq);iterate 4 apply (qap)
  exact (Xbq) zNe
 replace hg2:=qb hg2;apply qao∘qao;refine K0 zcd rfl rfl rfl ?_;apply (Xbq);refine Vx (k:=46) zsb (fun hg7=>?_) (fun hg7=>?_);·
  replace hg7:=qb hg7;iterate 4 apply (qap)
  exact (Xbq) zNe
 replace hg7:=qb hg7;apply qao∘Xai;refine K0 zsc rfl rfl rfl ?_;apply (Xbq);refine Vx (k:=52) zsb (fun hg13=>?_) (fun hg13=>?_);·replace hg13:=qb hg13;exact zNe
 replace hg13:=qb hg13;apply (Xai);refine K0 zdd rfl rfl rfl ?_;apply (Xbq);refine Vx (k:=57) zsb (fun hg18=>?_) (fun hg18=>?_);·
  replace hg18:=qb hg18;iterate 4 apply (qap)
  exact (Xbq) zGd
 replace hg18:=qb hg18;apply (Xbs);refine K0 zcd rfl rfl rfl ?_;apply (Xbq);refine Vx (k:=63) zsb (fun hg24=>?_) (fun hg24=>?_);·replace hg24:=qb hg24;exact zGd
 replace hg24:=qb hg24;have hpg:=Jn (l:=s.persons.l) (k:=p.toNat) 0 za;have hqg:=Jn (l:=s.persons.l) (k:=r.first.toNat) 0 za;apply (Xbs);refine K0 zob rfl rfl rfl ?_;apply Xdx∘Xai∘Xai;refine K0 (by first | exact Jd tb rfl rfl rfl rfl zu (i:=r.first.toNat) zk za | exact Jl tb rfl rfl rfl rfl (i:=r.first.toNat) zk za) rfl rfl rfl ?_;apply (Xdx);refine K0 zsc rfl rfl rfl ?_;apply (Xbv);refine q_c ?_ ?_<;>intro hc2;·
  apply qae∘Zfa∘Xa4;refine q_r L R zwd ?_;have he:confirmE s c.l fl.l r p t=19:=by rw [confirmE,if_neg hc0,if_neg za,if_pos zca]
  exact ⟨by rw [V4 he za,he],rfl,rfl⟩
 have hbp:¬ Jia s r p:=by rw [Jia];omega
 apply qbo∘Zfa∘qaa;refine q_l rfl (Y5d r t _ _ ht) ?_;apply (qaf);refine q_c ?_ ?_<;>intro hc3;·
  apply qae∘Zfa∘Xa4;refine q_r L R zwd ?_;have he:confirmE s c.l fl.l r p t=8:=by rw [confirmE,if_neg hc0,if_neg za,if_neg hbp,if_pos zka]
  exact ⟨by rw [V4 he za,he],rfl,rfl⟩
 have he:confirmE s c.l fl.l r p t=readyE s c.l fl.l r.zone t:=by rw [confirmE,if_neg hc0,if_neg za,if_neg hbp,if_neg zka]
 apply qbo∘Y6e∘qbm∘qbm∘Xah;refine q_l rfl (Yyb s c fl r.zone t _ _ h hok hln ht) ?_;apply (Xbh);refine q_c ?_ ?_<;>intro hc4;·apply qae∘Zfa∘Xcl;refine q_r L R zwd ?_;exact ⟨by rw [V4 he hc4,he],rfl,rfl⟩
 apply qbv∘Zfa∘qaq;intro b17;apply Xaz∘Xbw∘Xbm∘Xbm∘Xbm∘qam∘Zfa∘Xb3;refine q_r L R zwd ?_;exact ⟨by rw [confirmR,if_pos za,he,show readyE s c.l fl.l r.zone t=0 by omega],rfl,rfl⟩
end
section
end
end Go.Proofs.YtchfclmokpbldaaGreat
