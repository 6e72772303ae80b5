/-
  Merged texts. By an AI agent.
-/
import Derived.Test.YtchfclmokpbldaaGreatCongrS
import Derived.Test.YtchfclmokpbldaaGreatNets
import Derived.Test.YtchfclmokpbldaaGreatFits
import Derived.Test.YtchfclmokpbldaaGreatAnal
import Derived.Test.YtchfclmokpbldaaGreatRel
import Derived.Test.YtchfclmokpbldaaGreatCflowR
set_option linter.all false
set_option maxHeartbeats 4000000
set_option maxRecDepth 20000
namespace Go.Proofs.YtchfclmokpbldaaGreat
open Go.Aw Go
section
attribute [local irreducible] CJ LJ DJ Tri YV Gives Uo J0 Kj Un RV J2 OwL.L
section
variable {A B:Prop}
def Z0c(h:A→B:=by exact Jx zN rfl):=h
def Ume(h:A→B:=by exact Vn zIb rfl rfl):=h
def Zyf(h:A→B:=by exact Jx zD rfl):=h
end
structure XSens where
 address:Int
 kind:Int
 target:Int
 offset:Int
 scale:Int
 error:Int
 drift:Int
 life:Int
 deriving Inhabited
def XSens.cells (s:XSens):List Value:=[.int .i64 s.address,.int .i64 s.kind,.int .i64 s.target,.int .i64 s.offset,.int .i64 s.scale,.int .i64 s.error,.int .i64 s.drift,.int .i64 s.life]
abbrev XSens.val (s:XSens):Value:=.agg #[.int .i64 s.address,.int .i64 s.kind,.int .i64 s.target,.int .i64 s.offset,.int .i64 s.scale,.int .i64 s.error,.int .i64 s.drift,.int .i64 s.life]
structure XMeas where
 sensor:Int
 time:Int
 span:XSpan
 deriving Inhabited
def XMeas.cells (m:XMeas):List Value:=[.int .i64 m.sensor,.int .i64 m.time,.int .i64 m.span.low,.int .i64 m.span.high]
abbrev XMeas.val (m:XMeas):Value:=.agg #[.int .i64 m.sensor,.int .i64 m.time,.int .i64 m.span.low,.int .i64 m.span.high]
abbrev Y4c (x:Arr XSens):Sl:=x.sl 8 XSens.cells []
abbrev Vsa (x:Arr XMeas):Sl:=x.sl 4 XMeas.cells []
def Uba (lo hi:Int) (x:Arr Int) (L:LB) (R:LS) (hx:InR (isl x) R) (hn:x.l.length≤100):
 Tri Tryz.prog 174 [.int .i64 lo,.int .i64 hi,x.val].toArray L R (fun v M U=>v=.bool (decide (∀n∈x.l,lo≤n∧n≤hi))∧L=M∧R=U):=by
 refine Je 24 Tryz.call174 Tryz.func174 rfl rfl rfl ?_;apply Xbm∘qaw∘Xcc;refine Jk [(0,.int _ _),(1,.int _ _),(9,.slice _ _ _),(10,.int _ _),(11,.int _ _)] zh fun tq0=>?_;refine q_s ([6,8]++rg 11 13) (fun g:{k:Nat // k≤x.l.length∧∀n∈x.l.take k,lo≤n∧n≤hi}=>[(11,.int .i64 ((g.1:Nat):Int))]) (fun g=>x.l.length - g.1) (⟨0,by omega,by simp⟩) ?_;rintro ⟨k,hk,hal⟩ junk;try dsimp only
 apply (Xan);refine q_c ?_ ?_<;>intro hc0;·
  have h1:=Ju (l:=x.l) (k:=k) 0 za;apply qbb∘Zyf∘qa7∘Xau∘Xb5;apply Kf (G:=[_,_,_]) (j:=3) (cj:=18) rfl rfl zb rfl zfb rfl;·intro hg4;replace hg4:=qb hg4;exact (qaa∘Xca) qai
  intro junk4;apply (qaf);refine q_c ?_ ?_<;>intro hc1;·apply Xbm∘qbt;refine q_b L R ?_;exact ⟨by rw [decide_eq_false (fun h=>by have:=h _ (yi h1);omega)],rfl,rfl⟩
  apply (Xa3);exact Kq (⟨k + 1,by omega,fun n hn=>by
  rw [yna,h1] at hn;simp only [Option.toList_some,yOa,yWb] at hn;rcases hn with h | h;·exact hal n h
  ·omega⟩) zm zh zi zxb zw
 apply qbk∘Xbl;refine q_b L R ?_;exact ⟨by rw [decide_eq_true (fun n hn=>by rw [yM za] at hal;exact hal n hn)],rfl,rfl⟩
def Zi (s:XSens):Prop:=(0≤s.address∧s.address≤255)∧0≤s.target∧(-1000000≤s.offset∧s.offset≤1000000)∧(-1000000≤s.scale∧s.scale≤1000000)∧(0≤s.error∧s.error≤1000000)∧(0≤s.drift∧s.drift≤1000000)∧(1≤s.life∧s.life≤1000000)
instance (s:XSens):Decidable (Zi s):=by unfold Zi;infer_instance
def U1 (s:XSens):Int:=if ¬ (1≤s.kind∧s.kind≤6) then 5 else if Zi s then 0 else 1
def Usa (s:XSens) (L:LB) (R:LS):
 Tri Tryz.prog 97 [s.val].toArray L R (fun v M U=>v=.int .i64 (U1 s)∧L=M∧R=U):=by
 refine Je 44 Tryz.call97 Tryz.func97 rfl rfl rfl ?_;apply (Xag);intro b1;apply (qad);refine J5 (Jb (Jl (Kb (Jl (Jf ?_)))));apply Xaa∘qcx;rintro v M U ⟨b6,rfl,rfl,hR6⟩;replace hR6:=hR6.symm;subst hR6;refine Joa (wd:=1) (len:=1) (cap:=1) (rows:=[Ji s.kind]) (subs:=[]) rfl ze ze (fun r hr=>by rw [List.mem_singleton.1 hr];rfl) ze rfl yg ?_;refine q_l rfl (Uba 1 6 ⟨some ⟨b6,0,none⟩,1,[s.kind]⟩ _ _ zCb zo) ?_;apply qb4∘Xap;refine q_c ?_ ?_<;>intro hc0;·
  apply (Xbc);refine K0 (M:=L) (U:=R) zVc ?hp ?hL ?hR;case hp=>exact ⟨by simp at hc0;rw [U1,if_pos za],rfl,rfl⟩
  case hL=>exact zi
  case hR=>exact fun r h=>Ja (by simp [h])
 apply Xcb∘qcx;rintro v M U ⟨b12,rfl,rfl,hR12⟩;replace hR12:=hR12.symm;subst hR12;refine Joa (wd:=1) (len:=1) (cap:=1) (rows:=[Ji s.address]) (subs:=[]) rfl ze ze (fun r hr=>by rw [List.mem_singleton.1 hr];rfl) ze rfl yg ?_;refine q_l rfl (Uba 0 255 ⟨some ⟨b12,0,none⟩,1,[s.address]⟩ _ _ zCb zo) ?_;apply (Xcv);refine Zm (k:=15) zfb (fun hg6=>?_) (fun hg6=>?_);·
  replace hg6:=qb hg6;iterate 3 refine Kwb rfl rfl ?_
  apply Z0c∘qah;·
   skip
   (iterate 7 refine Kwb rfl rfl ?_);apply Z0c∘Xap;refine U9 rfl ?_;apply (Xbc);refine K0 (M:=L) (U:=R) zVc ?hp ?hL ?hR;case hp=>exact ⟨by rw [U1,if_neg zea,if_neg zza],rfl,rfl⟩
   case hL=>exact zi
   case hR=>exact fun r h=>Ja (by simp [h])
 replace hg6:=qb hg6;refine Vn zsb rfl rfl ?_;apply (Ume);refine Vn (Zhb rfl rfl) rfl rfl ?_;apply Z0c∘qah;refine Zm (k:=20) zfb (fun hg11=>?_) (fun hg11=>?_);·
  replace hg11:=qb hg11;iterate 7 refine Kwb rfl rfl ?_
  apply Z0c∘Xap;refine U9 rfl ?_;apply (Xbc);refine K0 (M:=L) (U:=R) zVc ?hp ?hL ?hR;case hp=>exact ⟨by rw [U1,if_neg zea,if_neg zza],rfl,rfl⟩
  case hL=>exact zi
  case hR=>exact fun r h=>Ja (by simp [h])
 replace hg11:=qb hg11;refine Vn zsb rfl rfl ?_;apply (Ume);refine Vn zsb rfl rfl ?_;apply (Ume);refine Vic zqb rfl rfl ?_;rintro v M U ⟨b25,rfl,rfl,hR25⟩;replace hR25:=hR25.symm;subst hR25;refine Joa (wd:=1) (len:=2) (cap:=2) (rows:=[Ji s.offset,Ji s.scale]) (subs:=[]) rfl ze ze (fun r hr=>by simp only [yU,yR,or_false] at hr;rcases hr with rfl | rfl <;> rfl) ze rfl yg ?_;refine Jpb rfl (Uba (-1000000) 1000000 ⟨some ⟨b25,0,none⟩,2,[s.offset,s.scale]⟩ _ _ zCb zo) rfl rfl ?_;rintro v M U ⟨rfl,rfl,rfl⟩;refine Vn (Kpb rfl) rfl rfl ?_;apply Z0c∘Xap;refine q_c ?_ ?_<;>intro hc1;·
  apply (Xbc);refine K0 (M:=L) (U:=R) zVc ?hp ?hL ?hR;case hp=>exact ⟨by rw [U1,if_neg zea,if_neg zza],rfl,rfl⟩
  case hL=>exact zi
  case hR=>exact fun r h=>Ja (by simp [h])
 apply qae∘Xbo;refine Yl zqb rfl ?_;rintro v M U ⟨b34,rfl,rfl,hR34⟩;replace hR34:=hR34.symm;subst hR34;refine Joa (wd:=1) (len:=2) (cap:=2) (rows:=[Ji s.error,Ji s.drift]) (subs:=[]) rfl ze ze (fun r hr=>by simp only [yU,yR,or_false] at hr;rcases hr with rfl | rfl <;> rfl) ze rfl yg ?_;refine q_l rfl (Uba 0 1000000 ⟨some ⟨b34,0,none⟩,2,[s.error,s.drift]⟩ _ _ zCb zo) ?_;apply (Xcv);refine Zm (k:=37) zfb (fun hg8=>?_) (fun hg8=>?_);·
  replace hg8:=qb hg8;iterate 5 refine Kwb rfl rfl ?_
  apply Z0c∘Xap;refine U9 rfl ?_;apply (Xbc);refine K0 (M:=L) (U:=R) zVc ?hp ?hL ?hR;case hp=>exact ⟨by rw [U1,if_neg zea,if_neg zRa],rfl,rfl⟩
  case hL=>exact zi
  case hR=>exact fun r h=>Ja (by simp [h])
 replace hg8:=qb hg8;refine Vn zsb rfl rfl ?_;apply (Ume);refine Vic zEb rfl rfl ?_;rintro v M U ⟨b40,rfl,rfl,hR40⟩;replace hR40:=hR40.symm;subst hR40;refine Joa (wd:=1) (len:=1) (cap:=1) (rows:=[Ji s.life]) (subs:=[]) rfl ze ze (fun r hr=>by rw [List.mem_singleton.1 hr];rfl) ze rfl yg ?_;refine Jpb rfl (Uba 1 1000000 ⟨some ⟨b40,0,none⟩,1,[s.life]⟩ _ _ zCb zo) rfl rfl ?_;rintro v M U ⟨rfl,rfl,rfl⟩;refine Vn (Kpb rfl) rfl rfl ?_;apply Z0c∘Xap;refine q_c ?_ ?_<;>intro hc2;·
  apply (Xbc);refine K0 (M:=L) (U:=R) zVc ?hp ?hL ?hR;case hp=>exact ⟨by rw [U1,if_neg zea,if_neg zRa],rfl,rfl⟩
  case hL=>exact zi
  case hR=>exact fun r h=>Ja (by simp [h])
 refine J1 (Jd (Jb (Jl (Jf ?_))));apply (Xai);refine K0 (M:=L) (U:=R) zVc ?hp ?hL ?hR;case hp=>exact ⟨by simp at hc0 hg6 hc1 hg8 hc2;rw [U1,if_neg za,if_pos (by rw [Zi];omega)],rfl,rfl⟩
 case hL=>exact zi
 case hR=>exact fun r h=>Ja (by simp [h])
def Jke (k:Int) (L:LB) (R:LS):
 Tri Tryz.prog 98 [.int .i64 k].toArray L R (fun v M U=>v=.bool (decide (k=4∨k=5∨k=6))∧L=M∧R=U):=by
 refine Je 13 Tryz.call98 Tryz.func98 rfl rfl rfl ?_;apply Xbm∘Xci∘Xcq;apply Kf (G:=[_,_]) (j:=2) (cj:=5) rfl rfl zb rfl zfb rfl;·intro hg3;replace hg3:=qb hg3;exact (qaa∘qbn) qai
 intro junk3;apply (qah);apply Kf (G:=[_,_]) (j:=6) (cj:=9) rfl rfl zb rfl zfb rfl;·intro hg7;replace hg7:=qb hg7;exact (qaa∘qbn) qai
 intro junk7;apply (Xbl);refine q_b L R ?_;exact ⟨by refine congrArg Value.bool ?_;rw [Bool.eq_iff_iff];simp;omega,rfl,rfl⟩
def Vld (s:XSens) (m:XMeas) (t:Int):Int:=(s.drift * (t - m.time) + 999).tdiv 1000
def Kic (s:XSens) (m:XMeas) (t:Int):Prop:=U1 s≠0∨m.sensor < 0∨m.span=nothingS∨t < m.time∨s.life < t - m.time
instance (s:XSens) (m:XMeas) (t:Int):Decidable (Kic s m t):=by unfold Kic;infer_instance
def Z4e (s:XSens) (m:XMeas) (t:Int):XSpan:=⟨m.span.low - Vld s m t,m.span.high + Vld s m t⟩
def atS (s:XSens) (m:XMeas) (t:Int):XSpan:=
 if Kic s m t then nothingS else if s.kind=4∨s.kind=5∨s.kind=6 then m.span
 else if s.kind=1∨s.kind=2 then ⟨max (Z4e s m t).low 0,max (Z4e s m t).high 0⟩ else Z4e s m t
def Kza (m:XMeas):Prop:=(0≤m.time∧m.time≤2147483648)∧(-1125899906842624≤m.span.low∧m.span.low≤1125899906842624)∧(-1125899906842624≤m.span.high∧m.span.high≤1125899906842624)
def Y9c {s:XSens} {m:XMeas} {t:Int} (h:¬ Kic s m t):(0≤s.drift * (t - m.time)∧s.drift * (t - m.time)≤1000000000000)∧0≤Vld s m t∧Vld s m t≤1000000001:=by
 rw [Kic] at h;have he:U1 s=0:=by omega
 rw [U1] at he;split at he;·omega
 split at he;·
  rename_i hs;rw [Zi] at hs;have h1:0≤t - m.time∧t - m.time≤1000000:=by omega
  have h2:0≤s.drift∧s.drift≤1000000:=by omega
  have h3:0≤s.drift * (t - m.time):=yS h2.1 h1.1;have h4:s.drift * (t - m.time)≤1000000 * 1000000:=yja h2.2 h1.2 h1.1 ze;refine ⟨⟨h3,by omega⟩,?_⟩;rw [Vld,yZ za];omega
 ·omega
def Jzc {a b:XSpan}:a=b↔a.low=b.low∧a.high=b.high:=by cases a;cases b;simp
def Zle (s:XSens) (m:XMeas) (t:Int) (L:LB) (R:LS) (hm:Kza m) (ht:0≤t∧t≤2147483648):
 Tri Tryz.prog 33 [s.val,m.val,.int .i64 t].toArray L R (fun v M U=>v=(atS s m t).val∧L=M∧R=U):=by
 rw [Kza] at hm;refine Je 83 Tryz.call33 Tryz.func33 rfl rfl rfl ?_;apply (Xag);intro b3;apply (qax);intro b4;apply (qaq);intro b6;apply (qam);refine q_l rfl (Ua _ _) ?_;apply (qaq);intro b7;apply (Xbh);refine Jx zmb rfl ?_;refine q_l rfl (Usa s _ _) ?_;apply (Xcn);apply Kf (G:=[_,_,_]) (j:=3) (cj:=14) rfl rfl zb rfl zfb rfl;·intro hg4;replace hg4:=qb hg4;exact znd
 intro junk4;apply (qah);apply Kf (G:=[_,_,_,_]) (j:=8) (cj:=19) rfl rfl zb rfl zfb rfl;·intro hg9;replace hg9:=qb hg9;apply Xdv∘qbe;refine Jx (Vyb Zpe rfl rfl) rfl ?_;exact qai
 intro junk9;apply (qah);apply Kf (G:=[_,_,_,_]) (j:=14) (cj:=25) rfl rfl zb rfl zfb rfl;·intro hg15;replace hg15:=qb hg15;exact (qaa) znd
 intro junk15;apply (qah);apply Kf (G:=[_,_,_,_,_,_,_]) (j:=20) (cj:=31) rfl rfl zb rfl zfb rfl;·intro hg21;replace hg21:=qb hg21;exact (qaa∘Xaa∘qa9∘Xa5) qai
 intro junk21;apply (qaf);refine q_c ?_ ?_<;>intro hc0;·
  apply qae∘qbe∘Xdk;refine q_r L R zFc ?_;have hgo:Kic s m t:=by simp [nothingS] at hc0;rw [Kic,Jzc];simp only [nothingS];omega
  exact ⟨by rw [atS,if_pos hgo];try rfl,rfl,rfl⟩
 have hgo:¬ Kic s m t:=by simp [nothingS] at hc0;rw [Kic,Jzc];simp only [nothingS];omega
 obtain ⟨hb1,hb2⟩:=Y9c hgo;rw [Vld] at hb2;apply (Xc7);refine q_l rfl (Jke _ _ _) ?_;apply (qaf);refine q_c ?_ ?_<;>intro hc1;·apply Xdh∘qbe∘Xdk;refine q_r L R zFc ?_;exact ⟨by rw [atS,if_neg hgo,if_pos zJ],rfl,rfl⟩
 apply qbv∘Xaj∘Xaa∘qa9∘qcm∘qar∘qdd∘Xah∘qab∘Xaj∘qa9∘qab∘Xaj∘qar∘qcd∘qaq;intro b9;apply Xbh∘Xaa∘Xcq;apply Kf (G:=[_,_,_]) (j:=3) (cj:=69) rfl rfl zb rfl zfb rfl;·exact zpd
 intro junk4;apply (qaf);refine q_c ?_ ?_<;>intro hc2;·apply qay∘Xaa;refine Jx zcc rfl ?_;apply (Xaa);refine Jx zcc rfl ?_;apply Xa7∘Xa7∘qam∘Xcs;refine q_r L R zFc ?_;exact ⟨by rw [atS,if_neg hgo,if_neg zJ,if_pos za];try rfl,rfl,rfl⟩
 apply qbv∘Xcs;refine q_r L R zFc ?_;exact ⟨by rw [atS,if_neg hgo,if_neg zJ,if_neg za];try rfl,rfl,rfl⟩
def Kvb (l:List XSpan) (z:XSpan) (k:Nat):XSpan:=(l.take k).foldl (fun o x=>⟨max o.low x.low,min o.high x.high⟩) z
def Zkc {l:List XSpan} {z:XSpan} {k:Nat} {x:XSpan} (h:l[k]?=some x):Kvb l z (k + 1)=⟨max (Kvb l z k).low x.low,min (Kvb l z k).high x.high⟩:=by rw [Kvb,yna,h,yBa];rfl
def U9b (x y:XSpan):XSpan:=⟨max x.low y.low,min x.high y.high⟩
def Zzc (x y:XSpan):XSpan:=if (U9b x y).high < (U9b x y).low then nothingS else U9b x y
def Vxe {x y:XSpan}:Kvb [x,y] x 2=U9b x y:=by simp [Kvb,U9b]
def Yue (x y:XSpan) (p:Arr XSpan) (L:LB) (R:LS) (hp:InR (Yvd p) R) (he:p.l=[x,y]):
 Tri Tryz.prog 195 [p.val].toArray L R (fun v M U=>v=.tuple #[(Zzc x y).val,.bool (decide ((U9b x y).low≤(U9b x y).high))]∧L=M∧R=U):=by
 have hpl:p.l.length=2:=by rw [he];rfl
 have hp0:p.l[0]?=some x:=by rw [he];rfl
 refine Je 40 Tryz.call195 Tryz.func195 rfl rfl rfl ?_;apply (Xcg);intro b2;apply qaz∘qaw∘Xak∘Xbf;refine q_c ?_ ?_<;>intro hc0;·apply (qae);refine q_l rfl (Ua _ _) ?_;apply qak∘qaz∘qbh;refine q_r L R (Yz rfl zib zNc) ?_;exact absurd hc0 za
 apply qbv∘qbm∘qdt∘Xdw;intro b4;apply Xbh∘Xcc;refine Jk [(2,.pointer _),(4,.pointer _),(14,.slice _ _ _),(15,.int _ _),(16,.int _ _)] zh fun tq0=>?_;refine q_p ([6]++rg 16 17) ((⟨fun g=>[(16,.int .i64 ((g.1:Nat):Int))],fun g=>⟨b4,(Kvb p.l x g.1).cells,90⟩ :: ⟨b2,[.int .i64 0,.int .i64 0],90⟩ :: L,fun _=>R,fun g=>p.l.length - g.1⟩:Head {g:Nat // g≤p.l.length})) (⟨0,by omega⟩) ?_;rintro ⟨k,hk⟩ junk;try dsimp only
 apply (Xan);refine q_c ?_ ?_<;>intro hc1;·have h1:=Ju (l:=p.l) (k:=k) default za;have hms:=Zkc (z:=x) h1;apply qbb∘Zyf∘Xdw;intro b6;apply qak∘qaf;refine J6 tb [27,28,29] [0,1,2,3,4,5,6,7,8,9,10] [11,12,13] (_) _ Kr zc zi zQ ?_;apply Xaf∘Xaf;refine Kn zcc rfl rfl rfl rfl ?_;apply Xaf∘Xc8;refine Vy (Yhb rfl rfl) rfl rfl rfl rfl ?_;apply Xdx∘qb6∘qal∘qb6∘qby∘Xae;exact Kq ⟨k + 1,by omega⟩ zm zh (by dsimp only;rw [hms];exact zs3 (zs2 (zs0 _))) zxb zw
 obtain rfl:k=p.l.length:=by omega
 have hmm:Kvb p.l x p.l.length=U9b x y:=by rw [hpl,he];exact Vxe
 rw [hmm];apply qcf∘Xaa∘Xa5∘qaf;refine q_c ?_ ?_<;>intro hc2;·apply (qae);refine q_l rfl (Ua _ _) ?_;apply qak∘qaz∘qbh;refine q_r L R (Yz rfl zib zNc) ?_;exact ⟨by rw [Zzc,if_pos za,decide_eq_false za],rfl,rfl⟩
 apply qbv∘qbe∘qak∘Xbl;refine q_r L R (Yz rfl zib zNc) ?_;exact ⟨by rw [Zzc,if_neg za,decide_eq_true za],rfl,rfl⟩
end
section
attribute [local irreducible] CJ LJ DJ Tri YV Gives Uo J0 Kj Un RV J2 OwL.L
end
section
def Tri.lendU {P : Program} {f : FuncId} {args : Array Value} {A : LB} {R S : LS} {u : Value}
 (hS:∀w,∀G:Nat→Prop,Holds (A ++ []) G R w→∀s∈S,Rep w (fun b=>G b∨∃e∈A,e.b=b) s)
 (h:Tri P f args [] (S ++ R) (fun v M U=>v=u∧[]=M∧S ++ R=U)):Tri P f args A R (fun v M U=>v=u∧A=M∧R=U):=by have h2:=Tri.lend (S:=S) (Post:=fun v M=>v=u∧[]=M) (Spl.rest (L:=A)) hS (h.mono fun v M U ⟨a1,a2,a3⟩=>⟨⟨a1,a2⟩,a3⟩);exact zDd
attribute [local irreducible] CJ LJ DJ Tri YV Gives Uo J0 Kj Un RV J2 OwL.L
end
section
attribute [local irreducible] CJ LJ DJ Tri YV Gives Uo J0 Kj Un RV J2 OwL.L
def Zud (m:XMine):∃A,AiryIs m A:=by refine ⟨(List.range (Yxd m).length).map fun i=>@decide (∃j:Nat,j < (Yxd m).length∧(Yxd m).getD j false=true∧Conn m j i) (Classical.propDecidable _),by simp,fun i hi=>?_⟩;rw [yh,yt,yda hi];exact ⟨fun h=>@of_decide_eq_true _ (Classical.propDecidable _) h,fun h=>@decide_eq_true _ (Classical.propDecidable _) h⟩
end
end Go.Proofs.YtchfclmokpbldaaGreat
