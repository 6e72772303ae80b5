/-
  Merged texts. By an AI agent.
-/
import Derived.Test.YtchfclmokpbldaaGreatCongrS
import Derived.Test.YtchfclmokpbldaaGreatNets
import Derived.Test.YtchfclmokpbldaaGreatFits
import Derived.Test.YtchfclmokpbldaaGreatAnal
import Derived.Test.YtchfclmokpbldaaGreatRel
import Derived.Test.YtchfclmokpbldaaGreatCflowR
set_option linter.all false
set_option maxHeartbeats 4000000
set_option maxRecDepth 20000
namespace Go.Proofs.YtchfclmokpbldaaGreat
open Go.Aw Go
section
attribute [local irreducible] CJ LJ DJ Tri YV Gives Ur J3 Ko Uq RV J5 OwL.L
section
variable {A B:Prop}
def K4d(h:A→B:=by exact Jx zN rfl):=h
def Krf(h:A→B:=by exact V4 zPb rfl rfl):=h
def Jgg(h:A→B:=by exact Jx zC rfl):=h
end
structure XSens where
 address:Int
 kind:Int
 target:Int
 offset:Int
 scale:Int
 error:Int
 drift:Int
 life:Int
 deriving Inhabited
def XSens.cells (s:XSens):List Value:=[.int .i64 s.address,.int .i64 s.kind,.int .i64 s.target,.int .i64 s.offset,.int .i64 s.scale,.int .i64 s.error,.int .i64 s.drift,.int .i64 s.life]
abbrev XSens.val (s:XSens):Value:=.agg #[.int .i64 s.address,.int .i64 s.kind,.int .i64 s.target,.int .i64 s.offset,.int .i64 s.scale,.int .i64 s.error,.int .i64 s.drift,.int .i64 s.life]
structure XMeas where
 sensor:Int
 time:Int
 span:XSpan
 deriving Inhabited
def XMeas.cells (m:XMeas):List Value:=[.int .i64 m.sensor,.int .i64 m.time,.int .i64 m.span.low,.int .i64 m.span.high]
abbrev XMeas.val (m:XMeas):Value:=.agg #[.int .i64 m.sensor,.int .i64 m.time,.int .i64 m.span.low,.int .i64 m.span.high]
abbrev J2d (x:Arr XSens):Sl:=x.sl 8 XSens.cells []
abbrev Yf (x:Arr XMeas):Sl:=x.sl 4 XMeas.cells []
def Vca (lo hi:Int) (x:Arr Int) (L:LB) (R:LS) (hx:InR (isl x) R) (hn:x.l.length≤100):
 Tri Tryz.prog 174 [.int .i64 lo,.int .i64 hi,x.val].toArray L R (fun v M U=>v=.bool (decide (∀n∈x.l,lo≤n∧n≤hi))∧L=M∧R=U):=by
 refine Jd 24 Tryz.call174 Tryz.func174 rfl rfl rfl ?_;apply Xba∘qaw∘Xb7;refine Jl [(0,.int _ _),(1,.int _ _),(9,.slice _ _ _),(10,.int _ _),(11,.int _ _)] zh fun tq0=>?_;refine q_s ([6,8]++rg 11 13) (fun g:{k:Nat // k≤x.l.length∧∀n∈x.l.take k,lo≤n∧n≤hi}=>[(11,.int .i64 ((g.1:Nat):Int))]) (fun g=>x.l.length - g.1) (⟨0,by omega,by simp⟩) ?_;rintro ⟨k,hk,hal⟩ junk;try dsimp only
 apply (Xan);refine q_c ?_ ?_<;>intro hc0;·
  have h1:=Ju (l:=x.l) (k:=k) 0 za;apply qbb∘Jgg∘qa7∘Xav∘Xca;apply Kf (G:=[_,_,_]) (j:=3) (cj:=18) rfl rfl zb rfl zmb rfl;·intro hg4;replace hg4:=qb hg4;exact (Xb6∘qa5) qai
  intro junk4;apply (qaf);refine q_c ?_ ?_<;>intro hc1;·apply (Xdl);refine q_b L R ?_;exact ⟨by rw [decide_eq_false (fun h=>by have:=h _ (yi h1);omega)],rfl,rfl⟩
  apply (Xa0);exact Ki (⟨k + 1,by omega,fun n hn=>by
  rw [yha,h1] at hn;simp only [Option.toList_some,yPa,yec] at hn;rcases hn with h | h;·exact hal n h
  ·omega⟩) zm zh zg zCb zu
 apply qbk∘Xbf;refine q_b L R ?_;exact ⟨by rw [decide_eq_true (fun n hn=>by rw [yM za] at hal;exact hal n hn)],rfl,rfl⟩
def Zk (s:XSens):Prop:=(0≤s.address∧s.address≤255)∧0≤s.target∧(-1000000≤s.offset∧s.offset≤1000000)∧(-1000000≤s.scale∧s.scale≤1000000)∧(0≤s.error∧s.error≤1000000)∧(0≤s.drift∧s.drift≤1000000)∧(1≤s.life∧s.life≤1000000)
instance (s:XSens):Decidable (Zk s):=by unfold Zk;infer_instance
def U0 (s:XSens):Int:=if ¬ (1≤s.kind∧s.kind≤6) then 5 else if Zk s then 0 else 1
def Via (s:XSens) (L:LB) (R:LS):
 Tri Tryz.prog 97 [s.val].toArray L R (fun v M U=>v=.int .i64 (U0 s)∧L=M∧R=U):=by
 refine Jd 44 Tryz.call97 Tryz.func97 rfl rfl rfl ?_;apply (Xaf);intro b1;apply (qad);refine J7 (Jb (Jp (Ka (Jp (Jg ?_)))));apply Xaa∘qcx;rintro v M U ⟨b6,rfl,rfl,hR6⟩;replace hR6:=hR6.symm;subst hR6;refine Kja (wd:=1) (len:=1) (cap:=1) (rows:=[Jk s.kind]) (subs:=[]) rfl ze ze (fun r hr=>by rw [List.mem_singleton.1 hr];rfl) ze rfl yg ?_;refine q_l rfl (Vca 1 6 ⟨some ⟨b6,0,none⟩,1,[s.kind]⟩ _ _ zEb zo) ?_;apply qb4∘Xaq;refine q_c ?_ ?_<;>intro hc0;·
  apply (Xbk);refine Kw (M:=L) (U:=R) zpd ?hp ?hL ?hR;case hp=>exact ⟨by simp at hc0;rw [U0,if_pos za],rfl,rfl⟩
  case hL=>exact zg
  case hR=>exact fun r h=>Ja (by simp [h])
 apply Xck∘qcx;rintro v M U ⟨b12,rfl,rfl,hR12⟩;replace hR12:=hR12.symm;subst hR12;refine Kja (wd:=1) (len:=1) (cap:=1) (rows:=[Jk s.address]) (subs:=[]) rfl ze ze (fun r hr=>by rw [List.mem_singleton.1 hr];rfl) ze rfl yg ?_;refine q_l rfl (Vca 0 255 ⟨some ⟨b12,0,none⟩,1,[s.address]⟩ _ _ zEb zo) ?_;apply (Xc4);refine Jaa (k:=15) zmb (fun hg6=>?_) (fun hg6=>?_);·
  replace hg6:=qb hg6;iterate 3 refine U9b rfl rfl ?_
  apply K4d∘qah;·
   skip
   (iterate 7 refine U9b rfl rfl ?_);apply K4d∘Xaq;refine K7 rfl ?_;apply (Xbk);refine Kw (M:=L) (U:=R) zpd ?hp ?hL ?hR;case hp=>exact ⟨by rw [U0,if_neg zha,if_neg zDa],rfl,rfl⟩
   case hL=>exact zg
   case hR=>exact fun r h=>Ja (by simp [h])
 replace hg6:=qb hg6;refine V4 zAb rfl rfl ?_;apply (Krf);refine V4 zQc rfl rfl ?_;apply K4d∘qah;refine Jaa (k:=20) zmb (fun hg11=>?_) (fun hg11=>?_);·
  replace hg11:=qb hg11;iterate 7 refine U9b rfl rfl ?_
  apply K4d∘Xaq;refine K7 rfl ?_;apply (Xbk);refine Kw (M:=L) (U:=R) zpd ?hp ?hL ?hR;case hp=>exact ⟨by rw [U0,if_neg zha,if_neg zDa],rfl,rfl⟩
  case hL=>exact zg
  case hR=>exact fun r h=>Ja (by simp [h])
 replace hg11:=qb hg11;refine V4 zAb rfl rfl ?_;apply (Krf);refine V4 zAb rfl rfl ?_;apply (Krf);refine Vqc zyb rfl rfl ?_;rintro v M U ⟨b25,rfl,rfl,hR25⟩;replace hR25:=hR25.symm;subst hR25;refine Kja (wd:=1) (len:=2) (cap:=2) (rows:=[Jk s.offset,Jk s.scale]) (subs:=[]) rfl ze ze (fun r hr=>by simp only [yU,yR,or_false] at hr;rcases hr with rfl | rfl <;> rfl) ze rfl yg ?_;refine J4b rfl (Vca (-1000000) 1000000 ⟨some ⟨b25,0,none⟩,2,[s.offset,s.scale]⟩ _ _ zEb zo) rfl rfl ?_;rintro v M U ⟨rfl,rfl,rfl⟩;refine V4 (Uub rfl) rfl rfl ?_;apply K4d∘Xaq;refine q_c ?_ ?_<;>intro hc1;·
  apply (Xbk);refine Kw (M:=L) (U:=R) zpd ?hp ?hL ?hR;case hp=>exact ⟨by rw [U0,if_neg zha,if_neg zDa],rfl,rfl⟩
  case hL=>exact zg
  case hR=>exact fun r h=>Ja (by simp [h])
 apply qae∘Xa6;refine Yu zyb rfl ?_;rintro v M U ⟨b34,rfl,rfl,hR34⟩;replace hR34:=hR34.symm;subst hR34;refine Kja (wd:=1) (len:=2) (cap:=2) (rows:=[Jk s.error,Jk s.drift]) (subs:=[]) rfl ze ze (fun r hr=>by simp only [yU,yR,or_false] at hr;rcases hr with rfl | rfl <;> rfl) ze rfl yg ?_;refine q_l rfl (Vca 0 1000000 ⟨some ⟨b34,0,none⟩,2,[s.error,s.drift]⟩ _ _ zEb zo) ?_;apply (Xc4);refine Jaa (k:=37) zmb (fun hg8=>?_) (fun hg8=>?_);·
  replace hg8:=qb hg8;iterate 5 refine U9b rfl rfl ?_
  apply K4d∘Xaq;refine K7 rfl ?_;apply (Xbk);refine Kw (M:=L) (U:=R) zpd ?hp ?hL ?hR;case hp=>exact ⟨by rw [U0,if_neg zha,if_neg zXa],rfl,rfl⟩
  case hL=>exact zg
  case hR=>exact fun r h=>Ja (by simp [h])
 replace hg8:=qb hg8;refine V4 zAb rfl rfl ?_;apply (Krf);refine Vqc zNb rfl rfl ?_;rintro v M U ⟨b40,rfl,rfl,hR40⟩;replace hR40:=hR40.symm;subst hR40;refine Kja (wd:=1) (len:=1) (cap:=1) (rows:=[Jk s.life]) (subs:=[]) rfl ze ze (fun r hr=>by rw [List.mem_singleton.1 hr];rfl) ze rfl yg ?_;refine J4b rfl (Vca 1 1000000 ⟨some ⟨b40,0,none⟩,1,[s.life]⟩ _ _ zEb zo) rfl rfl ?_;rintro v M U ⟨rfl,rfl,rfl⟩;refine V4 (Uub rfl) rfl rfl ?_;apply K4d∘Xaq;refine q_c ?_ ?_<;>intro hc2;·
  apply (Xbk);refine Kw (M:=L) (U:=R) zpd ?hp ?hL ?hR;case hp=>exact ⟨by rw [U0,if_neg zha,if_neg zXa],rfl,rfl⟩
  case hL=>exact zg
  case hR=>exact fun r h=>Ja (by simp [h])
 refine J1 (Je (Jb (Jp (Jg ?_))));apply (Xaj);refine Kw (M:=L) (U:=R) zpd ?hp ?hL ?hR;case hp=>exact ⟨by simp at hc0 hg6 hc1 hg8 hc2;rw [U0,if_neg za,if_pos (by rw [Zk];omega)],rfl,rfl⟩
 case hL=>exact zg
 case hR=>exact fun r h=>Ja (by simp [h])
def Kue (k:Int) (L:LB) (R:LS):
 Tri Tryz.prog 98 [.int .i64 k].toArray L R (fun v M U=>v=.bool (decide (k=4∨k=5∨k=6))∧L=M∧R=U):=by
 refine Jd 13 Tryz.call98 Tryz.func98 rfl rfl rfl ?_;apply Xba∘Xc3∘Xcc;apply Kf (G:=[_,_]) (j:=2) (cj:=5) rfl rfl zb rfl zmb rfl;·intro hg3;replace hg3:=qb hg3;exact (qaa) zRd
 intro junk3;apply (qah);apply Kf (G:=[_,_]) (j:=6) (cj:=9) rfl rfl zb rfl zmb rfl;·intro hg7;replace hg7:=qb hg7;exact (qaa) zRd
 intro junk7;apply (Xbf);refine q_b L R ?_;exact ⟨by refine congrArg Value.bool ?_;rw [yxb];simp;omega,rfl,rfl⟩
def Jbe (s:XSens) (m:XMeas) (t:Int):Int:=(s.drift * (t - m.time) + 999).tdiv 1000
def Jvb (s:XSens) (m:XMeas) (t:Int):Prop:=U0 s≠0∨m.sensor < 0∨m.span=nothingS∨t < m.time∨s.life < t - m.time
instance (s:XSens) (m:XMeas) (t:Int):Decidable (Jvb s m t):=by unfold Jvb;infer_instance
def Zme (s:XSens) (m:XMeas) (t:Int):XSpan:=⟨m.span.low - Jbe s m t,m.span.high + Jbe s m t⟩
def atS (s:XSens) (m:XMeas) (t:Int):XSpan:=
 if Jvb s m t then nothingS else if s.kind=4∨s.kind=5∨s.kind=6 then m.span
 else if s.kind=1∨s.kind=2 then ⟨max (Zme s m t).low 0,max (Zme s m t).high 0⟩ else Zme s m t
def Uda (m:XMeas):Prop:=(0≤m.time∧m.time≤2147483648)∧(-1125899906842624≤m.span.low∧m.span.low≤1125899906842624)∧(-1125899906842624≤m.span.high∧m.span.high≤1125899906842624)
def Yfb {s:XSens} {m:XMeas} {t:Int} (h:¬ Jvb s m t):(0≤s.drift * (t - m.time)∧s.drift * (t - m.time)≤1000000000000)∧0≤Jbe s m t∧Jbe s m t≤1000000001:=by
 rw [Jvb] at h;have he:U0 s=0:=by omega
 rw [U0] at he;split at he;·omega
 split at he;·
  rename_i hs;rw [Zk] at hs;have h1:0≤t - m.time∧t - m.time≤1000000:=by omega
  have h2:0≤s.drift∧s.drift≤1000000:=by omega
  have h3:0≤s.drift * (t - m.time):=yT h2.1 h1.1;have h4:s.drift * (t - m.time)≤1000000 * 1000000:=yla h2.2 h1.2 h1.1 ze;refine ⟨⟨h3,by omega⟩,?_⟩;rw [Jbe,yca za];omega
 ·omega
def Ypb {a b:XSpan}:a=b↔a.low=b.low∧a.high=b.high:=by cases a;cases b;simp
def K3f (s:XSens) (m:XMeas) (t:Int) (L:LB) (R:LS) (hm:Uda m) (ht:0≤t∧t≤2147483648):
 Tri Tryz.prog 33 [s.val,m.val,.int .i64 t].toArray L R (fun v M U=>v=(atS s m t).val∧L=M∧R=U):=by
 rw [Uda] at hm;refine Jd 83 Tryz.call33 Tryz.func33 rfl rfl rfl ?_;apply (Xaf);intro b3;apply (qax);intro b4;apply (qaq);intro b6;apply (qam);refine q_l rfl (K8 _ _) ?_;apply (qaq);intro b7;apply (Xbg);refine Jx zvb rfl ?_;refine q_l rfl (Via s _ _) ?_;apply (Xb5);apply Kf (G:=[_,_,_]) (j:=3) (cj:=14) rfl rfl zb rfl zmb rfl;·exact zxe
 intro junk4;apply (qah);apply Kf (G:=[_,_,_,_]) (j:=8) (cj:=19) rfl rfl zb rfl zmb rfl;·intro hg9;replace hg9:=qb hg9;apply Xea∘qbe;refine Jx (Zdb Yge rfl rfl) rfl ?_;exact qai
 intro junk9;apply (qah);apply Kf (G:=[_,_,_,_]) (j:=14) (cj:=25) rfl rfl zb rfl zmb rfl;·intro hg15;replace hg15:=qb hg15;exact (qaa) zJd
 intro junk15;apply (qah);apply Kf (G:=[_,_,_,_,_,_,_]) (j:=20) (cj:=31) rfl rfl zb rfl zmb rfl;·intro hg21;replace hg21:=qb hg21;exact (Xd8∘qa9∘Xbs) qai
 intro junk21;apply (qaf);refine q_c ?_ ?_<;>intro hc0;·
  apply qae∘qbe∘Xds;refine q_r L R zUc ?_;have hgo:Jvb s m t:=by simp [nothingS] at hc0;rw [Jvb,Ypb];simp only [nothingS];omega
  exact ⟨by rw [atS,if_pos hgo];try rfl,rfl,rfl⟩
 have hgo:¬ Jvb s m t:=by simp [nothingS] at hc0;rw [Jvb,Ypb];simp only [nothingS];omega
 obtain ⟨hb1,hb2⟩:=Yfb hgo;rw [Jbe] at hb2;apply (Xcy);refine q_l rfl (Kue _ _ _) ?_;apply (qaf);refine q_c ?_ ?_<;>intro hc1;·apply Xdo∘qbe∘Xds;refine q_r L R zUc ?_;exact ⟨by rw [atS,if_neg hgo,if_pos zL],rfl,rfl⟩
 apply qbv∘Xai∘Xaa∘qa9∘qcm∘qar∘qdd∘Xag∘qab∘Xdp∘qab∘Xai∘qar∘qcd∘qaq;intro b9;apply Xbg∘Xaa∘Xcc;apply Kf (G:=[_,_,_]) (j:=3) (cj:=69) rfl rfl zb rfl zmb rfl;·exact zMd
 intro junk4;apply (qaf);refine q_c ?_ ?_<;>intro hc2;·apply qay∘Xaa;refine Jx zhc rfl ?_;apply (Xaa);refine Jx zhc rfl ?_;apply Xa8∘Xdb∘Xc1;refine q_r L R zUc ?_;exact ⟨by rw [atS,if_neg hgo,if_neg zL,if_pos za];try rfl,rfl,rfl⟩
 apply qbv∘Xc1;refine q_r L R zUc ?_;exact ⟨by rw [atS,if_neg hgo,if_neg zL,if_neg za];try rfl,rfl,rfl⟩
def U3b (l:List XSpan) (z:XSpan) (k:Nat):XSpan:=(l.take k).foldl (fun o x=>⟨max o.low x.low,min o.high x.high⟩) z
def Kyd {l:List XSpan} {z:XSpan} {k:Nat} {x:XSpan} (h:l[k]?=some x):U3b l z (k + 1)=⟨max (U3b l z k).low x.low,min (U3b l z k).high x.high⟩:=by rw [U3b,yha,h,yDa];rfl
def Z8b (x y:XSpan):XSpan:=⟨max x.low y.low,min x.high y.high⟩
def Vbd (x y:XSpan):XSpan:=if (Z8b x y).high < (Z8b x y).low then nothingS else Z8b x y
def Zte {x y:XSpan}:U3b [x,y] x 2=Z8b x y:=by simp [U3b,Z8b]
def Zpe (x y:XSpan) (p:Arr XSpan) (L:LB) (R:LS) (hp:InR (Kbe p) R) (he:p.l=[x,y]):
 Tri Tryz.prog 195 [p.val].toArray L R (fun v M U=>v=.tuple #[(Vbd x y).val,.bool (decide ((Z8b x y).low≤(Z8b x y).high))]∧L=M∧R=U):=by
 have hpl:p.l.length=2:=by rw [he];rfl
 have hp0:p.l[0]?=some x:=by rw [he];rfl
 refine Jd 40 Tryz.call195 Tryz.func195 rfl rfl rfl ?_;apply (Xcp);intro b2;apply qaz∘qaw∘Xao∘Xbo;refine q_c ?_ ?_<;>intro hc0;·apply (qae);refine q_l rfl (K8 _ _) ?_;apply qak∘qaz∘qbh;refine q_r L R (Ut rfl zqb zdd) ?_;exact absurd hc0 za
 apply qbv∘qbm∘qdt∘Xeb;intro b4;apply Xbg∘Xb7;refine Jl [(2,.pointer _),(4,.pointer _),(14,.slice _ _ _),(15,.int _ _),(16,.int _ _)] zh fun tq0=>?_;refine q_p ([6]++rg 16 17) ((⟨fun g=>[(16,.int .i64 ((g.1:Nat):Int))],fun g=>⟨b4,(U3b p.l x g.1).cells,90⟩ :: ⟨b2,[.int .i64 0,.int .i64 0],90⟩ :: L,fun _=>R,fun g=>p.l.length - g.1⟩:Head {g:Nat // g≤p.l.length})) (⟨0,by omega⟩) ?_;rintro ⟨k,hk⟩ junk;try dsimp only
 apply (Xan);refine q_c ?_ ?_<;>intro hc1;·have h1:=Ju (l:=p.l) (k:=k) default za;have hms:=Kyd (z:=x) h1;apply qbb∘Jgg∘Xeb;intro b6;apply qak∘qaf;refine J6 tb [27,28,29] [0,1,2,3,4,5,6,7,8,9,10] [11,12,13] (_) _ Kq zc zg zR ?_;apply Xah∘Xah;refine Kr zhc rfl rfl rfl rfl ?_;apply Xah∘Xdc;refine Vf zPc rfl rfl rfl rfl ?_;apply Xef∘qb6∘qal∘qb6∘qby∘Xae;exact Ki ⟨k + 1,by omega⟩ zm zh (by dsimp only;rw [hms];exact zs3 (zs2 (zs0 _))) zCb zu
 obtain rfl:k=p.l.length:=by omega
 have hmm:U3b p.l x p.l.length=Z8b x y:=by rw [hpl,he];exact Zte
 rw [hmm];apply qcf∘Xa6∘Xb4;refine q_c ?_ ?_<;>intro hc2;·apply (qae);refine q_l rfl (K8 _ _) ?_;apply qak∘qaz∘qbh;refine q_r L R (Ut rfl zqb zdd) ?_;exact ⟨by rw [Vbd,if_pos za,decide_eq_false za],rfl,rfl⟩
 apply qbv∘qbe∘qak∘Xbf;refine q_r L R (Ut rfl zqb zdd) ?_;exact ⟨by rw [Vbd,if_neg za,decide_eq_true za],rfl,rfl⟩
end
section
attribute [local irreducible] CJ LJ DJ Tri YV Gives Ur J3 Ko Uq RV J5 OwL.L
end
section
def Tri.lendU {P : Program} {f : FuncId} {args : Array Value} {A : LB} {R S : LS} {u : Value}
 (hS:∀w,∀G:Nat→Prop,Holds (A ++ []) G R w→∀s∈S,Rep w (fun b=>G b∨∃e∈A,e.b=b) s)
 (h:Tri P f args [] (S ++ R) (fun v M U=>v=u∧[]=M∧S ++ R=U)):Tri P f args A R (fun v M U=>v=u∧A=M∧R=U):=by have h2:=Tri.lend (S:=S) (Post:=fun v M=>v=u∧[]=M) (Spl.rest (L:=A)) hS (h.mono fun v M U ⟨a1,a2,a3⟩=>⟨⟨a1,a2⟩,a3⟩);exact zee
attribute [local irreducible] CJ LJ DJ Tri YV Gives Ur J3 Ko Uq RV J5 OwL.L
def Kme (x:Arr Int) (a:Int) (L:LB) (R:LS) (hx:InR (isl x) R):
 Tri Tryz.prog 235 [x.val,.int .i64 a].toArray L R (fun v M U=>∃r:Int,v=.int .i64 r∧(0≤r↔a∈x.l)∧L=M∧R=U):=by
 refine Uza Tryz.call235 hx fun hcap=>?_;refine Jd 19 Tryz.call235 Tryz.func235 rfl rfl rfl ?_;apply Xac∘qaw∘Xb7;refine Jl [(0,.slice _ _ _),(1,.int _ _),(7,.int _ _),(8,.int _ _)] zh fun tq0=>?_;refine q_s ([4,5]++rg 8 11) (fun g:{k:Nat // k≤x.l.length∧∀j:Nat,j < k→x.l.getD j 0≠a}=>[(8,.int .i64 ((g.1:Nat):Int))]) (fun g=>x.l.length - g.1) (⟨0,by omega,fun j hj=>by omega⟩) ?_;rintro ⟨k,hk,hal⟩ junk;try dsimp only
 apply (Xan);refine q_c ?_ ?_<;>intro hc0;·
  have hg:=Ju (l:=x.l) (k:=k) 0 za;apply Xa9∘Xav∘Xas;refine Jx zC rfl ?_;apply qa7∘Xbo;refine q_c ?_ ?_<;>intro hc1;·apply Xd2∘qbt;refine q_i L R ?_;exact ⟨k,rfl,⟨fun _=>by rw [hc1];exact yi hg,fun _=>by omega⟩,rfl,rfl⟩
  apply (Xa0);exact Ki (⟨k + 1,by omega,fun j hj=>by
  rcases yl j k with h | h;·exact hal j h
  ·(obtain rfl : j = k := by omega);exact fun h=>hc1 h.symm⟩) zm zh zg zCb zu
 apply (Xcr);refine q_i L R ?_;refine ⟨-1,rfl,⟨fun h=>by omega,fun h=>?_⟩,rfl,rfl⟩;obtain ⟨j,hj,rfl⟩:=yCa h;have:=hal j za;rw [yh,yA hj] at this;exact absurd rfl this
def Y2c (x:Arr Int) (a:Int) (L:LB) (R:LS) (hx:InR (isl x) R):
 Tri Tryz.prog 169 [x.val,.int .i64 a].toArray L R (fun v M U=>v=.bool (decide (a∈x.l))∧L=M∧R=U):=by refine Jd 9 Tryz.call169 Tryz.func169 rfl rfl rfl ?_;apply Xba∘qam∘Xas;refine Jm rfl (Kme x a _ _ hx) rfl ?_;exact zTd
end
section
attribute [local irreducible] CJ LJ DJ Tri YV Gives Ur J3 Ko Uq RV J5 OwL.L
def Kje (m:XMine):∃A,AiryIs m A:=by refine ⟨(List.range (Kae m).length).map fun i=>@decide (∃j:Nat,j < (Kae m).length∧(Kae m).getD j false=true∧Conn m j i) (Classical.propDecidable _),by simp,fun i hi=>?_⟩;rw [yh,yu,yX hi];exact ⟨fun h=>@of_decide_eq_true _ (Classical.propDecidable _) h,fun h=>@decide_eq_true _ (Classical.propDecidable _) h⟩
end
end Go.Proofs.YtchfclmokpbldaaGreat
