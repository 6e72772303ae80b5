/-
  What measurements say later: sensor.Check, window.At, window.Meet. By an AI agent; no person has read it.
-/
import Derived.Test.YtchfclmokpbldaaGreatCongrS
set_option linter.all false
set_option maxHeartbeats 4000000
namespace Go.Proofs.YtchfclmokpbldaaGreat
open Go.Aw Go
set_option maxRecDepth 20000
attribute [local irreducible] CJ LJ DJ Tri YV Gives Uq J2 Kj Ut RV J3 OwL.L
section
variable {A B:Prop}
def J6d(h:A→B:=by exact Jw zN rfl):=h
def Y4e(h:A→B:=by exact J0a zHb rfl rfl):=h
def Kyg(h:A→B:=by exact Jw zD rfl):=h
end
structure XSens where
 address:Int
 kind:Int
 target:Int
 offset:Int
 scale:Int
 error:Int
 drift:Int
 life:Int
 deriving Inhabited
def XSens.cells (s:XSens):List Value:=[.int .i64 s.address,.int .i64 s.kind,.int .i64 s.target,.int .i64 s.offset,.int .i64 s.scale,.int .i64 s.error,.int .i64 s.drift,.int .i64 s.life]
abbrev XSens.val (s:XSens):Value:=.agg #[.int .i64 s.address,.int .i64 s.kind,.int .i64 s.target,.int .i64 s.offset,.int .i64 s.scale,.int .i64 s.error,.int .i64 s.drift,.int .i64 s.life]
structure XMeas where
 sensor:Int
 time:Int
 span:XSpan
 deriving Inhabited
def XMeas.cells (m:XMeas):List Value:=[.int .i64 m.sensor,.int .i64 m.time,.int .i64 m.span.low,.int .i64 m.span.high]
abbrev XMeas.val (m:XMeas):Value:=.agg #[.int .i64 m.sensor,.int .i64 m.time,.int .i64 m.span.low,.int .i64 m.span.high]
abbrev Jbe (x:Arr XSens):Sl:=x.sl 8 XSens.cells []
abbrev Yu (x:Arr XMeas):Sl:=x.sl 4 XMeas.cells []
def U4a (lo hi:Int) (x:Arr Int) (L:LB) (R:LS) (hx:InR (isl x) R) (hn:x.l.length≤100):
 Tri Tryz.prog 174 [.int .i64 lo,.int .i64 hi,x.val].toArray L R (fun v U J=>v=.bool (decide (∀n∈x.l,lo≤n∧n≤hi))∧L=U∧R=J):=by
 refine Je 24 Tryz.call174 Tryz.func174 rfl rfl rfl ?_;apply Xbt∘qaw∘Xbr;refine Jm [(0,.int _ _),(1,.int _ _),(9,.slice _ _ _),(10,.int _ _),(11,.int _ _)] zh fun tq0=>?_;refine q_s ([6,8]++rg 11 13) (fun g:{k:Nat // k≤x.l.length∧∀n∈x.l.take k,lo≤n∧n≤hi}=>[(11,.int .i64 ((g.1:Nat):Int))]) (fun g=>x.l.length - g.1) (⟨0,by omega,by simp⟩) ?_;rintro ⟨k,hk,hal⟩ junk;try dsimp only
 apply (Xaj);refine q_c ?_ ?_<;>intro hc0;·
  have h1:=Jp (l:=x.l) (k:=k) 0 za;apply qbb∘Kyg∘qa7∘Xau∘Xck;apply Kf (G:=[_,_,_]) (j:=3) (cj:=18) rfl rfl zb rfl zmb rfl;·intro hg4;replace hg4:=qb hg4;exact (Xb4∘qa5) qai
  intro junk4;apply (qaf);refine q_c ?_ ?_<;>intro hc1;·apply Xbt∘qbt;refine q_b L R ?_;exact ⟨by rw [decide_eq_false (fun h=>by have:=h _ (yh h1);omega)],rfl,rfl⟩
  apply (Xaw);exact Ka (⟨k + 1,by omega,fun n hn=>by
  rw [yfa,h1] at hn;simp only [Option.toList_some,yna,ykb] at hn;rcases hn with h | h;·exact hal n h
  ·omega⟩) zm zh zi zAb zx
 apply qbk∘Xbs;refine q_b L R ?_;exact ⟨by rw [decide_eq_true (fun n hn=>by rw [yO za] at hal;exact hal n hn)],rfl,rfl⟩
def Zt (s:XSens):Prop:=(0≤s.address∧s.address≤255)∧0≤s.target∧(-1000000≤s.offset∧s.offset≤1000000)∧(-1000000≤s.scale∧s.scale≤1000000)∧(0≤s.error∧s.error≤1000000)∧(0≤s.drift∧s.drift≤1000000)∧(1≤s.life∧s.life≤1000000)
instance (s:XSens):Decidable (Zt s):=by unfold Zt;infer_instance
def Uo (s:XSens):Int:=if ¬ (1≤s.kind∧s.kind≤6) then 5 else if Zt s then 0 else 1
def Z0 (s:XSens) (L:LB) (R:LS):
 Tri Tryz.prog 97 [s.val].toArray L R (fun v U J=>v=.int .i64 (Uo s)∧L=U∧R=J):=by
 refine Je 44 Tryz.call97 Tryz.func97 rfl rfl rfl ?_;apply (Xaf);intro b1;apply (qad);refine J9 (Jb (Jq (Ki (Jq (Jg ?_)))));apply Xaa∘qcx;rintro v U J ⟨b6,rfl,rfl,hR6⟩;replace hR6:=hR6.symm;subst hR6;refine Kwa (wd:=1) (len:=1) (cap:=1) (rows:=[Jj s.kind]) (subs:=[]) rfl ze ze (fun r hr=>by rw [List.mem_singleton.1 hr];rfl) ze rfl yg ?_;refine q_l rfl (U4a 1 6 ⟨some ⟨b6,0,none⟩,1,[s.kind]⟩ _ _ zFb zo) ?_;apply qb4∘Xas;refine q_c ?_ ?_<;>intro hc0;·
  apply (Xbe);refine K2 (U:=L) (J:=R) zkd ?hp ?hL ?hR;case hp=>exact ⟨by simp at hc0;rw [Uo,if_pos za],rfl,rfl⟩
  case hL=>exact zi
  case hR=>exact fun r h=>Ja (by simp [h])
 apply Xcr∘qcx;rintro v U J ⟨b12,rfl,rfl,hR12⟩;replace hR12:=hR12.symm;subst hR12;refine Kwa (wd:=1) (len:=1) (cap:=1) (rows:=[Jj s.address]) (subs:=[]) rfl ze ze (fun r hr=>by rw [List.mem_singleton.1 hr];rfl) ze rfl yg ?_;refine q_l rfl (U4a 0 255 ⟨some ⟨b12,0,none⟩,1,[s.address]⟩ _ _ zFb zo) ?_;apply (Xcm);refine Jub (k:=15) zmb (fun hg6=>?_) (fun hg6=>?_);·
  replace hg6:=qb hg6;iterate 3 refine Vjb rfl rfl ?_
  apply J6d∘qah;·
   skip
   (iterate 7 refine Vjb rfl rfl ?_);apply J6d∘Xas;refine Uh rfl ?_;apply (Xbe);refine K2 (U:=L) (J:=R) zkd ?hp ?hL ?hR;case hp=>exact ⟨by rw [Uo,if_neg zja,if_neg zza],rfl,rfl⟩
   case hL=>exact zi
   case hR=>exact fun r h=>Ja (by simp [h])
 replace hg6:=qb hg6;refine J0a zzb rfl rfl ?_;apply (Y4e);refine J0a zvc rfl rfl ?_;apply J6d∘qah;refine Jub (k:=20) zmb (fun hg11=>?_) (fun hg11=>?_);·
  replace hg11:=qb hg11;iterate 7 refine Vjb rfl rfl ?_
  apply J6d∘Xas;refine Uh rfl ?_;apply (Xbe);refine K2 (U:=L) (J:=R) zkd ?hp ?hL ?hR;case hp=>exact ⟨by rw [Uo,if_neg zja,if_neg zza],rfl,rfl⟩
  case hL=>exact zi
  case hR=>exact fun r h=>Ja (by simp [h])
 replace hg11:=qb hg11;refine J0a zzb rfl rfl ?_;apply (Y4e);refine J0a zzb rfl rfl ?_;apply (Y4e);refine Uic zxb rfl rfl ?_;rintro v U J ⟨b25,rfl,rfl,hR25⟩;replace hR25:=hR25.symm;subst hR25;refine Kwa (wd:=1) (len:=2) (cap:=2) (rows:=[Jj s.offset,Jj s.scale]) (subs:=[]) rfl ze ze (fun r hr=>by simp only [yca,yY,or_false] at hr;rcases hr with rfl | rfl <;> rfl) ze rfl yg ?_;refine V7c rfl (U4a (-1000000) 1000000 ⟨some ⟨b25,0,none⟩,2,[s.offset,s.scale]⟩ _ _ zFb zo) rfl rfl ?_;rintro v U J ⟨rfl,rfl,rfl⟩;refine J0a (U5a rfl) rfl rfl ?_;apply J6d∘Xas;refine q_c ?_ ?_<;>intro hc1;·
  apply (Xbe);refine K2 (U:=L) (J:=R) zkd ?hp ?hL ?hR;case hp=>exact ⟨by rw [Uo,if_neg zja,if_neg zza],rfl,rfl⟩
  case hL=>exact zi
  case hR=>exact fun r h=>Ja (by simp [h])
 apply qae∘Xa0;refine Za zxb rfl ?_;rintro v U J ⟨b34,rfl,rfl,hR34⟩;replace hR34:=hR34.symm;subst hR34;refine Kwa (wd:=1) (len:=2) (cap:=2) (rows:=[Jj s.error,Jj s.drift]) (subs:=[]) rfl ze ze (fun r hr=>by simp only [yca,yY,or_false] at hr;rcases hr with rfl | rfl <;> rfl) ze rfl yg ?_;refine q_l rfl (U4a 0 1000000 ⟨some ⟨b34,0,none⟩,2,[s.error,s.drift]⟩ _ _ zFb zo) ?_;apply (Xcm);refine Jub (k:=37) zmb (fun hg8=>?_) (fun hg8=>?_);·
  replace hg8:=qb hg8;iterate 5 refine Vjb rfl rfl ?_
  apply J6d∘Xas;refine Uh rfl ?_;apply (Xbe);refine K2 (U:=L) (J:=R) zkd ?hp ?hL ?hR;case hp=>exact ⟨by rw [Uo,if_neg zja,if_neg zYa],rfl,rfl⟩
  case hL=>exact zi
  case hR=>exact fun r h=>Ja (by simp [h])
 replace hg8:=qb hg8;refine J0a zzb rfl rfl ?_;apply (Y4e);refine Uic zLb rfl rfl ?_;rintro v U J ⟨b40,rfl,rfl,hR40⟩;replace hR40:=hR40.symm;subst hR40;refine Kwa (wd:=1) (len:=1) (cap:=1) (rows:=[Jj s.life]) (subs:=[]) rfl ze ze (fun r hr=>by rw [List.mem_singleton.1 hr];rfl) ze rfl yg ?_;refine V7c rfl (U4a 1 1000000 ⟨some ⟨b40,0,none⟩,1,[s.life]⟩ _ _ zFb zo) rfl rfl ?_;rintro v U J ⟨rfl,rfl,rfl⟩;refine J0a (U5a rfl) rfl rfl ?_;apply J6d∘Xas;refine q_c ?_ ?_<;>intro hc2;·
  apply (Xbe);refine K2 (U:=L) (J:=R) zkd ?hp ?hL ?hR;case hp=>exact ⟨by rw [Uo,if_neg zja,if_neg zYa],rfl,rfl⟩
  case hL=>exact zi
  case hR=>exact fun r h=>Ja (by simp [h])
 refine J5 (Jh (Jb (Jq (Jg ?_))));apply (Xam);refine K2 (U:=L) (J:=R) zkd ?hp ?hL ?hR;case hp=>exact ⟨by simp at hc0 hg6 hc1 hg8 hc2;rw [Uo,if_neg za,if_pos (by rw [Zt];omega)],rfl,rfl⟩
 case hL=>exact zi
 case hR=>exact fun r h=>Ja (by simp [h])
def Yje (k:Int) (L:LB) (R:LS):
 Tri Tryz.prog 98 [.int .i64 k].toArray L R (fun v U J=>v=.bool (decide (k=4∨k=5∨k=6))∧L=U∧R=J):=by
 refine Je 13 Tryz.call98 Tryz.func98 rfl rfl rfl ?_;apply Xbt∘Xc8∘Xcl;apply Kf (G:=[_,_]) (j:=2) (cj:=5) rfl rfl zb rfl zmb rfl;·intro hg3;replace hg3:=qb hg3;exact (qaa) zLd
 intro junk3;apply (qah);apply Kf (G:=[_,_]) (j:=6) (cj:=9) rfl rfl zb rfl zmb rfl;·intro hg7;replace hg7:=qb hg7;exact (qaa) zLd
 intro junk7;apply (Xbs);refine q_b L R ?_;exact ⟨by refine congrArg Value.bool ?_;rw [yCb];simp;omega,rfl,rfl⟩
def Jpe (s:XSens) (m:XMeas) (t:Int):Int:=(s.drift * (t - m.time) + 999).tdiv 1000
def Vyc (s:XSens) (m:XMeas) (t:Int):Prop:=Uo s≠0∨m.sensor < 0∨m.span=nothingS∨t < m.time∨s.life < t - m.time
instance (s:XSens) (m:XMeas) (t:Int):Decidable (Vyc s m t):=by unfold Vyc;infer_instance
def U7e (s:XSens) (m:XMeas) (t:Int):XSpan:=⟨m.span.low - Jpe s m t,m.span.high + Jpe s m t⟩
def atS (s:XSens) (m:XMeas) (t:Int):XSpan:=
 if Vyc s m t then nothingS else if s.kind=4∨s.kind=5∨s.kind=6 then m.span
 else if s.kind=1∨s.kind=2 then ⟨max (U7e s m t).low 0,max (U7e s m t).high 0⟩ else U7e s m t
def K5a (m:XMeas):Prop:=(0≤m.time∧m.time≤2147483648)∧(-1125899906842624≤m.span.low∧m.span.low≤1125899906842624)∧(-1125899906842624≤m.span.high∧m.span.high≤1125899906842624)
def Zqb {s:XSens} {m:XMeas} {t:Int} (h:¬ Vyc s m t):(0≤s.drift * (t - m.time)∧s.drift * (t - m.time)≤1000000000000)∧0≤Jpe s m t∧Jpe s m t≤1000000001:=by
 rw [Vyc] at h;have he:Uo s=0:=by omega
 rw [Uo] at he;split at he;·omega
 split at he;·
  rename_i hs;rw [Zt] at hs;have h1:0≤t - m.time∧t - m.time≤1000000:=by omega
  have h2:0≤s.drift∧s.drift≤1000000:=by omega
  have h3:0≤s.drift * (t - m.time):=yQ h2.1 h1.1;have h4:s.drift * (t - m.time)≤1000000 * 1000000:=yka h2.2 h1.2 h1.1 ze;refine ⟨⟨h3,by omega⟩,?_⟩;rw [Jpe,yT za];omega
 ·omega
def Vjc {a b:XSpan}:a=b↔a.low=b.low∧a.high=b.high:=by cases a;cases b;simp
def K8f (s:XSens) (m:XMeas) (t:Int) (L:LB) (R:LS) (hm:K5a m) (ht:0≤t∧t≤2147483648):
 Tri Tryz.prog 33 [s.val,m.val,.int .i64 t].toArray L R (fun v U J=>v=(atS s m t).val∧L=U∧R=J):=by
 rw [K5a] at hm;refine Je 83 Tryz.call33 Tryz.func33 rfl rfl rfl ?_;apply (Xaf);intro b3;apply (qax);intro b4;apply (qaq);intro b6;apply (qam);refine q_l rfl (Ub _ _) ?_;apply (qaq);intro b7;apply (Xa9);refine Jw zvb rfl ?_;refine q_l rfl (Z0 s _ _) ?_;apply (Xb7);apply Kf (G:=[_,_,_]) (j:=3) (cj:=14) rfl rfl zb rfl zmb rfl;·intro hg4;replace hg4:=qb hg4;exact zHd
 intro junk4;apply (qah);apply Kf (G:=[_,_,_,_]) (j:=8) (cj:=19) rfl rfl zb rfl zmb rfl;·intro hg9;replace hg9:=qb hg9;apply Xd0∘qbe;refine Jw (Zbb Uye rfl rfl) rfl ?_;exact qai
 intro junk9;apply (qah);apply Kf (G:=[_,_,_,_]) (j:=14) (cj:=25) rfl rfl zb rfl zmb rfl;·intro hg15;replace hg15:=qb hg15;exact (qaa) zHd
 intro junk15;apply (qah);apply Kf (G:=[_,_,_,_,_,_,_]) (j:=20) (cj:=31) rfl rfl zb rfl zmb rfl;·intro hg21;replace hg21:=qb hg21;exact (qaa∘Xaa∘qa9) zxd
 intro junk21;apply (qaf);refine q_c ?_ ?_<;>intro hc0;·
  apply qae∘qbe∘Xdb;refine q_r L R zQc ?_;have hgo:Vyc s m t:=by simp [nothingS] at hc0;rw [Vyc,Vjc];simp only [nothingS];omega
  exact ⟨by rw [atS,if_pos hgo];try rfl,rfl,rfl⟩
 have hgo:¬ Vyc s m t:=by simp [nothingS] at hc0;rw [Vyc,Vjc];simp only [nothingS];omega
 obtain ⟨hb1,hb2⟩:=Zqb hgo;rw [Jpe] at hb2;apply (Xcx);refine q_l rfl (Yje _ _ _) ?_;apply (qaf);refine q_c ?_ ?_<;>intro hc1;·apply Xdi∘qbe∘Xdb;refine q_r L R zQc ?_;exact ⟨by rw [atS,if_neg hgo,if_pos zL],rfl,rfl⟩
 apply qbv∘Xah∘Xaa∘qa9∘qcm∘qar∘qdd∘Xag∘qab∘Xdy∘qab∘Xah∘qar∘qcd∘qaq;intro b9;apply Xa9∘Xaa∘Xcl;apply Kf (G:=[_,_,_]) (j:=3) (cj:=69) rfl rfl zb rfl zmb rfl;·exact zJd
 intro junk4;apply (qaf);refine q_c ?_ ?_<;>intro hc2;·apply qay∘Xaa;refine Jw zfc rfl ?_;apply (Xaa);refine Jw zfc rfl ?_;apply Xbk∘Xbk∘qam∘Xcz;refine q_r L R zQc ?_;exact ⟨by rw [atS,if_neg hgo,if_neg zL,if_pos za];try rfl,rfl,rfl⟩
 apply qbv∘Xcz;refine q_r L R zQc ?_;exact ⟨by rw [atS,if_neg hgo,if_neg zL,if_neg za];try rfl,rfl,rfl⟩
def U3b (l:List XSpan) (z:XSpan) (k:Nat):XSpan:=(l.take k).foldl (fun o x=>⟨max o.low x.low,min o.high x.high⟩) z
def U2d {l:List XSpan} {z:XSpan} {k:Nat} {x:XSpan} (h:l[k]?=some x):U3b l z (k + 1)=⟨max (U3b l z k).low x.low,min (U3b l z k).high x.high⟩:=by rw [U3b,yfa,h,yAa];rfl
def Yxa (x y:XSpan):XSpan:=⟨max x.low y.low,min x.high y.high⟩
def Ued (x y:XSpan):XSpan:=if (Yxa x y).high < (Yxa x y).low then nothingS else Yxa x y
def Zae {x y:XSpan}:U3b [x,y] x 2=Yxa x y:=by simp [U3b,Yxa]
def Z1e (x y:XSpan) (p:Arr XSpan) (L:LB) (R:LS) (hp:InR (Jkc p) R) (he:p.l=[x,y]):
 Tri Tryz.prog 195 [p.val].toArray L R (fun v U J=>v=.tuple #[(Ued x y).val,.bool (decide ((Yxa x y).low≤(Yxa x y).high))]∧L=U∧R=J):=by
 have hpl:p.l.length=2:=by rw [he];rfl
 have hp0:p.l[0]?=some x:=by rw [he];rfl
 refine Je 40 Tryz.call195 Tryz.func195 rfl rfl rfl ?_;apply (Xd2);intro b2;apply qaz∘qaw∘Xap∘Xbu;refine q_c ?_ ?_<;>intro hc0;·apply (qae);refine q_l rfl (Ub _ _) ?_;apply qak∘qaz∘qbh;refine q_r L R (U3 rfl zpb zTc) ?_;exact absurd hc0 za
 apply qbv∘qbm∘qdt∘Xdn;intro b4;apply Xa9∘Xbr;refine Jm [(2,.pointer _),(4,.pointer _),(14,.slice _ _ _),(15,.int _ _),(16,.int _ _)] zh fun tq0=>?_;refine q_p ([6]++rg 16 17) ((⟨fun g=>[(16,.int .i64 ((g.1:Nat):Int))],fun g=>⟨b4,(U3b p.l x g.1).cells,90⟩ :: ⟨b2,[.int .i64 0,.int .i64 0],90⟩ :: L,fun _=>R,fun g=>p.l.length - g.1⟩:Head {g:Nat // g≤p.l.length})) (⟨0,by omega⟩) ?_;rintro ⟨k,hk⟩ junk;try dsimp only
 apply (Xaj);refine q_c ?_ ?_<;>intro hc1;·have h1:=Jp (l:=p.l) (k:=k) default za;have hms:=U2d (z:=x) h1;apply qbb∘Kyg∘Xdn;intro b6;apply qak∘qaf;refine J7 tb [27,28,29] [0,1,2,3,4,5,6,7,8,9,10] [11,12,13] (_) _ Ko zc zi zQ ?_;apply Xak∘Xak;refine Ku zfc rfl rfl rfl rfl ?_;apply Xak∘Xc3;refine Vd zOc rfl rfl rfl rfl ?_;apply qan∘qba∘qb6∘qal∘qb6∘Xc4;exact Ka ⟨k + 1,by omega⟩ zm zh (by dsimp only;rw [hms];exact zs3 (zs2 (zs0 _))) zAb zx
 obtain rfl:k=p.l.length:=by omega
 have hmm:U3b p.l x p.l.length=Yxa x y:=by rw [hpl,he];exact Zae
 rw [hmm];apply qcf∘Xa0∘Xb6;refine q_c ?_ ?_<;>intro hc2;·apply (qae);refine q_l rfl (Ub _ _) ?_;apply qak∘qaz∘qbh;refine q_r L R (U3 rfl zpb zTc) ?_;exact ⟨by rw [Ued,if_pos za,decide_eq_false za],rfl,rfl⟩
 apply qbv∘qbe∘qak∘Xbs;refine q_r L R (U3 rfl zpb zTc) ?_;exact ⟨by rw [Ued,if_neg za,decide_eq_true za],rfl,rfl⟩
end Go.Proofs.YtchfclmokpbldaaGreat
