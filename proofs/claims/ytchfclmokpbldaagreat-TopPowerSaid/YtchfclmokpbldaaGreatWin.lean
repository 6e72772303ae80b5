/-
  What measurements say later: sensor.Check, window.At, window.Meet. By an AI agent; no person has read it.
-/
import Derived.Test.YtchfclmokpbldaaGreatCongrS
set_option linter.all false
set_option maxHeartbeats 4000000
namespace Go.Proofs.YtchfclmokpbldaaGreat
open Go.Aw Go
set_option maxRecDepth 20000
attribute [local irreducible] CJ LJ DJ Tri YV Gives U0 J3 Kj Uz RV J5 OwL.L
section
variable {A B:Prop}
def Jwd(h:A→B:=by exact Jx zJ rfl):=h
def Z7e(h:A→B:=by exact Uu zHb rfl rfl):=h
def Yrf(h:A→B:=by exact Jx zB rfl):=h
end
structure XSens where
 address:Int
 kind:Int
 target:Int
 offset:Int
 scale:Int
 error:Int
 drift:Int
 life:Int
 deriving Inhabited
def XSens.cells (s:XSens):List Value:=[.int .i64 s.address,.int .i64 s.kind,.int .i64 s.target,.int .i64 s.offset,.int .i64 s.scale,.int .i64 s.error,.int .i64 s.drift,.int .i64 s.life]
abbrev XSens.val (s:XSens):Value:=.agg #[.int .i64 s.address,.int .i64 s.kind,.int .i64 s.target,.int .i64 s.offset,.int .i64 s.scale,.int .i64 s.error,.int .i64 s.drift,.int .i64 s.life]
structure XMeas where
 sensor:Int
 time:Int
 span:XSpan
 deriving Inhabited
def XMeas.cells (m:XMeas):List Value:=[.int .i64 m.sensor,.int .i64 m.time,.int .i64 m.span.low,.int .i64 m.span.high]
abbrev XMeas.val (m:XMeas):Value:=.agg #[.int .i64 m.sensor,.int .i64 m.time,.int .i64 m.span.low,.int .i64 m.span.high]
abbrev Jme (x:Arr XSens):Sl:=x.sl 8 XSens.cells []
abbrev V5 (x:Arr XMeas):Sl:=x.sl 4 XMeas.cells []
def Uua (lo hi:Int) (x:Arr Int) (L:LB) (R:LS) (hx:InR (isl x) R) (hn:x.l.length≤100):
 Tri Tryz.prog 174 [.int .i64 lo,.int .i64 hi,x.val].toArray L R (fun v M U=>v=.bool (decide (∀n∈x.l,lo≤n∧n≤hi))∧L=M∧R=U):=by
 refine Jj 24 Tryz.call174 Tryz.func174 rfl rfl rfl ?_;apply Xbe∘qaw∘Xbt;refine Jp [(0,.int _ _),(1,.int _ _),(9,.slice _ _ _),(10,.int _ _),(11,.int _ _)] zh fun tq0=>?_;refine q_s ([6,8]++rg 11 13) (fun g:{k:Nat // k≤x.l.length∧∀n∈x.l.take k,lo≤n∧n≤hi}=>[(11,.int .i64 ((g.1:Nat):Int))]) (fun g=>x.l.length - g.1) (⟨0,by omega,by simp⟩) ?_;rintro ⟨k,hk,hal⟩ junk;try dsimp only
 apply (Xak);refine q_c ?_ ?_<;>intro hc0;·
  have h1:=Jw (l:=x.l) (k:=k) 0 za;apply qbb∘Yrf∘qa7∘Xau∘qaa∘Xav;apply J9 (G:=[_,_,_]) (j:=3) (cj:=18) rfl rfl zb rfl zfb rfl;·intro hg4;replace hg4:=qb hg4;exact (Xbg∘qa5) qai
  intro junk4;apply (qaf);refine q_c ?_ ?_<;>intro hc1;·apply Xbe∘qbt;refine q_b L R ?_;exact ⟨by rw [decide_eq_false (fun h=>by have:=h _ (yj h1);omega)],rfl,rfl⟩
  apply (Xax);exact Kr (⟨k + 1,by omega,fun n hn=>by
  rw [yfa,h1] at hn;simp only [Option.toList_some,yUa,yUb] at hn;rcases hn with h | h;·exact hal n h
  ·omega⟩) zm zh zi ztb zx
 apply qbk∘Xa2;refine q_b L R ?_;exact ⟨by rw [decide_eq_true (fun n hn=>by rw [yG za] at hal;exact hal n hn)],rfl,rfl⟩
def Z7 (s:XSens):Prop:=(0≤s.address∧s.address≤255)∧0≤s.target∧(-1000000≤s.offset∧s.offset≤1000000)∧(-1000000≤s.scale∧s.scale≤1000000)∧(0≤s.error∧s.error≤1000000)∧(0≤s.drift∧s.drift≤1000000)∧(1≤s.life∧s.life≤1000000)
instance (s:XSens):Decidable (Z7 s):=by unfold Z7;infer_instance
def Vc (s:XSens):Int:=if ¬ (1≤s.kind∧s.kind≤6) then 5 else if Z7 s then 0 else 1
def V3a (s:XSens) (L:LB) (R:LS):
 Tri Tryz.prog 97 [s.val].toArray L R (fun v M U=>v=.int .i64 (Vc s)∧L=M∧R=U):=by
 refine Jj 44 Tryz.call97 Tryz.func97 rfl rfl rfl ?_;apply (Xaf);intro b1;apply (qad);refine J6 (Jc (Jr (Km (Jr (Jh ?_)))));apply Xaa∘qcx;rintro v M U ⟨b6,rfl,rfl,hR6⟩;replace hR6:=hR6.symm;subst hR6;refine Uxa (wd:=1) (len:=1) (cap:=1) (rows:=[Jo s.kind]) (subs:=[]) rfl ze ze (fun r hr=>by rw [List.mem_singleton.1 hr];rfl) ze rfl yg ?_;refine q_l rfl (Uua 1 6 ⟨some ⟨b6,0,none⟩,1,[s.kind]⟩ _ _ zsb zo) ?_;apply qb4∘Xas;refine q_c ?_ ?_<;>intro hc0;·
  apply (Xa9);refine Kq (M:=L) (U:=R) zYc ?hp ?hL ?hR;case hp=>exact ⟨by simp at hc0;rw [Vc,if_pos za],rfl,rfl⟩
  case hL=>exact zi
  case hR=>exact fun r h=>Ja (by simp [h])
 apply Xb7∘qcx;rintro v M U ⟨b12,rfl,rfl,hR12⟩;replace hR12:=hR12.symm;subst hR12;refine Uxa (wd:=1) (len:=1) (cap:=1) (rows:=[Jo s.address]) (subs:=[]) rfl ze ze (fun r hr=>by rw [List.mem_singleton.1 hr];rfl) ze rfl yg ?_;refine q_l rfl (Uua 0 255 ⟨some ⟨b12,0,none⟩,1,[s.address]⟩ _ _ zsb zo) ?_;apply (Xce);refine Z2 (k:=15) zfb (fun hg6=>?_) (fun hg6=>?_);·
  replace hg6:=qb hg6;iterate 3 refine V3 rfl rfl ?_
  apply Jwd∘qah;·
   skip
   (iterate 7 refine V3 rfl rfl ?_);apply Jwd∘Xas;refine Ua rfl ?_;apply (Xa9);refine Kq (M:=L) (U:=R) zYc ?hp ?hL ?hR;case hp=>exact ⟨by rw [Vc,if_neg zea,if_neg zza],rfl,rfl⟩
   case hL=>exact zi
   case hR=>exact fun r h=>Ja (by simp [h])
 replace hg6:=qb hg6;refine Uu zub rfl rfl ?_;apply (Z7e);refine Uu zyc rfl rfl ?_;apply Jwd∘qah;refine Z2 (k:=20) zfb (fun hg11=>?_) (fun hg11=>?_);·
  replace hg11:=qb hg11;iterate 7 refine V3 rfl rfl ?_
  apply Jwd∘Xas;refine Ua rfl ?_;apply (Xa9);refine Kq (M:=L) (U:=R) zYc ?hp ?hL ?hR;case hp=>exact ⟨by rw [Vc,if_neg zea,if_neg zza],rfl,rfl⟩
  case hL=>exact zi
  case hR=>exact fun r h=>Ja (by simp [h])
 replace hg11:=qb hg11;refine Uu zub rfl rfl ?_;apply (Z7e);refine Uu zub rfl rfl ?_;apply (Z7e);refine K3c zpb rfl rfl ?_;rintro v M U ⟨b25,rfl,rfl,hR25⟩;replace hR25:=hR25.symm;subst hR25;refine Uxa (wd:=1) (len:=2) (cap:=2) (rows:=[Jo s.offset,Jo s.scale]) (subs:=[]) rfl ze ze (fun r hr=>by simp only [yaa,yY,or_false] at hr;rcases hr with rfl | rfl <;> rfl) ze rfl yg ?_;refine Jta rfl (Uua (-1000000) 1000000 ⟨some ⟨b25,0,none⟩,2,[s.offset,s.scale]⟩ _ _ zsb zo) rfl rfl ?_;rintro v M U ⟨rfl,rfl,rfl⟩;refine Uu (V8a rfl) rfl rfl ?_;apply Jwd∘Xas;refine q_c ?_ ?_<;>intro hc1;·
  apply (Xa9);refine Kq (M:=L) (U:=R) zYc ?hp ?hL ?hR;case hp=>exact ⟨by rw [Vc,if_neg zea,if_neg zza],rfl,rfl⟩
  case hL=>exact zi
  case hR=>exact fun r h=>Ja (by simp [h])
 apply qae∘Xbq;refine Jqa zpb rfl ?_;rintro v M U ⟨b34,rfl,rfl,hR34⟩;replace hR34:=hR34.symm;subst hR34;refine Uxa (wd:=1) (len:=2) (cap:=2) (rows:=[Jo s.error,Jo s.drift]) (subs:=[]) rfl ze ze (fun r hr=>by simp only [yaa,yY,or_false] at hr;rcases hr with rfl | rfl <;> rfl) ze rfl yg ?_;refine q_l rfl (Uua 0 1000000 ⟨some ⟨b34,0,none⟩,2,[s.error,s.drift]⟩ _ _ zsb zo) ?_;apply (Xce);refine Z2 (k:=37) zfb (fun hg8=>?_) (fun hg8=>?_);·
  replace hg8:=qb hg8;iterate 5 refine V3 rfl rfl ?_
  apply Jwd∘Xas;refine Ua rfl ?_;apply (Xa9);refine Kq (M:=L) (U:=R) zYc ?hp ?hL ?hR;case hp=>exact ⟨by rw [Vc,if_neg zea,if_neg zRa],rfl,rfl⟩
  case hL=>exact zi
  case hR=>exact fun r h=>Ja (by simp [h])
 replace hg8:=qb hg8;refine Uu zub rfl rfl ?_;apply (Z7e);refine K3c zMb rfl rfl ?_;rintro v M U ⟨b40,rfl,rfl,hR40⟩;replace hR40:=hR40.symm;subst hR40;refine Uxa (wd:=1) (len:=1) (cap:=1) (rows:=[Jo s.life]) (subs:=[]) rfl ze ze (fun r hr=>by rw [List.mem_singleton.1 hr];rfl) ze rfl yg ?_;refine Jta rfl (Uua 1 1000000 ⟨some ⟨b40,0,none⟩,1,[s.life]⟩ _ _ zsb zo) rfl rfl ?_;rintro v M U ⟨rfl,rfl,rfl⟩;refine Uu (V8a rfl) rfl rfl ?_;apply Jwd∘Xas;refine q_c ?_ ?_<;>intro hc2;·
  apply (Xa9);refine Kq (M:=L) (U:=R) zYc ?hp ?hL ?hR;case hp=>exact ⟨by rw [Vc,if_neg zea,if_neg zRa],rfl,rfl⟩
  case hL=>exact zi
  case hR=>exact fun r h=>Ja (by simp [h])
 refine Ka (Jk (Jc (Jr (Jh ?_))));apply (Xah);refine Kq (M:=L) (U:=R) zYc ?hp ?hL ?hR;case hp=>exact ⟨by simp at hc0 hg6 hc1 hg8 hc2;rw [Vc,if_neg za,if_pos (by rw [Z7];omega)],rfl,rfl⟩
 case hL=>exact zi
 case hR=>exact fun r h=>Ja (by simp [h])
def Kse (k:Int) (L:LB) (R:LS):
 Tri Tryz.prog 98 [.int .i64 k].toArray L R (fun v M U=>v=.bool (decide (k=4∨k=5∨k=6))∧L=M∧R=U):=by
 refine Jj 13 Tryz.call98 Tryz.func98 rfl rfl rfl ?_;apply Xbe∘Xdh∘qbn∘qah;apply J9 (G:=[_,_]) (j:=2) (cj:=5) rfl rfl zb rfl zfb rfl;·intro hg3;replace hg3:=qb hg3;exact (qaa∘qbn) qai
 intro junk3;apply (qah);apply J9 (G:=[_,_]) (j:=6) (cj:=9) rfl rfl zb rfl zfb rfl;·intro hg7;replace hg7:=qb hg7;exact (qaa∘qbn) qai
 intro junk7;apply (Xa2);refine q_b L R ?_;exact ⟨by refine congrArg Value.bool ?_;rw [ytb];simp;omega,rfl,rfl⟩
def Zgd (s:XSens) (m:XMeas) (t:Int):Int:=(s.drift * (t - m.time) + 999).tdiv 1000
def Uzc (s:XSens) (m:XMeas) (t:Int):Prop:=Vc s≠0∨m.sensor < 0∨m.span=nothingS∨t < m.time∨s.life < t - m.time
instance (s:XSens) (m:XMeas) (t:Int):Decidable (Uzc s m t):=by unfold Uzc;infer_instance
def Vaf (s:XSens) (m:XMeas) (t:Int):XSpan:=⟨m.span.low - Zgd s m t,m.span.high + Zgd s m t⟩
def atS (s:XSens) (m:XMeas) (t:Int):XSpan:=
 if Uzc s m t then nothingS else if s.kind=4∨s.kind=5∨s.kind=6 then m.span
 else if s.kind=1∨s.kind=2 then ⟨max (Vaf s m t).low 0,max (Vaf s m t).high 0⟩ else Vaf s m t
def Uca (m:XMeas):Prop:=(0≤m.time∧m.time≤2147483648)∧(-1125899906842624≤m.span.low∧m.span.low≤1125899906842624)∧(-1125899906842624≤m.span.high∧m.span.high≤1125899906842624)
def Kzd {s:XSens} {m:XMeas} {t:Int} (h:¬ Uzc s m t):(0≤s.drift * (t - m.time)∧s.drift * (t - m.time)≤1000000000000)∧0≤Zgd s m t∧Zgd s m t≤1000000001:=by
 rw [Uzc] at h;have he:Vc s=0:=by omega
 rw [Vc] at he;split at he;·omega
 split at he;·
  rename_i hs;rw [Z7] at hs;have h1:0≤t - m.time∧t - m.time≤1000000:=by omega
  have h2:0≤s.drift∧s.drift≤1000000:=by omega
  have h3:0≤s.drift * (t - m.time):=yba h2.1 h1.1;have h4:s.drift * (t - m.time)≤1000000 * 1000000:=yza h2.2 h1.2 h1.1 ze;refine ⟨⟨h3,by omega⟩,?_⟩;rw [Zgd,yR za];omega
 ·omega
def Vcc {a b:XSpan}:a=b↔a.low=b.low∧a.high=b.high:=by cases a;cases b;simp
def J3f (s:XSens) (m:XMeas) (t:Int) (L:LB) (R:LS) (hm:Uca m) (ht:0≤t∧t≤2147483648):
 Tri Tryz.prog 33 [s.val,m.val,.int .i64 t].toArray L R (fun v M U=>v=(atS s m t).val∧L=M∧R=U):=by
 rw [Uca] at hm;refine Jj 83 Tryz.call33 Tryz.func33 rfl rfl rfl ?_;apply (Xaf);intro b3;apply (qax);intro b4;apply (qaq);intro b6;apply (qam);refine q_l rfl (Ub _ _) ?_;apply (qaq);intro b7;apply (Xa8);refine Jx zob rfl ?_;refine q_l rfl (V3a s _ _) ?_;apply (Xbu);apply J9 (G:=[_,_,_]) (j:=3) (cj:=14) rfl rfl zb rfl zfb rfl;·intro hg4;replace hg4:=qb hg4;exact zsd
 intro junk4;apply (qah);apply J9 (G:=[_,_,_,_]) (j:=8) (cj:=19) rfl rfl zb rfl zfb rfl;·intro hg9;replace hg9:=qb hg9;apply Xdp∘qbe;refine Jx (Y1b Jzf rfl rfl) rfl ?_;exact qai
 intro junk9;apply (qah);apply J9 (G:=[_,_,_,_]) (j:=14) (cj:=25) rfl rfl zb rfl zfb rfl;·intro hg15;replace hg15:=qb hg15;exact (qaa) zsd
 intro junk15;apply (qah);apply J9 (G:=[_,_,_,_,_,_,_]) (j:=20) (cj:=31) rfl rfl zb rfl zfb rfl;·intro hg21;replace hg21:=qb hg21;exact (qaa∘Xaa∘qa9∘Xa5) qai
 intro junk21;apply (qaf);refine q_c ?_ ?_<;>intro hc0;·
  apply qae∘qbe∘qak∘qbh;refine q_r L R zDc ?_;have hgo:Uzc s m t:=by simp [nothingS] at hc0;rw [Uzc,Vcc];simp only [nothingS];omega
  exact ⟨by rw [atS,if_pos hgo];try rfl,rfl,rfl⟩
 have hgo:¬ Uzc s m t:=by simp [nothingS] at hc0;rw [Uzc,Vcc];simp only [nothingS];omega
 obtain ⟨hb1,hb2⟩:=Kzd hgo;rw [Zgd] at hb2;apply qbo∘Xaa;refine q_l rfl (Kse _ _ _) ?_;apply (qaf);refine q_c ?_ ?_<;>intro hc1;·apply Xc8∘qbe∘qak∘qbh;refine q_r L R zDc ?_;exact ⟨by rw [atS,if_neg hgo,if_pos zG],rfl,rfl⟩
 apply qbv∘Xam∘Xaa∘qa9∘qcm∘qar∘qdd∘Xag∘qab∘Xam∘qa9∘qab∘Xam∘qar∘qcd∘qaq;intro b9;apply Xa8∘Xbj∘qah;apply J9 (G:=[_,_,_]) (j:=3) (cj:=69) rfl rfl zb rfl zfb rfl;·exact zGd
 intro junk4;apply (qaf);refine q_c ?_ ?_<;>intro hc2;·apply qay∘Xaa;refine Jx zmc rfl ?_;apply (Xaa);refine Jx zmc rfl ?_;apply Xbh∘Xbh∘qam∘Xde;refine q_r L R zDc ?_;exact ⟨by rw [atS,if_neg hgo,if_neg zG,if_pos za];try rfl,rfl,rfl⟩
 apply qbv∘Xde;refine q_r L R zDc ?_;exact ⟨by rw [atS,if_neg hgo,if_neg zG,if_neg za];try rfl,rfl,rfl⟩
def Usb (l:List XSpan) (z:XSpan) (k:Nat):XSpan:=(l.take k).foldl (fun o x=>⟨max o.low x.low,min o.high x.high⟩) z
def Jfd {l:List XSpan} {z:XSpan} {k:Nat} {x:XSpan} (h:l[k]?=some x):Usb l z (k + 1)=⟨max (Usb l z k).low x.low,min (Usb l z k).high x.high⟩:=by rw [Usb,yfa,h,ywa];rfl
def Y3b (x y:XSpan):XSpan:=⟨max x.low y.low,min x.high y.high⟩
def Uqd (x y:XSpan):XSpan:=if (Y3b x y).high < (Y3b x y).low then nothingS else Y3b x y
def Yse {x y:XSpan}:Usb [x,y] x 2=Y3b x y:=by simp [Usb,Y3b]
def Zhe (x y:XSpan) (p:Arr XSpan) (L:LB) (R:LS) (hp:InR (Jke p) R) (he:p.l=[x,y]):
 Tri Tryz.prog 195 [p.val].toArray L R (fun v M U=>v=.tuple #[(Uqd x y).val,.bool (decide ((Y3b x y).low≤(Y3b x y).high))]∧L=M∧R=U):=by
 have hpl:p.l.length=2:=by rw [he];rfl
 have hp0:p.l[0]?=some x:=by rw [he];rfl
 refine Jj 40 Tryz.call195 Tryz.func195 rfl rfl rfl ?_;apply qae∘qaq;intro b2;apply qaz∘qaw∘Xaq∘Xcm;refine q_c ?_ ?_<;>intro hc0;·apply (qae);refine q_l rfl (Ub _ _) ?_;apply qak∘qaz∘qbh;refine q_r L R (U1 rfl zjb zFc) ?_;exact absurd hc0 za
 apply qbv∘qbm∘qdt∘Xdq;intro b4;apply Xa8∘Xbt;refine Jp [(2,.pointer _),(4,.pointer _),(14,.slice _ _ _),(15,.int _ _),(16,.int _ _)] zh fun tq0=>?_;refine q_p ([6]++rg 16 17) ((⟨fun g=>[(16,.int .i64 ((g.1:Nat):Int))],fun g=>⟨b4,(Usb p.l x g.1).cells,90⟩ :: ⟨b2,[.int .i64 0,.int .i64 0],90⟩ :: L,fun _=>R,fun g=>p.l.length - g.1⟩:Head {g:Nat // g≤p.l.length})) (⟨0,by omega⟩) ?_;rintro ⟨k,hk⟩ junk;try dsimp only
 apply (Xak);refine q_c ?_ ?_<;>intro hc1;·have h1:=Jw (l:=p.l) (k:=k) default za;have hms:=Jfd (z:=x) h1;apply qbb∘Yrf∘Xdq;intro b6;apply qak∘qaf;refine Kh tb [27,28,29] [0,1,2,3,4,5,6,7,8,9,10] [11,12,13] (_) _ K3 zc zi zja ?_;apply Xar∘Xar;refine Ku zmc rfl rfl rfl rfl ?_;apply Xar∘Xc9;refine V2 (Zib rfl rfl) rfl rfl rfl rfl ?_;apply qan∘qba∘qb6∘qal∘qb6∘Xda;exact Kr ⟨k + 1,by omega⟩ zm zh (by dsimp only;rw [hms];exact zs3 (zs2 (zs0 _))) ztb zx
 obtain rfl:k=p.l.length:=by omega
 have hmm:Usb p.l x p.l.length=Y3b x y:=by rw [hpl,he];exact Yse
 rw [hmm];apply qcf∘Xaa∘Xa5∘qaf;refine q_c ?_ ?_<;>intro hc2;·apply (qae);refine q_l rfl (Ub _ _) ?_;apply qak∘qaz∘qbh;refine q_r L R (U1 rfl zjb zFc) ?_;exact ⟨by rw [Uqd,if_pos za,decide_eq_false za],rfl,rfl⟩
 apply qbv∘qbe∘qak∘Xa2;refine q_r L R (U1 rfl zjb zFc) ?_;exact ⟨by rw [Uqd,if_neg za,decide_eq_true za],rfl,rfl⟩
end Go.Proofs.YtchfclmokpbldaaGreat
