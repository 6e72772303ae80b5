/-
  Merged texts. By an AI agent.
-/
import Derived.Test.YtchfclmokpbldaaGreatCongrS
import Derived.Test.YtchfclmokpbldaaGreatNets
import Derived.Test.YtchfclmokpbldaaGreatFits
import Derived.Test.YtchfclmokpbldaaGreatAnal
import Derived.Test.YtchfclmokpbldaaGreatComp
import Derived.Test.YtchfclmokpbldaaGreatReach
set_option linter.all false
set_option maxHeartbeats 4000000
set_option maxRecDepth 20000
namespace Go.Proofs.YtchfclmokpbldaaGreat
open Go.Aw Go
section
attribute [local irreducible] CJ LJ DJ Tri YV Gives U7 Kb Kp U8 RV Ke OwL.L
section
variable {A B:Prop}
def Kzd(h:A→B:=by exact J0 zQ rfl):=h
def Vie(h:A→B:=by exact U6 zOb rfl rfl):=h
def V2f(h:A→B:=by exact J0 zC rfl):=h
end
structure XSens where
 address:Int
 kind:Int
 target:Int
 offset:Int
 scale:Int
 error:Int
 drift:Int
 life:Int
 deriving Inhabited
def XSens.cells (s:XSens):List Value:=[.int .i64 s.address,.int .i64 s.kind,.int .i64 s.target,.int .i64 s.offset,.int .i64 s.scale,.int .i64 s.error,.int .i64 s.drift,.int .i64 s.life]
abbrev XSens.val (s:XSens):Value:=.agg #[.int .i64 s.address,.int .i64 s.kind,.int .i64 s.target,.int .i64 s.offset,.int .i64 s.scale,.int .i64 s.error,.int .i64 s.drift,.int .i64 s.life]
structure XMeas where
 sensor:Int
 time:Int
 span:XSpan
 deriving Inhabited
def XMeas.cells (m:XMeas):List Value:=[.int .i64 m.sensor,.int .i64 m.time,.int .i64 m.span.low,.int .i64 m.span.high]
abbrev XMeas.val (m:XMeas):Value:=.agg #[.int .i64 m.sensor,.int .i64 m.time,.int .i64 m.span.low,.int .i64 m.span.high]
abbrev Urc (x:Arr XSens):Sl:=x.sl 8 XSens.cells []
abbrev V3a (x:Arr XMeas):Sl:=x.sl 4 XMeas.cells []
def Uta (lo hi:Int) (x:Arr Int) (L:LB) (R:LS) (hx:InR (isl x) R) (hn:x.l.length≤100):
 Tri Tryz.prog 174 [.int .i64 lo,.int .i64 hi,x.val].toArray L R (fun v M U=>v=.bool (decide (∀n∈x.l,lo≤n∧n≤hi))∧L=M∧R=U):=by
 refine Jd 24 Tryz.call174 Tryz.func174 rfl rfl rfl ?_;apply Xew∘Xdn;refine Jh [(0,.int _ _),(1,.int _ _),(9,.slice _ _ _),(10,.int _ _),(11,.int _ _)] zg fun tq0=>?_;refine q_s ([6,8]++rg 11 13) (fun g:{k:Nat // k≤x.l.length∧∀n∈x.l.take k,lo≤n∧n≤hi}=>[(11,.int .i64 ((g.1:Nat):Int))]) (fun g=>x.l.length - g.1) (⟨0,by omega,by simp⟩) ?_;rintro ⟨k,hk,hal⟩ junk;try dsimp only
 apply (Xay);refine q_c ?_ ?_<;>intro hc0;·
  have h1:=Js (l:=x.l) (k:=k) 0 zc;apply qbb∘V2f∘qa7∘Xa2∘Xcf;apply J3 (G:=[_,_,_]) (j:=3) (cj:=18) rfl rfl ze rfl ztb rfl;·intro hg4;replace hg4:=qb hg4;exact (Xbu) zpf
  intro junk4;apply (qaf);refine q_c ?_ ?_<;>intro hc1;·apply (Xci);refine q_b L R ?_;exact ⟨by rw [decide_eq_false (fun h=>by have:=h _ (yi h1);omega)],rfl,rfl⟩
  apply (Xbk);exact Ka (⟨k + 1,by omega,fun n hn=>by
  rw [yta,h1] at hn;simp only [Option.toList_some,yOa,yOb] at hn;rcases hn with h | h;·exact hal n h
  ·omega⟩) zp zg zk zJb zt
 apply (Xde);refine q_b L R ?_;exact ⟨by rw [decide_eq_true (fun n hn=>by rw [yY zc] at hal;exact hal n hn)],rfl,rfl⟩
def Jsa (s:XSens):Prop:=(0≤s.address∧s.address≤255)∧0≤s.target∧(-1000000≤s.offset∧s.offset≤1000000)∧(-1000000≤s.scale∧s.scale≤1000000)∧(0≤s.error∧s.error≤1000000)∧(0≤s.drift∧s.drift≤1000000)∧(1≤s.life∧s.life≤1000000)
instance (s:XSens):Decidable (Jsa s):=by unfold Jsa;infer_instance
def Vx (s:XSens):Int:=if ¬ (1≤s.kind∧s.kind≤6) then 5 else if Jsa s then 0 else 1
def Kob (s:XSens) (L:LB) (R:LS):
 Tri Tryz.prog 97 [s.val].toArray L R (fun v M U=>v=.int .i64 (Vx s)∧L=M∧R=U):=by
 refine Jd 44 Tryz.call97 Tryz.func97 rfl rfl rfl ?_;apply (Xag);intro b1;apply (qad);refine J6 (Ja (Ji (Jy (Ji (Je ?_)))));apply Xaa∘qcx;rintro v M U ⟨b6,rfl,rfl,hR6⟩;replace hR6:=hR6.symm;subst hR6;refine Ksa (wd:=1) (len:=1) (cap:=1) (rows:=[Jj s.kind]) (subs:=[]) rfl zj zj (fun r hr=>by rw [List.mem_singleton.1 hr];rfl) zj rfl yg ?_;refine q_l rfl (Uta 1 6 ⟨some ⟨b6,0,none⟩,1,[s.kind]⟩ _ _ zRb zq) ?_;apply qb4∘Xaz;refine q_c ?_ ?_<;>intro hc0;·
  apply (Xbc);refine Ku (M:=L) (U:=R) zGd ?hp ?hL ?hR;case hp=>exact ⟨by simp at hc0;rw [Vx,if_pos zc],rfl,rfl⟩
  case hL=>exact zk
  case hR=>exact fun r h=>Jb (by simp [h])
 apply Xc8∘qcx;rintro v M U ⟨b12,rfl,rfl,hR12⟩;replace hR12:=hR12.symm;subst hR12;refine Ksa (wd:=1) (len:=1) (cap:=1) (rows:=[Jj s.address]) (subs:=[]) rfl zj zj (fun r hr=>by rw [List.mem_singleton.1 hr];rfl) zj rfl yg ?_;refine q_l rfl (Uta 0 255 ⟨some ⟨b12,0,none⟩,1,[s.address]⟩ _ _ zRb zq) ?_;apply (Xdd);refine Zi (k:=15) ztb (fun hg6=>?_) (fun hg6=>?_);·
  replace hg6:=qb hg6;iterate 3 refine V8a rfl rfl ?_
  apply Kzd∘qah;·
   skip
   (iterate 7 refine V8a rfl rfl ?_);apply Kzd∘Xaz;refine K0 rfl ?_;apply (Xbc);refine Ku (M:=L) (U:=R) zGd ?hp ?hL ?hR;case hp=>exact ⟨by rw [Vx,if_neg zpa,if_neg zLa],rfl,rfl⟩
   case hL=>exact zk
   case hR=>exact fun r h=>Jb (by simp [h])
 replace hg6:=qb hg6;refine U6 zIb rfl rfl ?_;apply (Vie);refine U6 zBc rfl rfl ?_;apply Kzd∘qah;refine Zi (k:=20) ztb (fun hg11=>?_) (fun hg11=>?_);·
  replace hg11:=qb hg11;iterate 7 refine V8a rfl rfl ?_
  apply Kzd∘Xaz;refine K0 rfl ?_;apply (Xbc);refine Ku (M:=L) (U:=R) zGd ?hp ?hL ?hR;case hp=>exact ⟨by rw [Vx,if_neg zpa,if_neg zLa],rfl,rfl⟩
  case hL=>exact zk
  case hR=>exact fun r h=>Jb (by simp [h])
 replace hg11:=qb hg11;refine U6 zIb rfl rfl ?_;apply (Vie);refine U6 zIb rfl rfl ?_;apply (Vie);refine Y4c zWb rfl rfl ?_;rintro v M U ⟨b25,rfl,rfl,hR25⟩;replace hR25:=hR25.symm;subst hR25;refine Ksa (wd:=1) (len:=2) (cap:=2) (rows:=[Jj s.offset,Jj s.scale]) (subs:=[]) rfl zj zj (fun r hr=>by simp only [yT,yP,or_false] at hr;rcases hr with rfl | rfl <;> rfl) zj rfl yg ?_;refine Vha rfl (Uta (-1000000) 1000000 ⟨some ⟨b25,0,none⟩,2,[s.offset,s.scale]⟩ _ _ zRb zq) rfl rfl ?_;rintro v M U ⟨rfl,rfl,rfl⟩;refine U6 (Uva rfl) rfl rfl ?_;apply Kzd∘Xaz;refine q_c ?_ ?_<;>intro hc1;·
  apply (Xbc);refine Ku (M:=L) (U:=R) zGd ?hp ?hL ?hR;case hp=>exact ⟨by rw [Vx,if_neg zpa,if_neg zLa],rfl,rfl⟩
  case hL=>exact zk
  case hR=>exact fun r h=>Jb (by simp [h])
 apply qae∘Xbl;refine Y6 zWb rfl ?_;rintro v M U ⟨b34,rfl,rfl,hR34⟩;replace hR34:=hR34.symm;subst hR34;refine Ksa (wd:=1) (len:=2) (cap:=2) (rows:=[Jj s.error,Jj s.drift]) (subs:=[]) rfl zj zj (fun r hr=>by simp only [yT,yP,or_false] at hr;rcases hr with rfl | rfl <;> rfl) zj rfl yg ?_;refine q_l rfl (Uta 0 1000000 ⟨some ⟨b34,0,none⟩,2,[s.error,s.drift]⟩ _ _ zRb zq) ?_;apply (Xdd);refine Zi (k:=37) ztb (fun hg8=>?_) (fun hg8=>?_);·
  replace hg8:=qb hg8;iterate 5 refine V8a rfl rfl ?_
  apply Kzd∘Xaz;refine K0 rfl ?_;apply (Xbc);refine Ku (M:=L) (U:=R) zGd ?hp ?hL ?hR;case hp=>exact ⟨by rw [Vx,if_neg zpa,if_neg zdb],rfl,rfl⟩
  case hL=>exact zk
  case hR=>exact fun r h=>Jb (by simp [h])
 replace hg8:=qb hg8;refine U6 zIb rfl rfl ?_;apply (Vie);refine Y4c zTb rfl rfl ?_;rintro v M U ⟨b40,rfl,rfl,hR40⟩;replace hR40:=hR40.symm;subst hR40;refine Ksa (wd:=1) (len:=1) (cap:=1) (rows:=[Jj s.life]) (subs:=[]) rfl zj zj (fun r hr=>by rw [List.mem_singleton.1 hr];rfl) zj rfl yg ?_;refine Vha rfl (Uta 1 1000000 ⟨some ⟨b40,0,none⟩,1,[s.life]⟩ _ _ zRb zq) rfl rfl ?_;rintro v M U ⟨rfl,rfl,rfl⟩;refine U6 (Uva rfl) rfl rfl ?_;apply Kzd∘Xaz;refine q_c ?_ ?_<;>intro hc2;·
  apply (Xbc);refine Ku (M:=L) (U:=R) zGd ?hp ?hL ?hR;case hp=>exact ⟨by rw [Vx,if_neg zpa,if_neg zdb],rfl,rfl⟩
  case hL=>exact zk
  case hR=>exact fun r h=>Jb (by simp [h])
 refine Jt (Jg (Ja (Ji (Je ?_))));apply (Xam);refine Ku (M:=L) (U:=R) zGd ?hp ?hL ?hR;case hp=>exact ⟨by simp at hc0 hg6 hc1 hg8 hc2;rw [Vx,if_neg zc,if_pos (by rw [Jsa];omega)],rfl,rfl⟩
 case hL=>exact zk
 case hR=>exact fun r h=>Jb (by simp [h])
def Jfe (k:Int) (L:LB) (R:LS):
 Tri Tryz.prog 98 [.int .i64 k].toArray L R (fun v M U=>v=.bool (decide (k=4∨k=5∨k=6))∧L=M∧R=U):=by
 refine Jd 13 Tryz.call98 Tryz.func98 rfl rfl rfl ?_;apply Xa3∘Xdr∘Xcn;apply J3 (G:=[_,_]) (j:=2) (cj:=5) rfl rfl ze rfl ztb rfl;·intro hg3;replace hg3:=qb hg3;exact (qaa) zme
 intro junk3;apply (qah);apply J3 (G:=[_,_]) (j:=6) (cj:=9) rfl rfl ze rfl ztb rfl;·intro hg7;replace hg7:=qb hg7;exact (qaa) zme
 intro junk7;apply (Xbb);refine q_b L R ?_;exact ⟨by refine congrArg Value.bool ?_;rw [yIb];simp;omega,rfl,rfl⟩
def Z4c (s:XSens) (m:XMeas) (t:Int):Int:=(s.drift * (t - m.time) + 999).tdiv 1000
def Kwa (s:XSens) (m:XMeas) (t:Int):Prop:=Vx s≠0∨m.sensor < 0∨m.span=nothingS∨t < m.time∨s.life < t - m.time
instance (s:XSens) (m:XMeas) (t:Int):Decidable (Kwa s m t):=by unfold Kwa;infer_instance
def K7f (s:XSens) (m:XMeas) (t:Int):XSpan:=⟨m.span.low - Z4c s m t,m.span.high + Z4c s m t⟩
def atS (s:XSens) (m:XMeas) (t:Int):XSpan:=
 if Kwa s m t then nothingS else if s.kind=4∨s.kind=5∨s.kind=6 then m.span
 else if s.kind=1∨s.kind=2 then ⟨max (K7f s m t).low 0,max (K7f s m t).high 0⟩ else K7f s m t
def Uua (m:XMeas):Prop:=(0≤m.time∧m.time≤2147483648)∧(-1125899906842624≤m.span.low∧m.span.low≤1125899906842624)∧(-1125899906842624≤m.span.high∧m.span.high≤1125899906842624)
def Jzb {s:XSens} {m:XMeas} {t:Int} (h:¬ Kwa s m t):(0≤s.drift * (t - m.time)∧s.drift * (t - m.time)≤1000000000000)∧0≤Z4c s m t∧Z4c s m t≤1000000001:=by
 rw [Kwa] at h;have he:Vx s=0:=by omega
 rw [Vx] at he;split at he;·omega
 split at he;·
  rename_i hs;rw [Jsa] at hs;have h1:0≤t - m.time∧t - m.time≤1000000:=by omega
  have h2:0≤s.drift∧s.drift≤1000000:=by omega
  have h3:0≤s.drift * (t - m.time):=yR h2.1 h1.1;have h4:s.drift * (t - m.time)≤1000000 * 1000000:=yea h2.2 h1.2 h1.1 zj;refine ⟨⟨h3,by omega⟩,?_⟩;rw [Z4c,yO zc];omega
 ·omega
def K4b {a b:XSpan}:a=b↔a.low=b.low∧a.high=b.high:=by cases a;cases b;simp
def Z0e (s:XSens) (m:XMeas) (t:Int) (L:LB) (R:LS) (hm:Uua m) (ht:0≤t∧t≤2147483648):
 Tri Tryz.prog 33 [s.val,m.val,.int .i64 t].toArray L R (fun v M U=>v=(atS s m t).val∧L=M∧R=U):=by
 rw [Uua] at hm;refine Jd 83 Tryz.call33 Tryz.func33 rfl rfl rfl ?_;apply (Xag);intro b3;apply (qax);intro b4;apply (qaq);intro b6;apply (qam);refine q_l rfl (V0 _ _) ?_;apply (qaq);intro b7;apply (Xbi);refine J0 zxb rfl ?_;refine q_l rfl (Kob s _ _) ?_;apply (Xb8);apply J3 (G:=[_,_,_]) (j:=3) (cj:=14) rfl rfl ze rfl ztb rfl;·intro hg4;replace hg4:=qb hg4;exact zge
 intro junk4;apply (qah);apply J3 (G:=[_,_,_,_]) (j:=8) (cj:=19) rfl rfl ze rfl ztb rfl;·intro hg9;replace hg9:=qb hg9;apply Xc4∘qbe;refine J0 (Jpb Vjd rfl rfl) rfl ?_;exact qai
 intro junk9;apply (qah);apply J3 (G:=[_,_,_,_]) (j:=14) (cj:=25) rfl rfl ze rfl ztb rfl;·intro hg15;replace hg15:=qb hg15;exact (qaa) zge
 intro junk15;apply (qah);apply J3 (G:=[_,_,_,_,_,_,_]) (j:=20) (cj:=31) rfl rfl ze rfl ztb rfl;·intro hg21;replace hg21:=qb hg21;exact (qaa∘Xaa∘qa9) zOd
 intro junk21;apply (qaf);refine q_c ?_ ?_<;>intro hc0;·
  apply qae∘qbe∘Xdj;refine q_r L R zfd ?_;have hgo:Kwa s m t:=by simp [nothingS] at hc0;rw [Kwa,K4b];simp only [nothingS];omega
  exact uaQ
 have hgo:¬ Kwa s m t:=by simp [nothingS] at hc0;rw [Kwa,K4b];simp only [nothingS];omega
 obtain ⟨hb1,hb2⟩:=Jzb hgo;rw [Z4c] at hb2;apply (Xch);refine q_l rfl (Jfe _ _ _) ?_;apply (qaf);refine q_c ?_ ?_<;>intro hc1;·apply Xcq∘qbe∘Xdj;refine q_r L R zfd ?_;exact ⟨by rw [atS,if_neg hgo,if_pos zN],rfl,rfl⟩
 apply qbv∘Xaf∘Xaa∘qa9∘qcm∘qar∘qdd∘Xar∘Xc3∘qa9∘Xc3∘qar∘qcd∘qaq;intro b9;apply Xdz∘Xcn;apply J3 (G:=[_,_,_]) (j:=3) (cj:=69) rfl rfl ze rfl ztb rfl;·exact ubE
 intro junk4;apply (qaf);refine q_c ?_ ?_<;>intro hc2;·apply qay∘Xaa;refine J0 zsc rfl ?_;apply (Xaa);refine J0 zsc rfl ?_;apply Xbs∘Xbs∘qam∘Xcs;refine q_r L R zfd ?_;exact ⟨by rw [atS,if_neg hgo,if_neg zN,if_pos zc];try rfl,rfl,rfl⟩
 apply qbv∘Xcs;refine q_r L R zfd ?_;exact ⟨by rw [atS,if_neg hgo,if_neg zN,if_neg zc];try rfl,rfl,rfl⟩
def Yfa (l:List XSpan) (z:XSpan) (k:Nat):XSpan:=(l.take k).foldl (fun o x=>⟨max o.low x.low,min o.high x.high⟩) z
def Jsb {l:List XSpan} {z:XSpan} {k:Nat} {x:XSpan} (h:l[k]?=some x):Yfa l z (k + 1)=⟨max (Yfa l z k).low x.low,min (Yfa l z k).high x.high⟩:=by rw [Yfa,yta,h,yeb];rfl
def Una (x y:XSpan):XSpan:=⟨max x.low y.low,min x.high y.high⟩
def Zka (x y:XSpan):XSpan:=if (Una x y).high < (Una x y).low then nothingS else Una x y
def Vvd {x y:XSpan}:Yfa [x,y] x 2=Una x y:=by simp [Yfa,Una]
def Vwe (x y:XSpan) (p:Arr XSpan) (L:LB) (R:LS) (hp:InR (J2c p) R) (he:p.l=[x,y]):
 Tri Tryz.prog 195 [p.val].toArray L R (fun v M U=>v=.tuple #[(Zka x y).val,.bool (decide ((Una x y).low≤(Una x y).high))]∧L=M∧R=U):=by
 have hpl:p.l.length=2:=by rw [he];rfl
 have hp0:p.l[0]?=some x:=by rw [he];rfl
 refine Jd 40 Tryz.call195 Tryz.func195 rfl rfl rfl ?_;apply (Xct);intro b2;apply Xdm∘Xaq∘Xa6;refine q_c ?_ ?_<;>intro hc0;·apply (qae);refine q_l rfl (V0 _ _) ?_;apply qak∘qaz∘qbh;refine q_r L R zHd ?_;exact absurd hc0 zc
 apply Xdx∘qdt∘Xei;intro b4;apply Xbi∘Xdn;refine Jh [(2,.pointer _),(4,.pointer _),(14,.slice _ _ _),(15,.int _ _),(16,.int _ _)] zg fun tq0=>?_;refine q_p ([6]++rg 16 17) ((⟨fun g=>[(16,.int .i64 ((g.1:Nat):Int))],fun g=>⟨b4,(Yfa p.l x g.1).cells,90⟩ :: ⟨b2,[.int .i64 0,.int .i64 0],90⟩ :: L,fun _=>R,fun g=>p.l.length - g.1⟩:Head {g:Nat // g≤p.l.length})) (⟨0,by omega⟩) ?_;rintro ⟨k,hk⟩ junk;try dsimp only
 apply (Xay);refine q_c ?_ ?_<;>intro hc1;·have h1:=Js (l:=p.l) (k:=k) default zc;have hms:=Jsb (z:=x) h1;apply qbb∘V2f∘Xei;intro b6;apply qak∘qaf;refine Kh tb [27,28,29] [0,1,2,3,4,5,6,7,8,9,10] [11,12,13] (_) _ Kn zf zk zV ?_;apply (Xdv);refine Kz zsc rfl rfl rfl rfl ?_;apply Xah∘Xcw;refine V6 (Jub rfl rfl) rfl rfl rfl rfl ?_;apply Xd7∘qal∘qb6∘Xer;exact Ka ⟨k + 1,by omega⟩ zp zg (by dsimp only;rw [hms];exact zs3 (zs2 (zs0 _))) zJb zt
 obtain rfl:k=p.l.length:=by omega
 have hmm:Yfa p.l x p.l.length=Una x y:=by rw [hpl,he];exact Vvd
 rw [hmm];apply qcf∘Xaa∘Xa5∘qaf;refine q_c ?_ ?_<;>intro hc2;·apply (qae);refine q_l rfl (V0 _ _) ?_;exact zRe
 exact zKe
end
section
attribute [local irreducible] CJ LJ DJ Tri YV Gives U7 Kb Kp U8 RV Ke OwL.L
end
section
def Tri.lendU {P : Program} {f : FuncId} {args : Array Value} {A : LB} {R S : LS} {u : Value}
 (hS:∀w,∀G:Nat→Prop,Holds (A ++ []) G R w→∀s∈S,Rep w (fun b=>G b∨∃e∈A,e.b=b) s)
 (h:Tri P f args [] (S ++ R) (fun v M U=>v=u∧[]=M∧S ++ R=U)):Tri P f args A R (fun v M U=>v=u∧A=M∧R=U):=by have h2:=Tri.lend (S:=S) (Post:=fun v M=>v=u∧[]=M) (Spl.rest (L:=A)) hS (h.mono fun v M U ⟨a1,a2,a3⟩=>⟨⟨a1,a2⟩,a3⟩);exact zmf
attribute [local irreducible] CJ LJ DJ Tri YV Gives U7 Kb Kp U8 RV Ke OwL.L
end
section
attribute [local irreducible] CJ LJ DJ Tri YV Gives U7 Kb Kp U8 RV Ke OwL.L
def K9e (m:XMine):∃A,AiryIs m A:=by refine ⟨(List.range (Jud m).length).map fun i=>@decide (∃j:Nat,j < (Jud m).length∧(Jud m).getD j false=true∧Conn m j i) (Classical.propDecidable _),by simp,fun i hi=>?_⟩;rw [yh,yt,yZ hi];exact ⟨fun h=>@of_decide_eq_true _ (Classical.propDecidable _) h,fun h=>@decide_eq_true _ (Classical.propDecidable _) h⟩
end
end Go.Proofs.YtchfclmokpbldaaGreat
