/-
  What measurements say later: sensor.Check, window.At, window.Meet. By an AI agent; no person has read it.
-/
import Derived.Test.YtchfclmokpbldaaGreatCongrS
set_option linter.all false
set_option maxHeartbeats 4000000
namespace Go.Proofs.YtchfclmokpbldaaGreat
open Go.Aw Go
set_option maxRecDepth 20000
attribute [local irreducible] CJ LJ DJ Tri YV Gives Uq J2 Km Ur RV J4 OwL.L
section
variable {A B:Prop}
def Uqd(h:A→B:=by exact Jy zN rfl):=h
def K1f(h:A→B:=by exact Zt zRb rfl rfl):=h
def K5g(h:A→B:=by exact Jy zC rfl):=h
end
structure XSens where
 address:Int
 kind:Int
 target:Int
 offset:Int
 scale:Int
 error:Int
 drift:Int
 life:Int
 deriving Inhabited
def XSens.cells (s:XSens):List Value:=[.int .i64 s.address,.int .i64 s.kind,.int .i64 s.target,.int .i64 s.offset,.int .i64 s.scale,.int .i64 s.error,.int .i64 s.drift,.int .i64 s.life]
abbrev XSens.val (s:XSens):Value:=.agg #[.int .i64 s.address,.int .i64 s.kind,.int .i64 s.target,.int .i64 s.offset,.int .i64 s.scale,.int .i64 s.error,.int .i64 s.drift,.int .i64 s.life]
structure XMeas where
 sensor:Int
 time:Int
 span:XSpan
 deriving Inhabited
def XMeas.cells (m:XMeas):List Value:=[.int .i64 m.sensor,.int .i64 m.time,.int .i64 m.span.low,.int .i64 m.span.high]
abbrev XMeas.val (m:XMeas):Value:=.agg #[.int .i64 m.sensor,.int .i64 m.time,.int .i64 m.span.low,.int .i64 m.span.high]
abbrev Kcd (x:Arr XSens):Sl:=x.sl 8 XSens.cells []
abbrev Ya (x:Arr XMeas):Sl:=x.sl 4 XMeas.cells []
def U9a (lo hi:Int) (x:Arr Int) (L:LB) (R:LS) (hx:InR (isl x) R) (hn:x.l.length≤100):
 Tri Tryz.prog 174 [.int .i64 lo,.int .i64 hi,x.val].toArray L R (fun v M U=>v=.bool (decide (∀n∈x.l,lo≤n∧n≤hi))∧L=M∧R=U):=by
 refine Jd 24 Tryz.call174 Tryz.func174 rfl rfl rfl ?_;apply Xbh∘qaw∘Xb5;refine Jl [(0,.int _ _),(1,.int _ _),(9,.slice _ _ _),(10,.int _ _),(11,.int _ _)] zh fun tq0=>?_;refine q_s ([6,8]++rg 11 13) (fun g:{k:Nat // k≤x.l.length∧∀n∈x.l.take k,lo≤n∧n≤hi}=>[(11,.int .i64 ((g.1:Nat):Int))]) (fun g=>x.l.length - g.1) (⟨0,by omega,by simp⟩) ?_;rintro ⟨k,hk,hal⟩ junk;try dsimp only
 apply (Xan);refine q_c ?_ ?_<;>intro hc0;·
  have h1:=Jt (l:=x.l) (k:=k) 0 za;apply qbb∘K5g∘qa7∘Xav∘Xcv;apply Kd (G:=[_,_,_]) (j:=3) (cj:=18) rfl rfl zb rfl zmb rfl;·intro hg4;replace hg4:=qb hg4;exact (Xcd∘qa5) qai
  intro junk4;apply (qaf);refine q_c ?_ ?_<;>intro hc1;·apply Xbh∘qbt;refine q_b L R ?_;exact ⟨by rw [decide_eq_false (fun h=>by have:=h _ (yi h1);omega)],rfl,rfl⟩
  apply (Xay);exact Ki (⟨k + 1,by omega,fun n hn=>by
  rw [yfa,h1] at hn;simp only [Option.toList_some,yQa,ydc] at hn;rcases hn with h | h;·exact hal n h
  ·omega⟩) zm zh zg zBb zu
 apply qbk∘Xbk;refine q_b L R ?_;exact ⟨by rw [decide_eq_true (fun n hn=>by rw [yN za] at hal;exact hal n hn)],rfl,rfl⟩
def Zn (s:XSens):Prop:=(0≤s.address∧s.address≤255)∧0≤s.target∧(-1000000≤s.offset∧s.offset≤1000000)∧(-1000000≤s.scale∧s.scale≤1000000)∧(0≤s.error∧s.error≤1000000)∧(0≤s.drift∧s.drift≤1000000)∧(1≤s.life∧s.life≤1000000)
instance (s:XSens):Decidable (Zn s):=by unfold Zn;infer_instance
def U1 (s:XSens):Int:=if ¬ (1≤s.kind∧s.kind≤6) then 5 else if Zn s then 0 else 1
def Vna (s:XSens) (L:LB) (R:LS):
 Tri Tryz.prog 97 [s.val].toArray L R (fun v M U=>v=.int .i64 (U1 s)∧L=M∧R=U):=by
 refine Jd 44 Tryz.call97 Tryz.func97 rfl rfl rfl ?_;apply (Xaf);intro b1;apply (qad);refine J7 (Jb (Jp (Kc (Jp (Jh ?_)))));apply Xaa∘qcx;rintro v M U ⟨b6,rfl,rfl,hR6⟩;replace hR6:=hR6.symm;subst hR6;refine Jna (wd:=1) (len:=1) (cap:=1) (rows:=[Jk s.kind]) (subs:=[]) rfl ze ze (fun r hr=>by rw [List.mem_singleton.1 hr];rfl) ze rfl yg ?_;refine q_l rfl (U9a 1 6 ⟨some ⟨b6,0,none⟩,1,[s.kind]⟩ _ _ zCb zo) ?_;apply qb4∘Xar;refine q_c ?_ ?_<;>intro hc0;·
  apply (Xbg);refine Kv (M:=L) (U:=R) zod ?hp ?hL ?hR;case hp=>exact ⟨by simp at hc0;rw [U1,if_pos za],rfl,rfl⟩
  case hL=>exact zg
  case hR=>exact fun r h=>Ja (by simp [h])
 apply Xcl∘qcx;rintro v M U ⟨b12,rfl,rfl,hR12⟩;replace hR12:=hR12.symm;subst hR12;refine Jna (wd:=1) (len:=1) (cap:=1) (rows:=[Jk s.address]) (subs:=[]) rfl ze ze (fun r hr=>by rw [List.mem_singleton.1 hr];rfl) ze rfl yg ?_;refine q_l rfl (U9a 0 255 ⟨some ⟨b12,0,none⟩,1,[s.address]⟩ _ _ zCb zo) ?_;apply (Xda);refine Uda (k:=15) zmb (fun hg6=>?_) (fun hg6=>?_);·
  replace hg6:=qb hg6;iterate 3 refine Kea rfl rfl ?_
  apply Uqd∘qah;·
   skip
   (iterate 7 refine Kea rfl rfl ?_);apply Uqd∘Xar;refine K9 rfl ?_;apply (Xbg);refine Kv (M:=L) (U:=R) zod ?hp ?hL ?hR;case hp=>exact ⟨by rw [U1,if_neg zfa,if_neg zza],rfl,rfl⟩
   case hL=>exact zg
   case hR=>exact fun r h=>Ja (by simp [h])
 replace hg6:=qb hg6;refine Zt zFb rfl rfl ?_;apply (K1f);refine Zt zPc rfl rfl ?_;apply Uqd∘qah;refine Uda (k:=20) zmb (fun hg11=>?_) (fun hg11=>?_);·
  replace hg11:=qb hg11;iterate 7 refine Kea rfl rfl ?_
  apply Uqd∘Xar;refine K9 rfl ?_;apply (Xbg);refine Kv (M:=L) (U:=R) zod ?hp ?hL ?hR;case hp=>exact ⟨by rw [U1,if_neg zfa,if_neg zza],rfl,rfl⟩
  case hL=>exact zg
  case hR=>exact fun r h=>Ja (by simp [h])
 replace hg11:=qb hg11;refine Zt zFb rfl rfl ?_;apply (K1f);refine Zt zFb rfl rfl ?_;apply (K1f);refine V6c zyb rfl rfl ?_;rintro v M U ⟨b25,rfl,rfl,hR25⟩;replace hR25:=hR25.symm;subst hR25;refine Jna (wd:=1) (len:=2) (cap:=2) (rows:=[Jk s.offset,Jk s.scale]) (subs:=[]) rfl ze ze (fun r hr=>by simp only [yS,yP,or_false] at hr;rcases hr with rfl | rfl <;> rfl) ze rfl yg ?_;refine V7b rfl (U9a (-1000000) 1000000 ⟨some ⟨b25,0,none⟩,2,[s.offset,s.scale]⟩ _ _ zCb zo) rfl rfl ?_;rintro v M U ⟨rfl,rfl,rfl⟩;refine Zt (Kab rfl) rfl rfl ?_;apply Uqd∘Xar;refine q_c ?_ ?_<;>intro hc1;·
  apply (Xbg);refine Kv (M:=L) (U:=R) zod ?hp ?hL ?hR;case hp=>exact ⟨by rw [U1,if_neg zfa,if_neg zza],rfl,rfl⟩
  case hL=>exact zg
  case hR=>exact fun r h=>Ja (by simp [h])
 apply qae∘Xbe;refine Y3 zyb rfl ?_;rintro v M U ⟨b34,rfl,rfl,hR34⟩;replace hR34:=hR34.symm;subst hR34;refine Jna (wd:=1) (len:=2) (cap:=2) (rows:=[Jk s.error,Jk s.drift]) (subs:=[]) rfl ze ze (fun r hr=>by simp only [yS,yP,or_false] at hr;rcases hr with rfl | rfl <;> rfl) ze rfl yg ?_;refine q_l rfl (U9a 0 1000000 ⟨some ⟨b34,0,none⟩,2,[s.error,s.drift]⟩ _ _ zCb zo) ?_;apply (Xda);refine Uda (k:=37) zmb (fun hg8=>?_) (fun hg8=>?_);·
  replace hg8:=qb hg8;iterate 5 refine Kea rfl rfl ?_
  apply Uqd∘Xar;refine K9 rfl ?_;apply (Xbg);refine Kv (M:=L) (U:=R) zod ?hp ?hL ?hR;case hp=>exact ⟨by rw [U1,if_neg zfa,if_neg zWa],rfl,rfl⟩
  case hL=>exact zg
  case hR=>exact fun r h=>Ja (by simp [h])
 replace hg8:=qb hg8;refine Zt zFb rfl rfl ?_;apply (K1f);refine V6c zMb rfl rfl ?_;rintro v M U ⟨b40,rfl,rfl,hR40⟩;replace hR40:=hR40.symm;subst hR40;refine Jna (wd:=1) (len:=1) (cap:=1) (rows:=[Jk s.life]) (subs:=[]) rfl ze ze (fun r hr=>by rw [List.mem_singleton.1 hr];rfl) ze rfl yg ?_;refine V7b rfl (U9a 1 1000000 ⟨some ⟨b40,0,none⟩,1,[s.life]⟩ _ _ zCb zo) rfl rfl ?_;rintro v M U ⟨rfl,rfl,rfl⟩;refine Zt (Kab rfl) rfl rfl ?_;apply Uqd∘Xar;refine q_c ?_ ?_<;>intro hc2;·
  apply (Xbg);refine Kv (M:=L) (U:=R) zod ?hp ?hL ?hR;case hp=>exact ⟨by rw [U1,if_neg zfa,if_neg zWa],rfl,rfl⟩
  case hL=>exact zg
  case hR=>exact fun r h=>Ja (by simp [h])
 refine J3 (Jf (Jb (Jp (Jh ?_))));apply (Xai);refine Kv (M:=L) (U:=R) zod ?hp ?hL ?hR;case hp=>exact ⟨by simp at hc0 hg6 hc1 hg8 hc2;rw [U1,if_neg za,if_pos (by rw [Zn];omega)],rfl,rfl⟩
 case hL=>exact zg
 case hR=>exact fun r h=>Ja (by simp [h])
def Kve (k:Int) (L:LB) (R:LS):
 Tri Tryz.prog 98 [.int .i64 k].toArray L R (fun v M U=>v=.bool (decide (k=4∨k=5∨k=6))∧L=M∧R=U):=by
 refine Jd 13 Tryz.call98 Tryz.func98 rfl rfl rfl ?_;apply Xbh∘Xc9∘Xcc;apply Kd (G:=[_,_]) (j:=2) (cj:=5) rfl rfl zb rfl zmb rfl;·intro hg3;replace hg3:=qb hg3;exact (qaa) zKd
 intro junk3;apply (qah);apply Kd (G:=[_,_]) (j:=6) (cj:=9) rfl rfl zb rfl zmb rfl;·intro hg7;replace hg7:=qb hg7;exact (qaa) zKd
 intro junk7;apply (Xbk);refine q_b L R ?_;exact ⟨by refine congrArg Value.bool ?_;rw [yjb];simp;omega,rfl,rfl⟩
def Jre (s:XSens) (m:XMeas) (t:Int):Int:=(s.drift * (t - m.time) + 999).tdiv 1000
def Vvb (s:XSens) (m:XMeas) (t:Int):Prop:=U1 s≠0∨m.sensor < 0∨m.span=nothingS∨t < m.time∨s.life < t - m.time
instance (s:XSens) (m:XMeas) (t:Int):Decidable (Vvb s m t):=by unfold Vvb;infer_instance
def Vbf (s:XSens) (m:XMeas) (t:Int):XSpan:=⟨m.span.low - Jre s m t,m.span.high + Jre s m t⟩
def atS (s:XSens) (m:XMeas) (t:Int):XSpan:=
 if Vvb s m t then nothingS else if s.kind=4∨s.kind=5∨s.kind=6 then m.span
 else if s.kind=1∨s.kind=2 then ⟨max (Vbf s m t).low 0,max (Vbf s m t).high 0⟩ else Vbf s m t
def Uaa (m:XMeas):Prop:=(0≤m.time∧m.time≤2147483648)∧(-1125899906842624≤m.span.low∧m.span.low≤1125899906842624)∧(-1125899906842624≤m.span.high∧m.span.high≤1125899906842624)
def Usd {s:XSens} {m:XMeas} {t:Int} (h:¬ Vvb s m t):(0≤s.drift * (t - m.time)∧s.drift * (t - m.time)≤1000000000000)∧0≤Jre s m t∧Jre s m t≤1000000001:=by
 rw [Vvb] at h;have he:U1 s=0:=by omega
 rw [U1] at he;split at he;·omega
 split at he;·
  rename_i hs;rw [Zn] at hs;have h1:0≤t - m.time∧t - m.time≤1000000:=by omega
  have h2:0≤s.drift∧s.drift≤1000000:=by omega
  have h3:0≤s.drift * (t - m.time):=yT h2.1 h1.1;have h4:s.drift * (t - m.time)≤1000000 * 1000000:=yma h2.2 h1.2 h1.1 ze;refine ⟨⟨h3,by omega⟩,?_⟩;rw [Jre,yaa za];omega
 ·omega
def Jfc {a b:XSpan}:a=b↔a.low=b.low∧a.high=b.high:=by cases a;cases b;simp
def Vae (s:XSens) (m:XMeas) (t:Int) (L:LB) (R:LS) (hm:Uaa m) (ht:0≤t∧t≤2147483648):
 Tri Tryz.prog 33 [s.val,m.val,.int .i64 t].toArray L R (fun v M U=>v=(atS s m t).val∧L=M∧R=U):=by
 rw [Uaa] at hm;refine Jd 83 Tryz.call33 Tryz.func33 rfl rfl rfl ?_;apply (Xaf);intro b3;apply (qax);intro b4;apply (qaq);intro b6;apply (qam);refine q_l rfl (Ua _ _) ?_;apply (qaq);intro b7;apply (Xbc);refine Jy zvb rfl ?_;refine q_l rfl (Vna s _ _) ?_;apply (Xb3);apply Kd (G:=[_,_,_]) (j:=3) (cj:=14) rfl rfl zb rfl zmb rfl;·exact zxe
 intro junk4;apply (qah);apply Kd (G:=[_,_,_,_]) (j:=8) (cj:=19) rfl rfl zb rfl zmb rfl;·intro hg9;replace hg9:=qb hg9;apply Xd9∘qbe;refine Jy (Jcc Zgd rfl rfl) rfl ?_;exact qai
 intro junk9;apply (qah);apply Kd (G:=[_,_,_,_]) (j:=14) (cj:=25) rfl rfl zb rfl zmb rfl;·intro hg15;replace hg15:=qb hg15;exact (qaa) zHd
 intro junk15;apply (qah);apply Kd (G:=[_,_,_,_,_,_,_]) (j:=20) (cj:=31) rfl rfl zb rfl zmb rfl;·intro hg21;replace hg21:=qb hg21;exact (qaa∘Xaa∘qa9∘Xbr) qai
 intro junk21;apply (qaf);refine q_c ?_ ?_<;>intro hc0;·
  apply qae∘qbe∘Xdt;refine q_r L R zTc ?_;have hgo:Vvb s m t:=by simp [nothingS] at hc0;rw [Vvb,Jfc];simp only [nothingS];omega
  exact ⟨by rw [atS,if_pos hgo];try rfl,rfl,rfl⟩
 have hgo:¬ Vvb s m t:=by simp [nothingS] at hc0;rw [Vvb,Jfc];simp only [nothingS];omega
 obtain ⟨hb1,hb2⟩:=Usd hgo;rw [Jre] at hb2;apply (Xc2);refine q_l rfl (Kve _ _ _) ?_;apply (qaf);refine q_c ?_ ?_<;>intro hc1;·apply Xdr∘qbe∘Xdt;refine q_r L R zTc ?_;exact ⟨by rw [atS,if_neg hgo,if_pos zL],rfl,rfl⟩
 apply qbv∘Xah∘Xaa∘qa9∘qcm∘qar∘qdd∘Xag∘qab∘Xct∘qab∘Xah∘qar∘qcd∘qaq;intro b9;apply Xdl∘Xcc;apply Kd (G:=[_,_,_]) (j:=3) (cj:=69) rfl rfl zb rfl zmb rfl;·exact zre
 intro junk4;apply (qaf);refine q_c ?_ ?_<;>intro hc2;·apply qay∘Xaa;refine Jy zgc rfl ?_;apply (Xaa);refine Jy zgc rfl ?_;apply Xa5∘Xd7∘Xc5;refine q_r L R zTc ?_;exact ⟨by rw [atS,if_neg hgo,if_neg zL,if_pos za];try rfl,rfl,rfl⟩
 apply qbv∘Xc5;refine q_r L R zTc ?_;exact ⟨by rw [atS,if_neg hgo,if_neg zL,if_neg za];try rfl,rfl,rfl⟩
def U2b (l:List XSpan) (z:XSpan) (k:Nat):XSpan:=(l.take k).foldl (fun o x=>⟨max o.low x.low,min o.high x.high⟩) z
def Upd {l:List XSpan} {z:XSpan} {k:Nat} {x:XSpan} (h:l[k]?=some x):U2b l z (k + 1)=⟨max (U2b l z k).low x.low,min (U2b l z k).high x.high⟩:=by rw [U2b,yfa,h,yBa];rfl
def Z9b (x y:XSpan):XSpan:=⟨max x.low y.low,min x.high y.high⟩
def Uod (x y:XSpan):XSpan:=if (Z9b x y).high < (Z9b x y).low then nothingS else Z9b x y
def Jrf {x y:XSpan}:U2b [x,y] x 2=Z9b x y:=by simp [U2b,Z9b]
def Kkf (x y:XSpan) (p:Arr XSpan) (L:LB) (R:LS) (hp:InR (Kpe p) R) (he:p.l=[x,y]):
 Tri Tryz.prog 195 [p.val].toArray L R (fun v M U=>v=.tuple #[(Uod x y).val,.bool (decide ((Z9b x y).low≤(Z9b x y).high))]∧L=M∧R=U):=by
 have hpl:p.l.length=2:=by rw [he];rfl
 have hp0:p.l[0]?=some x:=by rw [he];rfl
 refine Jd 40 Tryz.call195 Tryz.func195 rfl rfl rfl ?_;apply (Xco);intro b2;apply qaz∘qaw∘Xaq∘Xbm;refine q_c ?_ ?_<;>intro hc0;·apply (qae);refine q_l rfl (Ua _ _) ?_;apply qak∘qaz∘qbh;refine q_r L R (Uo rfl zpb zcd) ?_;exact absurd hc0 za
 apply Xdy∘qdt∘Xea;intro b4;apply Xbc∘Xb5;refine Jl [(2,.pointer _),(4,.pointer _),(14,.slice _ _ _),(15,.int _ _),(16,.int _ _)] zh fun tq0=>?_;refine q_p ([6]++rg 16 17) ((⟨fun g=>[(16,.int .i64 ((g.1:Nat):Int))],fun g=>⟨b4,(U2b p.l x g.1).cells,90⟩ :: ⟨b2,[.int .i64 0,.int .i64 0],90⟩ :: L,fun _=>R,fun g=>p.l.length - g.1⟩:Head {g:Nat // g≤p.l.length})) (⟨0,by omega⟩) ?_;rintro ⟨k,hk⟩ junk;try dsimp only
 apply (Xan);refine q_c ?_ ?_<;>intro hc1;·have h1:=Jt (l:=p.l) (k:=k) default za;have hms:=Upd (z:=x) h1;apply qbb∘K5g∘Xea;intro b6;apply qak∘qaf;refine J5 tb [27,28,29] [0,1,2,3,4,5,6,7,8,9,10] [11,12,13] (_) _ Kr zc zg zQ ?_;apply Xaj∘Xaj;refine Kp zgc rfl rfl rfl rfl ?_;apply Xaj∘Xdh;refine Vf zHc rfl rfl rfl rfl ?_;apply Xeb∘qb6∘qal∘qb6∘qby∘Xae;exact Ki ⟨k + 1,by omega⟩ zm zh (by dsimp only;rw [hms];exact zs3 (zs2 (zs0 _))) zBb zu
 obtain rfl:k=p.l.length:=by omega
 have hmm:U2b p.l x p.l.length=Z9b x y:=by rw [hpl,he];exact Jrf
 rw [hmm];apply qcf∘Xbe∘Xca;refine q_c ?_ ?_<;>intro hc2;·apply (qae);refine q_l rfl (Ua _ _) ?_;apply qak∘qaz∘qbh;refine q_r L R (Uo rfl zpb zcd) ?_;exact ⟨by rw [Uod,if_pos za,decide_eq_false za],rfl,rfl⟩
 apply qbv∘qbe∘qak∘Xbk;refine q_r L R (Uo rfl zpb zcd) ?_;exact ⟨by rw [Uod,if_neg za,decide_eq_true za],rfl,rfl⟩
end Go.Proofs.YtchfclmokpbldaaGreat
