/-
  Checks: Plan, FanC, DoorC, BranchC, Rest, in one text. By an AI agent; no person has read it.
-/
import Derived.Test.YtchfclmokpbldaaGreatRun
set_option linter.all false
set_option maxHeartbeats 4000000
section
variable {A B:Prop}
def Jcc(h:A→B:=by exact J0 zP rfl):=h
def Kvd(h:A→B:=by exact J0 zja rfl):=h
def Vce(h:A→B:=by exact Kq (by first | exact Jf tb rfl rfl rfl rfl zB (i:=k0 - 1) zo zc | exact Jm tb rfl rfl rfl rfl (i:=k0 - 1) zo zc) rfl rfl rfl):=h
def Y7e(h:B:=by exact ⟨by rw [Kea,if_neg zc,if_neg zc,Ul hp0 zc (Vrb hp zc zc hq zc)];rfl,rfl,rfl⟩):=h
def Ybe(h:A→B:=by exact Kq zja rfl rfl rfl):=h
def Use(h:A→B:=by exact Kz zpb rfl rfl rfl rfl):=h
def Ucf(h:A→B:=by exact Kg tb [0,1,2,3,4,5,6,7,8,9,10] _ Kn zf ye):=h
def Jkg(h:B:=by exact ⟨by rw [Kea,if_neg zc,if_neg zc,Ul hp0 zc (Khc hp zc)];rfl,rfl,rfl⟩):=h
def Ygf(h:A→B:=by exact Kg tb [0,1,2,3,4,5,6,7,8,9,10,11,12,13,14,15,16,17,18,19,20,21,22,23,24,25] _ Kn zf ye):=h
def Zff(h:B:=by exact ⟨by rw [Zm zc hp0 zc (hde.trans (by rw [if_neg zc,if_pos zc]))],rfl,rfl⟩):=h
def Vff(h:B:=by exact ⟨by rw [Zm zc hp0 zc (hde.trans (by rw [Vi hp1 hr (if_pos zc)]))],rfl,rfl⟩):=h
def Vvf(h:A→B:=by exact J0 (by first | exact Jf tb rfl rfl rfl rfl zB (i:=d.other.toNat) zo zc | exact Jm tb rfl rfl rfl rfl (i:=d.other.toNat) zo zc) rfl):=h
def Keg(h:B:=by exact ⟨by rw [hr,Vta zc zc,Ul hp1 zc (he.trans (if_pos zc))];simp,rfl,rfl⟩):=h
def Klg(h:A→B:=by exact Kh tb [] [0,1,2,3,4,5,6,7,8,9,10] [11] (_) _ Kn zf zk zV):=h
end
section
namespace Go.Proofs.YtchfclmokpbldaaGreat
open Go.Aw Go
set_option maxRecDepth 20000
attribute [local irreducible] CJ LJ DJ Tri YV Gives U7 Kb Kp U8 RV Ke
def Vab (s:XSpan) (lo hi:Int):Bool:=decide (lo≤s.low) && (decide (s.low≤s.high) && decide (s.high≤hi))
def Kuc (s:XSpan) (lo hi:Int) (L:LB) (R:LS):
 Tri Tryz.prog 237 [s.val,.int .i64 lo,.int .i64 hi].toArray L R (fun v M U=>v=.bool (Vab s lo hi)∧L=M∧R=U):=by refine Jd 24 Tryz.call237 Tryz.func237 rfl rfl rfl ?_;exact uaE
def Y1 (p:XPlace):Option Int:=if p.height < -10000∨10000 < p.height then some 1 else none
def Vb (n:Nat) (r:XRoad):Option Int:=
 if r.fr < 0∨(n:Int)≤r.fr∨r.to < 0∨(n:Int)≤r.to∨r.fr=r.to then some 4
 else if r.len < 1∨100000 < r.len∨r.area < 1∨1000 < r.area∨Vab r.rest 1 262144=false∨Vab r.lift (-2199023255552) 2199023255552=false then some 1 else none
def Ui (m:XMine):Int:=
 if 64 < m.places.l.length∨128 < m.roads.l.length then 2
 else match m.places.l.findSome? Y1 with
  | some e=>e
  | none=>(m.roads.l.findSome? (Vb m.places.l.length)).getD 0
def J5b (m:XMine) (L:LB) (R:LS) (hm:MineR m R):
 Tri Tryz.prog 183 [m.val].toArray L R (fun v M U=>v=.int .i64 (Ui m)∧L=M∧R=U):=by
 have hpl:=hm.places;have hro:=hm.roads;refine Ua Tryz.call183 hpl fun hpn=>?_;refine Ua Tryz.call183 hro fun hrn=>?_;refine Jd 100 Tryz.call183 Tryz.func183 rfl rfl rfl ?_;apply (Xag);intro b1;apply Xau∘Xb5∘qah;apply J3 (G:=[_,_,_,_]) (j:=4) (cj:=12) rfl rfl ze rfl ztb rfl;·exact zVd
 intro junk5;apply (qaf);refine q_c ?_ ?_<;>intro hc0;·apply (Xa1);refine q_i L R ?_;exact ⟨by simp [Ui];omega,rfl,rfl⟩
 apply (Xd8);refine Jh [(1,.pointer _),(19,.slice _ _ _),(20,.int _ _),(21,.int _ _)] zg fun tq0=>?_;refine q_p ([2,4]++rg 21 13) ((⟨fun g=>[(21,.int .i64 ((g.1:Nat):Int))],fun _=>⟨b1,m.cells,28⟩ :: L,fun _=>R,fun g=>m.places.l.length - g.1⟩:Head (FS Y1 m.places.l))) (⟨0,Yk _ _⟩) ?_;rintro ⟨k,hk,hkeep⟩ junk;try dsimp only
 apply (Xay);refine q_c ?_ ?_<;>intro hc1;·
  obtain ⟨x,hx⟩:=Ki (l:=m.places.l) (k:=k) zc;apply qbb∘qa3∘Xei;intro b4;apply Xbe∘Xa7;apply J3 (G:=[_,_,_]) (j:=3) (cj:=28) rfl rfl ze rfl ztb rfl;·exact zJd
  intro junk4;apply (qaf);refine q_c ?_ ?_<;>intro hc2;·apply (Xbr);refine q_i L R ?_;exact ⟨by simp [Ui,Vi hkeep hx (show Y1 x=some 1 by simp [Y1];omega)];omega,rfl,rfl⟩
  apply (Xbk);exact q_k ⟨k + 1,Ya hkeep hx (by simp [Y1];omega)⟩
 have hp:=V9 hkeep zc;apply qbk∘Xab∘Xau∘Xbh;refine Jh [(5,.int _ _),(38,.slice _ _ _),(39,.int _ _),(40,.int _ _)] zg fun tq1=>?_;refine q_p ([2,7]++rg 40 60) ((⟨fun g=>[(40,.int .i64 ((g.1:Nat):Int))],fun _=>⟨b1,m.cells,28⟩ :: L,fun _=>R,fun g=>m.roads.l.length - g.1⟩:Head (FS (Vb m.places.l.length) m.roads.l))) (⟨0,Yk _ _⟩) ?_;rintro ⟨k2,hk2,hkeep2⟩ junk;try dsimp only
 apply (Xay);refine q_c ?_ ?_<;>intro hc3;·
  obtain ⟨y,hy⟩:=Ki (l:=m.roads.l) (k:=k2) zc;apply qbb∘qa3∘Xeo;intro b7;apply Xbi∘Xa7;apply J3 (G:=[_,_,_,_]) (j:=3) (cj:=47) rfl rfl ze rfl ztb rfl;·exact zUf
  intro junk4;apply (qah);apply J3 (G:=[_,_,_]) (j:=9) (cj:=53) rfl rfl ze rfl ztb rfl;·intro hg10;replace hg10:=qb hg10;exact zge
  intro junk10;apply (qah);apply J3 (G:=[_,_,_,_]) (j:=14) (cj:=58) rfl rfl ze rfl ztb rfl;·intro hg15;replace hg15:=qb hg15;exact (Xaf) zie
  intro junk15;apply (qah);apply J3 (G:=[_,_,_,_,_]) (j:=20) (cj:=64) rfl rfl ze rfl ztb rfl;·intro hg21;replace hg21:=qb hg21;exact (Xbl) zme
  intro junk21;apply (qaf);refine q_c ?_ ?_<;>intro hc4;·apply (Xco);refine q_i L R ?_;exact ⟨by simp [Ui,hp,Vi hkeep2 hy (show Vb m.places.l.length y=some 4 by simp [Vb];omega)];omega,rfl,rfl⟩
  apply qbo∘Xa7;apply J3 (G:=[_,_,_]) (j:=3) (cj:=74) rfl rfl ze rfl ztb rfl;·exact zJd
  intro junk4;apply (qah);apply J3 (G:=[_,_,_]) (j:=8) (cj:=79) rfl rfl ze rfl ztb rfl;·exact zde
  intro junk9;apply (qah);apply J3 (G:=[_,_,_]) (j:=13) (cj:=84) rfl rfl ze rfl ztb rfl;·exact zQf
  intro junk14;apply (qaf);refine q_c ?_ ?_<;>intro hc5;·apply (Xco);refine q_i L R ?_;exact ⟨by simp [Ui,hp,Vi hkeep2 hy (show Vb m.places.l.length y=some 1 by rw [Vb,if_neg zc,if_pos zc])];omega,rfl,rfl⟩
  apply qbv∘Xc4;refine q_l rfl (Kuc y.rest _ _ _ _) ?_;apply (Xdd);apply J3 (G:=[_,_,_,_]) (j:=4) (cj:=93) rfl rfl ze rfl ztb rfl;·intro hg5;replace hg5:=qb hg5;apply (Xc4);refine q_l rfl (Kuc y.lift _ _ _ _) ?_;exact (qb4) qai
  intro junk5;apply (qaf);refine q_c ?_ ?_<;>intro hc6;·apply (Xbr);refine q_i L R ?_;exact ⟨by simp [Ui,hp,Vi hkeep2 hy (show Vb m.places.l.length y=some 1 by rw [Vb,if_neg zc,if_pos (by rcases hc6 with h | h <;> simp [h])])];omega,rfl,rfl⟩
  apply (Xbk);exact q_k ⟨k2 + 1,Ya hkeep2 hy (by rw [Vb,if_neg zc,if_neg (by simp [hc6];omega)])⟩
 have hq:=V9 hkeep2 zc;apply (Xca);refine q_i L R ?_;exact ⟨by simp [Ui,hp,hq];omega,rfl,rfl⟩
def J7c (s:XSpan) (lo hi:Int) (L:LB) (R:LS):
 Tri Tryz.prog 283 [s.val,.int .i64 lo,.int .i64 hi].toArray L R (fun v M U=>v=.bool (Vab s lo hi)∧L=M∧R=U):=by refine Jd 24 Tryz.call283 Tryz.func283 rfl rfl rfl ?_;exact uaE
def Jbc (m:XMine) (L:LB) (R:LS) (hm:MineR m R):
 Tri Tryz.prog 247 [m.val].toArray L R (fun v M U=>v=.int .i64 (Ui m)∧L=M∧R=U):=by
 have hpl:=hm.places;have hro:=hm.roads;refine Ua Tryz.call247 hpl fun hpn=>?_;refine Ua Tryz.call247 hro fun hrn=>?_;refine Jd 109 Tryz.call247 Tryz.func247 rfl rfl rfl ?_;apply (Xag);intro b1;apply Xau∘Xb5∘qah;apply J3 (G:=[_,_,_,_]) (j:=4) (cj:=11) rfl rfl ze rfl ztb rfl;·exact zVd
 intro junk5;apply (qaf);refine q_c ?_ ?_<;>intro hc0;·apply (Xa1);refine q_i L R ?_;exact ⟨by simp [Ui];omega,rfl,rfl⟩
 apply (Xcj);refine Jh [(1,.pointer _),(3,.int _ _)] zg fun tq0=>?_;refine q_s ([2,3,4]++rg 17 19) (fun g:FS (Y1) (m.places.l)=>[(3,.int .i64 ((g.1:Nat):Int))]) (fun g=>(m.places.l).length - g.1) ⟨0,Yk _ _⟩ ?_;rintro ⟨k0,hk0,hp0⟩ junk;try dsimp only
 apply (Xbm);refine q_c ?_ ?_<;>intro hc1;·
  obtain ⟨x,hx⟩:=Ki (l:=m.places.l) (k:=k0) zc;apply Xcz∘Jcc∘Xbd∘Xa2∘Xas;apply J3 (G:=[_,_]) (j:=2) (cj:=32) rfl rfl ze rfl ztb rfl;·exact zPd
  intro junk3;apply (qaf);refine q_c ?_ ?_<;>intro hc2;·apply (Xbr);refine q_i L R ?_;exact ⟨by simp [Ui,Vi hp0 hx (show Y1 x=some 1 by simp [Y1];omega)];omega,rfl,rfl⟩
  apply (Xa4);exact q_k ⟨k0 + 1,Ya hp0 hx (by simp [Y1];omega)⟩
 have hn0:=V9 hp0 zc;apply (Xdl);refine Jh [(1,.pointer _),(5,.int _ _)] zg fun tq1=>?_;refine q_s ([2,5,6]++rg 36 73) (fun g:FS (Vb m.places.l.length) (m.roads.l)=>[(5,.int .i64 ((g.1:Nat):Int))]) (fun g=>(m.roads.l).length - g.1) ⟨0,Yk _ _⟩ ?_;rintro ⟨k1,hk1,hp1⟩ junk;try dsimp only
 apply (Xbm);refine q_c ?_ ?_<;>intro hc3;·
  obtain ⟨y,hy⟩:=Ki (l:=m.roads.l) (k:=k1) zc;apply Xcz∘Kvd∘Xeo;intro b6;apply Xbi∘Xa7;apply J3 (G:=[_,_,_,_,_,_]) (j:=3) (cj:=51) rfl rfl ze rfl ztb rfl;·exact zje
  intro junk4;apply (qah);apply J3 (G:=[_,_,_]) (j:=11) (cj:=59) rfl rfl ze rfl ztb rfl;·intro hg12;replace hg12:=qb hg12;exact zge
  intro junk12;apply (qah);apply J3 (G:=[_,_,_,_,_,_]) (j:=16) (cj:=64) rfl rfl ze rfl ztb rfl;·intro hg17;replace hg17:=qb hg17;exact (Xaa∘Xdp) qai
  intro junk17;apply (qah);apply J3 (G:=[_,_,_,_,_]) (j:=24) (cj:=72) rfl rfl ze rfl ztb rfl;·intro hg25;replace hg25:=qb hg25;exact (Xbl) zme
  intro junk25;apply (qaf);refine q_c ?_ ?_<;>intro hc4;·apply (Xco);refine q_i L R ?_;exact ⟨by simp [Ui,hn0,Vi hp1 hy (show Vb m.places.l.length y=some 4 by simp [Vb];omega)];omega,rfl,rfl⟩
  apply qbv∘Xa7;apply J3 (G:=[_,_,_]) (j:=3) (cj:=82) rfl rfl ze rfl ztb rfl;·exact zJd
  intro junk4;apply (qah);apply J3 (G:=[_,_,_]) (j:=8) (cj:=87) rfl rfl ze rfl ztb rfl;·exact zde
  intro junk9;apply (qah);apply J3 (G:=[_,_,_]) (j:=13) (cj:=92) rfl rfl ze rfl ztb rfl;·exact zQf
  intro junk14;apply (qah);apply J3 (G:=[_,_,_,_]) (j:=18) (cj:=97) rfl rfl ze rfl ztb rfl;·intro hg19;replace hg19:=qb hg19;apply (Xc4);refine q_l rfl (J7c y.rest _ _ _ _) ?_;exact (qb4) qai
  intro junk19;apply (qah);apply J3 (G:=[_,_,_,_]) (j:=24) (cj:=103) rfl rfl ze rfl ztb rfl;·intro hg25;replace hg25:=qb hg25;apply (Xc4);refine q_l rfl (J7c y.lift _ _ _ _) ?_;exact (qb4) qai
  intro junk25;apply (qaf);refine q_c ?_ ?_<;>intro hc5;·apply (Xbr);refine q_i L R ?_;exact ⟨by simp [Ui,hn0,Vi hp1 hy (show Vb m.places.l.length y=some 1 by rw [Vb,if_neg zc,if_pos (by simpa [or_assoc] using hc5)])];omega,rfl,rfl⟩
  apply (Xa4);exact q_k ⟨k1 + 1,Ya hp1 hy (by rw [Vb,if_neg zc,if_neg (by simpa [and_assoc] using hc5)])⟩
 have hn1:=V9 hp1 zc;apply (Xca);refine q_i L R ?_;exact ⟨by simp [Ui,hn0,hn1];omega,rfl,rfl⟩
end Go.Proofs.YtchfclmokpbldaaGreat
end
section
namespace Go.Proofs.YtchfclmokpbldaaGreat
open Go.Aw Go
set_option maxRecDepth 20000
attribute [local irreducible] CJ LJ DJ Tri YV Gives U7 Kb Kp U8 RV Ke
def Yn (l:List XPoint) (i:Nat):Option Int:=
 match l[i]? with
 | none=>none
 | some p => if p.flow < -1048576 ∨ 1048576 < p.flow ∨ p.pres < 0 ∨ 2199023255552 < p.pres then some 1
  else if i=0 then none
  else match l[i - 1]? with
   | none=>none
   | some q=>if p.flow≤q.flow∨q.pres < p.pres then some 14 else none
def Kea (f:XFan):Int:=
 if f.road < 0 then 4 else if f.curve.l.length < 1∨8 < f.curve.l.length then 2
 else ((List.range f.curve.l.length).findSome? (Yn f.curve.l)).getD 0
def Khc {l:List XPoint} {k:Nat} {p:XPoint} (h:l[k]?=some p) (hr:p.flow < -1048576∨1048576 < p.flow∨p.pres < 0∨2199023255552 < p.pres):Yn l k=some 1:=by simp only [Yn,h,if_pos hr]
def Vrb {l:List XPoint} {k:Nat} {p q:XPoint} (h:l[k]?=some p) (hr:¬ (p.flow < -1048576∨1048576 < p.flow∨p.pres < 0∨2199023255552 < p.pres)) (hk:k≠0) (h':l[k - 1]?=some q) (hb:p.flow≤q.flow∨q.pres < p.pres):Yn l k=some 14:=by simp only [Yn,h,if_neg hr,if_neg hk,h',if_pos hb]
def Zca {l:List XPoint} {k:Nat} {p:XPoint} (h:l[k]?=some p) (hr:¬ (p.flow < -1048576∨1048576 < p.flow∨p.pres < 0∨2199023255552 < p.pres)) (hk:k=0):Yn l k=none:=by simp only [Yn,h,if_neg hr,if_pos hk]
def Y4a {l:List XPoint} {k:Nat} {p q:XPoint} (h:l[k]?=some p) (hr:¬ (p.flow < -1048576∨1048576 < p.flow∨p.pres < 0∨2199023255552 < p.pres)) (hk:k≠0) (h':l[k - 1]?=some q) (hb:¬ (p.flow≤q.flow∨q.pres < p.pres)):Yn l k=none:=by simp only [Yn,h,if_neg hr,if_neg hk,h',if_neg hb]
def V8c (f:XFan) (L:LB) (R:LS) (hm:InR f.sl R):
 Tri Tryz.prog 184 [f.val].toArray L R (fun v M U=>v=.int .i64 (Kea f)∧L=M∧R=U):=by
 refine Ua Tryz.call184 hm fun hpn=>?_;refine Jd 71 Tryz.call184 Tryz.func184 rfl rfl rfl ?_;apply (Xag);intro b1;apply Xeh∘Xao;refine q_c ?_ ?_<;>intro hc0;·apply (Xa1);refine q_i L R ?_;exact ⟨by rw [Kea,if_pos zc],rfl,rfl⟩
 apply qbo∘Xab∘Xas;apply J3 (G:=[_,_,_,_]) (j:=4) (cj:=12) rfl rfl ze rfl ztb rfl;·exact zVd
 intro junk5;apply (qaf);refine q_c ?_ ?_<;>intro hc1;·exact ubL
 apply (Xd8);refine Jh [(1,.pointer _),(19,.slice _ _ _),(20,.int _ _),(21,.int _ _)] zg fun tq0=>?_;refine q_s ([2,3,4]++rg 21 50) (fun g:FSR (Yn f.curve.l) (f.curve.l.length)=>[(21,.int .i64 ((g.1:Nat):Int))]) (fun g=>(f.curve.l.length) - g.1) ⟨0,Yh _ _⟩ ?_;rintro ⟨k0,hk0,hp0⟩ junk;try dsimp only
 apply (Xay);refine q_c ?_ ?_<;>intro hc2;·
  obtain ⟨p,hp⟩:=Ki (l:=f.curve.l) (k:=k0) zc;apply Xbv∘Jcc∘Xei;intro b4;apply qad∘Xbi∘Xa7;apply J3 (G:=[_,_,_]) (j:=3) (cj:=29) rfl rfl ze rfl ztb rfl;·exact zJd
  intro junk4;apply (qah);apply J3 (G:=[_,_,_]) (j:=8) (cj:=34) rfl rfl ze rfl ztb rfl;·exact zde
  intro junk9;apply (qah);apply J3 (G:=[_,_,_]) (j:=13) (cj:=39) rfl rfl ze rfl ztb rfl;·exact zQf
  intro junk14;apply (qaf);refine q_c ?_ ?_<;>intro hc3;·apply (Xco);refine q_i L R ?_;exact Jkg
  apply qcl∘Ygf∘qao;refine Kq zKc rfl rfl rfl ?_;apply (qb2);refine U9 (k:=46) ztb (fun hg2=>?_) (fun hg2=>?_);·
   replace hg2:=qb hg2;obtain ⟨q,hq⟩:=Ki (l:=f.curve.l) (k:=k0 - 1) zc;apply Xae∘Xa8∘qb7∘Vce∘qce∘qbl;refine Kq (Vbd rfl rfl) rfl rfl rfl ?_;apply (qb2);refine U9 (k:=57) ztb (fun hg13=>?_) (fun hg13=>?_);·exact zLe
   replace hg13:=qb hg13;apply Xae∘Xa8∘qb7∘Vce∘qce∘qbl;refine Kq zKc rfl rfl rfl ?_;apply qbp∘Xbt;refine q_c ?_ ?_<;>intro hc4;·apply (Xbr);refine q_i L R ?_;exact Y7e
   apply (Xbk);exact ubu
  replace hg2:=qb hg2;iterate 22 apply (qap)
  apply (Xbt);refine Vy rfl ?_;apply (Xbk);exact ubu
 exact zbf
def Z9b (f:XFan) (L:LB) (R:LS) (hm:InR f.sl R):
 Tri Tryz.prog 248 [f.val].toArray L R (fun v M U=>v=.int .i64 (Kea f)∧L=M∧R=U):=by
 refine Ua Tryz.call248 hm fun hpn=>?_;refine Jd 74 Tryz.call248 Tryz.func248 rfl rfl rfl ?_;apply (Xag);intro b1;apply Xeh∘Xao;refine q_c ?_ ?_<;>intro hc0;·apply (Xa1);refine q_i L R ?_;exact ⟨by rw [Kea,if_pos zc],rfl,rfl⟩
 apply qbo∘Xab∘Xas;apply J3 (G:=[_,_,_,_]) (j:=4) (cj:=12) rfl rfl ze rfl ztb rfl;·exact zVd
 intro junk5;apply (qaf);refine q_c ?_ ?_<;>intro hc1;·exact ubL
 apply (Xcj);refine Jh [(1,.pointer _),(3,.int _ _)] zg fun tq0=>?_;refine q_s ([2,3,4]++rg 18 56) (fun g:FSR (Yn f.curve.l) (f.curve.l.length)=>[(3,.int .i64 ((g.1:Nat):Int))]) (fun g=>(f.curve.l.length) - g.1) ⟨0,Yh _ _⟩ ?_;rintro ⟨k0,hk0,hp0⟩ junk;try dsimp only
 apply (Xbm);refine q_c ?_ ?_<;>intro hc2;·
  obtain ⟨p,hp⟩:=Ki (l:=f.curve.l) (k:=k0) zc;apply Xcz∘Jcc∘Xei;intro b4;apply Xbi∘Xa7;apply J3 (G:=[_,_,_]) (j:=3) (cj:=33) rfl rfl ze rfl ztb rfl;·exact zJd
  intro junk4;apply (qah);apply J3 (G:=[_,_,_]) (j:=8) (cj:=38) rfl rfl ze rfl ztb rfl;·exact zde
  intro junk9;apply (qah);apply J3 (G:=[_,_,_]) (j:=13) (cj:=43) rfl rfl ze rfl ztb rfl;·exact zQf
  intro junk14;apply (qaf);refine q_c ?_ ?_<;>intro hc3;·apply (Xco);refine q_i L R ?_;exact Jkg
  apply qcl∘Ygf∘qao;refine Kq zKc rfl rfl rfl ?_;apply (qb2);refine U9 (k:=50) ztb (fun hg2=>?_) (fun hg2=>?_);·
   replace hg2:=qb hg2;obtain ⟨q,hq⟩:=Ki (l:=f.curve.l) (k:=k0 - 1) zc;apply Xae∘Xa8∘qb7∘Vce∘qce∘qbl;refine Kq (Vbd rfl rfl) rfl rfl rfl ?_;apply (qb2);refine U9 (k:=61) ztb (fun hg13=>?_) (fun hg13=>?_);·exact zLe
   replace hg13:=qb hg13;apply Xae∘Xa8∘qb7∘Vce∘qce∘qbl;refine Kq zKc rfl rfl rfl ?_;apply qbp∘Xbt;refine q_c ?_ ?_<;>intro hc4;·apply (Xbr);refine q_i L R ?_;exact Y7e
   apply (Xa4);exact ubu
  replace hg2:=qb hg2;iterate 22 apply (qap)
  apply (Xbt);refine Vy rfl ?_;apply (Xa4);exact ubu
 exact zbf
end Go.Proofs.YtchfclmokpbldaaGreat
end
section
namespace Go.Proofs.YtchfclmokpbldaaGreat
open Go.Aw Go
set_option maxRecDepth 20000
attribute [local irreducible] CJ LJ DJ Tri YV Gives U7 Kb Kp U8 RV Ke
def Yla (x:Int):Option Int:=if x < 0∨262144 < x then some 1 else none
def Yv (l : List Int) : Nat → Bool
 | 0=>true
 | k + 1=>Yv l k && (decide (k=0) || decide (l.getD k 0 < l.getD (k - 1) 0))
def J8e {l:List Int} {k n:Nat} (h:k≤n) (hf:Yv l n=true):Yv l k=true:=by
 induction n with
 | zero=>rw [show k=0 by omega];rfl
 | succ n ih=>
  rcases yk k (n + 1) with h' | h';·simp only [Yv,yo] at hf;exact ih zc hf.1
  ·rw [show k=n + 1 by omega];exact hf
def Knd {l:List Int} {k:Nat} {x:Int} (hx:l[k]?=some x):(Yv l k && (decide ((k:Int)=0) || decide (x < l.getD (k - 1) 0)))=Yv l (k + 1):=by rw [Yv,getD_some hx];congr 2;simp only [decide_eq_decide];omega
def Yyd {l:List Int} {k n:Nat} {x y:Int} (hk:k < n) (h0:k≠0) (hx:l[k]?=some x) (hy:l[k - 1]?=some y) (h:y≤x):Yv l n=false:=by
 rcases hb:Yv l n with _ | _;·rfl
 ·have := J8e (show k + 1 ≤ n from hk) hb;simp only [Yv,yo,yab,decide_eq_true_eq,getD_some hx,getD_some hy] at this;omega
def K8d {l:List Int} {k:Nat} {x y:Int} (h0:k≠0) (hx:l[k]?=some x) (hy:l[k - 1]?=some y):Yv l (k + 1)=(Yv l k && decide (x < y)):=by rw [Yv,getD_some hx,getD_some hy];simp [h0]
abbrev Kxb (l:List XDoor) (i:Nat) (d:XDoor):Prop:=
 d.other≠-1∧(d.other < 0∨(l.length:Int)≤d.other∨d.other=(i:Int)∨(l.getD d.other.toNat default).other≠(i:Int))
def Jga (l:List XDoor) (i:Nat):Option Int:=
 match l[i]? with
 | none=>none
 | some d => if d.road < 0 then some 4 else if d.rests.l.length < 2 ∨ 6 < d.rests.l.length then some 2
  else match d.rests.l.findSome? Yla with
   | some e=>some e
   | none=>if Yv d.rests.l d.rests.l.length=false then some 15 else if Kxb l i d then some 15 else none
def Vo (l:List XDoor):Int:=if 16 < l.length then 2 else ((List.range l.length).findSome? (Jga l)).getD 0
def Yya {l : List XDoor} {i : Nat} {d : XDoor} (h : l[i]? = some d) : Jga l i = if d.road < 0 then some 4 else if d.rests.l.length < 2 ∨ 6 < d.rests.l.length then some 2
 else match d.rests.l.findSome? Yla with
  | some e=>some e
  | none=>if Yv d.rests.l d.rests.l.length=false then some 15 else if Kxb l i d then some 15 else none:=by rw [Jga,h]
def Zm {l:List XDoor} {k:Nat} {e:Int} (h16:¬ 16 < l.length) (hp:(List.range l.length).findSome? (Jga l)=((List.range l.length).drop k).findSome? (Jga l)) (hk:k < l.length) (h:Jga l k=some e):Vo l=e:=by rw [Vo,if_neg h16,Ul hp hk h];rfl
def K6c (x:Arr XDoor) (L:LB) (R:LS) (hm:InR (dsl x) R):
 Tri Tryz.prog 185 [x.val].toArray L R (fun v M U=>v=.int .i64 (Vo x.l)∧L=M∧R=U):=by
 refine Ua Tryz.call185 hm fun hpn=>?_;refine Jd 95 Tryz.call185 Tryz.func185 rfl rfl rfl ?_;apply Xac∘qaw∘Xaq∘Xdq;refine q_c ?_ ?_<;>intro hc0;·apply (Xa1);refine q_i L R ?_;exact ⟨by rw [Vo,if_pos zc],rfl,rfl⟩
 apply qbo∘Xdn;refine Jh [(0,.slice _ _ _),(11,.slice _ _ _),(12,.int _ _),(13,.int _ _)] zg fun tq0=>?_;refine q_s (rg 2 6++rg 13 82) (fun g:FSR (Jga x.l) (x.l.length)=>[(13,.int .i64 ((g.1:Nat):Int))]) (fun g=>(x.l.length) - g.1) ⟨0,Yh _ _⟩ ?_;rintro ⟨k0,hk0,hp0⟩ junk;try dsimp only
 apply (Xay);refine q_c ?_ ?_<;>intro hc1;·
  obtain ⟨d,hd⟩:=Ki (l:=x.l) (k:=k0) zc;have hdr:=InR.door hm hd;have hde:=Yya hd;apply Xbv∘Jcc∘qdk∘qaq;intro b4;apply qad∘Xdz∘Xao;refine q_c ?_ ?_<;>intro hc2;·exact zof
  apply qbo∘Xab∘Xas;apply J3 (G:=[_,_,_,_]) (j:=4) (cj:=25) rfl rfl ze rfl ztb rfl;·exact zVd
  intro junk5;apply (qaf);refine q_c ?_ ?_<;>intro hc3;·apply (Xco);refine q_i L R ?_;exact Zff
  rw [if_neg zc,if_neg zc] at hde;apply qbv∘Xdm∘Xbh;refine Uh (rg 2 6++rg 13 82) zG [(3,.int _ _),(4,.pointer _),(5,.bool _),(13,.int _ _),(32,.slice _ _ _),(33,.int _ _),(34,.int _ _)] zg fun tq1=>?_;refine q_s ([2,5,6,7]++rg 34 27) (fun g:FS (Yla) (d.rests.l)=>[(34,.int .i64 ((g.1:Nat):Int)),(5,.bool (Yv d.rests.l g.1))]) (fun g=>(d.rests.l).length - g.1) ⟨0,Yk _ _⟩ ?_;rintro ⟨k1,hk1,hp1⟩ junk;try dsimp only
  apply (Xay);refine q_c ?_ ?_<;>intro hc4;·
   obtain ⟨r,hr⟩:=Ki (l:=d.rests.l) (k:=k1) zc;apply Xbv∘Kvd∘qa7∘qad∘Xau∘Xcf;apply J3 (G:=[_,_]) (j:=2) (cj:=41) rfl rfl ze rfl ztb rfl;·exact zPd
   intro junk3;apply (qaf);refine q_c ?_ ?_<;>intro hc5;·apply (Xac);refine J6 (Ja (Ud (J1 (Jv (J1 (K9 (Jv (J1 (Jv (J1 (K9 (Jv (J1 ?_)))))))))))));refine q_i L R ?_;exact Vff
   refine Jt (Ja (Je ?_));apply qah∘qah;apply Ue (G:=[_,_,_,_,_,_,_,_,_,_,_,_]) (j:=1) (cj:=46) rfl rfl ze rfl ztb rfl;·
    intro hg2;replace hg2:=qb hg2;apply qaa∘Xcn;apply J3 (G:=[_,_,_,_,_,_,_,_]) (j:=4) (cj:=49) rfl rfl ze rfl ztb rfl;·intro hg5;replace hg5:=qb hg5;have hy:=Js (l:=d.rests.l) (k:=k1 - 1) 0 zc;apply qaa∘Xd5;refine J0 (by first | exact Jf tb rfl rfl rfl rfl zB (i:=k1 - 1) zo zc | exact Jm tb rfl rfl rfl rfl (i:=k1 - 1) zo zc) rfl ?_;exact (qa7) zJe
    intro junk5;exact qai
   intro junk2;apply qaz∘Xb1;exact Ka ⟨k1 + 1,Ya hp1 hr (if_neg zc)⟩ zp ⟨rfl,congrArg Value.bool (Knd hr),trivial⟩ zk zJb zt
  have hn1:=V9 hp1 zc;obtain rfl:k1=d.rests.l.length:=by omega
  rw [hn1] at hde;dsimp only at hde;apply qcf∘Xec;refine q_c ?_ ?_<;>intro hc6;·apply (Xco);refine q_i L R ?_;exact ⟨by rw [Zm zc hp0 zc (hde.trans (by rw [if_pos hc6]))],rfl,rfl⟩
  rw [if_neg (by simp [hc6])] at hde;apply qbv∘Xaa∘Xb8;apply Ue (G:=[_,_,_,_,_,_,_,_,_,_,_,_,_,_,_,_,_,_,_,_,_,_,_,_,_,_]) (j:=3) (cj:=66) rfl rfl ze rfl ztb rfl;·
   intro hg4;replace hg4:=qb hg4;apply (Xa7);apply J3 (G:=[_,_,_,_,_]) (j:=7) (cj:=70) rfl rfl ze rfl ztb rfl;·intro hg8;replace hg8:=qb hg8;exact (Xaa∘Xek) qai
   intro junk8;apply (qah);apply J3 (G:=[_,_,_,_]) (j:=14) (cj:=77) rfl rfl ze rfl ztb rfl;·intro hg15;replace hg15:=qb hg15;exact (Xaf) zme
   intro junk15;apply (qah);apply J3 (G:=[_,_,_,_,_,_,_,_]) (j:=20) (cj:=83) rfl rfl ze rfl ztb rfl;·exact zVf
   intro junk21;exact qai
  intro junk4;apply (qaf);refine q_c ?_ ?_<;>intro hc7;·exact zgf
  apply (Xbk);exact q_k ⟨k0 + 1,Va hp0 zc (hde.trans (if_neg zc))⟩
 exact zkf
def Z6b (x:Arr XDoor) (L:LB) (R:LS) (hm:InR (dsl x) R):
 Tri Tryz.prog 249 [x.val].toArray L R (fun v M U=>v=.int .i64 (Vo x.l)∧L=M∧R=U):=by
 refine Ua Tryz.call249 hm fun hpn=>?_;refine Jd 104 Tryz.call249 Tryz.func249 rfl rfl rfl ?_;apply Xac∘qaw∘Xaq∘Xdq;refine q_c ?_ ?_<;>intro hc0;·apply (Xa1);refine q_i L R ?_;exact ⟨by rw [Vo,if_pos zc],rfl,rfl⟩
 apply (Xcj);refine Jh [(0,.slice _ _ _),(3,.int _ _)] zg fun tq0=>?_;refine q_s ([2,3,4,5,6]++rg 10 94) (fun g:FSR (Jga x.l) (x.l.length)=>[(3,.int .i64 ((g.1:Nat):Int))]) (fun g=>(x.l.length) - g.1) ⟨0,Yh _ _⟩ ?_;rintro ⟨k0,hk0,hp0⟩ junk;try dsimp only
 apply (Xcr);refine q_c ?_ ?_<;>intro hc1;·
  obtain ⟨d,hd⟩:=Ki (l:=x.l) (k:=k0) zc;have hdr:=InR.door hm hd;have hde:=Yya hd;apply qbb∘Xaj∘Jcc∘qdk∘qaq;intro b4;apply Xdz∘Xao;refine q_c ?_ ?_<;>intro hc2;·exact zof
  apply qbo∘Xab∘Xas;apply J3 (G:=[_,_,_,_]) (j:=4) (cj:=27) rfl rfl ze rfl ztb rfl;·exact zVd
  intro junk5;apply (qaf);refine q_c ?_ ?_<;>intro hc3;·apply (Xco);refine q_i L R ?_;exact Zff
  rw [if_neg zc,if_neg zc] at hde;apply (Xcj);refine Uh ([2,3,4,5,6]++rg 10 94) zG [(3,.int _ _),(4,.pointer _),(5,.int _ _)] zg fun tq1=>?_;refine q_s ([2,5]++rg 33 21) (fun g:FS (Yla) (d.rests.l)=>[(5,.int .i64 ((g.1:Nat):Int))]) (fun g=>(d.rests.l).length - g.1) ⟨0,Yk _ _⟩ ?_;rintro ⟨k1,hk1,hp1⟩ junk;try dsimp only
  apply (Xbm);refine q_c ?_ ?_<;>intro hc4;·
   obtain ⟨r,hr⟩:=Ki (l:=d.rests.l) (k:=k1) zc;apply Xcz∘Kvd∘qa7∘Xas;apply J3 (G:=[_,_,_,_,_,_]) (j:=6) (cj:=46) rfl rfl ze rfl ztb rfl;·intro hg7;replace hg7:=qb hg7;exact (Xaf∘Kvd∘qa7) zpf
   intro junk7;apply (qaf);refine q_c ?_ ?_<;>intro hc5;·apply (Xac);refine J6 (Ja (Ud (Jv (J1 (K9 (Jv (J1 (Jv (J1 (K9 (Jv (J1 ?_))))))))))));refine q_i L R ?_;exact Vff
   apply (Xa4);exact q_k ⟨k1 + 1,Ya hp1 hr (if_neg zc)⟩
  have hn1:=V9 hp1 zc;rw [hn1] at hde;dsimp only at hde;apply (Xdl);refine Uh ([2,3,4,5,6]++rg 10 94) zG [(3,.int _ _),(4,.pointer _),(6,.int _ _)] zg fun tq2=>?_;refine q_s ([2,6]++rg 54 19) (fun g:{k:Nat // 1≤k∧k≤d.rests.l.length∧Yv d.rests.l k=true}=>[(6,.int .i64 ((g.1:Nat):Int))]) (fun g=>d.rests.l.length - g.1) (⟨1,by omega,by omega,by simp [Yv]⟩) ?_;rintro ⟨k2,h21,h22,h23⟩ junk;try dsimp only
  apply (Xbm);refine q_c ?_ ?_<;>intro hc6;·
   obtain ⟨r,hr⟩:=Ki (l:=d.rests.l) (k:=k2) zc;obtain ⟨y,hy⟩:=Ki (l:=d.rests.l) (k:=k2 - 1) zc;refine Jt (Ja (Ji (Jy (Ji ?_))));refine Kg tb [0,1,2,3,4,5,6,7,8,9,10,11] _ Kn zf ye ?_;apply Xd6∘qbl∘Xa8∘qb7;refine Kq (by first | exact Jf tb rfl rfl rfl rfl zB (i:=k2 - 1) zo zc | exact Jm tb rfl rfl rfl rfl (i:=k2 - 1) zo zc) rfl rfl rfl ?_;apply (qbl);refine Kq zJc rfl rfl rfl ?_;apply (qbu);refine q_c ?_ ?_<;>intro hc7;·apply (Xac);refine J6 (Ja (Ud (Jv (J1 (K9 (Jv (J1 (Jv (J1 (K9 (Jv (J1 ?_))))))))))));refine q_i L R ?_;exact ⟨by rw [Zm zc hp0 zc (hde.trans (by rw [if_pos (Yyd zc zc hr hy hc7)]))],rfl,rfl⟩
   apply (Xa4);exact q_k (⟨k2 + 1,by omega,by omega,by rw [K8d zc hr hy,h23,Bool.true_and,decide_eq_true_eq];omega⟩)
  obtain rfl:k2=d.rests.l.length:=by omega
  rw [if_neg (by simp [h23])] at hde;apply qbk∘Xaa∘Xb8;apply Ue (G:=[_,_,_,_,_,_,_,_,_,_,_,_,_,_,_,_,_,_,_,_,_,_,_,_,_,_]) (j:=3) (cj:=76) rfl rfl ze rfl ztb rfl;·
   intro hg4;replace hg4:=qb hg4;apply (Xa7);apply J3 (G:=[_,_,_,_,_]) (j:=7) (cj:=80) rfl rfl ze rfl ztb rfl;·intro hg8;replace hg8:=qb hg8;exact (Xaa∘Xek) qai
   intro junk8;apply (qah);apply J3 (G:=[_,_,_,_]) (j:=14) (cj:=87) rfl rfl ze rfl ztb rfl;·intro hg15;replace hg15:=qb hg15;exact (Xaf) zme
   intro junk15;apply (qah);apply J3 (G:=[_,_,_,_,_,_,_,_]) (j:=20) (cj:=93) rfl rfl ze rfl ztb rfl;·exact zVf
   intro junk21;exact qai
  intro junk4;apply (qaf);refine q_c ?_ ?_<;>intro hc8;·exact zgf
  apply (Xa4);exact q_k ⟨k0 + 1,Va hp0 zc (hde.trans (if_neg zc))⟩
 exact zkf
end Go.Proofs.YtchfclmokpbldaaGreat
end
section
namespace Go.Proofs.YtchfclmokpbldaaGreat
open Go.Aw Go
set_option maxRecDepth 20000
attribute [local irreducible] CJ LJ DJ Tri YV Gives U7 Kb Kp U8 RV Ke
def Y0c (n:Nat) (f:XFan):Option Int:=if Kea f≠0 then some (Kea f) else if (n:Int)≤f.road then some 4 else none
def Uib (n:Nat) (d:XDoor):Option Int:=if (n:Int)≤d.road then some 4 else none
def Ko (x:XAir):Int:=
 if Ui x.mine≠0 then Ui x.mine else if 8 < x.fans.l.length then 2
 else match x.fans.l.findSome? (Y0c x.mine.roads.l.length) with
  | some e=>e
  | none=>if Vo x.doors.l≠0 then Vo x.doors.l else (x.doors.l.findSome? (Uib x.mine.roads.l.length)).getD 0
def Y1a {x:XAir} (h:Ui x.mine=0) (h8:¬ 8 < x.fans.l.length) {e:Int} (hf:x.fans.l.findSome? (Y0c x.mine.roads.l.length)=some e):Ko x=e:=by rw [Ko,if_neg zc,if_neg h8,hf]
def Jab {x:XAir} (h:Ui x.mine=0) (h8:¬ 8 < x.fans.l.length) (hf:x.fans.l.findSome? (Y0c x.mine.roads.l.length)=none):
 Ko x=if Vo x.doors.l≠0 then Vo x.doors.l else (x.doors.l.findSome? (Uib x.mine.roads.l.length)).getD 0:=by rw [Ko,if_neg zc,if_neg h8,hf]
def Jka (x:XAir) (L:LB) (R:LS) (hm:AirR x R):
 Tri Tryz.prog 109 [x.val].toArray L R (fun v M U=>v=.int .i64 (Ko x)∧L=M∧R=U):=by
 have hfa:=hm.fans;have hdo:=hm.doors;refine Ua Tryz.call109 hfa fun hfn=>?_;refine Ua Tryz.call109 hdo fun hdn=>?_;refine Jd 61 Tryz.call109 Tryz.func109 rfl rfl rfl ?_;apply (Xag);intro b1;apply Xau∘Xc4;refine q_l rfl (J5b x.mine _ _ hm.mineR) ?_;apply (Xbj);refine q_c ?_ ?_<;>intro hc0;·apply (Xcx);refine q_i L R ?_;exact ⟨by rw [Ko,if_pos hc0],rfl,rfl⟩
 simp only [Decidable.not_not] at hc0;apply qbo∘Xb5∘qaf;refine q_c ?_ ?_<;>intro hc1;·exact ubP
 apply (Xd8);refine Jh [(1,.pointer _),(21,.slice _ _ _),(22,.int _ _),(23,.int _ _)] zg fun tq0=>?_;refine q_s ([2,5,6]++rg 23 17) (fun g:FS (Y0c x.mine.roads.l.length) (x.fans.l)=>[(23,.int .i64 ((g.1:Nat):Int))]) (fun g=>(x.fans.l).length - g.1) ⟨0,Yk _ _⟩ ?_;rintro ⟨k0,hk0,hp0⟩ junk;try dsimp only
 apply (Xay);refine q_c ?_ ?_<;>intro hc2;·
  obtain ⟨f,hf⟩:=Ki (l:=x.fans.l) (k:=k0) zc;have hfr:=InR.fan hfa hf;apply qbb∘Jcc∘Xeg;intro b5;apply Xbi∘qa8;refine q_l rfl (V8c f _ _ hfr) ?_
  skip
  apply (Xbj);refine q_c ?_ ?_<;>intro hc3;·exact zTe
  apply qbv∘Xaa∘Xcg∘Xdg;refine q_c ?_ ?_<;>intro hc4;·exact zaf
  apply (Xbk);exact q_k ⟨k0 + 1,Ya hp0 hf ((if_neg hc3).trans (if_neg hc4))⟩
 have hn0:=V9 hp0 zc;have hr:=Jab hc0 zc hn0;apply qcf∘Xaa;refine q_l rfl (K6c x.doors _ _ hdo) ?_;apply (Xbj);refine q_c ?_ ?_<;>intro hc5;·apply (Xcx);refine q_i L R ?_;exact ⟨by rw [hr,if_pos hc5],rfl,rfl⟩
 rw [if_neg hc5] at hr;apply (Xd8);refine Jh [(1,.pointer _),(47,.slice _ _ _),(48,.int _ _),(49,.int _ _)] zg fun tq1=>?_;refine q_s ([2,9]++rg 49 12) (fun g:FS (Uib x.mine.roads.l.length) (x.doors.l)=>[(49,.int .i64 ((g.1:Nat):Int))]) (fun g=>(x.doors.l).length - g.1) ⟨0,Yk _ _⟩ ?_;rintro ⟨k1,hk1,hp1⟩ junk;try dsimp only
 apply (Xay);refine q_c ?_ ?_<;>intro hc6;·
  obtain ⟨d,hd⟩:=Ki (l:=x.doors.l) (k:=k1) zc;apply qbb∘Kvd∘qdk∘qaq;intro b9;apply Xcv∘Xcg∘Xdg;refine q_c ?_ ?_<;>intro hc7;·exact zFf
  apply (Xbk);exact q_k ⟨k1 + 1,Ya hp1 hd (if_neg hc7)⟩
 exact zEf
def Z2 (x:XAir) (L:LB) (R:LS) (hm:AirR x R):
 Tri Tryz.prog 202 [x.val].toArray L R (fun v M U=>v=.int .i64 (Ko x)∧L=M∧R=U):=by
 have hfa:=hm.fans;have hdo:=hm.doors;refine Ua Tryz.call202 hfa fun hfn=>?_;refine Ua Tryz.call202 hdo fun hdn=>?_;refine Jd 69 Tryz.call202 Tryz.func202 rfl rfl rfl ?_;apply (Xag);intro b1;apply Xau∘Xc4;refine q_l rfl (Jbc x.mine _ _ hm.mineR) ?_;apply (Xbj);refine q_c ?_ ?_<;>intro hc0;·apply (Xcx);refine q_i L R ?_;exact ⟨by rw [Ko,if_pos hc0],rfl,rfl⟩
 simp only [Decidable.not_not] at hc0;apply qbo∘Xb5∘qaf;refine q_c ?_ ?_<;>intro hc1;·exact ubP
 apply (Xcj);refine Jh [(1,.pointer _),(4,.int _ _)] zg fun tq0=>?_;refine q_s ([2,4,5]++rg 18 27) (fun g:FS (Y0c x.mine.roads.l.length) (x.fans.l)=>[(4,.int .i64 ((g.1:Nat):Int))]) (fun g=>(x.fans.l).length - g.1) ⟨0,Yk _ _⟩ ?_;rintro ⟨k0,hk0,hp0⟩ junk;try dsimp only
 apply (Xbm);refine q_c ?_ ?_<;>intro hc2;·
  obtain ⟨f,hf⟩:=Ki (l:=x.fans.l) (k:=k0) zc;have hfr:=InR.fan hfa hf;refine Jt (Ja (Ji (Jy (Ji (Ji (Je ?_))))));apply Xaf∘Jcc∘qdr;refine q_l rfl (Z9b f _ _ hfr) ?_;apply (Xbj);refine q_c ?_ ?_<;>intro hc3;·exact zTe
  apply qcl∘Ucf∘Xa8;refine Kq zP rfl rfl rfl ?_;apply qce∘qbl∘Xdy;refine Kq zHb rfl rfl rfl ?_;refine Kq zJc rfl rfl rfl ?_;apply (qbu);refine q_c ?_ ?_<;>intro hc4;·exact zaf
  apply (Xa4);exact q_k ⟨k0 + 1,Ya hp0 hf ((if_neg hc3).trans (if_neg hc4))⟩
 have hn0:=V9 hp0 zc;have hr:=Jab hc0 zc hn0;apply qcf∘Xaa;refine q_l rfl (Z6b x.doors _ _ hdo) ?_;apply (Xbj);refine q_c ?_ ?_<;>intro hc5;·apply (Xcx);refine q_i L R ?_;exact ⟨by rw [hr,if_pos hc5],rfl,rfl⟩
 rw [if_neg hc5] at hr;apply (Xcj);refine Jh [(1,.pointer _),(7,.int _ _)] zg fun tq1=>?_;refine q_s ([2,7]++rg 51 18) (fun g:FS (Uib x.mine.roads.l.length) (x.doors.l)=>[(7,.int .i64 ((g.1:Nat):Int))]) (fun g=>(x.doors.l).length - g.1) ⟨0,Yk _ _⟩ ?_;rintro ⟨k1,hk1,hp1⟩ junk;try dsimp only
 apply (Xbm);refine q_c ?_ ?_<;>intro hc6;·
  obtain ⟨d,hd⟩:=Ki (l:=x.doors.l) (k:=k1) zc;refine Jt (Ja (Ji (Jy (Ji ?_))));apply Ucf∘Xa8∘Ybe∘qce∘qbl∘Xdy;refine Kq zHb rfl rfl rfl ?_;refine Kq zJc rfl rfl rfl ?_;apply (qbu);refine q_c ?_ ?_<;>intro hc7;·exact zFf
  apply (Xa4);exact q_k ⟨k1 + 1,Ya hp1 hd (if_neg hc7)⟩
 exact zEf
def Y9a (x:Int):Option Unit:=if x < -1∨2 < x then some () else none
def Zk (l:List XDoor) (s:List Int) (i:Nat):Option Unit:=
 match s[i]?,l[i]? with
 | some y,some d=>if y < -1∨(d.rests.l.length:Int)≤y then some () else none
 | _,_=>none
def J8a (a:XAir) (s:XSetting):Bool:=
 if s.fans.l.length≠a.fans.l.length∨s.doors.l.length≠a.doors.l.length then false
 else (s.fans.l.findSome? Y9a).isNone && ((List.range s.doors.l.length).findSome? (Zk a.doors.l s.doors.l)).isNone
def Yka (a:XAir) (s:XSetting):Bool:=decide (Ko a=0) && J8a a s
def K3a {l:List XDoor} {s:List Int} {i:Nat} {y:Int} {d:XDoor} (hy:s[i]?=some y) (hd:l[i]?=some d):Zk l s i=if y < -1∨(d.rests.l.length:Int)≤y then some () else none:=by rw [Zk,hy,hd]
def Vta {a:XAir} {s:XSetting} (h:s.fans.l.length=a.fans.l.length) (h':s.doors.l.length=a.doors.l.length):J8a a s=((s.fans.l.findSome? Y9a).isNone && ((List.range s.doors.l.length).findSome? (Zk a.doors.l s.doors.l)).isNone):=by rw [J8a,if_neg zc]
def Jkb (a:XAir) (s:XSetting) (L:LB) (R:LS) (hm:AirR a R) (hs:SetR s R):
 Tri Tryz.prog 110 [a.val,s.val].toArray L R (fun v M U=>v=.bool (J8a a s)∧L=M∧R=U):=by
 have hfa:=hm.fans;have hdo:=hm.doors;have hsf:=hs.fans;have hsd:=hs.doors;refine Ua Tryz.call110 hsf fun hfn=>?_;refine Ua Tryz.call110 hsd fun hdn=>?_;refine Jd 61 Tryz.call110 Tryz.func110 rfl rfl rfl ?_;apply (Xag);intro b2;apply (qax);intro b3;apply Xdm∘Xe0∘Xb8;apply J3 (G:=[_,_,_,_,_,_,_]) (j:=7) (cj:=16) rfl rfl ze rfl ztb rfl;·intro hg8;replace hg8:=qb hg8;exact (Xe0) zUd
 intro junk8;apply (qaf);refine q_c ?_ ?_<;>intro hc0;·apply (Xc0);refine q_b L R ?_;exact ⟨by rw [J8a,if_pos zc],rfl,rfl⟩
 apply (Xd8);refine Jh [(2,.pointer _),(3,.pointer _),(26,.slice _ _ _),(27,.int _ _),(28,.int _ _)] zg fun tq0=>?_;refine q_s ([4,6]++rg 28 11) (fun g:FS (Y9a) (s.fans.l)=>[(28,.int .i64 ((g.1:Nat):Int))]) (fun g=>(s.fans.l).length - g.1) ⟨0,Yk _ _⟩ ?_;rintro ⟨k0,hk0,hp0⟩ junk;try dsimp only
 apply (Xay);refine q_c ?_ ?_<;>intro hc1;·
  obtain ⟨x,hx⟩:=Ki (l:=s.fans.l) (k:=k0) zc;apply qbb∘Jcc∘qa7∘Xa2∘Xas;apply J3 (G:=[_,_]) (j:=2) (cj:=34) rfl rfl ze rfl ztb rfl;·exact zPd
  intro junk3;apply (qaf);refine q_c ?_ ?_<;>intro hc2;·apply (Xci);refine q_b L R ?_;exact ⟨by rw [Vta zc zc,Vi hp0 hx (if_pos zc)];rfl,rfl,rfl⟩
  apply (Xbk);exact q_k ⟨k0 + 1,Ya hp0 hx (if_neg zc)⟩
 have hn0:=V9 hp0 zc;apply qcf∘Xbh;refine Jh [(2,.pointer _),(40,.slice _ _ _),(41,.int _ _),(42,.int _ _)] zg fun tq1=>?_;refine q_s ([4,7,8]++rg 42 19) (fun g:FSR (Zk a.doors.l s.doors.l) (s.doors.l.length)=>[(42,.int .i64 ((g.1:Nat):Int))]) (fun g=>(s.doors.l.length) - g.1) ⟨0,Yh _ _⟩ ?_;rintro ⟨k1,hk1,hp1⟩ junk;try dsimp only
 apply (Xay);refine q_c ?_ ?_<;>intro hc3;·
  obtain ⟨y,hy⟩:=Ki (l:=s.doors.l) (k:=k1) zc;obtain ⟨d,hd⟩:=Ki (l:=a.doors.l) (k:=k1) zc;have he:=K3a hy hd;apply Xbv∘Kvd∘qa7∘qad∘Xa2∘Xas;apply J3 (G:=[_,_,_,_,_,_,_,_,_]) (j:=2) (cj:=49) rfl rfl ze rfl ztb rfl;·intro hg3;replace hg3:=qb hg3;exact (qaa∘Xaf∘Kvd∘Xbd∘qag) zie
  intro junk3;apply (qaf);refine q_c ?_ ?_<;>intro hc4;·apply (Xci);refine q_b L R ?_;exact ⟨by rw [Vta zc zc,Ul hp1 zc (he.trans (if_pos zc))];simp,rfl,rfl⟩
  apply (Xbk);exact q_k ⟨k1 + 1,Va hp1 zc (he.trans (if_neg zc))⟩
 have hn1:=V2 hp1 zc;apply (Xde);refine q_b L R ?_;exact ⟨by rw [Vta zc zc,hn0,hn1];rfl,rfl,rfl⟩
def Uha (a:XAir) (s:XSetting) (L:LB) (R:LS) (hm:AirR a R) (hs:SetR s R):
 Tri Tryz.prog 208 [a.val,s.val].toArray L R (fun v M U=>v=.bool (Yka a s)∧L=M∧R=U):=by
 have hfa:=hm.fans;have hdo:=hm.doors;have hsf:=hs.fans;have hsd:=hs.doors;refine Ua Tryz.call208 hsf fun hfn=>?_;refine Ua Tryz.call208 hsd fun hdn=>?_;refine Jd 77 Tryz.call208 Tryz.func208 rfl rfl rfl ?_;apply (Xag);intro b2;apply (qax);intro b3;apply Xdm∘qa8;refine q_l rfl (Z2 a _ _ hm) ?_;apply (Xb8);apply J3 (G:=[_,_,_,_,_,_,_]) (j:=3) (cj:=10) rfl rfl ze rfl ztb rfl;·intro hg4;replace hg4:=qb hg4;exact (Xe0) zUd
 intro junk4;apply (qah);apply J3 (G:=[_,_,_,_,_,_,_]) (j:=12) (cj:=19) rfl rfl ze rfl ztb rfl;·intro hg13;replace hg13:=qb hg13;exact (Xe0) zUd
 intro junk13;apply (qaf);refine q_c ?_ ?_<;>intro hc0;·
  have hr:Yka a s=false:=by rw [Yka,J8a];by_cases he:Ko a=0;rw [if_pos zc];simp;simp [he]
  apply (Xc0);refine q_b L R ?_;exact ⟨by rw [hr],rfl,rfl⟩
 have hr:Yka a s=J8a a s:=by rw [Yka,decide_eq_true zc];rfl
 apply (Xcj);refine Jh [(2,.pointer _),(3,.pointer _),(5,.int _ _)] zg fun tq0=>?_;refine q_s ([4,5]++rg 28 21) (fun g:FS (Y9a) (s.fans.l)=>[(5,.int .i64 ((g.1:Nat):Int))]) (fun g=>(s.fans.l).length - g.1) ⟨0,Yk _ _⟩ ?_;rintro ⟨k0,hk0,hp0⟩ junk;try dsimp only
 apply (Xbm);refine q_c ?_ ?_<;>intro hc1;·
  obtain ⟨x,hx⟩:=Ki (l:=s.fans.l) (k:=k0) zc;apply Xcz∘Jcc∘qa7∘Xas;apply J3 (G:=[_,_,_,_,_,_]) (j:=6) (cj:=41) rfl rfl ze rfl ztb rfl;·intro hg7;replace hg7:=qb hg7;exact (Xaf∘Jcc∘qa7) zpf
  intro junk7;apply (qaf);refine q_c ?_ ?_<;>intro hc2;·apply (Xci);refine q_b L R ?_;exact ⟨by rw [hr,Vta zc zc,Vi hp0 hx (if_pos zc)];rfl,rfl,rfl⟩
  apply (Xa4);exact q_k ⟨k0 + 1,Ya hp0 hx (if_neg zc)⟩
 have hn0:=V9 hp0 zc;apply (Xdl);refine Jh [(2,.pointer _),(3,.pointer _),(6,.int _ _)] zg fun tq1=>?_;refine q_s ([4,6]++rg 49 28) (fun g:FSR (Zk a.doors.l s.doors.l) (s.doors.l.length)=>[(6,.int .i64 ((g.1:Nat):Int))]) (fun g=>(s.doors.l.length) - g.1) ⟨0,Yh _ _⟩ ?_;rintro ⟨k1,hk1,hp1⟩ junk;try dsimp only
 apply (Xbm);refine q_c ?_ ?_<;>intro hc3;·
  obtain ⟨y,hy⟩:=Ki (l:=s.doors.l) (k:=k1) zc;obtain ⟨d,hd⟩:=Ki (l:=a.doors.l) (k:=k1) zc;have he:=K3a hy hd;refine Jt (Ja (Ji (Jy (Ji ?_))));refine Kg tb [0,1,2,3,4,5,6,7,8,9,10,11,12,13,14,15,16,17,18,19,20] _ Kn zf ye ?_;apply Xa8∘Ybe∘qbl;refine Kq zBc rfl rfl rfl ?_;apply (qb2);refine U9 (k:=62) ztb (fun hg6=>?_) (fun hg6=>?_);·replace hg6:=qb hg6;(iterate 13 apply (qap));apply (Xbt);refine K0 rfl ?_;apply (Xci);refine q_b L R ?_;exact Keg
  replace hg6:=qb hg6;apply Xa8∘Ybe∘qbl∘Xa8∘Ybe∘qce∘qbl;refine Kq zHb rfl rfl rfl ?_;refine Kq zJc rfl rfl rfl ?_;apply (Xbt);refine q_c ?_ ?_<;>intro hc4;·apply (Xci);refine q_b L R ?_;exact Keg
  apply (Xa4);exact q_k ⟨k1 + 1,Va hp1 zc (he.trans (if_neg zc))⟩
 have hn1:=V2 hp1 zc;apply (Xde);refine q_b L R ?_;exact ⟨by rw [hr,Vta zc zc,hn0,hn1];rfl,rfl,rfl⟩
end Go.Proofs.YtchfclmokpbldaaGreat
end
section
namespace Go.Proofs.YtchfclmokpbldaaGreat
open Go.Aw Go
set_option maxRecDepth 20000
attribute [local irreducible] CJ LJ DJ Tri YV Gives U7 Kb Kp U8 RV Ke
def Zib (l : List Int) : Nat → Int
 | 0=>l.getD 0 0
 | k + 1=>min (Zib l k) (l.getD k 0)
def Yfb (l : List Int) : Nat → Int
 | 0=>l.getD 0 0
 | k + 1=>max (Yfb l k) (l.getD k 0)
def Z9 (d:XDoor) (s:Int):XSpan:=
 if d.rests.l.length=0∨s < -1∨(d.rests.l.length:Int)≤s then ⟨0,0⟩
 else if s= -1 then ⟨Zib d.rests.l d.rests.l.length,Yfb d.rests.l d.rests.l.length⟩
 else ⟨d.rests.l.getD s.toNat 0,d.rests.l.getD s.toNat 0⟩
def Jnf (x:Arr Int) (L:LB) (R:LS) (hm:InR (isl x) R) (h1:1≤x.l.length):
 Tri Tryz.prog 244 [x.val].toArray L R (fun v M U=>v=.int .i64 (Zib x.l x.l.length)∧L=M∧R=U):=by
 refine Ua Tryz.call244 hm fun hpn=>?_;have h0:=Js (l:=x.l) (k:=0) 0 zc;refine Jd 25 Tryz.call244 Tryz.func244 rfl rfl rfl ?_;apply Xac∘qaw∘Xcm;refine Kkb ztb zH ?_;apply Xdx∘qdt∘qa7∘Xau∘Xat;refine Jh [(0,.slice _ _ _),(3,.int _ _),(4,.int _ _)] zg fun tq0=>?_;refine Uuc ([3,4]++rg 12 12) (fun g:{k:Nat // 1≤k∧k≤x.l.length}=>[(4,.int .i64 ((g.1:Nat):Int)),(3,.int .i64 (Zib x.l g.1))]) (fun g=>x.l.length - g.1) (⟨1,by omega,by omega⟩) ⟨rfl,congrArg (Value.int .i64) (Int.min_self _).symm,trivial⟩ ?_;rintro ⟨k,hk1,hk2⟩ junk;try dsimp only
 apply (Xcr);refine q_c ?_ ?_<;>intro hc1;·have hk:=Js (l:=x.l) (k:=k) 0 zc;refine Jt (Ja (Ji (Jy (Je ?_))));apply qaa∘Xaj∘qa3∘qa7;refine J0 (Jub rfl rfl) rfl ?_;exact (qad∘Xb6) qd0
 obtain rfl:k=x.l.length:=by omega
 exact (Xen) zRf
def Uaf (x:Arr Int) (L:LB) (R:LS) (hm:InR (isl x) R) (h1:1≤x.l.length):
 Tri Tryz.prog 245 [x.val].toArray L R (fun v M U=>v=.int .i64 (Yfb x.l x.l.length)∧L=M∧R=U):=by
 refine Ua Tryz.call245 hm fun hpn=>?_;have h0:=Js (l:=x.l) (k:=0) 0 zc;refine Jd 25 Tryz.call245 Tryz.func245 rfl rfl rfl ?_;apply Xac∘qaw∘Xcm;refine Kkb ztb zH ?_;apply Xdx∘qdt∘qa7∘Xau∘Xat;refine Jh [(0,.slice _ _ _),(3,.int _ _),(4,.int _ _)] zg fun tq0=>?_;refine Uuc ([3,4]++rg 12 12) (fun g:{k:Nat // 1≤k∧k≤x.l.length}=>[(4,.int .i64 ((g.1:Nat):Int)),(3,.int .i64 (Yfb x.l g.1))]) (fun g=>x.l.length - g.1) (⟨1,by omega,by omega⟩) ⟨rfl,congrArg (Value.int .i64) (Int.max_self _).symm,trivial⟩ ?_;rintro ⟨k,hk1,hk2⟩ junk;try dsimp only
 apply (Xcr);refine q_c ?_ ?_<;>intro hc1;·have hk:=Js (l:=x.l) (k:=k) 0 zc;refine Jt (Ja (Ji (Jy (Je ?_))));apply qaa∘Xaj∘qa3∘qa7;refine J0 zsc rfl ?_;exact (qad∘Xb6) qd0
 obtain rfl:k=x.l.length:=by omega
 exact (Xen) zRf
def Vse (d:XDoor) (s:Int) (L:LB) (R:LS) (hm:InR d.sl R):
 Tri Tryz.prog 192 [d.val,.int .i64 s].toArray L R (fun v M U=>v=(Z9 d s).val∧L=M∧R=U):=by
 refine Ua Tryz.call192 hm fun hpn=>?_;refine Jd 43 Tryz.call192 Tryz.func192 rfl rfl rfl ?_;apply (Xag);intro b2;apply (qaq);intro b4;refine J6 (Ja (Ji (Jy (Ji (Je ?_)))));apply Xab∘Xcn;apply J3 (G:=[_,_]) (j:=4) (cj:=10) rfl rfl ze rfl ztb rfl;·intro hg5;replace hg5:=qb hg5;exact (qaa) zJe
 intro junk5;apply (qah);apply J3 (G:=[_,_,_,_,_]) (j:=8) (cj:=14) rfl rfl ze rfl ztb rfl;·intro hg9;replace hg9:=qb hg9;exact (qaa∘Xdp) qai
 intro junk9;apply (Xaz);refine q_c ?_ ?_<;>intro hc0;·apply Xe4∘qak∘qdb;refine q_r L R zfd ?_;exact ⟨by rw [Z9,if_pos zc],rfl,rfl⟩
 apply Xbn∘Xba;refine q_c ?_ ?_<;>intro hc1;·refine Ji ?_;refine Kh tb [] [0,1,3,4,2,5,6] [7] (_) _ Kn zf zk zV ?_;apply (Xdv);refine Kv rfl (Jnf d.rests _ _ hm zc) rfl rfl ?_;rintro v M U ⟨rfl,rfl,rfl⟩;refine ⟨zk,zu,?_⟩;refine Kv rfl (Uaf d.rests _ _ hm zc) rfl rfl ?_;rintro v M U ⟨rfl,rfl,rfl⟩;refine ⟨zk,zu,?_⟩;apply qcw∘Xd4;refine J9 (Ja (Ud (Jv (J1 ?_))));refine q_r L R zfd ?_;exact ⟨by rw [Z9,if_neg zc,if_pos zc],rfl,rfl⟩
 refine Jt (Jg (Ja (Ji ?_)));have hk:=Js (l:=d.rests.l) (k:=s.toNat) 0 zc;apply Klg∘Xcy∘Use∘qci∘Xcy∘Use∘qci∘qcw∘Xd4;refine J9 (Ja (Ud ?_));refine q_r L R zfd ?_;exact ⟨by rw [Z9,if_neg zc,if_neg zc],rfl,rfl⟩
def Kab (d:XDoor) (s:Int) (L:LB) (R:LS) (hm:InR d.sl R):
 Tri Tryz.prog 181 [d.val,.int .i64 s].toArray L R (fun v M U=>v=(Z9 d s).val∧L=M∧R=U):=by
 refine Ua Tryz.call181 hm fun hpn=>?_;refine Jd 71 Tryz.call181 Tryz.func181 rfl rfl rfl ?_;apply (Xag);intro b2;apply (qaq);intro b4;apply qaw∘Xab∘Xcn;apply J3 (G:=[_,_]) (j:=4) (cj:=11) rfl rfl ze rfl ztb rfl;·intro hg5;replace hg5:=qb hg5;exact (qaa) zJe
 intro junk5;apply (qah);apply J3 (G:=[_,_,_,_,_]) (j:=8) (cj:=15) rfl rfl ze rfl ztb rfl;·intro hg9;replace hg9:=qb hg9;exact (qaa∘Xdp) qai
 intro junk9;apply (qaf);refine q_c ?_ ?_<;>intro hc0;·apply Xe4∘Xdj;refine q_r L R zfd ?_;exact ⟨by rw [Z9,if_pos zc],rfl,rfl⟩
 apply qbo∘qaa∘Xdg;refine q_c ?_ ?_<;>intro hc1;·refine Ji ?_;have hk:=Js (l:=d.rests.l) (k:=s.toNat) 0 zc;apply Klg∘Xcy∘Use∘qci∘Xcy∘Use∘qci∘qcw∘Xd4;refine J9 (Ja (Ud (J1 ?_)));refine q_r L R zfd ?_;exact ⟨by rw [Z9,if_neg zc,if_neg zc],rfl,rfl⟩
 apply (qcl);have h0:=Js (l:=d.rests.l) (k:=0) 0 zc;apply Ucf∘Xae∘qdu∘qbl∘Xae∘qdu∘qbl;refine Kq zac rfl rfl rfl ?_;apply (qbr);intro b5;apply qbg∘qc6∘Xat;refine Jh [(2,.pointer _),(4,.pointer _),(5,.pointer _),(6,.int _ _)] zg fun tq0=>?_;refine q_p ([6]++rg 45 25) ((⟨fun g=>[(6,.int .i64 ((g.1:Nat):Int))],fun g=>⟨b5,[.int .i64 (Zib d.rests.l g.1),.int .i64 (Yfb d.rests.l g.1)],90⟩ :: ⟨b4,[.int .i64 0,.int .i64 0],90⟩ :: ⟨b2,d.cells,239⟩ :: L,fun _=>R,fun g=>d.rests.l.length - g.1⟩:Head {k:Nat // k≤d.rests.l.length})) (⟨0,by omega⟩) ?_;rintro ⟨k,hk⟩ junk;try dsimp only
 apply (Xbm);refine q_c ?_ ?_<;>intro hc2;·have hx:=Js (l:=d.rests.l) (k:=k) 0 zc;refine Jt (Ja (Ji (Jy ?_)));refine Kh tb [62,63,64,65,66,67] [0,1,2,3,4,5,6,7,8,9,10,11,12,13,14,15,16] [17,18,19] (_) _ Kn zf zk (by (repeat (first | apply List.Sublist.cons (a:=Blk.mk b5 _ _) | apply List.Sublist.cons_cons));exact yu _) ?_;apply Xah∘Xcy∘qc5∘qci;refine Kz (Jub rfl rfl) rfl rfl rfl rfl ?_;apply Xah∘Xcw;refine V6 (J2 zub) rfl rfl rfl rfl ?_;refine V6 zwa rfl rfl rfl rfl ?_;refine V6 zba rfl rfl rfl rfl ?_;refine V6 zsc rfl rfl rfl rfl ?_;apply Xd7∘qal∘qb6∘Xcd;exact q_k ⟨k + 1,by omega⟩
 obtain rfl:k=d.rests.l.length:=by omega
 apply (Xef);refine q_r L R zfd ?_;exact ⟨by rw [Z9,if_neg zc,if_pos zc],rfl,rfl⟩
end Go.Proofs.YtchfclmokpbldaaGreat
end
