/-
  Checks: Plan, FanC, DoorC, BranchC, Rest, in one text. By an AI agent; no person has read it.
-/
import Derived.Test.YtchfclmokpbldaaGreatRun
set_option linter.all false
set_option maxHeartbeats 4000000
section
variable {A B:Prop}
def Vle(h:A→B:=by exact Jy zX rfl):=h
def Ybe(h:A→B:=by exact Jy zza rfl):=h
def Juf(h:A→B:=by exact Kt zNa rfl rfl rfl rfl):=h
def Jrg(h:A→B:=by exact K0 (by first | exact Jd tb rfl rfl rfl rfl zu (i:=k0 - 1) zk za | exact Jl tb rfl rfl rfl rfl (i:=k0 - 1) zk za) rfl rfl rfl):=h
def J3g(h:B:=by exact ⟨by rw [Ysa,if_neg za,if_neg za,Yn hp0 za (Zgb hp za za hq za)];rfl,rfl,rfl⟩):=h
def Z0f(h:A→B:=by exact J7 tb [] [0,1,2,3,4,5,6,7,8,9,10] [11] (_) _ Kq zc zi zS):=h
end
section
namespace Go.Proofs.YtchfclmokpbldaaGreat
open Go.Aw Go
set_option maxRecDepth 20000
attribute [local irreducible] CJ LJ DJ Tri YV Gives U5 J2 Kn U6 RV J4
def Ycb (s:XSpan) (lo hi:Int):Bool:=decide (lo≤s.low) && (decide (s.low≤s.high) && decide (s.high≤hi))
def Krc (s:XSpan) (lo hi:Int) (L:LB) (R:LS):
 Tri Tryz.prog 237 [s.val,.int .i64 lo,.int .i64 hi].toArray L R (fun v U J=>v=.bool (Ycb s lo hi)∧L=U∧R=J):=by refine Je 24 Tryz.call237 Tryz.func237 rfl rfl rfl ?_;exact uav
def Zs (p:XPlace):Option Int:=if p.height < -10000∨10000 < p.height then some 1 else none
def Vk (n:Nat) (r:XRoad):Option Int:=
 if r.fr < 0∨(n:Int)≤r.fr∨r.to < 0∨(n:Int)≤r.to∨r.fr=r.to then some 4
 else if r.len < 1∨100000 < r.len∨r.area < 1∨1000 < r.area∨Ycb r.rest 1 262144=false∨Ycb r.lift (-2199023255552) 2199023255552=false then some 1 else none
def Ua (m:XMine):Int:=
 if 64 < m.places.l.length∨128 < m.roads.l.length then 2
 else match m.places.l.findSome? Zs with
  | some e=>e
  | none=>(m.roads.l.findSome? (Vk m.places.l.length)).getD 0
def Kxb (m:XMine) (L:LB) (R:LS) (hm:MineR m R):
 Tri Tryz.prog 183 [m.val].toArray L R (fun v U J=>v=.int .i64 (Ua m)∧L=U∧R=J):=by
 have hpl:=hm.places;have hro:=hm.roads;refine U3 Tryz.call183 hpl fun hpn=>?_;refine U3 Tryz.call183 hro fun hrn=>?_;refine Je 100 Tryz.call183 Tryz.func183 rfl rfl rfl ?_;apply (Xaf);intro b1;apply Xar∘Xc8∘qah;apply J6 (G:=[_,_,_,_]) (j:=4) (cj:=12) rfl rfl zb rfl zsb rfl;·exact zZd
 intro junk5;apply (qaf);refine q_c ?_ ?_<;>intro hc0;·apply (Xba);refine q_i L R ?_;exact ⟨by simp [Ua];omega,rfl,rfl⟩
 apply (Xc3);refine Jm [(1,.pointer _),(19,.slice _ _ _),(20,.int _ _),(21,.int _ _)] zh fun tq0=>?_;refine q_p ([2,4]++rg 21 13) ((⟨fun g=>[(21,.int .i64 ((g.1:Nat):Int))],fun _=>⟨b1,m.cells,28⟩ :: L,fun _=>R,fun g=>m.places.l.length - g.1⟩:Head (FS Zs m.places.l))) (⟨0,Zx _ _⟩) ?_;rintro ⟨k,hk,hkeep⟩ junk;try dsimp only
 apply (Xam);refine q_c ?_ ?_<;>intro hc1;·
  obtain ⟨x,hx⟩:=Kh (l:=m.places.l) (k:=k) za;apply qbb∘qa3∘Xds;intro b4;apply Xaz∘Xbj;apply J6 (G:=[_,_,_]) (j:=3) (cj:=28) rfl rfl zb rfl zsb rfl;·exact zHd
  intro junk4;apply (qaf);refine q_c ?_ ?_<;>intro hc2;·apply (Xby);refine q_i L R ?_;exact ⟨by simp [Ua,Yh hkeep hx (show Zs x=some 1 by simp [Zs];omega)];omega,rfl,rfl⟩
  apply (Xaw);exact q_k ⟨k + 1,Zl hkeep hx (by simp [Zs];omega)⟩
 have hp:=Zo hkeep za;apply qbk∘Xab∘Xar∘Xay;refine Jm [(5,.int _ _),(38,.slice _ _ _),(39,.int _ _),(40,.int _ _)] zh fun tq1=>?_;refine q_p ([2,7]++rg 40 60) ((⟨fun g=>[(40,.int .i64 ((g.1:Nat):Int))],fun _=>⟨b1,m.cells,28⟩ :: L,fun _=>R,fun g=>m.roads.l.length - g.1⟩:Head (FS (Vk m.places.l.length) m.roads.l))) (⟨0,Zx _ _⟩) ?_;rintro ⟨k2,hk2,hkeep2⟩ junk;try dsimp only
 apply (Xam);refine q_c ?_ ?_<;>intro hc3;·
  obtain ⟨y,hy⟩:=Kh (l:=m.roads.l) (k:=k2) za;apply qbb∘qa3∘qc8∘qaq;intro b7;apply Xbe∘Xbj;apply J6 (G:=[_,_,_,_]) (j:=3) (cj:=47) rfl rfl zb rfl zsb rfl;·exact ubp
  intro junk4;apply (qah);apply J6 (G:=[_,_,_]) (j:=9) (cj:=53) rfl rfl zb rfl zsb rfl;·intro hg10;replace hg10:=qb hg10;exact zYd
  intro junk10;apply (qah);apply J6 (G:=[_,_,_,_]) (j:=14) (cj:=58) rfl rfl zb rfl zsb rfl;·intro hg15;replace hg15:=qb hg15;exact (Xah) zhe
  intro junk15;apply (qah);apply J6 (G:=[_,_,_,_,_]) (j:=20) (cj:=64) rfl rfl zb rfl zsb rfl;·intro hg21;replace hg21:=qb hg21;exact (Xa2) zee
  intro junk21;apply (qaf);refine q_c ?_ ?_<;>intro hc4;·apply (Xc0);refine q_i L R ?_;exact ⟨by simp [Ua,hp,Yh hkeep2 hy (show Vk m.places.l.length y=some 4 by simp [Vk];omega)];omega,rfl,rfl⟩
  apply qbo∘Xbj;apply J6 (G:=[_,_,_]) (j:=3) (cj:=74) rfl rfl zb rfl zsb rfl;·exact zHd
  intro junk4;apply (qah);apply J6 (G:=[_,_,_]) (j:=8) (cj:=79) rfl rfl zb rfl zsb rfl;·exact zTd
  intro junk9;apply (qah);apply J6 (G:=[_,_,_]) (j:=13) (cj:=84) rfl rfl zb rfl zsb rfl;·exact zMe
  intro junk14;apply (qaf);refine q_c ?_ ?_<;>intro hc5;·apply (Xc0);refine q_i L R ?_;exact ⟨by simp [Ua,hp,Yh hkeep2 hy (show Vk m.places.l.length y=some 1 by rw [Vk,if_neg za,if_pos za])];omega,rfl,rfl⟩
  apply qbv∘Xc6;refine q_l rfl (Krc y.rest _ _ _ _) ?_;apply (Xcq);apply J6 (G:=[_,_,_,_]) (j:=4) (cj:=93) rfl rfl zb rfl zsb rfl;·intro hg5;replace hg5:=qb hg5;apply (Xc6);refine q_l rfl (Krc y.lift _ _ _ _) ?_;exact zge
  intro junk5;apply (qaf);refine q_c ?_ ?_<;>intro hc6;·apply (Xby);refine q_i L R ?_;exact ⟨by simp [Ua,hp,Yh hkeep2 hy (show Vk m.places.l.length y=some 1 by rw [Vk,if_neg za,if_pos (by rcases hc6 with h | h <;> simp [h])])];omega,rfl,rfl⟩
  apply (Xaw);exact q_k ⟨k2 + 1,Zl hkeep2 hy (by rw [Vk,if_neg za,if_neg (by simp [hc6];omega)])⟩
 have hq:=Zo hkeep2 za;apply (Xco);refine q_i L R ?_;exact ⟨by simp [Ua,hp,hq];omega,rfl,rfl⟩
def Ksc (s:XSpan) (lo hi:Int) (L:LB) (R:LS):
 Tri Tryz.prog 283 [s.val,.int .i64 lo,.int .i64 hi].toArray L R (fun v U J=>v=.bool (Ycb s lo hi)∧L=U∧R=J):=by refine Je 24 Tryz.call283 Tryz.func283 rfl rfl rfl ?_;exact uav
def Kgc (m:XMine) (L:LB) (R:LS) (hm:MineR m R):
 Tri Tryz.prog 247 [m.val].toArray L R (fun v U J=>v=.int .i64 (Ua m)∧L=U∧R=J):=by
 have hpl:=hm.places;have hro:=hm.roads;refine U3 Tryz.call247 hpl fun hpn=>?_;refine U3 Tryz.call247 hro fun hrn=>?_;refine Je 109 Tryz.call247 Tryz.func247 rfl rfl rfl ?_;apply (Xaf);intro b1;apply Xar∘Xc8∘qah;apply J6 (G:=[_,_,_,_]) (j:=4) (cj:=11) rfl rfl zb rfl zsb rfl;·exact zZd
 intro junk5;apply (qaf);refine q_c ?_ ?_<;>intro hc0;·apply (Xba);refine q_i L R ?_;exact ⟨by simp [Ua];omega,rfl,rfl⟩
 apply qbo∘Xbf;refine Jm [(1,.pointer _),(3,.int _ _)] zh fun tq0=>?_;refine q_s ([2,3,4]++rg 17 19) (fun g:FS (Zs) (m.places.l)=>[(3,.int .i64 ((g.1:Nat):Int))]) (fun g=>(m.places.l).length - g.1) ⟨0,Zx _ _⟩ ?_;rintro ⟨k0,hk0,hp0⟩ junk;try dsimp only
 apply Xa3∘Xdi;refine q_c ?_ ?_<;>intro hc1;·
  obtain ⟨x,hx⟩:=Kh (l:=m.places.l) (k:=k0) za;apply qbb∘Xah∘Vle∘Xa9∘Xas∘Xav;apply J6 (G:=[_,_]) (j:=2) (cj:=32) rfl rfl zb rfl zsb rfl;·exact zKd
  intro junk3;apply (qaf);refine q_c ?_ ?_<;>intro hc2;·apply (Xby);refine q_i L R ?_;exact ⟨by simp [Ua,Yh hp0 hx (show Zs x=some 1 by simp [Zs];omega)];omega,rfl,rfl⟩
  apply (Xcz);exact q_k ⟨k0 + 1,Zl hp0 hx (by simp [Zs];omega)⟩
 have hn0:=Zo hp0 za;apply qcf∘Xbf;refine Jm [(1,.pointer _),(5,.int _ _)] zh fun tq1=>?_;refine q_s ([2,5,6]++rg 36 73) (fun g:FS (Vk m.places.l.length) (m.roads.l)=>[(5,.int .i64 ((g.1:Nat):Int))]) (fun g=>(m.roads.l).length - g.1) ⟨0,Zx _ _⟩ ?_;rintro ⟨k1,hk1,hp1⟩ junk;try dsimp only
 apply Xa3∘Xdi;refine q_c ?_ ?_<;>intro hc3;·
  obtain ⟨y,hy⟩:=Kh (l:=m.roads.l) (k:=k1) za;apply qbb∘Xah∘Ybe∘qc8∘qaq;intro b6;apply Xbe∘Xbj;apply J6 (G:=[_,_,_,_,_,_]) (j:=3) (cj:=51) rfl rfl zb rfl zsb rfl;·intro hg4;replace hg4:=qb hg4;exact (Xaa∘Xed) qai
  intro junk4;apply (qah);apply J6 (G:=[_,_,_]) (j:=11) (cj:=59) rfl rfl zb rfl zsb rfl;·intro hg12;replace hg12:=qb hg12;exact zYd
  intro junk12;apply (qah);apply J6 (G:=[_,_,_,_,_,_]) (j:=16) (cj:=64) rfl rfl zb rfl zsb rfl;·intro hg17;replace hg17:=qb hg17;exact (Xaa∘Xed) qai
  intro junk17;apply (qah);apply J6 (G:=[_,_,_,_,_]) (j:=24) (cj:=72) rfl rfl zb rfl zsb rfl;·intro hg25;replace hg25:=qb hg25;exact (Xa2) zee
  intro junk25;apply (qaf);refine q_c ?_ ?_<;>intro hc4;·apply (Xc0);refine q_i L R ?_;exact ⟨by simp [Ua,hn0,Yh hp1 hy (show Vk m.places.l.length y=some 4 by simp [Vk];omega)];omega,rfl,rfl⟩
  apply qbv∘Xbj;apply J6 (G:=[_,_,_]) (j:=3) (cj:=82) rfl rfl zb rfl zsb rfl;·exact zHd
  intro junk4;apply (qah);apply J6 (G:=[_,_,_]) (j:=8) (cj:=87) rfl rfl zb rfl zsb rfl;·exact zTd
  intro junk9;apply (qah);apply J6 (G:=[_,_,_]) (j:=13) (cj:=92) rfl rfl zb rfl zsb rfl;·exact zMe
  intro junk14;apply (qah);apply J6 (G:=[_,_,_,_]) (j:=18) (cj:=97) rfl rfl zb rfl zsb rfl;·intro hg19;replace hg19:=qb hg19;apply (Xc6);refine q_l rfl (Ksc y.rest _ _ _ _) ?_;exact zge
  intro junk19;apply (qah);apply J6 (G:=[_,_,_,_]) (j:=24) (cj:=103) rfl rfl zb rfl zsb rfl;·intro hg25;replace hg25:=qb hg25;apply (Xc6);refine q_l rfl (Ksc y.lift _ _ _ _) ?_;exact zge
  intro junk25;apply (qaf);refine q_c ?_ ?_<;>intro hc5;·apply (Xby);refine q_i L R ?_;exact ⟨by simp [Ua,hn0,Yh hp1 hy (show Vk m.places.l.length y=some 1 by rw [Vk,if_neg za,if_pos (by simpa [or_assoc] using hc5)])];omega,rfl,rfl⟩
  apply (Xcz);exact q_k ⟨k1 + 1,Zl hp1 hy (by rw [Vk,if_neg za,if_neg (by simpa [and_assoc] using hc5)])⟩
 have hn1:=Zo hp1 za;apply (Xco);refine q_i L R ?_;exact ⟨by simp [Ua,hn0,hn1];omega,rfl,rfl⟩
end Go.Proofs.YtchfclmokpbldaaGreat
end
section
namespace Go.Proofs.YtchfclmokpbldaaGreat
open Go.Aw Go
set_option maxRecDepth 20000
attribute [local irreducible] CJ LJ DJ Tri YV Gives U5 J2 Kn U6 RV J4
def Ym (l:List XPoint) (i:Nat):Option Int:=
 match l[i]? with
 | none=>none
 | some p => if p.flow < -1048576 ∨ 1048576 < p.flow ∨ p.pres < 0 ∨ 2199023255552 < p.pres then some 1
  else if i=0 then none
  else match l[i - 1]? with
   | none=>none
   | some q=>if p.flow≤q.flow∨q.pres < p.pres then some 14 else none
def Ysa (f:XFan):Int:=
 if f.road < 0 then 4 else if f.curve.l.length < 1∨8 < f.curve.l.length then 2
 else ((List.range f.curve.l.length).findSome? (Ym f.curve.l)).getD 0
def K2c {l:List XPoint} {k:Nat} {p:XPoint} (h:l[k]?=some p) (hr:p.flow < -1048576∨1048576 < p.flow∨p.pres < 0∨2199023255552 < p.pres):Ym l k=some 1:=by simp only [Ym,h,if_pos hr]
def Zgb {l:List XPoint} {k:Nat} {p q:XPoint} (h:l[k]?=some p) (hr:¬ (p.flow < -1048576∨1048576 < p.flow∨p.pres < 0∨2199023255552 < p.pres)) (hk:k≠0) (h':l[k - 1]?=some q) (hb:p.flow≤q.flow∨q.pres < p.pres):Ym l k=some 14:=by simp only [Ym,h,if_neg hr,if_neg hk,h',if_pos hb]
def Uvc {l:List XPoint} {k:Nat} {p:XPoint} (h:l[k]?=some p) (hr:¬ (p.flow < -1048576∨1048576 < p.flow∨p.pres < 0∨2199023255552 < p.pres)) (hk:k=0):Ym l k=none:=by simp only [Ym,h,if_neg hr,if_pos hk]
def Upc {l:List XPoint} {k:Nat} {p q:XPoint} (h:l[k]?=some p) (hr:¬ (p.flow < -1048576∨1048576 < p.flow∨p.pres < 0∨2199023255552 < p.pres)) (hk:k≠0) (h':l[k - 1]?=some q) (hb:¬ (p.flow≤q.flow∨q.pres < p.pres)):Ym l k=none:=by simp only [Ym,h,if_neg hr,if_neg hk,h',if_neg hb]
def J5d (f:XFan) (L:LB) (R:LS) (hm:InR f.sl R):
 Tri Tryz.prog 184 [f.val].toArray L R (fun v U J=>v=.int .i64 (Ysa f)∧L=U∧R=J):=by
 refine U3 Tryz.call184 hm fun hpn=>?_;refine Je 71 Tryz.call184 Tryz.func184 rfl rfl rfl ?_;apply (Xaf);intro b1;apply Xar∘Xaa∘Xa5;refine q_c ?_ ?_<;>intro hc0;·apply (Xba);refine q_i L R ?_;exact ⟨by rw [Ysa,if_pos za],rfl,rfl⟩
 apply Xec∘Xav;apply J6 (G:=[_,_,_,_]) (j:=4) (cj:=12) rfl rfl zb rfl zsb rfl;·exact zZd
 intro junk5;apply (qaf);refine q_c ?_ ?_<;>intro hc1;·apply (Xba);refine q_i L R ?_;exact ⟨by rw [Ysa,if_neg za,if_pos za],rfl,rfl⟩
 apply (Xc3);refine Jm [(1,.pointer _),(19,.slice _ _ _),(20,.int _ _),(21,.int _ _)] zh fun tq0=>?_;refine q_s ([2,3,4]++rg 21 50) (fun g:FSR (Ym f.curve.l) (f.curve.l.length)=>[(21,.int .i64 ((g.1:Nat):Int))]) (fun g=>(f.curve.l.length) - g.1) ⟨0,Kra _ _⟩ ?_;rintro ⟨k0,hk0,hp0⟩ junk;try dsimp only
 apply (Xam);refine q_c ?_ ?_<;>intro hc2;·
  obtain ⟨p,hp⟩:=Kh (l:=f.curve.l) (k:=k0) za;apply Xa1∘Vle∘Xds;intro b4;apply Xd0∘Xbj;apply J6 (G:=[_,_,_]) (j:=3) (cj:=29) rfl rfl zb rfl zsb rfl;·exact zHd
  intro junk4;apply (qah);apply J6 (G:=[_,_,_]) (j:=8) (cj:=34) rfl rfl zb rfl zsb rfl;·exact zTd
  intro junk9;apply (qah);apply J6 (G:=[_,_,_]) (j:=13) (cj:=39) rfl rfl zb rfl zsb rfl;·exact zMe
  intro junk14;apply (qaf);refine q_c ?_ ?_<;>intro hc3;·apply (Xc0);refine q_i L R ?_;exact ⟨by rw [Ysa,if_neg za,if_neg za,Yn hp0 za (K2c hp za)];rfl,rfl,rfl⟩
  apply (qcl);refine Ki tb [0,1,2,3,4,5,6,7,8,9,10,11,12,13,14,15,16,17,18,19,20,21,22,23,24,25] _ Kq zc ye ?_;apply (qao);refine K0 (Unc rfl rfl) rfl rfl rfl ?_;apply (qb2);refine Vx (k:=46) zsb (fun hg2=>?_) (fun hg2=>?_);·
   replace hg2:=qb hg2;obtain ⟨q,hq⟩:=Kh (l:=f.curve.l) (k:=k0 - 1) za;apply Xai∘Xbs∘qb7∘Jrg∘Xdx;refine K0 (Uac rfl rfl) rfl rfl rfl ?_;apply (qb2);refine Vx (k:=57) zsb (fun hg13=>?_) (fun hg13=>?_);·replace hg13:=qb hg13;(iterate 10 apply (qap));apply qbp∘Xbv;refine Uf rfl ?_;apply (Xby);refine q_i L R ?_;exact J3g
   replace hg13:=qb hg13;apply Xai∘Xbs∘qb7∘Jrg∘Xdx;refine K0 (Unc rfl rfl) rfl rfl rfl ?_;apply qbp∘Xbv;refine q_c ?_ ?_<;>intro hc4;·apply (Xby);refine q_i L R ?_;exact J3g
   exact zCe
  replace hg2:=qb hg2;iterate 22 apply (qap)
  apply (Xbv);refine Uw rfl ?_;exact zCe
 have hn0:=J9a hp0 za;apply (Xco);refine q_i L R ?_;exact ⟨by rw [Ysa,if_neg za,if_neg za,hn0];rfl,rfl,rfl⟩
end Go.Proofs.YtchfclmokpbldaaGreat
end
section
namespace Go.Proofs.YtchfclmokpbldaaGreat
open Go.Aw Go
set_option maxRecDepth 20000
attribute [local irreducible] CJ LJ DJ Tri YV Gives U5 J2 Kn U6 RV J4
def Jzb (x:Int):Option Int:=if x < 0∨262144 < x then some 1 else none
def Uia (l : List Int) : Nat → Bool
 | 0=>true
 | k + 1=>Uia l k && (decide (k=0) || decide (l.getD k 0 < l.getD (k - 1) 0))
def V2d {l:List Int} {k:Nat} {x:Int} (hx:l[k]?=some x):(Uia l k && (decide ((k:Int)=0) || decide (x < l.getD (k - 1) 0)))=Uia l (k + 1):=by rw [Uia,getD_some hx];congr 2;simp only [decide_eq_decide];omega
abbrev U8b (l:List XDoor) (i:Nat) (d:XDoor):Prop:=
 d.other≠-1∧(d.other < 0∨(l.length:Int)≤d.other∨d.other=(i:Int)∨(l.getD d.other.toNat default).other≠(i:Int))
def Jva (l:List XDoor) (i:Nat):Option Int:=
 match l[i]? with
 | none=>none
 | some d => if d.road < 0 then some 4 else if d.rests.l.length < 2 ∨ 6 < d.rests.l.length then some 2
  else match d.rests.l.findSome? Jzb with
   | some e=>some e
   | none=>if Uia d.rests.l d.rests.l.length=false then some 15 else if U8b l i d then some 15 else none
def Vz (l:List XDoor):Int:=if 16 < l.length then 2 else ((List.range l.length).findSome? (Jva l)).getD 0
def U2b {l : List XDoor} {i : Nat} {d : XDoor} (h : l[i]? = some d) : Jva l i = if d.road < 0 then some 4 else if d.rests.l.length < 2 ∨ 6 < d.rests.l.length then some 2
 else match d.rests.l.findSome? Jzb with
  | some e=>some e
  | none=>if Uia d.rests.l d.rests.l.length=false then some 15 else if U8b l i d then some 15 else none:=by rw [Jva,h]
def Uba {l:List XDoor} {k:Nat} {e:Int} (h16:¬ 16 < l.length) (hp:(List.range l.length).findSome? (Jva l)=((List.range l.length).drop k).findSome? (Jva l)) (hk:k < l.length) (h:Jva l k=some e):Vz l=e:=by rw [Vz,if_neg h16,Yn hp hk h];rfl
def V6c (x:Arr XDoor) (L:LB) (R:LS) (hm:InR (dsl x) R):
 Tri Tryz.prog 185 [x.val].toArray L R (fun v U J=>v=.int .i64 (Vz x.l)∧L=U∧R=J):=by
 refine U3 Tryz.call185 hm fun hpn=>?_;refine Je 95 Tryz.call185 Tryz.func185 rfl rfl rfl ?_;apply Xae∘qaw∘Xaq∘Xcp;refine q_c ?_ ?_<;>intro hc0;·apply (Xba);refine q_i L R ?_;exact ⟨by rw [Vz,if_pos za],rfl,rfl⟩
 apply qbo∘Xbz;refine Jm [(0,.slice _ _ _),(11,.slice _ _ _),(12,.int _ _),(13,.int _ _)] zh fun tq0=>?_;refine q_s (rg 2 6++rg 13 82) (fun g:FSR (Jva x.l) (x.l.length)=>[(13,.int .i64 ((g.1:Nat):Int))]) (fun g=>(x.l.length) - g.1) ⟨0,Kra _ _⟩ ?_;rintro ⟨k0,hk0,hp0⟩ junk;try dsimp only
 apply (Xam);refine q_c ?_ ?_<;>intro hc1;·
  obtain ⟨d,hd⟩:=Kh (l:=x.l) (k:=k0) za;have hdr:=InR.door hm hd;have hde:=U2b hd;apply Xa1∘Vle∘qdk∘qaq;intro b4;apply Xd0∘Xaa∘Xa5;refine q_c ?_ ?_<;>intro hc2;·apply (Xc0);refine q_i L R ?_;exact ⟨by rw [Uba za hp0 za (hde.trans (if_pos za))],rfl,rfl⟩
  apply Xec∘Xav;apply J6 (G:=[_,_,_,_]) (j:=4) (cj:=25) rfl rfl zb rfl zsb rfl;·exact zZd
  intro junk5;apply (qaf);refine q_c ?_ ?_<;>intro hc3;·apply (Xc0);refine q_i L R ?_;exact ⟨by rw [Uba za hp0 za (hde.trans (by rw [if_neg za,if_pos za]))],rfl,rfl⟩
  rw [if_neg za,if_neg za] at hde;apply qbv∘Xdv∘Xay;refine Ve (rg 2 6++rg 13 82) zJ [(3,.int _ _),(4,.pointer _),(5,.bool _),(13,.int _ _),(32,.slice _ _ _),(33,.int _ _),(34,.int _ _)] zh fun tq1=>?_;refine q_s ([2,5,6,7]++rg 34 27) (fun g:FS (Jzb) (d.rests.l)=>[(34,.int .i64 ((g.1:Nat):Int)),(5,.bool (Uia d.rests.l g.1))]) (fun g=>(d.rests.l).length - g.1) ⟨0,Zx _ _⟩ ?_;rintro ⟨k1,hk1,hp1⟩ junk;try dsimp only
  apply (Xam);refine q_c ?_ ?_<;>intro hc4;·
   obtain ⟨r,hr⟩:=Kh (l:=d.rests.l) (k:=k1) za;apply Xa1∘Ybe∘Xdn∘Xck∘Xav;apply J6 (G:=[_,_]) (j:=2) (cj:=41) rfl rfl zb rfl zsb rfl;·exact zKd
   intro junk3;apply (qaf);refine q_c ?_ ?_<;>intro hc5;·apply (Xae);refine Kc (Jb (Uq (Kg (Kf (Kg (Yt (Kf (Kg (Kf (Kg (Yt (Kf (Kg ?_)))))))))))));refine q_i L R ?_;exact ⟨by rw [Uba za hp0 za (hde.trans (by rw [Yh hp1 hr (if_pos za)]))],rfl,rfl⟩
   refine J5 (Jb (Jh ?_));apply qah∘qah;apply K9 (G:=[_,_,_,_,_,_,_,_,_,_,_,_]) (j:=1) (cj:=46) rfl rfl zb rfl zsb rfl;·
    intro hg2;replace hg2:=qb hg2;apply qaa∘Xcn;apply J6 (G:=[_,_,_,_,_,_,_,_]) (j:=4) (cj:=49) rfl rfl zb rfl zsb rfl;·intro hg5;replace hg5:=qb hg5;have hy:=Jn (l:=d.rests.l) (k:=k1 - 1) 0 za;apply qaa∘Xd4;refine Jy (by first | exact Jd tb rfl rfl rfl rfl zu (i:=k1 - 1) zk za | exact Jl tb rfl rfl rfl rfl (i:=k1 - 1) zk za) rfl ?_;exact (qa7) zme
    intro junk5;exact qai
   intro junk2;apply qaz∘Xa8;exact Kd ⟨k1 + 1,Zl hp1 hr (if_neg za)⟩ zm ⟨rfl,congrArg Value.bool (V2d hr),trivial⟩ zi zLb zx
  have hn1:=Zo hp1 za;obtain rfl:k1=d.rests.l.length:=by omega
  rw [hn1] at hde;dsimp only at hde;apply qcf∘qah∘Xbl;refine q_c ?_ ?_<;>intro hc6;·apply (Xc0);refine q_i L R ?_;exact ⟨by rw [Uba za hp0 za (hde.trans (by rw [if_pos hc6]))],rfl,rfl⟩
  rw [if_neg (by simp [hc6])] at hde;apply qbv∘Xaa∘Xb7;apply K9 (G:=[_,_,_,_,_,_,_,_,_,_,_,_,_,_,_,_,_,_,_,_,_,_,_,_,_,_]) (j:=3) (cj:=66) rfl rfl zb rfl zsb rfl;·
   intro hg4;replace hg4:=qb hg4;apply (Xbj);apply J6 (G:=[_,_,_,_,_]) (j:=7) (cj:=70) rfl rfl zb rfl zsb rfl;·intro hg8;replace hg8:=qb hg8;exact (Xaa∘Xaq) zhe
   intro junk8;apply (qah);apply J6 (G:=[_,_,_,_]) (j:=14) (cj:=77) rfl rfl zb rfl zsb rfl;·intro hg15;replace hg15:=qb hg15;exact (Xah) zee
   intro junk15;apply (qah);apply J6 (G:=[_,_,_,_,_,_,_,_]) (j:=20) (cj:=83) rfl rfl zb rfl zsb rfl;·intro hg21;replace hg21:=qb hg21;have ho:=Jn (l:=x.l) (k:=d.other.toNat) default za;apply (Xb4);refine Jy (by first | exact Jd tb rfl rfl rfl rfl zu (i:=d.other.toNat) zk za | exact Jl tb rfl rfl rfl rfl (i:=d.other.toNat) zk za) rfl ?_;exact (Xa9∘qaa) zNd
   intro junk21;exact qai
  intro junk4;apply (qaf);refine q_c ?_ ?_<;>intro hc7;·apply (Xby);refine q_i L R ?_;exact ⟨by rw [Uba za hp0 za (hde.trans (by rw [if_pos za]))],rfl,rfl⟩
  apply (Xaw);exact q_k ⟨k0 + 1,Zu hp0 za (hde.trans (if_neg za))⟩
 have hn0:=J9a hp0 za;apply (Xco);refine q_i L R ?_;exact ⟨by rw [Vz,if_neg za,hn0];rfl,rfl,rfl⟩
end Go.Proofs.YtchfclmokpbldaaGreat
end
section
namespace Go.Proofs.YtchfclmokpbldaaGreat
open Go.Aw Go
set_option maxRecDepth 20000
attribute [local irreducible] CJ LJ DJ Tri YV Gives U5 J2 Kn U6 RV J4
def Uxd (n:Nat) (f:XFan):Option Int:=if Ysa f≠0 then some (Ysa f) else if (n:Int)≤f.road then some 4 else none
def Jtc (n:Nat) (d:XDoor):Option Int:=if (n:Int)≤d.road then some 4 else none
def Ky (x:XAir):Int:=
 if Ua x.mine≠0 then Ua x.mine else if 8 < x.fans.l.length then 2
 else match x.fans.l.findSome? (Uxd x.mine.roads.l.length) with
  | some e=>e
  | none=>if Vz x.doors.l≠0 then Vz x.doors.l else (x.doors.l.findSome? (Jtc x.mine.roads.l.length)).getD 0
def Kxc {x:XAir} (h:Ua x.mine=0) (h8:¬ 8 < x.fans.l.length) {e:Int} (hf:x.fans.l.findSome? (Uxd x.mine.roads.l.length)=some e):Ky x=e:=by rw [Ky,if_neg za,if_neg h8,hf]
def Yzb {x:XAir} (h:Ua x.mine=0) (h8:¬ 8 < x.fans.l.length) (hf:x.fans.l.findSome? (Uxd x.mine.roads.l.length)=none):
 Ky x=if Vz x.doors.l≠0 then Vz x.doors.l else (x.doors.l.findSome? (Jtc x.mine.roads.l.length)).getD 0:=by rw [Ky,if_neg za,if_neg h8,hf]
def Zc (x:XAir) (L:LB) (R:LS) (hm:AirR x R):
 Tri Tryz.prog 109 [x.val].toArray L R (fun v U J=>v=.int .i64 (Ky x)∧L=U∧R=J):=by
 have hfa:=hm.fans;have hdo:=hm.doors;refine U3 Tryz.call109 hfa fun hfn=>?_;refine U3 Tryz.call109 hdo fun hdn=>?_;refine Je 61 Tryz.call109 Tryz.func109 rfl rfl rfl ?_;apply (Xaf);intro b1;apply Xar∘Xc6;refine q_l rfl (Kxb x.mine _ _ hm.mineR) ?_;apply (Xbh);refine q_c ?_ ?_<;>intro hc0;·apply (Xdm);refine q_i L R ?_;exact ⟨by rw [Ky,if_pos hc0],rfl,rfl⟩
 simp only [Decidable.not_not] at hc0;apply Xec∘Xcp;refine q_c ?_ ?_<;>intro hc1;·apply (Xba);refine q_i L R ?_;exact ⟨by rw [Ky,if_neg za,if_pos za],rfl,rfl⟩
 apply (Xc3);refine Jm [(1,.pointer _),(21,.slice _ _ _),(22,.int _ _),(23,.int _ _)] zh fun tq0=>?_;refine q_s ([2,5,6]++rg 23 17) (fun g:FS (Uxd x.mine.roads.l.length) (x.fans.l)=>[(23,.int .i64 ((g.1:Nat):Int))]) (fun g=>(x.fans.l).length - g.1) ⟨0,Zx _ _⟩ ?_;rintro ⟨k0,hk0,hp0⟩ junk;try dsimp only
 apply (Xam);refine q_c ?_ ?_<;>intro hc2;·
  obtain ⟨f,hf⟩:=Kh (l:=x.fans.l) (k:=k0) za;have hfr:=InR.fan hfa hf;apply qbb∘Vle∘Xdo;intro b5;apply Xbe∘qa8;refine q_l rfl (J5d f _ _ hfr) ?_
  skip
  apply (Xbh);refine q_c ?_ ?_<;>intro hc3;·apply Xd1∘qch;refine q_i L R ?_;exact ⟨by rw [Kxc hc0 za (Yh hp0 hf (if_pos hc3))],rfl,rfl⟩
  apply qbv∘Xaa∘Xb9∘Xcv;refine q_c ?_ ?_<;>intro hc4;·apply (Xby);refine q_i L R ?_;exact ⟨by rw [Kxc hc0 za (Yh hp0 hf ((if_neg hc3).trans (if_pos hc4)))],rfl,rfl⟩
  apply (Xaw);exact q_k ⟨k0 + 1,Zl hp0 hf ((if_neg hc3).trans (if_neg hc4))⟩
 have hn0:=Zo hp0 za;have hr:=Yzb hc0 za hn0;apply qcf∘Xaa;refine q_l rfl (V6c x.doors _ _ hdo) ?_;apply (Xbh);refine q_c ?_ ?_<;>intro hc5;·apply (Xdm);refine q_i L R ?_;exact ⟨by rw [hr,if_pos hc5],rfl,rfl⟩
 rw [if_neg hc5] at hr;apply (Xc3);refine Jm [(1,.pointer _),(47,.slice _ _ _),(48,.int _ _),(49,.int _ _)] zh fun tq1=>?_;refine q_s ([2,9]++rg 49 12) (fun g:FS (Jtc x.mine.roads.l.length) (x.doors.l)=>[(49,.int .i64 ((g.1:Nat):Int))]) (fun g=>(x.doors.l).length - g.1) ⟨0,Zx _ _⟩ ?_;rintro ⟨k1,hk1,hp1⟩ junk;try dsimp only
 apply (Xam);refine q_c ?_ ?_<;>intro hc6;·
  obtain ⟨d,hd⟩:=Kh (l:=x.doors.l) (k:=k1) za;apply qbb∘Ybe∘qdk∘qaq;intro b9;apply Xcd∘Xb9∘Xcv;refine q_c ?_ ?_<;>intro hc7;·apply (Xby);refine q_i L R ?_;exact ⟨by rw [hr,Yh hp1 hd (if_pos hc7)];rfl,rfl,rfl⟩
  apply (Xaw);exact q_k ⟨k1 + 1,Zl hp1 hd (if_neg hc7)⟩
 have hn1:=Zo hp1 za;apply (Xco);refine q_i L R ?_;exact ⟨by rw [hr,hn1];rfl,rfl,rfl⟩
def Kib (x:Int):Option Unit:=if x < -1∨2 < x then some () else none
def Zq (l:List XDoor) (s:List Int) (i:Nat):Option Unit:=
 match s[i]?,l[i]? with
 | some y,some d=>if y < -1∨(d.rests.l.length:Int)≤y then some () else none
 | _,_=>none
def Una (a:XAir) (s:XSetting):Bool:=
 if s.fans.l.length≠a.fans.l.length∨s.doors.l.length≠a.doors.l.length then false
 else (s.fans.l.findSome? Kib).isNone && ((List.range s.doors.l.length).findSome? (Zq a.doors.l s.doors.l)).isNone
def Uzc (a:XAir) (s:XSetting):Bool:=decide (Ky a=0) && Una a s
def Zva {l:List XDoor} {s:List Int} {i:Nat} {y:Int} {d:XDoor} (hy:s[i]?=some y) (hd:l[i]?=some d):Zq l s i=if y < -1∨(d.rests.l.length:Int)≤y then some () else none:=by rw [Zq,hy,hd]
def Yub {a:XAir} {s:XSetting} (h:s.fans.l.length=a.fans.l.length) (h':s.doors.l.length=a.doors.l.length):Una a s=((s.fans.l.findSome? Kib).isNone && ((List.range s.doors.l.length).findSome? (Zq a.doors.l s.doors.l)).isNone):=by rw [Una,if_neg za]
def Yba (a:XAir) (s:XSetting) (L:LB) (R:LS) (hm:AirR a R) (hs:SetR s R):
 Tri Tryz.prog 110 [a.val,s.val].toArray L R (fun v U J=>v=.bool (Una a s)∧L=U∧R=J):=by
 have hfa:=hm.fans;have hdo:=hm.doors;have hsf:=hs.fans;have hsd:=hs.doors;refine U3 Tryz.call110 hsf fun hfn=>?_;refine U3 Tryz.call110 hsd fun hdn=>?_;refine Je 61 Tryz.call110 Tryz.func110 rfl rfl rfl ?_;apply (Xaf);intro b2;apply (qax);intro b3;apply Xdv∘Xab∘Xab∘Xb7;apply J6 (G:=[_,_,_,_,_,_,_]) (j:=7) (cj:=16) rfl rfl zb rfl zsb rfl;·intro hg8;replace hg8:=qb hg8;exact (Xab∘Xab) zNd
 intro junk8;apply (qaf);refine q_c ?_ ?_<;>intro hc0;·apply Xcc∘qbh;refine q_b L R ?_;exact ⟨by rw [Una,if_pos za],rfl,rfl⟩
 apply (Xc3);refine Jm [(2,.pointer _),(3,.pointer _),(26,.slice _ _ _),(27,.int _ _),(28,.int _ _)] zh fun tq0=>?_;refine q_s ([4,6]++rg 28 11) (fun g:FS (Kib) (s.fans.l)=>[(28,.int .i64 ((g.1:Nat):Int))]) (fun g=>(s.fans.l).length - g.1) ⟨0,Zx _ _⟩ ?_;rintro ⟨k0,hk0,hp0⟩ junk;try dsimp only
 apply (Xam);refine q_c ?_ ?_<;>intro hc1;·
  obtain ⟨x,hx⟩:=Kh (l:=s.fans.l) (k:=k0) za;apply qbb∘Vle∘qa7∘Xas∘Xav;apply J6 (G:=[_,_]) (j:=2) (cj:=34) rfl rfl zb rfl zsb rfl;·exact zKd
  intro junk3;apply (qaf);refine q_c ?_ ?_<;>intro hc2;·apply Xcc∘qbt;refine q_b L R ?_;exact ⟨by rw [Yub za za,Yh hp0 hx (if_pos za)];rfl,rfl,rfl⟩
  apply (Xaw);exact q_k ⟨k0 + 1,Zl hp0 hx (if_neg za)⟩
 have hn0:=Zo hp0 za;apply qcf∘Xay;refine Jm [(2,.pointer _),(40,.slice _ _ _),(41,.int _ _),(42,.int _ _)] zh fun tq1=>?_;refine q_s ([4,7,8]++rg 42 19) (fun g:FSR (Zq a.doors.l s.doors.l) (s.doors.l.length)=>[(42,.int .i64 ((g.1:Nat):Int))]) (fun g=>(s.doors.l.length) - g.1) ⟨0,Kra _ _⟩ ?_;rintro ⟨k1,hk1,hp1⟩ junk;try dsimp only
 apply (Xam);refine q_c ?_ ?_<;>intro hc3;·
  obtain ⟨y,hy⟩:=Kh (l:=s.doors.l) (k:=k1) za;obtain ⟨d,hd⟩:=Kh (l:=a.doors.l) (k:=k1) za;have he:=Zva hy hd;apply Xa1∘Ybe∘Xdn∘Xas∘Xav;apply J6 (G:=[_,_,_,_,_,_,_,_,_]) (j:=2) (cj:=49) rfl rfl zb rfl zsb rfl;·intro hg3;replace hg3:=qb hg3;exact (qaa∘Xah∘Ybe∘Xa9∘qag) zhe
  intro junk3;apply (qaf);refine q_c ?_ ?_<;>intro hc4;·apply Xcc∘qbt;refine q_b L R ?_;exact ⟨by rw [Yub za za,Yn hp1 za (he.trans (if_pos za))];simp,rfl,rfl⟩
  apply (Xaw);exact q_k ⟨k1 + 1,Zu hp1 za (he.trans (if_neg za))⟩
 have hn1:=J9a hp1 za;apply qbk∘Xbb;refine q_b L R ?_;exact ⟨by rw [Yub za za,hn0,hn1];rfl,rfl,rfl⟩
end Go.Proofs.YtchfclmokpbldaaGreat
end
section
namespace Go.Proofs.YtchfclmokpbldaaGreat
open Go.Aw Go
set_option maxRecDepth 20000
attribute [local irreducible] CJ LJ DJ Tri YV Gives U5 J2 Kn U6 RV J4
def Zsb (l : List Int) : Nat → Int
 | 0=>l.getD 0 0
 | k + 1=>min (Zsb l k) (l.getD k 0)
def Z6b (l : List Int) : Nat → Int
 | 0=>l.getD 0 0
 | k + 1=>max (Z6b l k) (l.getD k 0)
def Zw (d:XDoor) (s:Int):XSpan:=
 if d.rests.l.length=0∨s < -1∨(d.rests.l.length:Int)≤s then ⟨0,0⟩
 else if s= -1 then ⟨Zsb d.rests.l d.rests.l.length,Z6b d.rests.l d.rests.l.length⟩
 else ⟨d.rests.l.getD s.toNat 0,d.rests.l.getD s.toNat 0⟩
def Vrf (x:Arr Int) (L:LB) (R:LS) (hm:InR (isl x) R) (h1:1≤x.l.length):
 Tri Tryz.prog 244 [x.val].toArray L R (fun v U J=>v=.int .i64 (Zsb x.l x.l.length)∧L=U∧R=J):=by
 refine U3 Tryz.call244 hm fun hpn=>?_;have h0:=Jn (l:=x.l) (k:=0) 0 za;refine Je 25 Tryz.call244 Tryz.func244 rfl rfl rfl ?_;apply Xae∘qaw∘Xaq∘Xa5;refine Ktb zsb zH ?_;apply qbv∘qbm∘qdt∘qa7∘Xar∘Xbf;refine Jm [(0,.slice _ _ _),(3,.int _ _),(4,.int _ _)] zh fun tq0=>?_;refine Vvc ([3,4]++rg 12 12) (fun g:{k:Nat // 1≤k∧k≤x.l.length}=>[(4,.int .i64 ((g.1:Nat):Int)),(3,.int .i64 (Zsb x.l g.1))]) (fun g=>x.l.length - g.1) (⟨1,by omega,by omega⟩) ⟨rfl,congrArg (Value.int .i64) (Int.min_self _).symm,trivial⟩ ?_;rintro ⟨k,hk1,hk2⟩ junk;try dsimp only
 apply Xa3∘Xaq∘Xa5;refine q_c ?_ ?_<;>intro hc1;·have hk:=Jn (l:=x.l) (k:=k) 0 za;refine J5 (Jb (Jq (Kk (Jh ?_))));apply qaa∘Xap∘Xdb;refine Jy (Jsc rfl rfl) rfl ?_;exact (qad∘Xc9) qd0
 exact zUe
def U3f (x:Arr Int) (L:LB) (R:LS) (hm:InR (isl x) R) (h1:1≤x.l.length):
 Tri Tryz.prog 245 [x.val].toArray L R (fun v U J=>v=.int .i64 (Z6b x.l x.l.length)∧L=U∧R=J):=by
 refine U3 Tryz.call245 hm fun hpn=>?_;have h0:=Jn (l:=x.l) (k:=0) 0 za;refine Je 25 Tryz.call245 Tryz.func245 rfl rfl rfl ?_;apply Xae∘qaw∘Xaq∘Xa5;refine Ktb zsb zH ?_;apply qbv∘qbm∘qdt∘qa7∘Xar∘Xbf;refine Jm [(0,.slice _ _ _),(3,.int _ _),(4,.int _ _)] zh fun tq0=>?_;refine Vvc ([3,4]++rg 12 12) (fun g:{k:Nat // 1≤k∧k≤x.l.length}=>[(4,.int .i64 ((g.1:Nat):Int)),(3,.int .i64 (Z6b x.l g.1))]) (fun g=>x.l.length - g.1) (⟨1,by omega,by omega⟩) ⟨rfl,congrArg (Value.int .i64) (Int.max_self _).symm,trivial⟩ ?_;rintro ⟨k,hk1,hk2⟩ junk;try dsimp only
 apply Xa3∘Xaq∘Xa5;refine q_c ?_ ?_<;>intro hc1;·have hk:=Jn (l:=x.l) (k:=k) 0 za;refine J5 (Jb (Jq (Kk (Jh ?_))));apply qaa∘Xap∘Xdb;refine Jy ztc rfl ?_;exact (qad∘Xc9) qd0
 exact zUe
def Klf (d:XDoor) (s:Int) (L:LB) (R:LS) (hm:InR d.sl R):
 Tri Tryz.prog 192 [d.val,.int .i64 s].toArray L R (fun v U J=>v=(Zw d s).val∧L=U∧R=J):=by
 refine U3 Tryz.call192 hm fun hpn=>?_;refine Je 43 Tryz.call192 Tryz.func192 rfl rfl rfl ?_;apply (Xaf);intro b2;apply (qaq);intro b4;refine Kc (Jb (Jq (Kk (Jq (Jh ?_)))));apply Xab∘Xcn;apply J6 (G:=[_,_]) (j:=4) (cj:=10) rfl rfl zb rfl zsb rfl;·intro hg5;replace hg5:=qb hg5;exact (qaa) zme
 intro junk5;apply (qah);apply J6 (G:=[_,_,_,_,_]) (j:=8) (cj:=14) rfl rfl zb rfl zsb rfl;·intro hg9;replace hg9:=qb hg9;exact (qaa∘Xed) qai
 intro junk9;apply (Xau);refine q_c ?_ ?_<;>intro hc0;·apply qae∘qck∘qak∘qdb;refine q_r L R zhd ?_;exact ⟨by rw [Zw,if_pos za],rfl,rfl⟩
 apply Xbk∘Xa6;refine q_c ?_ ?_<;>intro hc1;·refine Jq ?_;refine J7 tb [] [0,1,3,4,2,5,6] [7] (_) _ Kq zc zi zS ?_;apply Xaj∘Xaj;refine K6 rfl (Vrf d.rests _ _ hm za) rfl rfl ?_;rintro v U J ⟨rfl,rfl,rfl⟩;refine ⟨zi,zq,?_⟩;refine K6 rfl (U3f d.rests _ _ hm za) rfl rfl ?_;rintro v U J ⟨rfl,rfl,rfl⟩;refine ⟨zi,zq,?_⟩;apply qcw∘Xcr;refine J1 (Jb (Uq (Kf (Kg ?_))));refine q_r L R zhd ?_;exact ⟨by rw [Zw,if_neg za,if_pos za],rfl,rfl⟩
 refine J5 (Ji (Jb (Jq ?_)));have hk:=Jn (l:=d.rests.l) (k:=s.toNat) 0 za;apply Z0f∘Xca∘Juf∘qci∘Xca∘Juf∘qci∘qcw∘Xcr;refine J1 (Jb (Uq ?_));refine q_r L R zhd ?_;exact ⟨by rw [Zw,if_neg za,if_neg za],rfl,rfl⟩
def Vfc (d:XDoor) (s:Int) (L:LB) (R:LS) (hm:InR d.sl R):
 Tri Tryz.prog 181 [d.val,.int .i64 s].toArray L R (fun v U J=>v=(Zw d s).val∧L=U∧R=J):=by
 refine U3 Tryz.call181 hm fun hpn=>?_;refine Je 71 Tryz.call181 Tryz.func181 rfl rfl rfl ?_;apply (Xaf);intro b2;apply (qaq);intro b4;apply qaw∘Xab∘Xcn;apply J6 (G:=[_,_]) (j:=4) (cj:=11) rfl rfl zb rfl zsb rfl;·intro hg5;replace hg5:=qb hg5;exact (qaa) zme
 intro junk5;apply (qah);apply J6 (G:=[_,_,_,_,_]) (j:=8) (cj:=15) rfl rfl zb rfl zsb rfl;·intro hg9;replace hg9:=qb hg9;exact (qaa∘Xed) qai
 intro junk9;apply (qaf);refine q_c ?_ ?_<;>intro hc0;·apply qae∘qck∘Xdp;refine q_r L R zhd ?_;exact ⟨by rw [Zw,if_pos za],rfl,rfl⟩
 apply Xc4∘Xcv;refine q_c ?_ ?_<;>intro hc1;·refine Jq ?_;have hk:=Jn (l:=d.rests.l) (k:=s.toNat) 0 za;apply Z0f∘Xca∘Juf∘qci∘Xca∘Juf∘qci∘qcw∘Xcr;refine J1 (Jb (Uq (Kg ?_)));refine q_r L R zhd ?_;exact ⟨by rw [Zw,if_neg za,if_neg za],rfl,rfl⟩
 apply (qcl);have h0:=Jn (l:=d.rests.l) (k:=0) 0 za;refine Ki tb [0,1,2,3,4,5,6,7,8,9,10] _ Kq zc ye ?_;apply Xai∘qdu∘qbl∘Xai∘qdu∘qbl;refine K0 zNb rfl rfl rfl ?_;apply (qbr);intro b5;apply qbg∘qc6∘Xbf;refine Jm [(2,.pointer _),(4,.pointer _),(5,.pointer _),(6,.int _ _)] zh fun tq0=>?_;refine q_p ([6]++rg 45 25) ((⟨fun g=>[(6,.int .i64 ((g.1:Nat):Int))],fun g=>⟨b5,[.int .i64 (Zsb d.rests.l g.1),.int .i64 (Z6b d.rests.l g.1)],90⟩ :: ⟨b4,[.int .i64 0,.int .i64 0],90⟩ :: ⟨b2,d.cells,239⟩ :: L,fun _=>R,fun g=>d.rests.l.length - g.1⟩:Head {k:Nat // k≤d.rests.l.length})) (⟨0,by omega⟩) ?_;rintro ⟨k,hk⟩ junk;try dsimp only
 apply Xa3∘Xdi;refine q_c ?_ ?_<;>intro hc2;·have hx:=Jn (l:=d.rests.l) (k:=k) 0 za;refine J5 (Jb (Jq (Kk ?_)));refine J7 tb [62,63,64,65,66,67] [0,1,2,3,4,5,6,7,8,9,10,11,12,13,14,15,16] [17,18,19] (_) _ Kq zc zi (by (repeat (first | apply List.Sublist.cons (a:=Blk.mk b5 _ _) | apply List.Sublist.cons_cons));exact yt _) ?_;apply Xaj∘Xca∘qc5∘qci;refine Kt (Jsc rfl rfl) rfl rfl rfl rfl ?_;apply Xaj∘Xdd;refine Vo zqd rfl rfl rfl rfl ?_;refine Vo zAa rfl rfl rfl rfl ?_;refine Vo zfa rfl rfl rfl rfl ?_;refine Vo ztc rfl rfl rfl rfl ?_;apply qan∘qba∘qb6∘qal∘qb6∘qby∘Xbd;exact q_k ⟨k + 1,by omega⟩
 obtain rfl:k=d.rests.l.length:=by omega
 apply qbk∘Xc5;refine q_r L R zhd ?_;exact ⟨by rw [Zw,if_neg za,if_pos za],rfl,rfl⟩
end Go.Proofs.YtchfclmokpbldaaGreat
end
