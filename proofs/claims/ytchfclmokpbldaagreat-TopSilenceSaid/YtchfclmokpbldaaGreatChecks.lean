/-
  Checks: Plan, FanC, DoorC, BranchC, Rest, in one text. By an AI agent; no person has read it.
-/
import Derived.Test.YtchfclmokpbldaaGreatRun
set_option linter.all false
set_option maxHeartbeats 4000000
section
variable {A B:Prop}
def Zhe(h:A→B:=by exact Jy zca rfl):=h
def Zme(h:A→B:=by exact Jy zMa rfl):=h
def Jaf(h:A→B:=by exact Kp zLa rfl rfl rfl rfl):=h
def Z0f(h:A→B:=by exact K0 (by first | exact Je tb rfl rfl rfl rfl zy (i:=k0 - 1) zk za | exact Jn tb rfl rfl rfl rfl (i:=k0 - 1) zk za) rfl rfl rfl):=h
def Vng(h:B:=by exact ⟨by rw [Yla,if_neg za,if_neg za,Yk hp0 za (Ztb hp za za hq za)];rfl,rfl,rfl⟩):=h
def Ksg(h:A→B:=by exact J5 tb [] [0,1,2,3,4,5,6,7,8,9,10] [11] (_) _ Kr zc zg zQ):=h
end
section
namespace Go.Proofs.YtchfclmokpbldaaGreat
open Go.Aw Go
set_option maxRecDepth 20000
attribute [local irreducible] CJ LJ DJ Tri YV Gives Uq J2 Km Ur RV J4
def Kbc (s:XSpan) (lo hi:Int):Bool:=decide (lo≤s.low) && (decide (s.low≤s.high) && decide (s.high≤hi))
def Ktc (s:XSpan) (lo hi:Int) (L:LB) (R:LS):
 Tri Tryz.prog 237 [s.val,.int .i64 lo,.int .i64 hi].toArray L R (fun v M U=>v=.bool (Kbc s lo hi)∧L=M∧R=U):=by
 refine Jd 24 Tryz.call237 Tryz.func237 rfl rfl rfl ?_;apply (Xaf);intro b3;apply qaz∘Xc9∘Xaa∘qbx∘qah;apply Uy (G:=[_,_,_,_,_]) (j:=4) (cj:=11) rfl rfl zb rfl zmb rfl;·intro hg5;replace hg5:=qb hg5;exact (Xbe∘qbx) qai
 intro junk5;apply (qah);apply Uy (G:=[_,_,_,_]) (j:=11) (cj:=18) rfl rfl zb rfl zmb rfl;·intro hg12;replace hg12:=qb hg12;exact (Xah∘qbx) qai
 intro junk12;apply (Xbk);refine q_b L R ?_;exact ⟨by simp [Kbc,Bool.and_assoc],rfl,rfl⟩
def Jia (p:XPlace):Option Int:=if p.height < -10000∨10000 < p.height then some 1 else none
def V3 (n:Nat) (r:XRoad):Option Int:=
 if r.fr < 0∨(n:Int)≤r.fr∨r.to < 0∨(n:Int)≤r.to∨r.fr=r.to then some 4
 else if r.len < 1∨100000 < r.len∨r.area < 1∨1000 < r.area∨Kbc r.rest 1 262144=false∨Kbc r.lift (-2199023255552) 2199023255552=false then some 1 else none
def Un (m:XMine):Int:=
 if 64 < m.places.l.length∨128 < m.roads.l.length then 2
 else match m.places.l.findSome? Jia with
  | some e=>e
  | none=>(m.roads.l.findSome? (V3 m.places.l.length)).getD 0
def Kjb (m:XMine) (L:LB) (R:LS) (hm:MineR m R):
 Tri Tryz.prog 183 [m.val].toArray L R (fun v M U=>v=.int .i64 (Un m)∧L=M∧R=U):=by
 have hpl:=hm.places;have hro:=hm.roads;refine Vq Tryz.call183 hpl fun hpn=>?_;refine Vq Tryz.call183 hro fun hrn=>?_;refine Jd 100 Tryz.call183 Tryz.func183 rfl rfl rfl ?_;apply (Xaf);intro b1;apply Xap∘Xdw∘qah;apply Kd (G:=[_,_,_,_]) (j:=4) (cj:=12) rfl rfl zb rfl zmb rfl;·exact zLd
 intro junk5;apply (qaf);refine q_c ?_ ?_<;>intro hc0;·apply (Xa7);refine q_i L R ?_;exact ⟨by simp [Un];omega,rfl,rfl⟩
 apply (Xc4);refine Jl [(1,.pointer _),(19,.slice _ _ _),(20,.int _ _),(21,.int _ _)] zh fun tq0=>?_;refine q_p ([2,4]++rg 21 13) ((⟨fun g=>[(21,.int .i64 ((g.1:Nat):Int))],fun _=>⟨b1,m.cells,28⟩ :: L,fun _=>R,fun g=>m.places.l.length - g.1⟩:Head (FS Jia m.places.l))) (⟨0,K4a _ _⟩) ?_;rintro ⟨k,hk,hkeep⟩ junk;try dsimp only
 apply (Xan);refine q_c ?_ ?_<;>intro hc1;·
  obtain ⟨x,hx⟩:=Kn (l:=m.places.l) (k:=k) za;apply qbb∘qa3∘Xea;intro b4;apply Xa0∘Xbt;apply Kd (G:=[_,_,_]) (j:=3) (cj:=28) rfl rfl zb rfl zmb rfl;·exact ztd
  intro junk4;apply (qaf);refine q_c ?_ ?_<;>intro hc2;·apply (Xch);refine q_i L R ?_;exact ⟨by simp [Un,Z5 hkeep hx (show Jia x=some 1 by simp [Jia];omega)];omega,rfl,rfl⟩
  apply (Xay);exact q_k ⟨k + 1,Kqa hkeep hx (by simp [Jia];omega)⟩
 have hp:=Kla hkeep za;apply qbk∘Xab∘Xap∘Xaz;refine Jl [(5,.int _ _),(38,.slice _ _ _),(39,.int _ _),(40,.int _ _)] zh fun tq1=>?_;refine q_p ([2,7]++rg 40 60) ((⟨fun g=>[(40,.int .i64 ((g.1:Nat):Int))],fun _=>⟨b1,m.cells,28⟩ :: L,fun _=>R,fun g=>m.roads.l.length - g.1⟩:Head (FS (V3 m.places.l.length) m.roads.l))) (⟨0,K4a _ _⟩) ?_;rintro ⟨k2,hk2,hkeep2⟩ junk;try dsimp only
 apply (Xan);refine q_c ?_ ?_<;>intro hc3;·
  obtain ⟨y,hy⟩:=Kn (l:=m.roads.l) (k:=k2) za;apply qbb∘qa3∘qc8∘qaq;intro b7;apply Xbc∘Xbt;apply Kd (G:=[_,_,_,_]) (j:=3) (cj:=47) rfl rfl zb rfl zmb rfl;·exact ubl
  intro junk4;apply (qah);apply Kd (G:=[_,_,_]) (j:=9) (cj:=53) rfl rfl zb rfl zmb rfl;·intro hg10;replace hg10:=qb hg10;exact zHd
  intro junk10;apply (qah);apply Kd (G:=[_,_,_,_]) (j:=14) (cj:=58) rfl rfl zb rfl zmb rfl;·intro hg15;replace hg15:=qb hg15;exact (Xah) zAd
  intro junk15;apply (qah);apply Kd (G:=[_,_,_,_,_]) (j:=20) (cj:=64) rfl rfl zb rfl zmb rfl;·intro hg21;replace hg21:=qb hg21;exact (Xbe) zKd
  intro junk21;apply (qaf);refine q_c ?_ ?_<;>intro hc4;·apply (Xdg);refine q_i L R ?_;exact ⟨by simp [Un,hp,Z5 hkeep2 hy (show V3 m.places.l.length y=some 4 by simp [V3];omega)];omega,rfl,rfl⟩
  apply qbo∘Xbt;apply Kd (G:=[_,_,_]) (j:=3) (cj:=74) rfl rfl zb rfl zmb rfl;·exact ztd
  intro junk4;apply (qah);apply Kd (G:=[_,_,_]) (j:=8) (cj:=79) rfl rfl zb rfl zmb rfl;·exact zte
  intro junk9;apply (qah);apply Kd (G:=[_,_,_]) (j:=13) (cj:=84) rfl rfl zb rfl zmb rfl;·exact zSd
  intro junk14;apply (qaf);refine q_c ?_ ?_<;>intro hc5;·apply (Xdg);refine q_i L R ?_;exact ⟨by simp [Un,hp,Z5 hkeep2 hy (show V3 m.places.l.length y=some 1 by rw [V3,if_neg za,if_pos za])];omega,rfl,rfl⟩
  apply qbv∘Xd9;refine q_l rfl (Ktc y.rest _ _ _ _) ?_;apply (Xda);apply Kd (G:=[_,_,_,_]) (j:=4) (cj:=93) rfl rfl zb rfl zmb rfl;·intro hg5;replace hg5:=qb hg5;apply (Xd9);refine q_l rfl (Ktc y.lift _ _ _ _) ?_;exact (qb4) qai
  intro junk5;apply (qaf);refine q_c ?_ ?_<;>intro hc6;·apply (Xch);refine q_i L R ?_;exact ⟨by simp [Un,hp,Z5 hkeep2 hy (show V3 m.places.l.length y=some 1 by rw [V3,if_neg za,if_pos (by rcases hc6 with h | h <;> simp [h])])];omega,rfl,rfl⟩
  apply (Xay);exact q_k ⟨k2 + 1,Kqa hkeep2 hy (by rw [V3,if_neg za,if_neg (by simp [hc6];omega)])⟩
 have hq:=Kla hkeep2 za;apply (Xcx);refine q_i L R ?_;exact ⟨by simp [Un,hp,hq];omega,rfl,rfl⟩
end Go.Proofs.YtchfclmokpbldaaGreat
end
section
namespace Go.Proofs.YtchfclmokpbldaaGreat
open Go.Aw Go
set_option maxRecDepth 20000
attribute [local irreducible] CJ LJ DJ Tri YV Gives Uq J2 Km Ur RV J4
def Ym (l:List XPoint) (i:Nat):Option Int:=
 match l[i]? with
 | none=>none
 | some p => if p.flow < -1048576 ∨ 1048576 < p.flow ∨ p.pres < 0 ∨ 2199023255552 < p.pres then some 1
  else if i=0 then none
  else match l[i - 1]? with
   | none=>none
   | some q=>if p.flow≤q.flow∨q.pres < p.pres then some 14 else none
def Yla (f:XFan):Int:=
 if f.road < 0 then 4 else if f.curve.l.length < 1∨8 < f.curve.l.length then 2
 else ((List.range f.curve.l.length).findSome? (Ym f.curve.l)).getD 0
def Ucc {l:List XPoint} {k:Nat} {p:XPoint} (h:l[k]?=some p) (hr:p.flow < -1048576∨1048576 < p.flow∨p.pres < 0∨2199023255552 < p.pres):Ym l k=some 1:=by simp only [Ym,h,if_pos hr]
def Ztb {l:List XPoint} {k:Nat} {p q:XPoint} (h:l[k]?=some p) (hr:¬ (p.flow < -1048576∨1048576 < p.flow∨p.pres < 0∨2199023255552 < p.pres)) (hk:k≠0) (h':l[k - 1]?=some q) (hb:p.flow≤q.flow∨q.pres < p.pres):Ym l k=some 14:=by simp only [Ym,h,if_neg hr,if_neg hk,h',if_pos hb]
def Uic {l:List XPoint} {k:Nat} {p:XPoint} (h:l[k]?=some p) (hr:¬ (p.flow < -1048576∨1048576 < p.flow∨p.pres < 0∨2199023255552 < p.pres)) (hk:k=0):Ym l k=none:=by simp only [Ym,h,if_neg hr,if_pos hk]
def Ukc {l:List XPoint} {k:Nat} {p q:XPoint} (h:l[k]?=some p) (hr:¬ (p.flow < -1048576∨1048576 < p.flow∨p.pres < 0∨2199023255552 < p.pres)) (hk:k≠0) (h':l[k - 1]?=some q) (hb:¬ (p.flow≤q.flow∨q.pres < p.pres)):Ym l k=none:=by simp only [Ym,h,if_neg hr,if_neg hk,h',if_neg hb]
def Z8c (f:XFan) (L:LB) (R:LS) (hm:InR f.sl R):
 Tri Tryz.prog 184 [f.val].toArray L R (fun v M U=>v=.int .i64 (Yla f)∧L=M∧R=U):=by
 refine Vq Tryz.call184 hm fun hpn=>?_;refine Jd 71 Tryz.call184 Tryz.func184 rfl rfl rfl ?_;apply (Xaf);intro b1;apply Xap∘Xaa∘Xbb;refine q_c ?_ ?_<;>intro hc0;·apply (Xa7);refine q_i L R ?_;exact ⟨by rw [Yla,if_pos za],rfl,rfl⟩
 apply qbo∘Xab∘Xau;apply Kd (G:=[_,_,_,_]) (j:=4) (cj:=12) rfl rfl zb rfl zmb rfl;·exact zLd
 intro junk5;apply (qaf);refine q_c ?_ ?_<;>intro hc1;·apply (Xa7);refine q_i L R ?_;exact ⟨by rw [Yla,if_neg za,if_pos za],rfl,rfl⟩
 apply (Xc4);refine Jl [(1,.pointer _),(19,.slice _ _ _),(20,.int _ _),(21,.int _ _)] zh fun tq0=>?_;refine q_s ([2,3,4]++rg 21 50) (fun g:FSR (Ym f.curve.l) (f.curve.l.length)=>[(21,.int .i64 ((g.1:Nat):Int))]) (fun g=>(f.curve.l.length) - g.1) ⟨0,Kya _ _⟩ ?_;rintro ⟨k0,hk0,hp0⟩ junk;try dsimp only
 apply (Xan);refine q_c ?_ ?_<;>intro hc2;·
  obtain ⟨p,hp⟩:=Kn (l:=f.curve.l) (k:=k0) za;apply Xa4∘Zhe∘Xea;intro b4;apply qad∘Xbc∘Xbt;apply Kd (G:=[_,_,_]) (j:=3) (cj:=29) rfl rfl zb rfl zmb rfl;·exact ztd
  intro junk4;apply (qah);apply Kd (G:=[_,_,_]) (j:=8) (cj:=34) rfl rfl zb rfl zmb rfl;·exact zte
  intro junk9;apply (qah);apply Kd (G:=[_,_,_]) (j:=13) (cj:=39) rfl rfl zb rfl zmb rfl;·exact zSd
  intro junk14;apply (qaf);refine q_c ?_ ?_<;>intro hc3;·apply (Xdg);refine q_i L R ?_;exact ⟨by rw [Yla,if_neg za,if_neg za,Yk hp0 za (Ucc hp za)];rfl,rfl,rfl⟩
  apply (qcl);refine Kh tb [0,1,2,3,4,5,6,7,8,9,10,11,12,13,14,15,16,17,18,19,20,21,22,23,24,25] _ Kr zc ye ?_;apply (qao);refine K0 (Yuc rfl rfl) rfl rfl rfl ?_;apply (qb2);refine Vj (k:=46) zmb (fun hg2=>?_) (fun hg2=>?_);·
   replace hg2:=qb hg2;obtain ⟨q,hq⟩:=Kn (l:=f.curve.l) (k:=k0 - 1) za;apply Xak∘Xbv∘qb7∘Z0f∘qce∘qbl;refine K0 (Uzf rfl rfl) rfl rfl rfl ?_;apply (qb2);refine Vj (k:=57) zmb (fun hg13=>?_) (fun hg13=>?_);·replace hg13:=qb hg13;(iterate 10 apply (qap));apply qbp∘Xb7;refine K9 rfl ?_;apply (Xch);refine q_i L R ?_;exact Vng
   replace hg13:=qb hg13;apply Xak∘Xbv∘qb7∘Z0f∘qce∘qbl;refine K0 (Yuc rfl rfl) rfl rfl rfl ?_;apply qbp∘Xb7;refine q_c ?_ ?_<;>intro hc4;·apply (Xch);refine q_i L R ?_;exact Vng
   exact zde
  replace hg2:=qb hg2;iterate 22 apply (qap)
  apply (Xb7);refine Zm rfl ?_;exact zde
 have hn0:=J9a hp0 za;apply (Xcx);refine q_i L R ?_;exact ⟨by rw [Yla,if_neg za,if_neg za,hn0];rfl,rfl,rfl⟩
end Go.Proofs.YtchfclmokpbldaaGreat
end
section
namespace Go.Proofs.YtchfclmokpbldaaGreat
open Go.Aw Go
set_option maxRecDepth 20000
attribute [local irreducible] CJ LJ DJ Tri YV Gives Uq J2 Km Ur RV J4
def Jfb (x:Int):Option Int:=if x < 0∨262144 < x then some 1 else none
def Uka (l : List Int) : Nat → Bool
 | 0=>true
 | k + 1=>Uka l k && (decide (k=0) || decide (l.getD k 0 < l.getD (k - 1) 0))
def Vrd {l:List Int} {k:Nat} {x:Int} (hx:l[k]?=some x):(Uka l k && (decide ((k:Int)=0) || decide (x < l.getD (k - 1) 0)))=Uka l (k + 1):=by rw [Uka,getD_some hx];congr 2;simp only [decide_eq_decide];omega
abbrev Usb (l:List XDoor) (i:Nat) (d:XDoor):Prop:=
 d.other≠-1∧(d.other < 0∨(l.length:Int)≤d.other∨d.other=(i:Int)∨(l.getD d.other.toNat default).other≠(i:Int))
def J2a (l:List XDoor) (i:Nat):Option Int:=
 match l[i]? with
 | none=>none
 | some d => if d.road < 0 then some 4 else if d.rests.l.length < 2 ∨ 6 < d.rests.l.length then some 2
  else match d.rests.l.findSome? Jfb with
   | some e=>some e
   | none=>if Uka d.rests.l d.rests.l.length=false then some 15 else if Usb l i d then some 15 else none
def Vw (l:List XDoor):Int:=if 16 < l.length then 2 else ((List.range l.length).findSome? (J2a l)).getD 0
def Uib {l : List XDoor} {i : Nat} {d : XDoor} (h : l[i]? = some d) : J2a l i = if d.road < 0 then some 4 else if d.rests.l.length < 2 ∨ 6 < d.rests.l.length then some 2
 else match d.rests.l.findSome? Jfb with
  | some e=>some e
  | none=>if Uka d.rests.l d.rests.l.length=false then some 15 else if Usb l i d then some 15 else none:=by rw [J2a,h]
def Ufa {l:List XDoor} {k:Nat} {e:Int} (h16:¬ 16 < l.length) (hp:(List.range l.length).findSome? (J2a l)=((List.range l.length).drop k).findSome? (J2a l)) (hk:k < l.length) (h:J2a l k=some e):Vw l=e:=by rw [Vw,if_neg h16,Yk hp hk h];rfl
def Vpc (x:Arr XDoor) (L:LB) (R:LS) (hm:InR (dsl x) R):
 Tri Tryz.prog 185 [x.val].toArray L R (fun v M U=>v=.int .i64 (Vw x.l)∧L=M∧R=U):=by
 refine Vq Tryz.call185 hm fun hpn=>?_;refine Jd 95 Tryz.call185 Tryz.func185 rfl rfl rfl ?_;apply Xac∘qaw∘Xaq∘Xca;refine q_c ?_ ?_<;>intro hc0;·apply (Xa7);refine q_i L R ?_;exact ⟨by rw [Vw,if_pos za],rfl,rfl⟩
 apply qbo∘Xb5;refine Jl [(0,.slice _ _ _),(11,.slice _ _ _),(12,.int _ _),(13,.int _ _)] zh fun tq0=>?_;refine q_s (rg 2 6++rg 13 82) (fun g:FSR (J2a x.l) (x.l.length)=>[(13,.int .i64 ((g.1:Nat):Int))]) (fun g=>(x.l.length) - g.1) ⟨0,Kya _ _⟩ ?_;rintro ⟨k0,hk0,hp0⟩ junk;try dsimp only
 apply (Xan);refine q_c ?_ ?_<;>intro hc1;·
  obtain ⟨d,hd⟩:=Kn (l:=x.l) (k:=k0) za;have hdr:=InR.door hm hd;have hde:=Uib hd;apply Xa4∘Zhe∘qdk∘qaq;intro b4;apply qad∘Xdl∘Xbb;refine q_c ?_ ?_<;>intro hc2;·apply (Xdg);refine q_i L R ?_;exact ⟨by rw [Ufa za hp0 za (hde.trans (if_pos za))],rfl,rfl⟩
  apply qbo∘Xab∘Xau;apply Kd (G:=[_,_,_,_]) (j:=4) (cj:=25) rfl rfl zb rfl zmb rfl;·exact zLd
  intro junk5;apply (qaf);refine q_c ?_ ?_<;>intro hc3;·apply (Xdg);refine q_i L R ?_;exact ⟨by rw [Ufa za hp0 za (hde.trans (by rw [if_neg za,if_pos za]))],rfl,rfl⟩
  rw [if_neg za,if_neg za] at hde;apply qbv∘qaz∘qaw∘Xaz;refine Vd (rg 2 6++rg 13 82) zJ [(3,.int _ _),(4,.pointer _),(5,.bool _),(13,.int _ _),(32,.slice _ _ _),(33,.int _ _),(34,.int _ _)] zh fun tq1=>?_;refine q_s ([2,5,6,7]++rg 34 27) (fun g:FS (Jfb) (d.rests.l)=>[(34,.int .i64 ((g.1:Nat):Int)),(5,.bool (Uka d.rests.l g.1))]) (fun g=>(d.rests.l).length - g.1) ⟨0,K4a _ _⟩ ?_;rintro ⟨k1,hk1,hp1⟩ junk;try dsimp only
  apply (Xan);refine q_c ?_ ?_<;>intro hc4;·
   obtain ⟨r,hr⟩:=Kn (l:=d.rests.l) (k:=k1) za;apply Xa4∘Zme∘qa7∘qad∘Xby∘Xau;apply Kd (G:=[_,_]) (j:=2) (cj:=41) rfl rfl zb rfl zmb rfl;·exact zwd
   intro junk3;apply (qaf);refine q_c ?_ ?_<;>intro hc5;·apply (Xac);refine J7 (Jb (K6 (J6 (J9 (J6 (Yb (J9 (J6 (J9 (J6 (Yb (J9 (J6 ?_)))))))))))));refine q_i L R ?_;exact ⟨by rw [Ufa za hp0 za (hde.trans (by rw [Z5 hp1 hr (if_pos za)]))],rfl,rfl⟩
   refine J3 (Jb (Jh ?_));apply qah∘qah;apply Uy (G:=[_,_,_,_,_,_,_,_,_,_,_,_]) (j:=1) (cj:=46) rfl rfl zb rfl zmb rfl;·
    intro hg2;replace hg2:=qb hg2;apply qaa∘Xcc;apply Kd (G:=[_,_,_,_,_,_,_,_]) (j:=4) (cj:=49) rfl rfl zb rfl zmb rfl;·intro hg5;replace hg5:=qb hg5;have hy:=Jt (l:=d.rests.l) (k:=k1 - 1) 0 za;apply qaa∘Xct;refine Jy (by first | exact Je tb rfl rfl rfl rfl zy (i:=k1 - 1) zk za | exact Jn tb rfl rfl rfl rfl (i:=k1 - 1) zk za) rfl ?_;exact (qa7) zJd
    intro junk5;exact qai
   intro junk2;apply qaz∘Xa8;exact Ki ⟨k1 + 1,Kqa hp1 hr (if_neg za)⟩ zm ⟨rfl,congrArg Value.bool (Vrd hr),trivial⟩ zg zBb zu
  have hn1:=Kla hp1 za;obtain rfl:k1=d.rests.l.length:=by omega
  rw [hn1] at hde;dsimp only at hde;apply qcf∘qah∘Xbl;refine q_c ?_ ?_<;>intro hc6;·apply (Xdg);refine q_i L R ?_;exact ⟨by rw [Ufa za hp0 za (hde.trans (by rw [if_pos hc6]))],rfl,rfl⟩
  rw [if_neg (by simp [hc6])] at hde;apply qbv∘Xaa∘Xb3;apply Uy (G:=[_,_,_,_,_,_,_,_,_,_,_,_,_,_,_,_,_,_,_,_,_,_,_,_,_,_]) (j:=3) (cj:=66) rfl rfl zb rfl zmb rfl;·
   intro hg4;replace hg4:=qb hg4;apply (Xbt);apply Kd (G:=[_,_,_,_,_]) (j:=7) (cj:=70) rfl rfl zb rfl zmb rfl;·intro hg8;replace hg8:=qb hg8;exact (Xaa∘Xaq) zAd
   intro junk8;apply (qah);apply Kd (G:=[_,_,_,_]) (j:=14) (cj:=77) rfl rfl zb rfl zmb rfl;·intro hg15;replace hg15:=qb hg15;exact (Xah) zKd
   intro junk15;apply (qah);apply Kd (G:=[_,_,_,_,_,_,_,_]) (j:=20) (cj:=83) rfl rfl zb rfl zmb rfl;·intro hg21;replace hg21:=qb hg21;have ho:=Jt (l:=x.l) (k:=d.other.toNat) default za;apply (Xb8);refine Jy (by first | exact Je tb rfl rfl rfl rfl zy (i:=d.other.toNat) zk za | exact Jn tb rfl rfl rfl rfl (i:=d.other.toNat) zk za) rfl ?_;exact (Xbx∘qaa) zzd
   intro junk21;exact qai
  intro junk4;apply (qaf);refine q_c ?_ ?_<;>intro hc7;·apply (Xch);refine q_i L R ?_;exact ⟨by rw [Ufa za hp0 za (hde.trans (by rw [if_pos za]))],rfl,rfl⟩
  apply (Xay);exact q_k ⟨k0 + 1,Z0 hp0 za (hde.trans (if_neg za))⟩
 have hn0:=J9a hp0 za;apply (Xcx);refine q_i L R ?_;exact ⟨by rw [Vw,if_neg za,hn0];rfl,rfl,rfl⟩
end Go.Proofs.YtchfclmokpbldaaGreat
end
section
namespace Go.Proofs.YtchfclmokpbldaaGreat
open Go.Aw Go
set_option maxRecDepth 20000
attribute [local irreducible] CJ LJ DJ Tri YV Gives Uq J2 Km Ur RV J4
def Khd (n:Nat) (f:XFan):Option Int:=if Yla f≠0 then some (Yla f) else if (n:Int)≤f.road then some 4 else none
def Jkc (n:Nat) (d:XDoor):Option Int:=if (n:Int)≤d.road then some 4 else none
def Kx (x:XAir):Int:=
 if Un x.mine≠0 then Un x.mine else if 8 < x.fans.l.length then 2
 else match x.fans.l.findSome? (Khd x.mine.roads.l.length) with
  | some e=>e
  | none=>if Vw x.doors.l≠0 then Vw x.doors.l else (x.doors.l.findSome? (Jkc x.mine.roads.l.length)).getD 0
def K9c {x:XAir} (h:Un x.mine=0) (h8:¬ 8 < x.fans.l.length) {e:Int} (hf:x.fans.l.findSome? (Khd x.mine.roads.l.length)=some e):Kx x=e:=by rw [Kx,if_neg za,if_neg h8,hf]
def Zqb {x:XAir} (h:Un x.mine=0) (h8:¬ 8 < x.fans.l.length) (hf:x.fans.l.findSome? (Khd x.mine.roads.l.length)=none):
 Kx x=if Vw x.doors.l≠0 then Vw x.doors.l else (x.doors.l.findSome? (Jkc x.mine.roads.l.length)).getD 0:=by rw [Kx,if_neg za,if_neg h8,hf]
def Jha (x:XAir) (L:LB) (R:LS) (hm:AirR x R):
 Tri Tryz.prog 109 [x.val].toArray L R (fun v M U=>v=.int .i64 (Kx x)∧L=M∧R=U):=by
 have hfa:=hm.fans;have hdo:=hm.doors;refine Vq Tryz.call109 hfa fun hfn=>?_;refine Vq Tryz.call109 hdo fun hdn=>?_;refine Jd 61 Tryz.call109 Tryz.func109 rfl rfl rfl ?_;apply (Xaf);intro b1;apply Xap∘Xd9;refine q_l rfl (Kjb x.mine _ _ hm.mineR) ?_;apply (Xbi);refine q_c ?_ ?_<;>intro hc0;·apply (Xd6);refine q_i L R ?_;exact ⟨by rw [Kx,if_pos hc0],rfl,rfl⟩
 simp only [Decidable.not_not] at hc0;apply qbo∘Xab∘Xca;refine q_c ?_ ?_<;>intro hc1;·apply (Xa7);refine q_i L R ?_;exact ⟨by rw [Kx,if_neg za,if_pos za],rfl,rfl⟩
 apply (Xc4);refine Jl [(1,.pointer _),(21,.slice _ _ _),(22,.int _ _),(23,.int _ _)] zh fun tq0=>?_;refine q_s ([2,5,6]++rg 23 17) (fun g:FS (Khd x.mine.roads.l.length) (x.fans.l)=>[(23,.int .i64 ((g.1:Nat):Int))]) (fun g=>(x.fans.l).length - g.1) ⟨0,K4a _ _⟩ ?_;rintro ⟨k0,hk0,hp0⟩ junk;try dsimp only
 apply (Xan);refine q_c ?_ ?_<;>intro hc2;·
  obtain ⟨f,hf⟩:=Kn (l:=x.fans.l) (k:=k0) za;have hfr:=InR.fan hfa hf;apply qbb∘Zhe∘Xcs;intro b5;apply Xbc∘qa8;refine q_l rfl (Z8c f _ _ hfr) ?_
  skip
  apply (Xbi);refine q_c ?_ ?_<;>intro hc3;·apply Xd4∘qch;refine q_i L R ?_;exact ⟨by rw [K9c hc0 za (Z5 hp0 hf (if_pos hc3))],rfl,rfl⟩
  apply qbv∘Xaa∘Xce∘Xcw;refine q_c ?_ ?_<;>intro hc4;·apply (Xch);refine q_i L R ?_;exact ⟨by rw [K9c hc0 za (Z5 hp0 hf ((if_neg hc3).trans (if_pos hc4)))],rfl,rfl⟩
  apply (Xay);exact q_k ⟨k0 + 1,Kqa hp0 hf ((if_neg hc3).trans (if_neg hc4))⟩
 have hn0:=Kla hp0 za;have hr:=Zqb hc0 za hn0;apply qcf∘Xaa;refine q_l rfl (Vpc x.doors _ _ hdo) ?_;apply (Xbi);refine q_c ?_ ?_<;>intro hc5;·apply (Xd6);refine q_i L R ?_;exact ⟨by rw [hr,if_pos hc5],rfl,rfl⟩
 rw [if_neg hc5] at hr;apply (Xc4);refine Jl [(1,.pointer _),(47,.slice _ _ _),(48,.int _ _),(49,.int _ _)] zh fun tq1=>?_;refine q_s ([2,9]++rg 49 12) (fun g:FS (Jkc x.mine.roads.l.length) (x.doors.l)=>[(49,.int .i64 ((g.1:Nat):Int))]) (fun g=>(x.doors.l).length - g.1) ⟨0,K4a _ _⟩ ?_;rintro ⟨k1,hk1,hp1⟩ junk;try dsimp only
 apply (Xan);refine q_c ?_ ?_<;>intro hc6;·
  obtain ⟨d,hd⟩:=Kn (l:=x.doors.l) (k:=k1) za;apply qbb∘Zme∘qdk∘qaq;intro b9;apply Xb9∘Xce∘Xcw;refine q_c ?_ ?_<;>intro hc7;·apply (Xch);refine q_i L R ?_;exact ⟨by rw [hr,Z5 hp1 hd (if_pos hc7)];rfl,rfl,rfl⟩
  apply (Xay);exact q_k ⟨k1 + 1,Kqa hp1 hd (if_neg hc7)⟩
 have hn1:=Kla hp1 za;apply (Xcx);refine q_i L R ?_;exact ⟨by rw [hr,hn1];rfl,rfl,rfl⟩
def Kob (x:Int):Option Unit:=if x < -1∨2 < x then some () else none
def Zv (l:List XDoor) (s:List Int) (i:Nat):Option Unit:=
 match s[i]?,l[i]? with
 | some y,some d=>if y < -1∨(d.rests.l.length:Int)≤y then some () else none
 | _,_=>none
def Uza (a:XAir) (s:XSetting):Bool:=
 if s.fans.l.length≠a.fans.l.length∨s.doors.l.length≠a.doors.l.length then false
 else (s.fans.l.findSome? Kob).isNone && ((List.range s.doors.l.length).findSome? (Zv a.doors.l s.doors.l)).isNone
def U8e (a:XAir) (s:XSetting):Bool:=decide (Kx a=0) && Uza a s
def Yya {l:List XDoor} {s:List Int} {i:Nat} {y:Int} {d:XDoor} (hy:s[i]?=some y) (hd:l[i]?=some d):Zv l s i=if y < -1∨(d.rests.l.length:Int)≤y then some () else none:=by rw [Zv,hy,hd]
def Ybb {a:XAir} {s:XSetting} (h:s.fans.l.length=a.fans.l.length) (h':s.doors.l.length=a.doors.l.length):Uza a s=((s.fans.l.findSome? Kob).isNone && ((List.range s.doors.l.length).findSome? (Zv a.doors.l s.doors.l)).isNone):=by rw [Uza,if_neg za]
def Jzb (a:XAir) (s:XSetting) (L:LB) (R:LS) (hm:AirR a R) (hs:SetR s R):
 Tri Tryz.prog 110 [a.val,s.val].toArray L R (fun v M U=>v=.bool (Uza a s)∧L=M∧R=U):=by
 have hfa:=hm.fans;have hdo:=hm.doors;have hsf:=hs.fans;have hsd:=hs.doors;refine Vq Tryz.call110 hsf fun hfn=>?_;refine Vq Tryz.call110 hsd fun hdn=>?_;refine Jd 61 Tryz.call110 Tryz.func110 rfl rfl rfl ?_;apply (Xaf);intro b2;apply (qax);intro b3;apply qaz∘qaw∘Xab∘Xab∘Xb3;apply Kd (G:=[_,_,_,_,_,_,_]) (j:=7) (cj:=16) rfl rfl zb rfl zmb rfl;·intro hg8;replace hg8:=qb hg8;exact (Xab∘Xab) zzd
 intro junk8;apply (qaf);refine q_c ?_ ?_<;>intro hc0;·apply (Xdm);refine q_b L R ?_;exact ⟨by rw [Uza,if_pos za],rfl,rfl⟩
 apply (Xc4);refine Jl [(2,.pointer _),(3,.pointer _),(26,.slice _ _ _),(27,.int _ _),(28,.int _ _)] zh fun tq0=>?_;refine q_s ([4,6]++rg 28 11) (fun g:FS (Kob) (s.fans.l)=>[(28,.int .i64 ((g.1:Nat):Int))]) (fun g=>(s.fans.l).length - g.1) ⟨0,K4a _ _⟩ ?_;rintro ⟨k0,hk0,hp0⟩ junk;try dsimp only
 apply (Xan);refine q_c ?_ ?_<;>intro hc1;·
  obtain ⟨x,hx⟩:=Kn (l:=s.fans.l) (k:=k0) za;apply qbb∘Zhe∘qa7∘Xav∘Xau;apply Kd (G:=[_,_]) (j:=2) (cj:=34) rfl rfl zb rfl zmb rfl;·exact zwd
  intro junk3;apply (qaf);refine q_c ?_ ?_<;>intro hc2;·apply Xbh∘qbt;refine q_b L R ?_;exact ⟨by rw [Ybb za za,Z5 hp0 hx (if_pos za)];rfl,rfl,rfl⟩
  apply (Xay);exact q_k ⟨k0 + 1,Kqa hp0 hx (if_neg za)⟩
 have hn0:=Kla hp0 za;apply qcf∘Xaz;refine Jl [(2,.pointer _),(40,.slice _ _ _),(41,.int _ _),(42,.int _ _)] zh fun tq1=>?_;refine q_s ([4,7,8]++rg 42 19) (fun g:FSR (Zv a.doors.l s.doors.l) (s.doors.l.length)=>[(42,.int .i64 ((g.1:Nat):Int))]) (fun g=>(s.doors.l.length) - g.1) ⟨0,Kya _ _⟩ ?_;rintro ⟨k1,hk1,hp1⟩ junk;try dsimp only
 apply (Xan);refine q_c ?_ ?_<;>intro hc3;·
  obtain ⟨y,hy⟩:=Kn (l:=s.doors.l) (k:=k1) za;obtain ⟨d,hd⟩:=Kn (l:=a.doors.l) (k:=k1) za;have he:=Yya hy hd;apply Xa4∘Zme∘qa7∘qad∘Xav∘Xau;apply Kd (G:=[_,_,_,_,_,_,_,_,_]) (j:=2) (cj:=49) rfl rfl zb rfl zmb rfl;·intro hg3;replace hg3:=qb hg3;exact (qaa∘Xah∘Zme∘Xbx∘qag) zAd
  intro junk3;apply (qaf);refine q_c ?_ ?_<;>intro hc4;·apply Xbh∘qbt;refine q_b L R ?_;exact ⟨by rw [Ybb za za,Yk hp1 za (he.trans (if_pos za))];simp,rfl,rfl⟩
  apply (Xay);exact q_k ⟨k1 + 1,Z0 hp1 za (he.trans (if_neg za))⟩
 have hn1:=J9a hp1 za;apply qbk∘Xbk;refine q_b L R ?_;exact ⟨by rw [Ybb za za,hn0,hn1];rfl,rfl,rfl⟩
end Go.Proofs.YtchfclmokpbldaaGreat
end
section
namespace Go.Proofs.YtchfclmokpbldaaGreat
open Go.Aw Go
set_option maxRecDepth 20000
attribute [local irreducible] CJ LJ DJ Tri YV Gives Uq J2 Km Ur RV J4
def Yqb (l : List Int) : Nat → Int
 | 0=>l.getD 0 0
 | k + 1=>min (Yqb l k) (l.getD k 0)
def Zgb (l : List Int) : Nat → Int
 | 0=>l.getD 0 0
 | k + 1=>max (Zgb l k) (l.getD k 0)
def Z2 (d:XDoor) (s:Int):XSpan:=
 if d.rests.l.length=0∨s < -1∨(d.rests.l.length:Int)≤s then ⟨0,0⟩
 else if s= -1 then ⟨Yqb d.rests.l d.rests.l.length,Zgb d.rests.l d.rests.l.length⟩
 else ⟨d.rests.l.getD s.toNat 0,d.rests.l.getD s.toNat 0⟩
def Vvf (x:Arr Int) (L:LB) (R:LS) (hm:InR (isl x) R) (h1:1≤x.l.length):
 Tri Tryz.prog 244 [x.val].toArray L R (fun v M U=>v=.int .i64 (Yqb x.l x.l.length)∧L=M∧R=U):=by
 refine Vq Tryz.call244 hm fun hpn=>?_;have h0:=Jt (l:=x.l) (k:=0) 0 za;refine Jd 25 Tryz.call244 Tryz.func244 rfl rfl rfl ?_;apply Xac∘qaw∘Xaq∘Xbb;refine Kmb zmb zD ?_;apply Xdy∘qdt∘qa7∘Xap∘Xba;refine Jl [(0,.slice _ _ _),(3,.int _ _),(4,.int _ _)] zh fun tq0=>?_;refine Vgc ([3,4]++rg 12 12) (fun g:{k:Nat // 1≤k∧k≤x.l.length}=>[(4,.int .i64 ((g.1:Nat):Int)),(3,.int .i64 (Yqb x.l g.1))]) (fun g=>x.l.length - g.1) (⟨1,by omega,by omega⟩) ⟨rfl,congrArg (Value.int .i64) (Int.min_self _).symm,trivial⟩ ?_;rintro ⟨k,hk1,hk2⟩ junk;try dsimp only
 apply Xa1∘Xaq∘Xbb;refine q_c ?_ ?_<;>intro hc1;·have hk:=Jt (l:=x.l) (k:=k) 0 za;refine J3 (Jb (Jp (Kc (Jh ?_))));apply qaa∘Xas∘qa3∘qa7;refine Jy zHc rfl ?_;exact (qad∘Xdo) qd0
 obtain rfl:k=x.l.length:=by omega
 apply (Xd3);refine q_i L R ?_;exact zDd
def Vpf (x:Arr Int) (L:LB) (R:LS) (hm:InR (isl x) R) (h1:1≤x.l.length):
 Tri Tryz.prog 245 [x.val].toArray L R (fun v M U=>v=.int .i64 (Zgb x.l x.l.length)∧L=M∧R=U):=by
 refine Vq Tryz.call245 hm fun hpn=>?_;have h0:=Jt (l:=x.l) (k:=0) 0 za;refine Jd 25 Tryz.call245 Tryz.func245 rfl rfl rfl ?_;apply Xac∘qaw∘Xaq∘Xbb;refine Kmb zmb zD ?_;apply Xdy∘qdt∘qa7∘Xap∘Xba;refine Jl [(0,.slice _ _ _),(3,.int _ _),(4,.int _ _)] zh fun tq0=>?_;refine Vgc ([3,4]++rg 12 12) (fun g:{k:Nat // 1≤k∧k≤x.l.length}=>[(4,.int .i64 ((g.1:Nat):Int)),(3,.int .i64 (Zgb x.l g.1))]) (fun g=>x.l.length - g.1) (⟨1,by omega,by omega⟩) ⟨rfl,congrArg (Value.int .i64) (Int.max_self _).symm,trivial⟩ ?_;rintro ⟨k,hk1,hk2⟩ junk;try dsimp only
 apply Xa1∘Xaq∘Xbb;refine q_c ?_ ?_<;>intro hc1;·have hk:=Jt (l:=x.l) (k:=k) 0 za;refine J3 (Jb (Jp (Kc (Jh ?_))));apply qaa∘Xas∘qa3∘qa7;refine Jy zgc rfl ?_;exact (qad∘Xdo) qd0
 obtain rfl:k=x.l.length:=by omega
 apply (Xd3);refine q_i L R ?_;exact zDd
def K2f (d:XDoor) (s:Int) (L:LB) (R:LS) (hm:InR d.sl R):
 Tri Tryz.prog 192 [d.val,.int .i64 s].toArray L R (fun v M U=>v=(Z2 d s).val∧L=M∧R=U):=by
 refine Vq Tryz.call192 hm fun hpn=>?_;refine Jd 43 Tryz.call192 Tryz.func192 rfl rfl rfl ?_;apply (Xaf);intro b2;apply (qaq);intro b4;refine J7 (Jb (Jp (Kc (Jp (Jh ?_)))));apply Xab∘Xcc;apply Kd (G:=[_,_]) (j:=4) (cj:=10) rfl rfl zb rfl zmb rfl;·intro hg5;replace hg5:=qb hg5;exact (qaa) zJd
 intro junk5;apply (qah);apply Kd (G:=[_,_,_,_,_]) (j:=8) (cj:=14) rfl rfl zb rfl zmb rfl;·intro hg9;replace hg9:=qb hg9;exact (Xec) zAd
 intro junk9;apply (Xar);refine q_c ?_ ?_<;>intro hc0;·apply qae∘qck∘qak∘qdb;refine q_r L R zTc ?_;exact ⟨by rw [Z2,if_pos za],rfl,rfl⟩
 apply Xbq∘Xax;refine q_c ?_ ?_<;>intro hc1;·refine Jp ?_;refine J5 tb [] [0,1,3,4,2,5,6] [7] (_) _ Kr zc zg zQ ?_;apply Xaj∘Xaj;refine Ks rfl (Vvf d.rests _ _ hm za) rfl rfl ?_;rintro v M U ⟨rfl,rfl,rfl⟩;refine ⟨zg,zq,?_⟩;refine Ks rfl (Vpf d.rests _ _ hm za) rfl rfl ?_;rintro v M U ⟨rfl,rfl,rfl⟩;refine ⟨zg,zq,?_⟩;apply qcw∘Xcm;refine J1 (Jb (K6 (J9 (J6 ?_))));refine q_r L R zTc ?_;exact ⟨by rw [Z2,if_neg za,if_pos za],rfl,rfl⟩
 refine J3 (Jf (Jb (Jp ?_)));have hk:=Jt (l:=d.rests.l) (k:=s.toNat) 0 za;apply Ksg∘Xcf∘Jaf∘qci∘Xcf∘Jaf∘qci∘qcw∘Xcm;refine J1 (Jb (K6 ?_));refine q_r L R zTc ?_;exact ⟨by rw [Z2,if_neg za,if_neg za],rfl,rfl⟩
def Vwc (d:XDoor) (s:Int) (L:LB) (R:LS) (hm:InR d.sl R):
 Tri Tryz.prog 181 [d.val,.int .i64 s].toArray L R (fun v M U=>v=(Z2 d s).val∧L=M∧R=U):=by
 refine Vq Tryz.call181 hm fun hpn=>?_;refine Jd 71 Tryz.call181 Tryz.func181 rfl rfl rfl ?_;apply (Xaf);intro b2;apply (qaq);intro b4;apply qaw∘Xab∘Xcc;apply Kd (G:=[_,_]) (j:=4) (cj:=11) rfl rfl zb rfl zmb rfl;·intro hg5;replace hg5:=qb hg5;exact (qaa) zJd
 intro junk5;apply (qah);apply Kd (G:=[_,_,_,_,_]) (j:=8) (cj:=15) rfl rfl zb rfl zmb rfl;·intro hg9;replace hg9:=qb hg9;exact (Xec) zAd
 intro junk9;apply (qaf);refine q_c ?_ ?_<;>intro hc0;·apply qae∘qck∘Xdt;refine q_r L R zTc ?_;exact ⟨by rw [Z2,if_pos za],rfl,rfl⟩
 apply qbo∘qaa∘Xcw;refine q_c ?_ ?_<;>intro hc1;·refine Jp ?_;have hk:=Jt (l:=d.rests.l) (k:=s.toNat) 0 za;apply Ksg∘Xcf∘Jaf∘qci∘Xcf∘Jaf∘qci∘qcw∘Xcm;refine J1 (Jb (K6 (J6 ?_)));refine q_r L R zTc ?_;exact ⟨by rw [Z2,if_neg za,if_neg za],rfl,rfl⟩
 apply (qcl);have h0:=Jt (l:=d.rests.l) (k:=0) 0 za;refine Kh tb [0,1,2,3,4,5,6,7,8,9,10] _ Kr zc ye ?_;apply Xak∘qdu∘qbl∘Xak∘qdu∘qbl;refine K0 zEb rfl rfl rfl ?_;apply (qbr);intro b5;apply qbg∘qc6∘Xba;refine Jl [(2,.pointer _),(4,.pointer _),(5,.pointer _),(6,.int _ _)] zh fun tq0=>?_;refine q_p ([6]++rg 45 25) ((⟨fun g=>[(6,.int .i64 ((g.1:Nat):Int))],fun g=>⟨b5,[.int .i64 (Yqb d.rests.l g.1),.int .i64 (Zgb d.rests.l g.1)],90⟩ :: ⟨b4,[.int .i64 0,.int .i64 0],90⟩ :: ⟨b2,d.cells,239⟩ :: L,fun _=>R,fun g=>d.rests.l.length - g.1⟩:Head {k:Nat // k≤d.rests.l.length})) (⟨0,by omega⟩) ?_;rintro ⟨k,hk⟩ junk;try dsimp only
 apply Xa1∘Xd8;refine q_c ?_ ?_<;>intro hc2;·have hx:=Jt (l:=d.rests.l) (k:=k) 0 za;refine J3 (Jb (Jp (Kc ?_)));refine J5 tb [62,63,64,65,66,67] [0,1,2,3,4,5,6,7,8,9,10,11,12,13,14,15,16] [17,18,19] (_) _ Kr zc zg (by (repeat (first | apply List.Sublist.cons (a:=Blk.mk b5 _ _) | apply List.Sublist.cons_cons));exact yv _) ?_;apply Xaj∘Xcf∘qc5∘qci;refine Kp zHc rfl rfl rfl rfl ?_;apply Xaj∘Xdh;refine Vf (Jx znb) rfl rfl rfl rfl ?_;refine Vf zxa rfl rfl rfl rfl ?_;refine Vf zja rfl rfl rfl rfl ?_;refine Vf zgc rfl rfl rfl rfl ?_;apply Xeb∘qb6∘qal∘qb6∘qby∘Xbo;exact q_k ⟨k + 1,by omega⟩
 obtain rfl:k=d.rests.l.length:=by omega
 apply qbk∘Xc5;refine q_r L R zTc ?_;exact ⟨by rw [Z2,if_neg za,if_pos za],rfl,rfl⟩
end Go.Proofs.YtchfclmokpbldaaGreat
end
