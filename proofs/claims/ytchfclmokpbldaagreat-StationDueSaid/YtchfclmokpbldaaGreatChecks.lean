/-
  Checks: Plan, FanC, DoorC, BranchC, Rest, in one text. By an AI agent; no person has read it.
-/
import Derived.Test.YtchfclmokpbldaaGreatRun
set_option linter.all false
set_option maxHeartbeats 4000000
section
variable {A B:Prop}
def Kdf(h:A→B:=by exact Jx zea rfl):=h
def Jqf(h:A→B:=by exact Jx zPa rfl):=h
def Zfe(h:A→B:=by exact Kr zOa rfl rfl rfl rfl):=h
def Zgf(h:A→B:=by exact K1 (by first | exact Jf tb rfl rfl rfl rfl zy (i:=k0 - 1) zk za | exact Jq tb rfl rfl rfl rfl (i:=k0 - 1) zk za) rfl rfl rfl):=h
def Z6f(h:B:=by exact ⟨by rw [Yga,if_neg za,if_neg za,Yl hp0 za (V9b hp za za hq za)];rfl,rfl,rfl⟩):=h
def Zwf(h:A→B:=by exact J6 tb [] [0,1,2,3,4,5,6,7,8,9,10] [11] (_) _ Kq zc zg zR):=h
end
section
namespace Go.Proofs.YtchfclmokpbldaaGreat
open Go.Aw Go
set_option maxRecDepth 20000
attribute [local irreducible] CJ LJ DJ Tri YV Gives Ur J3 Ko Uq RV J5
def J0c (s:XSpan) (lo hi:Int):Bool:=decide (lo≤s.low) && (decide (s.low≤s.high) && decide (s.high≤hi))
def Ktc (s:XSpan) (lo hi:Int) (L:LB) (R:LS):
 Tri Tryz.prog 237 [s.val,.int .i64 lo,.int .i64 hi].toArray L R (fun v M U=>v=.bool (J0c s lo hi)∧L=M∧R=U):=by
 refine Jd 24 Tryz.call237 Tryz.func237 rfl rfl rfl ?_;apply (Xaf);intro b3;apply qaz∘Xc3∘Xaa∘qbx∘qah;apply Us (G:=[_,_,_,_,_]) (j:=4) (cj:=11) rfl rfl zb rfl zmb rfl;·intro hg5;replace hg5:=qb hg5;exact (Xa6∘qbx) qai
 intro junk5;apply (qah);apply Us (G:=[_,_,_,_]) (j:=11) (cj:=18) rfl rfl zb rfl zmb rfl;·intro hg12;replace hg12:=qb hg12;exact (Xai∘qbx) qai
 intro junk12;apply (Xbf);refine q_b L R ?_;exact ⟨by simp [J0c,Bool.and_assoc],rfl,rfl⟩
def Jma (p:XPlace):Option Int:=if p.height < -10000∨10000 < p.height then some 1 else none
def V1 (n:Nat) (r:XRoad):Option Int:=
 if r.fr < 0∨(n:Int)≤r.fr∨r.to < 0∨(n:Int)≤r.to∨r.fr=r.to then some 4
 else if r.len < 1∨100000 < r.len∨r.area < 1∨1000 < r.area∨J0c r.rest 1 262144=false∨J0c r.lift (-2199023255552) 2199023255552=false then some 1 else none
def Uj (m:XMine):Int:=
 if 64 < m.places.l.length∨128 < m.roads.l.length then 2
 else match m.places.l.findSome? Jma with
  | some e=>e
  | none=>(m.roads.l.findSome? (V1 m.places.l.length)).getD 0
def J0b (m:XMine) (L:LB) (R:LS) (hm:MineR m R):
 Tri Tryz.prog 183 [m.val].toArray L R (fun v M U=>v=.int .i64 (Uj m)∧L=M∧R=U):=by
 have hpl:=hm.places;have hro:=hm.roads;refine Vb Tryz.call183 hpl fun hpn=>?_;refine Vb Tryz.call183 hro fun hrn=>?_;refine Jd 100 Tryz.call183 Tryz.func183 rfl rfl rfl ?_;apply (Xaf);intro b1;apply Xar∘Xdq∘qah;apply Kf (G:=[_,_,_,_]) (j:=4) (cj:=12) rfl rfl zb rfl zmb rfl;·exact zLd
 intro junk5;apply (qaf);refine q_c ?_ ?_<;>intro hc0;·apply (Xbc);refine q_i L R ?_;exact ⟨by simp [Uj];omega,rfl,rfl⟩
 apply (Xc0);refine Jl [(1,.pointer _),(19,.slice _ _ _),(20,.int _ _),(21,.int _ _)] zh fun tq0=>?_;refine q_p ([2,4]++rg 21 13) ((⟨fun g=>[(21,.int .i64 ((g.1:Nat):Int))],fun _=>⟨b1,m.cells,28⟩ :: L,fun _=>R,fun g=>m.places.l.length - g.1⟩:Head (FS Jma m.places.l))) (⟨0,K8a _ _⟩) ?_;rintro ⟨k,hk,hkeep⟩ junk;try dsimp only
 apply (Xan);refine q_c ?_ ?_<;>intro hc1;·
  obtain ⟨x,hx⟩:=Kn (l:=m.places.l) (k:=k) za;apply qbb∘qa3∘Xeb;intro b4;apply Xa2∘Xbu;apply Kf (G:=[_,_,_]) (j:=3) (cj:=28) rfl rfl zb rfl zmb rfl;·exact zud
  intro junk4;apply (qaf);refine q_c ?_ ?_<;>intro hc2;·apply (Xcf);refine q_i L R ?_;exact ⟨by simp [Uj,Zs hkeep hx (show Jma x=some 1 by simp [Jma];omega)];omega,rfl,rfl⟩
  apply (Xa0);exact q_k ⟨k + 1,Kma hkeep hx (by simp [Jma];omega)⟩
 have hp:=Kla hkeep za;apply qbk∘Xab∘Xar∘Xaz;refine Jl [(5,.int _ _),(38,.slice _ _ _),(39,.int _ _),(40,.int _ _)] zh fun tq1=>?_;refine q_p ([2,7]++rg 40 60) ((⟨fun g=>[(40,.int .i64 ((g.1:Nat):Int))],fun _=>⟨b1,m.cells,28⟩ :: L,fun _=>R,fun g=>m.roads.l.length - g.1⟩:Head (FS (V1 m.places.l.length) m.roads.l))) (⟨0,K8a _ _⟩) ?_;rintro ⟨k2,hk2,hkeep2⟩ junk;try dsimp only
 apply (Xan);refine q_c ?_ ?_<;>intro hc3;·
  obtain ⟨y,hy⟩:=Kn (l:=m.roads.l) (k:=k2) za;apply qbb∘qa3∘qc8∘qaq;intro b7;apply Xbg∘Xbu;apply Kf (G:=[_,_,_,_]) (j:=3) (cj:=47) rfl rfl zb rfl zmb rfl;·exact ubm
  intro junk4;apply (qah);apply Kf (G:=[_,_,_]) (j:=9) (cj:=53) rfl rfl zb rfl zmb rfl;·intro hg10;replace hg10:=qb hg10;exact zJd
  intro junk10;apply (qah);apply Kf (G:=[_,_,_,_]) (j:=14) (cj:=58) rfl rfl zb rfl zmb rfl;·intro hg15;replace hg15:=qb hg15;exact (Xai) zCd
  intro junk15;apply (qah);apply Kf (G:=[_,_,_,_,_]) (j:=20) (cj:=64) rfl rfl zb rfl zmb rfl;·intro hg21;replace hg21:=qb hg21;exact (Xa6) zRd
  intro junk21;apply (qaf);refine q_c ?_ ?_<;>intro hc4;·apply (Xda);refine q_i L R ?_;exact ⟨by simp [Uj,hp,Zs hkeep2 hy (show V1 m.places.l.length y=some 4 by simp [V1];omega)];omega,rfl,rfl⟩
  apply qbo∘Xbu;apply Kf (G:=[_,_,_]) (j:=3) (cj:=74) rfl rfl zb rfl zmb rfl;·exact zud
  intro junk4;apply (qah);apply Kf (G:=[_,_,_]) (j:=8) (cj:=79) rfl rfl zb rfl zmb rfl;·exact zve
  intro junk9;apply (qah);apply Kf (G:=[_,_,_]) (j:=13) (cj:=84) rfl rfl zb rfl zmb rfl;·exact zVd
  intro junk14;apply (qaf);refine q_c ?_ ?_<;>intro hc5;·apply (Xda);refine q_i L R ?_;exact ⟨by simp [Uj,hp,Zs hkeep2 hy (show V1 m.places.l.length y=some 1 by rw [V1,if_neg za,if_pos za])];omega,rfl,rfl⟩
  apply qbv∘Xea;refine q_l rfl (Ktc y.rest _ _ _ _) ?_;apply (Xc4);apply Kf (G:=[_,_,_,_]) (j:=4) (cj:=93) rfl rfl zb rfl zmb rfl;·intro hg5;replace hg5:=qb hg5;apply (Xea);refine q_l rfl (Ktc y.lift _ _ _ _) ?_;exact (qb4) qai
  intro junk5;apply (qaf);refine q_c ?_ ?_<;>intro hc6;·apply (Xcf);refine q_i L R ?_;exact ⟨by simp [Uj,hp,Zs hkeep2 hy (show V1 m.places.l.length y=some 1 by rw [V1,if_neg za,if_pos (by rcases hc6 with h | h <;> simp [h])])];omega,rfl,rfl⟩
  apply (Xa0);exact q_k ⟨k2 + 1,Kma hkeep2 hy (by rw [V1,if_neg za,if_neg (by simp [hc6];omega)])⟩
 have hq:=Kla hkeep2 za;apply (Xcr);refine q_i L R ?_;exact ⟨by simp [Uj,hp,hq];omega,rfl,rfl⟩
end Go.Proofs.YtchfclmokpbldaaGreat
end
section
namespace Go.Proofs.YtchfclmokpbldaaGreat
open Go.Aw Go
set_option maxRecDepth 20000
attribute [local irreducible] CJ LJ DJ Tri YV Gives Ur J3 Ko Uq RV J5
def Yi (l:List XPoint) (i:Nat):Option Int:=
 match l[i]? with
 | none=>none
 | some p => if p.flow < -1048576 ∨ 1048576 < p.flow ∨ p.pres < 0 ∨ 2199023255552 < p.pres then some 1
  else if i=0 then none
  else match l[i - 1]? with
   | none=>none
   | some q=>if p.flow≤q.flow∨q.pres < p.pres then some 14 else none
def Yga (f:XFan):Int:=
 if f.road < 0 then 4 else if f.curve.l.length < 1∨8 < f.curve.l.length then 2
 else ((List.range f.curve.l.length).findSome? (Yi f.curve.l)).getD 0
def K6c {l:List XPoint} {k:Nat} {p:XPoint} (h:l[k]?=some p) (hr:p.flow < -1048576∨1048576 < p.flow∨p.pres < 0∨2199023255552 < p.pres):Yi l k=some 1:=by simp only [Yi,h,if_pos hr]
def V9b {l:List XPoint} {k:Nat} {p q:XPoint} (h:l[k]?=some p) (hr:¬ (p.flow < -1048576∨1048576 < p.flow∨p.pres < 0∨2199023255552 < p.pres)) (hk:k≠0) (h':l[k - 1]?=some q) (hb:p.flow≤q.flow∨q.pres < p.pres):Yi l k=some 14:=by simp only [Yi,h,if_neg hr,if_neg hk,h',if_pos hb]
def J3c {l:List XPoint} {k:Nat} {p:XPoint} (h:l[k]?=some p) (hr:¬ (p.flow < -1048576∨1048576 < p.flow∨p.pres < 0∨2199023255552 < p.pres)) (hk:k=0):Yi l k=none:=by simp only [Yi,h,if_neg hr,if_pos hk]
def Kzc {l:List XPoint} {k:Nat} {p q:XPoint} (h:l[k]?=some p) (hr:¬ (p.flow < -1048576∨1048576 < p.flow∨p.pres < 0∨2199023255552 < p.pres)) (hk:k≠0) (h':l[k - 1]?=some q) (hb:¬ (p.flow≤q.flow∨q.pres < p.pres)):Yi l k=none:=by simp only [Yi,h,if_neg hr,if_neg hk,h',if_neg hb]
def Yfc (f:XFan) (L:LB) (R:LS) (hm:InR f.sl R):
 Tri Tryz.prog 184 [f.val].toArray L R (fun v M U=>v=.int .i64 (Yga f)∧L=M∧R=U):=by
 refine Vb Tryz.call184 hm fun hpn=>?_;refine Jd 71 Tryz.call184 Tryz.func184 rfl rfl rfl ?_;apply (Xaf);intro b1;apply Xar∘Xaa∘Xa5;refine q_c ?_ ?_<;>intro hc0;·apply (Xbc);refine q_i L R ?_;exact ⟨by rw [Yga,if_pos za],rfl,rfl⟩
 apply qbo∘Xab∘Xaw;apply Kf (G:=[_,_,_,_]) (j:=4) (cj:=12) rfl rfl zb rfl zmb rfl;·exact zLd
 intro junk5;apply (qaf);refine q_c ?_ ?_<;>intro hc1;·apply (Xbc);refine q_i L R ?_;exact ⟨by rw [Yga,if_neg za,if_pos za],rfl,rfl⟩
 apply (Xc0);refine Jl [(1,.pointer _),(19,.slice _ _ _),(20,.int _ _),(21,.int _ _)] zh fun tq0=>?_;refine q_s ([2,3,4]++rg 21 50) (fun g:FSR (Yi f.curve.l) (f.curve.l.length)=>[(21,.int .i64 ((g.1:Nat):Int))]) (fun g=>(f.curve.l.length) - g.1) ⟨0,Kya _ _⟩ ?_;rintro ⟨k0,hk0,hp0⟩ junk;try dsimp only
 apply (Xan);refine q_c ?_ ?_<;>intro hc2;·
  obtain ⟨p,hp⟩:=Kn (l:=f.curve.l) (k:=k0) za;apply Xa9∘Kdf∘Xeb;intro b4;apply qad∘Xbg∘Xbu;apply Kf (G:=[_,_,_]) (j:=3) (cj:=29) rfl rfl zb rfl zmb rfl;·exact zud
  intro junk4;apply (qah);apply Kf (G:=[_,_,_]) (j:=8) (cj:=34) rfl rfl zb rfl zmb rfl;·exact zve
  intro junk9;apply (qah);apply Kf (G:=[_,_,_]) (j:=13) (cj:=39) rfl rfl zb rfl zmb rfl;·exact zVd
  intro junk14;apply (qaf);refine q_c ?_ ?_<;>intro hc3;·apply (Xda);refine q_i L R ?_;exact ⟨by rw [Yga,if_neg za,if_neg za,Yl hp0 za (K6c hp za)];rfl,rfl,rfl⟩
  apply (qcl);refine Kh tb [0,1,2,3,4,5,6,7,8,9,10,11,12,13,14,15,16,17,18,19,20,21,22,23,24,25] _ Kq zc ye ?_;apply (qao);refine K1 (Zmc rfl rfl) rfl rfl rfl ?_;apply (qb2);refine Yh (k:=46) zmb (fun hg2=>?_) (fun hg2=>?_);·
   replace hg2:=qb hg2;obtain ⟨q,hq⟩:=Kn (l:=f.curve.l) (k:=k0 - 1) za;apply Xak∘Xbn∘qb7∘Zgf∘Xee;refine K1 (K8f rfl rfl) rfl rfl rfl ?_;apply (qb2);refine Yh (k:=57) zmb (fun hg13=>?_) (fun hg13=>?_);·replace hg13:=qb hg13;(iterate 10 apply (qap));apply qbp∘Xb8;refine K7 rfl ?_;apply (Xcf);refine q_i L R ?_;exact Z6f
   replace hg13:=qb hg13;apply Xak∘Xbn∘qb7∘Zgf∘Xee;refine K1 (Zmc rfl rfl) rfl rfl rfl ?_;apply qbp∘Xb8;refine q_c ?_ ?_<;>intro hc4;·apply (Xcf);refine q_i L R ?_;exact Z6f
   exact zge
  replace hg2:=qb hg2;iterate 22 apply (qap)
  apply (Xb8);refine Z7 rfl ?_;exact zge
 have hn0:=J9a hp0 za;apply (Xcr);refine q_i L R ?_;exact ⟨by rw [Yga,if_neg za,if_neg za,hn0];rfl,rfl,rfl⟩
end Go.Proofs.YtchfclmokpbldaaGreat
end
section
namespace Go.Proofs.YtchfclmokpbldaaGreat
open Go.Aw Go
set_option maxRecDepth 20000
attribute [local irreducible] CJ LJ DJ Tri YV Gives Ur J3 Ko Uq RV J5
def Jkb (x:Int):Option Int:=if x < 0∨262144 < x then some 1 else none
def Uia (l : List Int) : Nat → Bool
 | 0=>true
 | k + 1=>Uia l k && (decide (k=0) || decide (l.getD k 0 < l.getD (k - 1) 0))
def Kxd {l:List Int} {k:Nat} {x:Int} (hx:l[k]?=some x):(Uia l k && (decide ((k:Int)=0) || decide (x < l.getD (k - 1) 0)))=Uia l (k + 1):=by rw [Uia,getD_some hx];congr 2;simp only [decide_eq_decide];omega
abbrev K8b (l:List XDoor) (i:Nat) (d:XDoor):Prop:=
 d.other≠-1∧(d.other < 0∨(l.length:Int)≤d.other∨d.other=(i:Int)∨(l.getD d.other.toNat default).other≠(i:Int))
def J0a (l:List XDoor) (i:Nat):Option Int:=
 match l[i]? with
 | none=>none
 | some d => if d.road < 0 then some 4 else if d.rests.l.length < 2 ∨ 6 < d.rests.l.length then some 2
  else match d.rests.l.findSome? Jkb with
   | some e=>some e
   | none=>if Uia d.rests.l d.rests.l.length=false then some 15 else if K8b l i d then some 15 else none
def Vw (l:List XDoor):Int:=if 16 < l.length then 2 else ((List.range l.length).findSome? (J0a l)).getD 0
def Umb {l : List XDoor} {i : Nat} {d : XDoor} (h : l[i]? = some d) : J0a l i = if d.road < 0 then some 4 else if d.rests.l.length < 2 ∨ 6 < d.rests.l.length then some 2
 else match d.rests.l.findSome? Jkb with
  | some e=>some e
  | none=>if Uia d.rests.l d.rests.l.length=false then some 15 else if K8b l i d then some 15 else none:=by rw [J0a,h]
def K7a {l:List XDoor} {k:Nat} {e:Int} (h16:¬ 16 < l.length) (hp:(List.range l.length).findSome? (J0a l)=((List.range l.length).drop k).findSome? (J0a l)) (hk:k < l.length) (h:J0a l k=some e):Vw l=e:=by rw [Vw,if_neg h16,Yl hp hk h];rfl
def Vrc (x:Arr XDoor) (L:LB) (R:LS) (hm:InR (dsl x) R):
 Tri Tryz.prog 185 [x.val].toArray L R (fun v M U=>v=.int .i64 (Vw x.l)∧L=M∧R=U):=by
 refine Vb Tryz.call185 hm fun hpn=>?_;refine Jd 95 Tryz.call185 Tryz.func185 rfl rfl rfl ?_;apply Xac∘qaw∘Xao∘Xb4;refine q_c ?_ ?_<;>intro hc0;·apply (Xbc);refine q_i L R ?_;exact ⟨by rw [Vw,if_pos za],rfl,rfl⟩
 apply qbo∘Xb7;refine Jl [(0,.slice _ _ _),(11,.slice _ _ _),(12,.int _ _),(13,.int _ _)] zh fun tq0=>?_;refine q_s (rg 2 6++rg 13 82) (fun g:FSR (J0a x.l) (x.l.length)=>[(13,.int .i64 ((g.1:Nat):Int))]) (fun g=>(x.l.length) - g.1) ⟨0,Kya _ _⟩ ?_;rintro ⟨k0,hk0,hp0⟩ junk;try dsimp only
 apply (Xan);refine q_c ?_ ?_<;>intro hc1;·
  obtain ⟨d,hd⟩:=Kn (l:=x.l) (k:=k0) za;have hdr:=InR.door hm hd;have hde:=Umb hd;apply Xa9∘Kdf∘qdk∘qaq;intro b4;apply qad∘Xbg∘Xaa∘Xa5;refine q_c ?_ ?_<;>intro hc2;·apply (Xda);refine q_i L R ?_;exact ⟨by rw [K7a za hp0 za (hde.trans (if_pos za))],rfl,rfl⟩
  apply qbo∘Xab∘Xaw;apply Kf (G:=[_,_,_,_]) (j:=4) (cj:=25) rfl rfl zb rfl zmb rfl;·exact zLd
  intro junk5;apply (qaf);refine q_c ?_ ?_<;>intro hc3;·apply (Xda);refine q_i L R ?_;exact ⟨by rw [K7a za hp0 za (hde.trans (by rw [if_neg za,if_pos za]))],rfl,rfl⟩
  rw [if_neg za,if_neg za] at hde;apply qbv∘qaz∘qaw∘Xaz;refine Vh (rg 2 6++rg 13 82) zJ [(3,.int _ _),(4,.pointer _),(5,.bool _),(13,.int _ _),(32,.slice _ _ _),(33,.int _ _),(34,.int _ _)] zh fun tq1=>?_;refine q_s ([2,5,6,7]++rg 34 27) (fun g:FS (Jkb) (d.rests.l)=>[(34,.int .i64 ((g.1:Nat):Int)),(5,.bool (Uia d.rests.l g.1))]) (fun g=>(d.rests.l).length - g.1) ⟨0,K8a _ _⟩ ?_;rintro ⟨k1,hk1,hp1⟩ junk;try dsimp only
  apply (Xan);refine q_c ?_ ?_<;>intro hc4;·
   obtain ⟨r,hr⟩:=Kn (l:=d.rests.l) (k:=k1) za;apply Xa9∘Jqf∘qa7∘qad∘Xar∘Xca;apply Kf (G:=[_,_]) (j:=2) (cj:=41) rfl rfl zb rfl zmb rfl;·exact zyd
   intro junk3;apply (qaf);refine q_c ?_ ?_<;>intro hc5;·apply (Xac);refine J7 (Jb (Ui (Kg (Ke (Kg (Ye (Ke (Kg (Ke (Kg (Ye (Ke (Kg ?_)))))))))))));refine q_i L R ?_;exact ⟨by rw [K7a za hp0 za (hde.trans (by rw [Zs hp1 hr (if_pos za)]))],rfl,rfl⟩
   refine J1 (Jb (Jg ?_));apply qah∘qah;apply Us (G:=[_,_,_,_,_,_,_,_,_,_,_,_]) (j:=1) (cj:=46) rfl rfl zb rfl zmb rfl;·
    intro hg2;replace hg2:=qb hg2;apply qaa∘Xcc;apply Kf (G:=[_,_,_,_,_,_,_,_]) (j:=4) (cj:=49) rfl rfl zb rfl zmb rfl;·intro hg5;replace hg5:=qb hg5;have hy:=Ju (l:=d.rests.l) (k:=k1 - 1) 0 za;apply qaa∘Xdp;refine Jx (by first | exact Jf tb rfl rfl rfl rfl zy (i:=k1 - 1) zk za | exact Jq tb rfl rfl rfl rfl (i:=k1 - 1) zk za) rfl ?_;exact (qa7) zOd
    intro junk5;exact qai
   intro junk2;apply qaz∘Xbl;exact Ki ⟨k1 + 1,Kma hp1 hr (if_neg za)⟩ zm ⟨rfl,congrArg Value.bool (Kxd hr),trivial⟩ zg zCb zu
  have hn1:=Kla hp1 za;obtain rfl:k1=d.rests.l.length:=by omega
  rw [hn1] at hde;dsimp only at hde;apply qcf∘qah∘Xbr;refine q_c ?_ ?_<;>intro hc6;·apply (Xda);refine q_i L R ?_;exact ⟨by rw [K7a za hp0 za (hde.trans (by rw [if_pos hc6]))],rfl,rfl⟩
  rw [if_neg (by simp [hc6])] at hde;apply qbv∘Xaa∘Xb5;apply Us (G:=[_,_,_,_,_,_,_,_,_,_,_,_,_,_,_,_,_,_,_,_,_,_,_,_,_,_]) (j:=3) (cj:=66) rfl rfl zb rfl zmb rfl;·
   intro hg4;replace hg4:=qb hg4;apply (Xbu);apply Kf (G:=[_,_,_,_,_]) (j:=7) (cj:=70) rfl rfl zb rfl zmb rfl;·intro hg8;replace hg8:=qb hg8;exact (Xaa∘Xao) zCd
   intro junk8;apply (qah);apply Kf (G:=[_,_,_,_]) (j:=14) (cj:=77) rfl rfl zb rfl zmb rfl;·intro hg15;replace hg15:=qb hg15;exact (Xai) zRd
   intro junk15;apply (qah);apply Kf (G:=[_,_,_,_,_,_,_,_]) (j:=20) (cj:=83) rfl rfl zb rfl zmb rfl;·intro hg21;replace hg21:=qb hg21;have ho:=Ju (l:=x.l) (k:=d.other.toNat) default za;apply (Xct);refine Jx (by first | exact Jf tb rfl rfl rfl rfl zy (i:=d.other.toNat) zk za | exact Jq tb rfl rfl rfl rfl (i:=d.other.toNat) zk za) rfl ?_;exact (Xb1∘qaa) zAd
   intro junk21;exact qai
  intro junk4;apply (qaf);refine q_c ?_ ?_<;>intro hc7;·apply (Xcf);refine q_i L R ?_;exact ⟨by rw [K7a za hp0 za (hde.trans (by rw [if_pos za]))],rfl,rfl⟩
  apply (Xa0);exact q_k ⟨k0 + 1,Zr hp0 za (hde.trans (if_neg za))⟩
 have hn0:=J9a hp0 za;apply (Xcr);refine q_i L R ?_;exact ⟨by rw [Vw,if_neg za,hn0];rfl,rfl,rfl⟩
end Go.Proofs.YtchfclmokpbldaaGreat
end
section
namespace Go.Proofs.YtchfclmokpbldaaGreat
open Go.Aw Go
set_option maxRecDepth 20000
attribute [local irreducible] CJ LJ DJ Tri YV Gives Ur J3 Ko Uq RV J5
def Kjd (n:Nat) (f:XFan):Option Int:=if Yga f≠0 then some (Yga f) else if (n:Int)≤f.road then some 4 else none
def Zcb (n:Nat) (d:XDoor):Option Int:=if (n:Int)≤d.road then some 4 else none
def Kz (x:XAir):Int:=
 if Uj x.mine≠0 then Uj x.mine else if 8 < x.fans.l.length then 2
 else match x.fans.l.findSome? (Kjd x.mine.roads.l.length) with
  | some e=>e
  | none=>if Vw x.doors.l≠0 then Vw x.doors.l else (x.doors.l.findSome? (Zcb x.mine.roads.l.length)).getD 0
def J9c {x:XAir} (h:Uj x.mine=0) (h8:¬ 8 < x.fans.l.length) {e:Int} (hf:x.fans.l.findSome? (Kjd x.mine.roads.l.length)=some e):Kz x=e:=by rw [Kz,if_neg za,if_neg h8,hf]
def Z4b {x:XAir} (h:Uj x.mine=0) (h8:¬ 8 < x.fans.l.length) (hf:x.fans.l.findSome? (Kjd x.mine.roads.l.length)=none):
 Kz x=if Vw x.doors.l≠0 then Vw x.doors.l else (x.doors.l.findSome? (Zcb x.mine.roads.l.length)).getD 0:=by rw [Kz,if_neg za,if_neg h8,hf]
def Jfa (x:XAir) (L:LB) (R:LS) (hm:AirR x R):
 Tri Tryz.prog 109 [x.val].toArray L R (fun v M U=>v=.int .i64 (Kz x)∧L=M∧R=U):=by
 have hfa:=hm.fans;have hdo:=hm.doors;refine Vb Tryz.call109 hfa fun hfn=>?_;refine Vb Tryz.call109 hdo fun hdn=>?_;refine Jd 61 Tryz.call109 Tryz.func109 rfl rfl rfl ?_;apply (Xaf);intro b1;apply Xar∘Xea;refine q_l rfl (J0b x.mine _ _ hm.mineR) ?_;apply (Xbm);refine q_c ?_ ?_<;>intro hc0;·apply (Xd4);refine q_i L R ?_;exact ⟨by rw [Kz,if_pos hc0],rfl,rfl⟩
 simp only [Decidable.not_not] at hc0;apply qbo∘Xab∘Xb4;refine q_c ?_ ?_<;>intro hc1;·apply (Xbc);refine q_i L R ?_;exact ⟨by rw [Kz,if_neg za,if_pos za],rfl,rfl⟩
 apply (Xc0);refine Jl [(1,.pointer _),(21,.slice _ _ _),(22,.int _ _),(23,.int _ _)] zh fun tq0=>?_;refine q_s ([2,5,6]++rg 23 17) (fun g:FS (Kjd x.mine.roads.l.length) (x.fans.l)=>[(23,.int .i64 ((g.1:Nat):Int))]) (fun g=>(x.fans.l).length - g.1) ⟨0,K8a _ _⟩ ?_;rintro ⟨k0,hk0,hp0⟩ junk;try dsimp only
 apply (Xan);refine q_c ?_ ?_<;>intro hc2;·
  obtain ⟨f,hf⟩:=Kn (l:=x.fans.l) (k:=k0) za;have hfr:=InR.fan hfa hf;apply qbb∘Kdf∘Xdr;intro b5;apply Xbg∘qa8;refine q_l rfl (Yfc f _ _ hfr) ?_
  skip
  apply (Xbm);refine q_c ?_ ?_<;>intro hc3;·apply Xd2∘qch;refine q_i L R ?_;exact ⟨by rw [J9c hc0 za (Zs hp0 hf (if_pos hc3))],rfl,rfl⟩
  apply qbv∘Xaa∘Xce∘Xcq;refine q_c ?_ ?_<;>intro hc4;·apply (Xcf);refine q_i L R ?_;exact ⟨by rw [J9c hc0 za (Zs hp0 hf ((if_neg hc3).trans (if_pos hc4)))],rfl,rfl⟩
  apply (Xa0);exact q_k ⟨k0 + 1,Kma hp0 hf ((if_neg hc3).trans (if_neg hc4))⟩
 have hn0:=Kla hp0 za;have hr:=Z4b hc0 za hn0;apply qcf∘Xaa;refine q_l rfl (Vrc x.doors _ _ hdo) ?_;apply (Xbm);refine q_c ?_ ?_<;>intro hc5;·apply (Xd4);refine q_i L R ?_;exact ⟨by rw [hr,if_pos hc5],rfl,rfl⟩
 rw [if_neg hc5] at hr;apply (Xc0);refine Jl [(1,.pointer _),(47,.slice _ _ _),(48,.int _ _),(49,.int _ _)] zh fun tq1=>?_;refine q_s ([2,9]++rg 49 12) (fun g:FS (Zcb x.mine.roads.l.length) (x.doors.l)=>[(49,.int .i64 ((g.1:Nat):Int))]) (fun g=>(x.doors.l).length - g.1) ⟨0,K8a _ _⟩ ?_;rintro ⟨k1,hk1,hp1⟩ junk;try dsimp only
 apply (Xan);refine q_c ?_ ?_<;>intro hc6;·
  obtain ⟨d,hd⟩:=Kn (l:=x.doors.l) (k:=k1) za;apply qbb∘Jqf∘qdk∘qaq;intro b9;apply Xb9∘Xce∘Xcq;refine q_c ?_ ?_<;>intro hc7;·apply (Xcf);refine q_i L R ?_;exact ⟨by rw [hr,Zs hp1 hd (if_pos hc7)];rfl,rfl,rfl⟩
  apply (Xa0);exact q_k ⟨k1 + 1,Kma hp1 hd (if_neg hc7)⟩
 have hn1:=Kla hp1 za;apply (Xcr);refine q_i L R ?_;exact ⟨by rw [hr,hn1];rfl,rfl,rfl⟩
def Kxb (x:Int):Option Unit:=if x < -1∨2 < x then some () else none
def Zq (l:List XDoor) (s:List Int) (i:Nat):Option Unit:=
 match s[i]?,l[i]? with
 | some y,some d=>if y < -1∨(d.rests.l.length:Int)≤y then some () else none
 | _,_=>none
def Vba (a:XAir) (s:XSetting):Bool:=
 if s.fans.l.length≠a.fans.l.length∨s.doors.l.length≠a.doors.l.length then false
 else (s.fans.l.findSome? Kxb).isNone && ((List.range s.doors.l.length).findSome? (Zq a.doors.l s.doors.l)).isNone
def Y3a {l:List XDoor} {s:List Int} {i:Nat} {y:Int} {d:XDoor} (hy:s[i]?=some y) (hd:l[i]?=some d):Zq l s i=if y < -1∨(d.rests.l.length:Int)≤y then some () else none:=by rw [Zq,hy,hd]
def V3b {a:XAir} {s:XSetting} (h:s.fans.l.length=a.fans.l.length) (h':s.doors.l.length=a.doors.l.length):Vba a s=((s.fans.l.findSome? Kxb).isNone && ((List.range s.doors.l.length).findSome? (Zq a.doors.l s.doors.l)).isNone):=by rw [Vba,if_neg za]
def Jnb (a:XAir) (s:XSetting) (L:LB) (R:LS) (hm:AirR a R) (hs:SetR s R):
 Tri Tryz.prog 110 [a.val,s.val].toArray L R (fun v M U=>v=.bool (Vba a s)∧L=M∧R=U):=by
 have hfa:=hm.fans;have hdo:=hm.doors;have hsf:=hs.fans;have hsd:=hs.doors;refine Vb Tryz.call110 hsf fun hfn=>?_;refine Vb Tryz.call110 hsd fun hdn=>?_;refine Jd 61 Tryz.call110 Tryz.func110 rfl rfl rfl ?_;apply (Xaf);intro b2;apply (qax);intro b3;apply qaz∘qaw∘Xab∘Xab∘Xb5;apply Kf (G:=[_,_,_,_,_,_,_]) (j:=7) (cj:=16) rfl rfl zb rfl zmb rfl;·intro hg8;replace hg8:=qb hg8;exact (Xab∘Xab) zAd
 intro junk8;apply (qaf);refine q_c ?_ ?_<;>intro hc0;·apply (Xc8);refine q_b L R ?_;exact ⟨by rw [Vba,if_pos za],rfl,rfl⟩
 apply (Xc0);refine Jl [(2,.pointer _),(3,.pointer _),(26,.slice _ _ _),(27,.int _ _),(28,.int _ _)] zh fun tq0=>?_;refine q_s ([4,6]++rg 28 11) (fun g:FS (Kxb) (s.fans.l)=>[(28,.int .i64 ((g.1:Nat):Int))]) (fun g=>(s.fans.l).length - g.1) ⟨0,K8a _ _⟩ ?_;rintro ⟨k0,hk0,hp0⟩ junk;try dsimp only
 apply (Xan);refine q_c ?_ ?_<;>intro hc1;·
  obtain ⟨x,hx⟩:=Kn (l:=s.fans.l) (k:=k0) za;apply qbb∘Kdf∘qa7∘Xav∘Xaw;apply Kf (G:=[_,_]) (j:=2) (cj:=34) rfl rfl zb rfl zmb rfl;·exact zyd
  intro junk3;apply (qaf);refine q_c ?_ ?_<;>intro hc2;·apply (Xdl);refine q_b L R ?_;exact ⟨by rw [V3b za za,Zs hp0 hx (if_pos za)];rfl,rfl,rfl⟩
  apply (Xa0);exact q_k ⟨k0 + 1,Kma hp0 hx (if_neg za)⟩
 have hn0:=Kla hp0 za;apply qcf∘Xaz;refine Jl [(2,.pointer _),(40,.slice _ _ _),(41,.int _ _),(42,.int _ _)] zh fun tq1=>?_;refine q_s ([4,7,8]++rg 42 19) (fun g:FSR (Zq a.doors.l s.doors.l) (s.doors.l.length)=>[(42,.int .i64 ((g.1:Nat):Int))]) (fun g=>(s.doors.l.length) - g.1) ⟨0,Kya _ _⟩ ?_;rintro ⟨k1,hk1,hp1⟩ junk;try dsimp only
 apply (Xan);refine q_c ?_ ?_<;>intro hc3;·
  obtain ⟨y,hy⟩:=Kn (l:=s.doors.l) (k:=k1) za;obtain ⟨d,hd⟩:=Kn (l:=a.doors.l) (k:=k1) za;have he:=Y3a hy hd;apply Xa9∘Jqf∘qa7∘qad∘Xav∘Xaw;apply Kf (G:=[_,_,_,_,_,_,_,_,_]) (j:=2) (cj:=49) rfl rfl zb rfl zmb rfl;·intro hg3;replace hg3:=qb hg3;exact (qaa∘Xai∘Jqf∘Xb1∘qag) zCd
  intro junk3;apply (qaf);refine q_c ?_ ?_<;>intro hc4;·apply (Xdl);refine q_b L R ?_;exact ⟨by rw [V3b za za,Yl hp1 za (he.trans (if_pos za))];simp,rfl,rfl⟩
  apply (Xa0);exact q_k ⟨k1 + 1,Zr hp1 za (he.trans (if_neg za))⟩
 have hn1:=J9a hp1 za;apply qbk∘Xbf;refine q_b L R ?_;exact ⟨by rw [V3b za za,hn0,hn1];rfl,rfl,rfl⟩
end Go.Proofs.YtchfclmokpbldaaGreat
end
section
namespace Go.Proofs.YtchfclmokpbldaaGreat
open Go.Aw Go
set_option maxRecDepth 20000
attribute [local irreducible] CJ LJ DJ Tri YV Gives Ur J3 Ko Uq RV J5
def Yab (l : List Int) : Nat → Int
 | 0=>l.getD 0 0
 | k + 1=>min (Yab l k) (l.getD k 0)
def V6b (l : List Int) : Nat → Int
 | 0=>l.getD 0 0
 | k + 1=>max (V6b l k) (l.getD k 0)
def Zu (d:XDoor) (s:Int):XSpan:=
 if d.rests.l.length=0∨s < -1∨(d.rests.l.length:Int)≤s then ⟨0,0⟩
 else if s= -1 then ⟨Yab d.rests.l d.rests.l.length,V6b d.rests.l d.rests.l.length⟩
 else ⟨d.rests.l.getD s.toNat 0,d.rests.l.getD s.toNat 0⟩
def Yif (x:Arr Int) (L:LB) (R:LS) (hm:InR (isl x) R) (h1:1≤x.l.length):
 Tri Tryz.prog 244 [x.val].toArray L R (fun v M U=>v=.int .i64 (Yab x.l x.l.length)∧L=M∧R=U):=by
 refine Vb Tryz.call244 hm fun hpn=>?_;have h0:=Ju (l:=x.l) (k:=0) 0 za;refine Jd 25 Tryz.call244 Tryz.func244 rfl rfl rfl ?_;apply Xac∘qaw∘Xao∘Xa5;refine Ktb zmb zD ?_;apply qbv∘qbm∘qdt∘qa7∘Xar∘Xa4;refine Jl [(0,.slice _ _ _),(3,.int _ _),(4,.int _ _)] zh fun tq0=>?_;refine Uxc ([3,4]++rg 12 12) (fun g:{k:Nat // 1≤k∧k≤x.l.length}=>[(4,.int .i64 ((g.1:Nat):Int)),(3,.int .i64 (Yab x.l g.1))]) (fun g=>x.l.length - g.1) (⟨1,by omega,by omega⟩) ⟨rfl,congrArg (Value.int .i64) (Int.min_self _).symm,trivial⟩ ?_;rintro ⟨k,hk1,hk2⟩ junk;try dsimp only
 apply Xay∘Xao∘Xa5;refine q_c ?_ ?_<;>intro hc1;·have hk:=Ju (l:=x.l) (k:=k) 0 za;refine J1 (Jb (Jp (Ka (Jg ?_))));apply qaa∘Xas∘qa3∘qa7;refine Jx zPc rfl ?_;exact (qad∘Xdk) qd0
 obtain rfl:k=x.l.length:=by omega
 apply (Xd0);refine q_i L R ?_;exact zFd
def U1f (x:Arr Int) (L:LB) (R:LS) (hm:InR (isl x) R) (h1:1≤x.l.length):
 Tri Tryz.prog 245 [x.val].toArray L R (fun v M U=>v=.int .i64 (V6b x.l x.l.length)∧L=M∧R=U):=by
 refine Vb Tryz.call245 hm fun hpn=>?_;have h0:=Ju (l:=x.l) (k:=0) 0 za;refine Jd 25 Tryz.call245 Tryz.func245 rfl rfl rfl ?_;apply Xac∘qaw∘Xao∘Xa5;refine Ktb zmb zD ?_;apply qbv∘qbm∘qdt∘qa7∘Xar∘Xa4;refine Jl [(0,.slice _ _ _),(3,.int _ _),(4,.int _ _)] zh fun tq0=>?_;refine Uxc ([3,4]++rg 12 12) (fun g:{k:Nat // 1≤k∧k≤x.l.length}=>[(4,.int .i64 ((g.1:Nat):Int)),(3,.int .i64 (V6b x.l g.1))]) (fun g=>x.l.length - g.1) (⟨1,by omega,by omega⟩) ⟨rfl,congrArg (Value.int .i64) (Int.max_self _).symm,trivial⟩ ?_;rintro ⟨k,hk1,hk2⟩ junk;try dsimp only
 apply Xay∘Xao∘Xa5;refine q_c ?_ ?_<;>intro hc1;·have hk:=Ju (l:=x.l) (k:=k) 0 za;refine J1 (Jb (Jp (Ka (Jg ?_))));apply qaa∘Xas∘qa3∘qa7;refine Jx zhc rfl ?_;exact (qad∘Xdk) qd0
 obtain rfl:k=x.l.length:=by omega
 apply (Xd0);refine q_i L R ?_;exact zFd
def Zne (d:XDoor) (s:Int) (L:LB) (R:LS) (hm:InR d.sl R):
 Tri Tryz.prog 192 [d.val,.int .i64 s].toArray L R (fun v M U=>v=(Zu d s).val∧L=M∧R=U):=by
 refine Vb Tryz.call192 hm fun hpn=>?_;refine Jd 43 Tryz.call192 Tryz.func192 rfl rfl rfl ?_;apply (Xaf);intro b2;apply (qaq);intro b4;refine J7 (Jb (Jp (Ka (Jp (Jg ?_)))));apply Xab∘Xcc;apply Kf (G:=[_,_]) (j:=4) (cj:=10) rfl rfl zb rfl zmb rfl;·intro hg5;replace hg5:=qb hg5;exact (qaa) zOd
 intro junk5;apply (qah);apply Kf (G:=[_,_,_,_,_]) (j:=8) (cj:=14) rfl rfl zb rfl zmb rfl;·intro hg9;replace hg9:=qb hg9;exact (Xd5) zCd
 intro junk9;apply (Xaq);refine q_c ?_ ?_<;>intro hc0;·apply qae∘qck∘qak∘qdb;refine q_r L R zUc ?_;exact ⟨by rw [Zu,if_pos za],rfl,rfl⟩
 apply Xbq∘Xax;refine q_c ?_ ?_<;>intro hc1;·refine Jp ?_;refine J6 tb [] [0,1,3,4,2,5,6] [7] (_) _ Kq zc zg zR ?_;apply Xah∘Xah;refine Ku rfl (Yif d.rests _ _ hm za) rfl rfl ?_;rintro v M U ⟨rfl,rfl,rfl⟩;refine ⟨zg,zq,?_⟩;refine Ku rfl (U1f d.rests _ _ hm za) rfl rfl ?_;rintro v M U ⟨rfl,rfl,rfl⟩;refine ⟨zg,zq,?_⟩;apply qcw∘Xcs;refine J2 (Jb (Ui (Ke (Kg ?_))));refine q_r L R zUc ?_;exact ⟨by rw [Zu,if_neg za,if_pos za],rfl,rfl⟩
 refine J1 (Je (Jb (Jp ?_)));have hk:=Ju (l:=d.rests.l) (k:=s.toNat) 0 za;apply Zwf∘Xcb∘Zfe∘qci∘Xcb∘Zfe∘qci∘qcw∘Xcs;refine J2 (Jb (Ui ?_));refine q_r L R zUc ?_;exact ⟨by rw [Zu,if_neg za,if_neg za],rfl,rfl⟩
def Yac (d:XDoor) (s:Int) (L:LB) (R:LS) (hm:InR d.sl R):
 Tri Tryz.prog 181 [d.val,.int .i64 s].toArray L R (fun v M U=>v=(Zu d s).val∧L=M∧R=U):=by
 refine Vb Tryz.call181 hm fun hpn=>?_;refine Jd 71 Tryz.call181 Tryz.func181 rfl rfl rfl ?_;apply (Xaf);intro b2;apply (qaq);intro b4;apply qaw∘Xab∘Xcc;apply Kf (G:=[_,_]) (j:=4) (cj:=11) rfl rfl zb rfl zmb rfl;·intro hg5;replace hg5:=qb hg5;exact (qaa) zOd
 intro junk5;apply (qah);apply Kf (G:=[_,_,_,_,_]) (j:=8) (cj:=15) rfl rfl zb rfl zmb rfl;·intro hg9;replace hg9:=qb hg9;exact (Xd5) zCd
 intro junk9;apply (qaf);refine q_c ?_ ?_<;>intro hc0;·apply qae∘qck∘Xds;refine q_r L R zUc ?_;exact ⟨by rw [Zu,if_pos za],rfl,rfl⟩
 apply qbo∘qaa∘Xcq;refine q_c ?_ ?_<;>intro hc1;·refine Jp ?_;have hk:=Ju (l:=d.rests.l) (k:=s.toNat) 0 za;apply Zwf∘Xcb∘Zfe∘qci∘Xcb∘Zfe∘qci∘qcw∘Xcs;refine J2 (Jb (Ui (Kg ?_)));refine q_r L R zUc ?_;exact ⟨by rw [Zu,if_neg za,if_neg za],rfl,rfl⟩
 apply (qcl);have h0:=Ju (l:=d.rests.l) (k:=0) 0 za;refine Kh tb [0,1,2,3,4,5,6,7,8,9,10] _ Kq zc ye ?_;apply Xak∘qdu∘qbl∘Xak∘qdu∘qbl;refine K1 zFb rfl rfl rfl ?_;apply (qbr);intro b5;apply qbg∘qc6∘Xa4;refine Jl [(2,.pointer _),(4,.pointer _),(5,.pointer _),(6,.int _ _)] zh fun tq0=>?_;refine q_p ([6]++rg 45 25) ((⟨fun g=>[(6,.int .i64 ((g.1:Nat):Int))],fun g=>⟨b5,[.int .i64 (Yab d.rests.l g.1),.int .i64 (V6b d.rests.l g.1)],90⟩ :: ⟨b4,[.int .i64 0,.int .i64 0],90⟩ :: ⟨b2,d.cells,239⟩ :: L,fun _=>R,fun g=>d.rests.l.length - g.1⟩:Head {k:Nat // k≤d.rests.l.length})) (⟨0,by omega⟩) ?_;rintro ⟨k,hk⟩ junk;try dsimp only
 apply (Xd9);refine q_c ?_ ?_<;>intro hc2;·have hx:=Ju (l:=d.rests.l) (k:=k) 0 za;refine J1 (Jb (Jp (Ka ?_)));refine J6 tb [62,63,64,65,66,67] [0,1,2,3,4,5,6,7,8,9,10,11,12,13,14,15,16] [17,18,19] (_) _ Kq zc zg (by (repeat (first | apply List.Sublist.cons (a:=Blk.mk b5 _ _) | apply List.Sublist.cons_cons));exact yv _) ?_;apply Xah∘Xcb∘qc5∘qci;refine Kr zPc rfl rfl rfl rfl ?_;apply Xah∘Xdc;refine Vf (J0 znb) rfl rfl rfl rfl ?_;refine Vf zBa rfl rfl rfl rfl ?_;refine Vf zca rfl rfl rfl rfl ?_;refine Vf zhc rfl rfl rfl rfl ?_;apply Xef∘qb6∘qal∘qb6∘qby∘Xbh;exact q_k ⟨k + 1,by omega⟩
 obtain rfl:k=d.rests.l.length:=by omega
 apply qbk∘Xc1;refine q_r L R zUc ?_;exact ⟨by rw [Zu,if_neg za,if_pos za],rfl,rfl⟩
end Go.Proofs.YtchfclmokpbldaaGreat
end
