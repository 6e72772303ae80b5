/-
  Checks: Plan, FanC, DoorC, BranchC, Rest, in one text. By an AI agent; no person has read it.
-/
import Derived.Test.YtchfclmokpbldaaGreatRun
set_option linter.all false
set_option maxHeartbeats 4000000
section
variable {A B:Prop}
def J1f(h:A→B:=by exact Jw zea rfl):=h
def Jxf(h:A→B:=by exact Jw zOa rfl):=h
def Z3e(h:A→B:=by exact Ku zNa rfl rfl rfl rfl):=h
def Uug(h:A→B:=by exact Ks (by first | exact Jd tb rfl rfl rfl rfl zu (i:=k0 - 1) zk za | exact Jl tb rfl rfl rfl rfl (i:=k0 - 1) zk za) rfl rfl rfl):=h
def Uqg(h:B:=by exact ⟨by rw [Yca,if_neg za,if_neg za,Yi hp0 za (Y6b hp za za hq za)];rfl,rfl,rfl⟩):=h
def Jyg(h:A→B:=by exact J7 tb [] [0,1,2,3,4,5,6,7,8,9,10] [11] (_) _ Ko zc zi zQ):=h
end
section
namespace Go.Proofs.YtchfclmokpbldaaGreat
open Go.Aw Go
set_option maxRecDepth 20000
attribute [local irreducible] CJ LJ DJ Tri YV Gives Uq J2 Kj Ut RV J3
def Jwc (s:XSpan) (lo hi:Int):Bool:=decide (lo≤s.low) && (decide (s.low≤s.high) && decide (s.high≤hi))
def J7c (s:XSpan) (lo hi:Int) (L:LB) (R:LS):
 Tri Tryz.prog 237 [s.val,.int .i64 lo,.int .i64 hi].toArray L R (fun v U J=>v=.bool (Jwc s lo hi)∧L=U∧R=J):=by
 refine Je 24 Tryz.call237 Tryz.func237 rfl rfl rfl ?_;apply (Xaf);intro b3;apply qaz∘Xc8∘Xaa∘qbx∘qah;apply Ui (G:=[_,_,_,_,_]) (j:=4) (cj:=11) rfl rfl zb rfl zmb rfl;·intro hg5;replace hg5:=qb hg5;exact (Xa0∘qbx) qai
 intro junk5;apply (qah);apply Ui (G:=[_,_,_,_]) (j:=11) (cj:=18) rfl rfl zb rfl zmb rfl;·intro hg12;replace hg12:=qb hg12;exact (Xah∘qbx) qai
 intro junk12;apply (Xbs);refine q_b L R ?_;exact ⟨by simp [Jwc,Bool.and_assoc],rfl,rfl⟩
def Uga (p:XPlace):Option Int:=if p.height < -10000∨10000 < p.height then some 1 else none
def Yr (n:Nat) (r:XRoad):Option Int:=
 if r.fr < 0∨(n:Int)≤r.fr∨r.to < 0∨(n:Int)≤r.to∨r.fr=r.to then some 4
 else if r.len < 1∨100000 < r.len∨r.area < 1∨1000 < r.area∨Jwc r.rest 1 262144=false∨Jwc r.lift (-2199023255552) 2199023255552=false then some 1 else none
def Ul (m:XMine):Int:=
 if 64 < m.places.l.length∨128 < m.roads.l.length then 2
 else match m.places.l.findSome? Uga with
  | some e=>e
  | none=>(m.roads.l.findSome? (Yr m.places.l.length)).getD 0
def Vwa (m:XMine) (L:LB) (R:LS) (hm:MineR m R):
 Tri Tryz.prog 183 [m.val].toArray L R (fun v U J=>v=.int .i64 (Ul m)∧L=U∧R=J):=by
 have hpl:=hm.places;have hro:=hm.roads;refine Vm Tryz.call183 hpl fun hpn=>?_;refine Vm Tryz.call183 hro fun hrn=>?_;refine Je 100 Tryz.call183 Tryz.func183 rfl rfl rfl ?_;apply (Xaf);intro b1;apply Xar∘Xdj∘qah;apply Kf (G:=[_,_,_,_]) (j:=4) (cj:=12) rfl rfl zb rfl zmb rfl;·exact zId
 intro junk5;apply (qaf);refine q_c ?_ ?_<;>intro hc0;·apply (Xa8);refine q_i L R ?_;exact ⟨by simp [Ul];omega,rfl,rfl⟩
 apply (Xc2);refine Jm [(1,.pointer _),(19,.slice _ _ _),(20,.int _ _),(21,.int _ _)] zh fun tq0=>?_;refine q_p ([2,4]++rg 21 13) ((⟨fun g=>[(21,.int .i64 ((g.1:Nat):Int))],fun _=>⟨b1,m.cells,28⟩ :: L,fun _=>R,fun g=>m.places.l.length - g.1⟩:Head (FS Uga m.places.l))) (⟨0,Kva _ _⟩) ?_;rintro ⟨k,hk,hkeep⟩ junk;try dsimp only
 apply (Xaj);refine q_c ?_ ?_<;>intro hc1;·
  obtain ⟨x,hx⟩:=Kn (l:=m.places.l) (k:=k) za;apply qbb∘qa3∘Xdn;intro b4;apply Xaz∘Xbm;apply Kf (G:=[_,_,_]) (j:=3) (cj:=28) rfl rfl zb rfl zmb rfl;·exact zpd
  intro junk4;apply (qaf);refine q_c ?_ ?_<;>intro hc2;·apply (Xcf);refine q_i L R ?_;exact ⟨by simp [Ul,Zq hkeep hx (show Uga x=some 1 by simp [Uga];omega)];omega,rfl,rfl⟩
  apply (Xaw);exact q_k ⟨k + 1,J7a hkeep hx (by simp [Uga];omega)⟩
 have hp:=J8a hkeep za;apply qbk∘Xab∘Xar∘Xay;refine Jm [(5,.int _ _),(38,.slice _ _ _),(39,.int _ _),(40,.int _ _)] zh fun tq1=>?_;refine q_p ([2,7]++rg 40 60) ((⟨fun g=>[(40,.int .i64 ((g.1:Nat):Int))],fun _=>⟨b1,m.cells,28⟩ :: L,fun _=>R,fun g=>m.roads.l.length - g.1⟩:Head (FS (Yr m.places.l.length) m.roads.l))) (⟨0,Kva _ _⟩) ?_;rintro ⟨k2,hk2,hkeep2⟩ junk;try dsimp only
 apply (Xaj);refine q_c ?_ ?_<;>intro hc3;·
  obtain ⟨y,hy⟩:=Kn (l:=m.roads.l) (k:=k2) za;apply qbb∘qa3∘qc8∘qaq;intro b7;apply Xa9∘Xbm;apply Kf (G:=[_,_,_,_]) (j:=3) (cj:=47) rfl rfl zb rfl zmb rfl;·exact ubo
  intro junk4;apply (qah);apply Kf (G:=[_,_,_]) (j:=9) (cj:=53) rfl rfl zb rfl zmb rfl;·intro hg10;replace hg10:=qb hg10;exact zHd
  intro junk10;apply (qah);apply Kf (G:=[_,_,_,_]) (j:=14) (cj:=58) rfl rfl zb rfl zmb rfl;·intro hg15;replace hg15:=qb hg15;exact (Xah) zyd
  intro junk15;apply (qah);apply Kf (G:=[_,_,_,_,_]) (j:=20) (cj:=64) rfl rfl zb rfl zmb rfl;·intro hg21;replace hg21:=qb hg21;exact (Xa0) zLd
  intro junk21;apply (qaf);refine q_c ?_ ?_<;>intro hc4;·apply (Xda);refine q_i L R ?_;exact ⟨by simp [Ul,hp,Zq hkeep2 hy (show Yr m.places.l.length y=some 4 by simp [Yr];omega)];omega,rfl,rfl⟩
  apply qbo∘Xbm;apply Kf (G:=[_,_,_]) (j:=3) (cj:=74) rfl rfl zb rfl zmb rfl;·exact zpd
  intro junk4;apply (qah);apply Kf (G:=[_,_,_]) (j:=8) (cj:=79) rfl rfl zb rfl zmb rfl;·exact zre
  intro junk9;apply (qah);apply Kf (G:=[_,_,_]) (j:=13) (cj:=84) rfl rfl zb rfl zmb rfl;·exact zte
  intro junk14;apply (qaf);refine q_c ?_ ?_<;>intro hc5;·apply (Xda);refine q_i L R ?_;exact ⟨by simp [Ul,hp,Zq hkeep2 hy (show Yr m.places.l.length y=some 1 by rw [Yr,if_neg za,if_pos za])];omega,rfl,rfl⟩
  apply qbv∘Xd0;refine q_l rfl (J7c y.rest _ _ _ _) ?_;apply (Xcm);apply Kf (G:=[_,_,_,_]) (j:=4) (cj:=93) rfl rfl zb rfl zmb rfl;·intro hg5;replace hg5:=qb hg5;apply (Xd0);refine q_l rfl (J7c y.lift _ _ _ _) ?_;exact zNd
  intro junk5;apply (qaf);refine q_c ?_ ?_<;>intro hc6;·apply (Xcf);refine q_i L R ?_;exact ⟨by simp [Ul,hp,Zq hkeep2 hy (show Yr m.places.l.length y=some 1 by rw [Yr,if_neg za,if_pos (by rcases hc6 with h | h <;> simp [h])])];omega,rfl,rfl⟩
  apply (Xaw);exact q_k ⟨k2 + 1,J7a hkeep2 hy (by rw [Yr,if_neg za,if_neg (by simp [hc6];omega)])⟩
 have hq:=J8a hkeep2 za;apply (Xcq);refine q_i L R ?_;exact ⟨by simp [Ul,hp,hq];omega,rfl,rfl⟩
end Go.Proofs.YtchfclmokpbldaaGreat
end
section
namespace Go.Proofs.YtchfclmokpbldaaGreat
open Go.Aw Go
set_option maxRecDepth 20000
attribute [local irreducible] CJ LJ DJ Tri YV Gives Uq J2 Kj Ut RV J3
def Yg (l:List XPoint) (i:Nat):Option Int:=
 match l[i]? with
 | none=>none
 | some p => if p.flow < -1048576 ∨ 1048576 < p.flow ∨ p.pres < 0 ∨ 2199023255552 < p.pres then some 1
  else if i=0 then none
  else match l[i - 1]? with
   | none=>none
   | some q=>if p.flow≤q.flow∨q.pres < p.pres then some 14 else none
def Yca (f:XFan):Int:=
 if f.road < 0 then 4 else if f.curve.l.length < 1∨8 < f.curve.l.length then 2
 else ((List.range f.curve.l.length).findSome? (Yg f.curve.l)).getD 0
def Khc {l:List XPoint} {k:Nat} {p:XPoint} (h:l[k]?=some p) (hr:p.flow < -1048576∨1048576 < p.flow∨p.pres < 0∨2199023255552 < p.pres):Yg l k=some 1:=by simp only [Yg,h,if_pos hr]
def Y6b {l:List XPoint} {k:Nat} {p q:XPoint} (h:l[k]?=some p) (hr:¬ (p.flow < -1048576∨1048576 < p.flow∨p.pres < 0∨2199023255552 < p.pres)) (hk:k≠0) (h':l[k - 1]?=some q) (hb:p.flow≤q.flow∨q.pres < p.pres):Yg l k=some 14:=by simp only [Yg,h,if_neg hr,if_neg hk,h',if_pos hb]
def Krc {l:List XPoint} {k:Nat} {p:XPoint} (h:l[k]?=some p) (hr:¬ (p.flow < -1048576∨1048576 < p.flow∨p.pres < 0∨2199023255552 < p.pres)) (hk:k=0):Yg l k=none:=by simp only [Yg,h,if_neg hr,if_pos hk]
def J5c {l:List XPoint} {k:Nat} {p q:XPoint} (h:l[k]?=some p) (hr:¬ (p.flow < -1048576∨1048576 < p.flow∨p.pres < 0∨2199023255552 < p.pres)) (hk:k≠0) (h':l[k - 1]?=some q) (hb:¬ (p.flow≤q.flow∨q.pres < p.pres)):Yg l k=none:=by simp only [Yg,h,if_neg hr,if_neg hk,h',if_neg hb]
def Yqc (f:XFan) (L:LB) (R:LS) (hm:InR f.sl R):
 Tri Tryz.prog 184 [f.val].toArray L R (fun v U J=>v=.int .i64 (Yca f)∧L=U∧R=J):=by
 refine Vm Tryz.call184 hm fun hpn=>?_;refine Je 71 Tryz.call184 Tryz.func184 rfl rfl rfl ?_;apply (Xaf);intro b1;apply Xar∘Xaa∘Xbd;refine q_c ?_ ?_<;>intro hc0;·apply (Xa8);refine q_i L R ?_;exact ⟨by rw [Yca,if_pos za],rfl,rfl⟩
 apply qbo∘Xab∘Xav;apply Kf (G:=[_,_,_,_]) (j:=4) (cj:=12) rfl rfl zb rfl zmb rfl;·exact zId
 intro junk5;apply (qaf);refine q_c ?_ ?_<;>intro hc1;·apply (Xa8);refine q_i L R ?_;exact ⟨by rw [Yca,if_neg za,if_pos za],rfl,rfl⟩
 apply (Xc2);refine Jm [(1,.pointer _),(19,.slice _ _ _),(20,.int _ _),(21,.int _ _)] zh fun tq0=>?_;refine q_s ([2,3,4]++rg 21 50) (fun g:FSR (Yg f.curve.l) (f.curve.l.length)=>[(21,.int .i64 ((g.1:Nat):Int))]) (fun g=>(f.curve.l.length) - g.1) ⟨0,Kga _ _⟩ ?_;rintro ⟨k0,hk0,hp0⟩ junk;try dsimp only
 apply (Xaj);refine q_c ?_ ?_<;>intro hc2;·
  obtain ⟨p,hp⟩:=Kn (l:=f.curve.l) (k:=k0) za;apply Xa1∘J1f∘Xdn;intro b4;apply qad∘Xa9∘Xbm;apply Kf (G:=[_,_,_]) (j:=3) (cj:=29) rfl rfl zb rfl zmb rfl;·exact zpd
  intro junk4;apply (qah);apply Kf (G:=[_,_,_]) (j:=8) (cj:=34) rfl rfl zb rfl zmb rfl;·exact zre
  intro junk9;apply (qah);apply Kf (G:=[_,_,_]) (j:=13) (cj:=39) rfl rfl zb rfl zmb rfl;·exact zte
  intro junk14;apply (qaf);refine q_c ?_ ?_<;>intro hc3;·apply (Xda);refine q_i L R ?_;exact ⟨by rw [Yca,if_neg za,if_neg za,Yi hp0 za (Khc hp za)];rfl,rfl,rfl⟩
  apply (qcl);refine Ke tb [0,1,2,3,4,5,6,7,8,9,10,11,12,13,14,15,16,17,18,19,20,21,22,23,24,25] _ Ko zc ye ?_;apply (qao);refine Ks (U9b rfl rfl) rfl rfl rfl ?_;apply (qb2);refine U1 (k:=46) zmb (fun hg2=>?_) (fun hg2=>?_);·
   replace hg2:=qb hg2;obtain ⟨q,hq⟩:=Kn (l:=f.curve.l) (k:=k0 - 1) za;apply Xal∘Xby∘qb7∘Uug∘qce∘qbl;refine Ks (Ywc rfl rfl) rfl rfl rfl ?_;apply (qb2);refine U1 (k:=57) zmb (fun hg13=>?_) (fun hg13=>?_);·replace hg13:=qb hg13;(iterate 10 apply (qap));apply qbp∘Xb0;refine Uh rfl ?_;apply (Xcf);refine q_i L R ?_;exact Uqg
   replace hg13:=qb hg13;apply Xal∘Xby∘qb7∘Uug∘qce∘qbl;refine Ks (U9b rfl rfl) rfl rfl rfl ?_;apply qbp∘Xb0;refine q_c ?_ ?_<;>intro hc4;·apply (Xcf);refine q_i L R ?_;exact Uqg
   exact zbe
  replace hg2:=qb hg2;iterate 22 apply (qap)
  apply (Xb0);refine V4 rfl ?_;exact zbe
 have hn0:=Jta hp0 za;apply (Xcq);refine q_i L R ?_;exact ⟨by rw [Yca,if_neg za,if_neg za,hn0];rfl,rfl,rfl⟩
end Go.Proofs.YtchfclmokpbldaaGreat
end
section
namespace Go.Proofs.YtchfclmokpbldaaGreat
open Go.Aw Go
set_option maxRecDepth 20000
attribute [local irreducible] CJ LJ DJ Tri YV Gives Uq J2 Kj Ut RV J3
def Jtb (x:Int):Option Int:=if x < 0∨262144 < x then some 1 else none
def K9a (l : List Int) : Nat → Bool
 | 0=>true
 | k + 1=>K9a l k && (decide (k=0) || decide (l.getD k 0 < l.getD (k - 1) 0))
def Uwd {l:List Int} {k:Nat} {x:Int} (hx:l[k]?=some x):(K9a l k && (decide ((k:Int)=0) || decide (x < l.getD (k - 1) 0)))=K9a l (k + 1):=by rw [K9a,getD_some hx];congr 2;simp only [decide_eq_decide];omega
abbrev Uob (l:List XDoor) (i:Nat) (d:XDoor):Prop:=
 d.other≠-1∧(d.other < 0∨(l.length:Int)≤d.other∨d.other=(i:Int)∨(l.getD d.other.toNat default).other≠(i:Int))
def Jja (l:List XDoor) (i:Nat):Option Int:=
 match l[i]? with
 | none=>none
 | some d => if d.road < 0 then some 4 else if d.rests.l.length < 2 ∨ 6 < d.rests.l.length then some 2
  else match d.rests.l.findSome? Jtb with
   | some e=>some e
   | none=>if K9a d.rests.l d.rests.l.length=false then some 15 else if Uob l i d then some 15 else none
def Vz (l:List XDoor):Int:=if 16 < l.length then 2 else ((List.range l.length).findSome? (Jja l)).getD 0
def K4b {l : List XDoor} {i : Nat} {d : XDoor} (h : l[i]? = some d) : Jja l i = if d.road < 0 then some 4 else if d.rests.l.length < 2 ∨ 6 < d.rests.l.length then some 2
 else match d.rests.l.findSome? Jtb with
  | some e=>some e
  | none=>if K9a d.rests.l d.rests.l.length=false then some 15 else if Uob l i d then some 15 else none:=by rw [Jja,h]
def K3a {l:List XDoor} {k:Nat} {e:Int} (h16:¬ 16 < l.length) (hp:(List.range l.length).findSome? (Jja l)=((List.range l.length).drop k).findSome? (Jja l)) (hk:k < l.length) (h:Jja l k=some e):Vz l=e:=by rw [Vz,if_neg h16,Yi hp hk h];rfl
def Umc (x:Arr XDoor) (L:LB) (R:LS) (hm:InR (dsl x) R):
 Tri Tryz.prog 185 [x.val].toArray L R (fun v U J=>v=.int .i64 (Vz x.l)∧L=U∧R=J):=by
 refine Vm Tryz.call185 hm fun hpn=>?_;refine Je 95 Tryz.call185 Tryz.func185 rfl rfl rfl ?_;apply Xae∘qaw∘Xap∘Xb6;refine q_c ?_ ?_<;>intro hc0;·apply (Xa8);refine q_i L R ?_;exact ⟨by rw [Vz,if_pos za],rfl,rfl⟩
 apply qbo∘Xbr;refine Jm [(0,.slice _ _ _),(11,.slice _ _ _),(12,.int _ _),(13,.int _ _)] zh fun tq0=>?_;refine q_s (rg 2 6++rg 13 82) (fun g:FSR (Jja x.l) (x.l.length)=>[(13,.int .i64 ((g.1:Nat):Int))]) (fun g=>(x.l.length) - g.1) ⟨0,Kga _ _⟩ ?_;rintro ⟨k0,hk0,hp0⟩ junk;try dsimp only
 apply (Xaj);refine q_c ?_ ?_<;>intro hc1;·
  obtain ⟨d,hd⟩:=Kn (l:=x.l) (k:=k0) za;have hdr:=InR.door hm hd;have hde:=K4b hd;apply Xa1∘J1f∘Xc7;intro b4;apply qad∘Xa9∘Xaa∘Xbd;refine q_c ?_ ?_<;>intro hc2;·apply (Xda);refine q_i L R ?_;exact ⟨by rw [K3a za hp0 za (hde.trans (if_pos za))],rfl,rfl⟩
  apply qbo∘Xab∘Xav;apply Kf (G:=[_,_,_,_]) (j:=4) (cj:=25) rfl rfl zb rfl zmb rfl;·exact zId
  intro junk5;apply (qaf);refine q_c ?_ ?_<;>intro hc3;·apply (Xda);refine q_i L R ?_;exact ⟨by rw [K3a za hp0 za (hde.trans (by rw [if_neg za,if_pos za]))],rfl,rfl⟩
  rw [if_neg za,if_neg za] at hde;apply qbv∘qaz∘qaw∘Xay;refine Vw (rg 2 6++rg 13 82) zJ [(3,.int _ _),(4,.pointer _),(5,.bool _),(13,.int _ _),(32,.slice _ _ _),(33,.int _ _),(34,.int _ _)] zh fun tq1=>?_;refine q_s ([2,5,6,7]++rg 34 27) (fun g:FS (Jtb) (d.rests.l)=>[(34,.int .i64 ((g.1:Nat):Int)),(5,.bool (K9a d.rests.l g.1))]) (fun g=>(d.rests.l).length - g.1) ⟨0,Kva _ _⟩ ?_;rintro ⟨k1,hk1,hp1⟩ junk;try dsimp only
  apply (Xaj);refine q_c ?_ ?_<;>intro hc4;·
   obtain ⟨r,hr⟩:=Kn (l:=d.rests.l) (k:=k1) za;apply Xa1∘Jxf∘qa7∘qad∘Xar∘Xck;apply Kf (G:=[_,_]) (j:=2) (cj:=41) rfl rfl zb rfl zmb rfl;·exact zsd
   intro junk3;apply (qaf);refine q_c ?_ ?_<;>intro hc5;·apply (Xae);refine J9 (Jb (Uk (Kh (Kd (Kh (Ym (Kd (Kh (Kd (Kh (Ym (Kd (Kh ?_)))))))))))));refine q_i L R ?_;exact ⟨by rw [K3a za hp0 za (hde.trans (by rw [Zq hp1 hr (if_pos za)]))],rfl,rfl⟩
   refine J5 (Jb (Jg ?_));apply qah∘qah;apply Ui (G:=[_,_,_,_,_,_,_,_,_,_,_,_]) (j:=1) (cj:=46) rfl rfl zb rfl zmb rfl;·
    intro hg2;replace hg2:=qb hg2;apply qaa∘Xcl;apply Kf (G:=[_,_,_,_,_,_,_,_]) (j:=4) (cj:=49) rfl rfl zb rfl zmb rfl;·intro hg5;replace hg5:=qb hg5;have hy:=Jp (l:=d.rests.l) (k:=k1 - 1) 0 za;apply qaa∘Xdy;refine Jw (by first | exact Jd tb rfl rfl rfl rfl zu (i:=k1 - 1) zk za | exact Jl tb rfl rfl rfl rfl (i:=k1 - 1) zk za) rfl ?_;exact (qa7) zOd
    intro junk5;exact qai
   intro junk2;apply qaz∘Xa4;exact Ka ⟨k1 + 1,J7a hp1 hr (if_neg za)⟩ zm ⟨rfl,congrArg Value.bool (Uwd hr),trivial⟩ zi zAb zx
  have hn1:=J8a hp1 za;obtain rfl:k1=d.rests.l.length:=by omega
  rw [hn1] at hde;dsimp only at hde;apply qcf∘qah∘Xbj;refine q_c ?_ ?_<;>intro hc6;·apply (Xda);refine q_i L R ?_;exact ⟨by rw [K3a za hp0 za (hde.trans (by rw [if_pos hc6]))],rfl,rfl⟩
  rw [if_neg (by simp [hc6])] at hde;apply qbv∘Xaa∘Xb7;apply Ui (G:=[_,_,_,_,_,_,_,_,_,_,_,_,_,_,_,_,_,_,_,_,_,_,_,_,_,_]) (j:=3) (cj:=66) rfl rfl zb rfl zmb rfl;·
   intro hg4;replace hg4:=qb hg4;apply (Xbm);apply Kf (G:=[_,_,_,_,_]) (j:=7) (cj:=70) rfl rfl zb rfl zmb rfl;·intro hg8;replace hg8:=qb hg8;exact (Xaa∘Xap) zyd
   intro junk8;apply (qah);apply Kf (G:=[_,_,_,_]) (j:=14) (cj:=77) rfl rfl zb rfl zmb rfl;·intro hg15;replace hg15:=qb hg15;exact (Xah) zLd
   intro junk15;apply (qah);apply Kf (G:=[_,_,_,_,_,_,_,_]) (j:=20) (cj:=83) rfl rfl zb rfl zmb rfl;·intro hg21;replace hg21:=qb hg21;have ho:=Jp (l:=x.l) (k:=d.other.toNat) default za;apply (Xbx);refine Jw (by first | exact Jd tb rfl rfl rfl rfl zu (i:=d.other.toNat) zk za | exact Jl tb rfl rfl rfl rfl (i:=d.other.toNat) zk za) rfl ?_;exact (Xbc∘qaa) zvd
   intro junk21;exact qai
  intro junk4;apply (qaf);refine q_c ?_ ?_<;>intro hc7;·apply (Xcf);refine q_i L R ?_;exact ⟨by rw [K3a za hp0 za (hde.trans (by rw [if_pos za]))],rfl,rfl⟩
  apply (Xaw);exact q_k ⟨k0 + 1,Zk hp0 za (hde.trans (if_neg za))⟩
 have hn0:=Jta hp0 za;apply (Xcq);refine q_i L R ?_;exact ⟨by rw [Vz,if_neg za,hn0];rfl,rfl,rfl⟩
end Go.Proofs.YtchfclmokpbldaaGreat
end
section
namespace Go.Proofs.YtchfclmokpbldaaGreat
open Go.Aw Go
set_option maxRecDepth 20000
attribute [local irreducible] CJ LJ DJ Tri YV Gives Uq J2 Kj Ut RV J3
def Kod (n:Nat) (f:XFan):Option Int:=if Yca f≠0 then some (Yca f) else if (n:Int)≤f.road then some 4 else none
def Zwb (n:Nat) (d:XDoor):Option Int:=if (n:Int)≤d.road then some 4 else none
def Kx (x:XAir):Int:=
 if Ul x.mine≠0 then Ul x.mine else if 8 < x.fans.l.length then 2
 else match x.fans.l.findSome? (Kod x.mine.roads.l.length) with
  | some e=>e
  | none=>if Vz x.doors.l≠0 then Vz x.doors.l else (x.doors.l.findSome? (Zwb x.mine.roads.l.length)).getD 0
def Udc {x:XAir} (h:Ul x.mine=0) (h8:¬ 8 < x.fans.l.length) {e:Int} (hf:x.fans.l.findSome? (Kod x.mine.roads.l.length)=some e):Kx x=e:=by rw [Kx,if_neg za,if_neg h8,hf]
def Yvb {x:XAir} (h:Ul x.mine=0) (h8:¬ 8 < x.fans.l.length) (hf:x.fans.l.findSome? (Kod x.mine.roads.l.length)=none):
 Kx x=if Vz x.doors.l≠0 then Vz x.doors.l else (x.doors.l.findSome? (Zwb x.mine.roads.l.length)).getD 0:=by rw [Kx,if_neg za,if_neg h8,hf]
def Z1 (x:XAir) (L:LB) (R:LS) (hm:AirR x R):
 Tri Tryz.prog 109 [x.val].toArray L R (fun v U J=>v=.int .i64 (Kx x)∧L=U∧R=J):=by
 have hfa:=hm.fans;have hdo:=hm.doors;refine Vm Tryz.call109 hfa fun hfn=>?_;refine Vm Tryz.call109 hdo fun hdn=>?_;refine Je 61 Tryz.call109 Tryz.func109 rfl rfl rfl ?_;apply (Xaf);intro b1;apply Xar∘Xd0;refine q_l rfl (Vwa x.mine _ _ hm.mineR) ?_;apply (Xbb);refine q_c ?_ ?_<;>intro hc0;·apply (Xdx);refine q_i L R ?_;exact ⟨by rw [Kx,if_pos hc0],rfl,rfl⟩
 simp only [Decidable.not_not] at hc0;apply qbo∘Xab∘Xb6;refine q_c ?_ ?_<;>intro hc1;·apply (Xa8);refine q_i L R ?_;exact ⟨by rw [Kx,if_neg za,if_pos za],rfl,rfl⟩
 apply (Xc2);refine Jm [(1,.pointer _),(21,.slice _ _ _),(22,.int _ _),(23,.int _ _)] zh fun tq0=>?_;refine q_s ([2,5,6]++rg 23 17) (fun g:FS (Kod x.mine.roads.l.length) (x.fans.l)=>[(23,.int .i64 ((g.1:Nat):Int))]) (fun g=>(x.fans.l).length - g.1) ⟨0,Kva _ _⟩ ?_;rintro ⟨k0,hk0,hp0⟩ junk;try dsimp only
 apply (Xaj);refine q_c ?_ ?_<;>intro hc2;·
  obtain ⟨f,hf⟩:=Kn (l:=x.fans.l) (k:=k0) za;have hfr:=InR.fan hfa hf;apply qbb∘J1f∘Xdk;intro b5;apply Xa9∘qa8;refine q_l rfl (Yqc f _ _ hfr) ?_
  skip
  apply (Xbb);refine q_c ?_ ?_<;>intro hc3;·apply Xdv∘qch;refine q_i L R ?_;exact ⟨by rw [Udc hc0 za (Zq hp0 hf (if_pos hc3))],rfl,rfl⟩
  apply qbv∘Xaa∘Xce∘Xcu;refine q_c ?_ ?_<;>intro hc4;·apply (Xcf);refine q_i L R ?_;exact ⟨by rw [Udc hc0 za (Zq hp0 hf ((if_neg hc3).trans (if_pos hc4)))],rfl,rfl⟩
  apply (Xaw);exact q_k ⟨k0 + 1,J7a hp0 hf ((if_neg hc3).trans (if_neg hc4))⟩
 have hn0:=J8a hp0 za;have hr:=Yvb hc0 za hn0;apply qcf∘Xaa;refine q_l rfl (Umc x.doors _ _ hdo) ?_;apply (Xbb);refine q_c ?_ ?_<;>intro hc5;·apply (Xdx);refine q_i L R ?_;exact ⟨by rw [hr,if_pos hc5],rfl,rfl⟩
 rw [if_neg hc5] at hr;apply (Xc2);refine Jm [(1,.pointer _),(47,.slice _ _ _),(48,.int _ _),(49,.int _ _)] zh fun tq1=>?_;refine q_s ([2,9]++rg 49 12) (fun g:FS (Zwb x.mine.roads.l.length) (x.doors.l)=>[(49,.int .i64 ((g.1:Nat):Int))]) (fun g=>(x.doors.l).length - g.1) ⟨0,Kva _ _⟩ ?_;rintro ⟨k1,hk1,hp1⟩ junk;try dsimp only
 apply (Xaj);refine q_c ?_ ?_<;>intro hc6;·
  obtain ⟨d,hd⟩:=Kn (l:=x.doors.l) (k:=k1) za;apply qbb∘Jxf∘Xc7;intro b9;apply Xb9∘Xce∘Xcu;refine q_c ?_ ?_<;>intro hc7;·apply (Xcf);refine q_i L R ?_;exact ⟨by rw [hr,Zq hp1 hd (if_pos hc7)];rfl,rfl,rfl⟩
  apply (Xaw);exact q_k ⟨k1 + 1,J7a hp1 hd (if_neg hc7)⟩
 have hn1:=J8a hp1 za;apply (Xcq);refine q_i L R ?_;exact ⟨by rw [hr,hn1];rfl,rfl,rfl⟩
def J9b (x:Int):Option Unit:=if x < -1∨2 < x then some () else none
def Zg (l:List XDoor) (s:List Int) (i:Nat):Option Unit:=
 match s[i]?,l[i]? with
 | some y,some d=>if y < -1∨(d.rests.l.length:Int)≤y then some () else none
 | _,_=>none
def Uka (a:XAir) (s:XSetting):Bool:=
 if s.fans.l.length≠a.fans.l.length∨s.doors.l.length≠a.doors.l.length then false
 else (s.fans.l.findSome? J9b).isNone && ((List.range s.doors.l.length).findSome? (Zg a.doors.l s.doors.l)).isNone
def Ksc (a:XAir) (s:XSetting):Bool:=decide (Kx a=0) && Uka a s
def Zea {l:List XDoor} {s:List Int} {i:Nat} {y:Int} {d:XDoor} (hy:s[i]?=some y) (hd:l[i]?=some d):Zg l s i=if y < -1∨(d.rests.l.length:Int)≤y then some () else none:=by rw [Zg,hy,hd]
def Vtb {a:XAir} {s:XSetting} (h:s.fans.l.length=a.fans.l.length) (h':s.doors.l.length=a.doors.l.length):Uka a s=((s.fans.l.findSome? J9b).isNone && ((List.range s.doors.l.length).findSome? (Zg a.doors.l s.doors.l)).isNone):=by rw [Uka,if_neg za]
def Jcb (a:XAir) (s:XSetting) (L:LB) (R:LS) (hm:AirR a R) (hs:SetR s R):
 Tri Tryz.prog 110 [a.val,s.val].toArray L R (fun v U J=>v=.bool (Uka a s)∧L=U∧R=J):=by
 have hfa:=hm.fans;have hdo:=hm.doors;have hsf:=hs.fans;have hsd:=hs.doors;refine Vm Tryz.call110 hsf fun hfn=>?_;refine Vm Tryz.call110 hsd fun hdn=>?_;refine Je 61 Tryz.call110 Tryz.func110 rfl rfl rfl ?_;apply (Xaf);intro b2;apply (qax);intro b3;apply qaz∘qaw∘Xab∘Xab∘Xb7;apply Kf (G:=[_,_,_,_,_,_,_]) (j:=7) (cj:=16) rfl rfl zb rfl zmb rfl;·intro hg8;replace hg8:=qb hg8;exact (Xab∘Xab) zvd
 intro junk8;apply (qaf);refine q_c ?_ ?_<;>intro hc0;·apply Xbt∘qbh;refine q_b L R ?_;exact ⟨by rw [Uka,if_pos za],rfl,rfl⟩
 apply (Xc2);refine Jm [(2,.pointer _),(3,.pointer _),(26,.slice _ _ _),(27,.int _ _),(28,.int _ _)] zh fun tq0=>?_;refine q_s ([4,6]++rg 28 11) (fun g:FS (J9b) (s.fans.l)=>[(28,.int .i64 ((g.1:Nat):Int))]) (fun g=>(s.fans.l).length - g.1) ⟨0,Kva _ _⟩ ?_;rintro ⟨k0,hk0,hp0⟩ junk;try dsimp only
 apply (Xaj);refine q_c ?_ ?_<;>intro hc1;·
  obtain ⟨x,hx⟩:=Kn (l:=s.fans.l) (k:=k0) za;apply qbb∘J1f∘qa7∘Xau∘Xav;apply Kf (G:=[_,_]) (j:=2) (cj:=34) rfl rfl zb rfl zmb rfl;·exact zsd
  intro junk3;apply (qaf);refine q_c ?_ ?_<;>intro hc2;·apply Xbt∘qbt;refine q_b L R ?_;exact ⟨by rw [Vtb za za,Zq hp0 hx (if_pos za)];rfl,rfl,rfl⟩
  apply (Xaw);exact q_k ⟨k0 + 1,J7a hp0 hx (if_neg za)⟩
 have hn0:=J8a hp0 za;apply qcf∘Xay;refine Jm [(2,.pointer _),(40,.slice _ _ _),(41,.int _ _),(42,.int _ _)] zh fun tq1=>?_;refine q_s ([4,7,8]++rg 42 19) (fun g:FSR (Zg a.doors.l s.doors.l) (s.doors.l.length)=>[(42,.int .i64 ((g.1:Nat):Int))]) (fun g=>(s.doors.l.length) - g.1) ⟨0,Kga _ _⟩ ?_;rintro ⟨k1,hk1,hp1⟩ junk;try dsimp only
 apply (Xaj);refine q_c ?_ ?_<;>intro hc3;·
  obtain ⟨y,hy⟩:=Kn (l:=s.doors.l) (k:=k1) za;obtain ⟨d,hd⟩:=Kn (l:=a.doors.l) (k:=k1) za;have he:=Zea hy hd;apply Xa1∘Jxf∘qa7∘qad∘Xau∘Xav;apply Kf (G:=[_,_,_,_,_,_,_,_,_]) (j:=2) (cj:=49) rfl rfl zb rfl zmb rfl;·intro hg3;replace hg3:=qb hg3;exact (qaa∘Xah∘Jxf∘Xbc∘qag) zyd
  intro junk3;apply (qaf);refine q_c ?_ ?_<;>intro hc4;·apply Xbt∘qbt;refine q_b L R ?_;exact ⟨by rw [Vtb za za,Yi hp1 za (he.trans (if_pos za))];simp,rfl,rfl⟩
  apply (Xaw);exact q_k ⟨k1 + 1,Zk hp1 za (he.trans (if_neg za))⟩
 have hn1:=Jta hp1 za;apply qbk∘Xbs;refine q_b L R ?_;exact ⟨by rw [Vtb za za,hn0,hn1];rfl,rfl,rfl⟩
end Go.Proofs.YtchfclmokpbldaaGreat
end
section
namespace Go.Proofs.YtchfclmokpbldaaGreat
open Go.Aw Go
set_option maxRecDepth 20000
attribute [local irreducible] CJ LJ DJ Tri YV Gives Uq J2 Kj Ut RV J3
def Yqb (l : List Int) : Nat → Int
 | 0=>l.getD 0 0
 | k + 1=>min (Yqb l k) (l.getD k 0)
def Z2b (l : List Int) : Nat → Int
 | 0=>l.getD 0 0
 | k + 1=>max (Z2b l k) (l.getD k 0)
def Zm (d:XDoor) (s:Int):XSpan:=
 if d.rests.l.length=0∨s < -1∨(d.rests.l.length:Int)≤s then ⟨0,0⟩
 else if s= -1 then ⟨Yqb d.rests.l d.rests.l.length,Z2b d.rests.l d.rests.l.length⟩
 else ⟨d.rests.l.getD s.toNat 0,d.rests.l.getD s.toNat 0⟩
def V5f (x:Arr Int) (L:LB) (R:LS) (hm:InR (isl x) R) (h1:1≤x.l.length):
 Tri Tryz.prog 244 [x.val].toArray L R (fun v U J=>v=.int .i64 (Yqb x.l x.l.length)∧L=U∧R=J):=by
 refine Vm Tryz.call244 hm fun hpn=>?_;have h0:=Jp (l:=x.l) (k:=0) 0 za;refine Je 25 Tryz.call244 Tryz.func244 rfl rfl rfl ?_;apply Xae∘qaw∘Xap∘Xbd;refine Kib zmb zE ?_;apply qbv∘qbm∘qdt∘qa7∘Xar∘Xbq;refine Jm [(0,.slice _ _ _),(3,.int _ _),(4,.int _ _)] zh fun tq0=>?_;refine V3c ([3,4]++rg 12 12) (fun g:{k:Nat // 1≤k∧k≤x.l.length}=>[(4,.int .i64 ((g.1:Nat):Int)),(3,.int .i64 (Yqb x.l g.1))]) (fun g=>x.l.length - g.1) (⟨1,by omega,by omega⟩) ⟨rfl,congrArg (Value.int .i64) (Int.min_self _).symm,trivial⟩ ?_;rintro ⟨k,hk1,hk2⟩ junk;try dsimp only
 apply Xa6∘Xap∘Xbd;refine q_c ?_ ?_<;>intro hc1;·have hk:=Jp (l:=x.l) (k:=k) 0 za;refine J5 (Jb (Jq (Ki (Jg ?_))));apply qaa∘Xaq∘qa3∘qa7;refine Jw zOc rfl ?_;exact (qad∘qcs∘Xbw) qd0
 exact zue
def Yhf (x:Arr Int) (L:LB) (R:LS) (hm:InR (isl x) R) (h1:1≤x.l.length):
 Tri Tryz.prog 245 [x.val].toArray L R (fun v U J=>v=.int .i64 (Z2b x.l x.l.length)∧L=U∧R=J):=by
 refine Vm Tryz.call245 hm fun hpn=>?_;have h0:=Jp (l:=x.l) (k:=0) 0 za;refine Je 25 Tryz.call245 Tryz.func245 rfl rfl rfl ?_;apply Xae∘qaw∘Xap∘Xbd;refine Kib zmb zE ?_;apply qbv∘qbm∘qdt∘qa7∘Xar∘Xbq;refine Jm [(0,.slice _ _ _),(3,.int _ _),(4,.int _ _)] zh fun tq0=>?_;refine V3c ([3,4]++rg 12 12) (fun g:{k:Nat // 1≤k∧k≤x.l.length}=>[(4,.int .i64 ((g.1:Nat):Int)),(3,.int .i64 (Z2b x.l g.1))]) (fun g=>x.l.length - g.1) (⟨1,by omega,by omega⟩) ⟨rfl,congrArg (Value.int .i64) (Int.max_self _).symm,trivial⟩ ?_;rintro ⟨k,hk1,hk2⟩ junk;try dsimp only
 apply Xa6∘Xap∘Xbd;refine q_c ?_ ?_<;>intro hc1;·have hk:=Jp (l:=x.l) (k:=k) 0 za;refine J5 (Jb (Jq (Ki (Jg ?_))));apply qaa∘Xaq∘qa3∘qa7;refine Jw zfc rfl ?_;exact (qad∘qcs∘Xbw) qd0
 exact zue
def Yre (d:XDoor) (s:Int) (L:LB) (R:LS) (hm:InR d.sl R):
 Tri Tryz.prog 192 [d.val,.int .i64 s].toArray L R (fun v U J=>v=(Zm d s).val∧L=U∧R=J):=by
 refine Vm Tryz.call192 hm fun hpn=>?_;refine Je 43 Tryz.call192 Tryz.func192 rfl rfl rfl ?_;apply (Xaf);intro b2;apply (qaq);intro b4;refine J9 (Jb (Jq (Ki (Jq (Jg ?_)))));apply Xab∘Xcl;apply Kf (G:=[_,_]) (j:=4) (cj:=10) rfl rfl zb rfl zmb rfl;·intro hg5;replace hg5:=qb hg5;exact (qaa) zOd
 intro junk5;apply (qah);apply Kf (G:=[_,_,_,_,_]) (j:=8) (cj:=14) rfl rfl zb rfl zmb rfl;·intro hg9;replace hg9:=qb hg9;exact (qaa∘Xab) zyd
 intro junk9;apply (Xas);refine q_c ?_ ?_<;>intro hc0;·apply qae∘qck∘qak∘qdb;refine q_r L R zQc ?_;exact ⟨by rw [Zm,if_pos za],rfl,rfl⟩
 apply Xbi∘Xa2;refine q_c ?_ ?_<;>intro hc1;·refine Jq ?_;refine J7 tb [] [0,1,3,4,2,5,6] [7] (_) _ Ko zc zi zQ ?_;apply Xak∘Xak;refine K7 rfl (V5f d.rests _ _ hm za) rfl rfl ?_;rintro v U J ⟨rfl,rfl,rfl⟩;refine ⟨zi,zt,?_⟩;refine K7 rfl (Yhf d.rests _ _ hm za) rfl rfl ?_;rintro v U J ⟨rfl,rfl,rfl⟩;refine ⟨zi,zt,?_⟩;apply qcw∘Xcs;refine J1 (Jb (Uk (Kd (Kh ?_))));refine q_r L R zQc ?_;exact ⟨by rw [Zm,if_neg za,if_pos za],rfl,rfl⟩
 refine J5 (Jh (Jb (Jq ?_)));have hk:=Jp (l:=d.rests.l) (k:=s.toNat) 0 za;apply Jyg∘Xcb∘Z3e∘qci∘Xcb∘Z3e∘qci∘qcw∘Xcs;refine J1 (Jb (Uk ?_));refine q_r L R zQc ?_;exact ⟨by rw [Zm,if_neg za,if_neg za],rfl,rfl⟩
def V9c (d:XDoor) (s:Int) (L:LB) (R:LS) (hm:InR d.sl R):
 Tri Tryz.prog 181 [d.val,.int .i64 s].toArray L R (fun v U J=>v=(Zm d s).val∧L=U∧R=J):=by
 refine Vm Tryz.call181 hm fun hpn=>?_;refine Je 71 Tryz.call181 Tryz.func181 rfl rfl rfl ?_;apply (Xaf);intro b2;apply (qaq);intro b4;apply qaw∘Xab∘Xcl;apply Kf (G:=[_,_]) (j:=4) (cj:=11) rfl rfl zb rfl zmb rfl;·intro hg5;replace hg5:=qb hg5;exact (qaa) zOd
 intro junk5;apply (qah);apply Kf (G:=[_,_,_,_,_]) (j:=8) (cj:=15) rfl rfl zb rfl zmb rfl;·intro hg9;replace hg9:=qb hg9;exact (qaa∘Xab) zyd
 intro junk9;apply (qaf);refine q_c ?_ ?_<;>intro hc0;·apply qae∘qck∘Xdb;refine q_r L R zQc ?_;exact ⟨by rw [Zm,if_pos za],rfl,rfl⟩
 apply qbo∘qaa∘Xcu;refine q_c ?_ ?_<;>intro hc1;·refine Jq ?_;have hk:=Jp (l:=d.rests.l) (k:=s.toNat) 0 za;apply Jyg∘Xcb∘Z3e∘qci∘Xcb∘Z3e∘qci∘qcw∘Xcs;refine J1 (Jb (Uk (Kh ?_)));refine q_r L R zQc ?_;exact ⟨by rw [Zm,if_neg za,if_neg za],rfl,rfl⟩
 apply (qcl);have h0:=Jp (l:=d.rests.l) (k:=0) 0 za;refine Ke tb [0,1,2,3,4,5,6,7,8,9,10] _ Ko zc ye ?_;apply Xal∘qdu∘qbl∘Xal∘qdu∘qbl;refine Ks zEb rfl rfl rfl ?_;apply (qbr);intro b5;apply qbg∘qc6∘Xbq;refine Jm [(2,.pointer _),(4,.pointer _),(5,.pointer _),(6,.int _ _)] zh fun tq0=>?_;refine q_p ([6]++rg 45 25) ((⟨fun g=>[(6,.int .i64 ((g.1:Nat):Int))],fun g=>⟨b5,[.int .i64 (Yqb d.rests.l g.1),.int .i64 (Z2b d.rests.l g.1)],90⟩ :: ⟨b4,[.int .i64 0,.int .i64 0],90⟩ :: ⟨b2,d.cells,239⟩ :: L,fun _=>R,fun g=>d.rests.l.length - g.1⟩:Head {k:Nat // k≤d.rests.l.length})) (⟨0,by omega⟩) ?_;rintro ⟨k,hk⟩ junk;try dsimp only
 apply Xa6∘Xab∘Xbd;refine q_c ?_ ?_<;>intro hc2;·have hx:=Jp (l:=d.rests.l) (k:=k) 0 za;refine J5 (Jb (Jq (Ki ?_)));refine J7 tb [62,63,64,65,66,67] [0,1,2,3,4,5,6,7,8,9,10,11,12,13,14,15,16] [17,18,19] (_) _ Ko zc zi (by (repeat (first | apply List.Sublist.cons (a:=Blk.mk b5 _ _) | apply List.Sublist.cons_cons));exact yt _) ?_;apply Xak∘Xcb∘qc5∘qci;refine Ku zOc rfl rfl rfl rfl ?_;apply Xak∘Xc3;refine Vd (Jz znb) rfl rfl rfl rfl ?_;refine Vd zya rfl rfl rfl rfl ?_;refine Vd zma rfl rfl rfl rfl ?_;refine Vd zfc rfl rfl rfl rfl ?_;apply qan∘qba∘qb6∘qal∘qb6∘qby∘Xbw;exact q_k ⟨k + 1,by omega⟩
 obtain rfl:k=d.rests.l.length:=by omega
 apply qbk∘Xcz;refine q_r L R zQc ?_;exact ⟨by rw [Zm,if_neg za,if_pos za],rfl,rfl⟩
end Go.Proofs.YtchfclmokpbldaaGreat
end
