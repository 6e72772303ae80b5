/-
  Checks: Plan, FanC, DoorC, BranchC, Rest, in one text. By an AI agent; no person has read it.
-/
import Derived.Test.YtchfclmokpbldaaGreatRun
set_option linter.all false
set_option maxHeartbeats 4000000
section
variable {A B:Prop}
def Yve(h:A→B:=by exact Jx zca rfl):=h
def Vwe(h:A→B:=by exact Jx zJa rfl):=h
def Vke(h:A→B:=by exact Kn zYa rfl rfl rfl rfl):=h
def Yff(h:A→B:=by exact K3 (by first | exact Jh tb rfl rfl rfl rfl zx (i:=k0 - 1) zk za | exact Jn tb rfl rfl rfl rfl (i:=k0 - 1) zk za) rfl rfl rfl):=h
def Vxf(h:B:=by exact ⟨by rw [Voa,if_neg za,if_neg za,V9 hp0 za (V9b hp za za hq za)];rfl,rfl,rfl⟩):=h
def U1f(h:A→B:=by exact J6 tb [] [0,1,2,3,4,5,6,7,8,9,10] [11] (_) _ Kr zc zi zQ):=h
end
section
namespace Go.Proofs.YtchfclmokpbldaaGreat
open Go.Aw Go
set_option maxRecDepth 20000
attribute [local irreducible] CJ LJ DJ Tri YV Gives Uo J0 Kj Un RV J2
def Zcb (s:XSpan) (lo hi:Int):Bool:=decide (lo≤s.low) && (decide (s.low≤s.high) && decide (s.high≤hi))
def Z7b (s:XSpan) (lo hi:Int) (L:LB) (R:LS):
 Tri Tryz.prog 237 [s.val,.int .i64 lo,.int .i64 hi].toArray L R (fun v M U=>v=.bool (Zcb s lo hi)∧L=M∧R=U):=by
 refine Je 24 Tryz.call237 Tryz.func237 rfl rfl rfl ?_;apply (Xag);intro b3;apply qaz∘Xci∘Xaa∘qbx∘qah;apply Vp (G:=[_,_,_,_,_]) (j:=4) (cj:=11) rfl rfl zb rfl zfb rfl;·intro hg5;replace hg5:=qb hg5;exact (Xbo∘qbx) qai
 intro junk5;apply (qah);apply Vp (G:=[_,_,_,_]) (j:=11) (cj:=18) rfl rfl zb rfl zfb rfl;·intro hg12;replace hg12:=qb hg12;exact (Xaj∘qbx) qai
 intro junk12;apply (Xbl);refine q_b L R ?_;exact ⟨by simp [Zcb,Bool.and_assoc],rfl,rfl⟩
def Z3 (p:XPlace):Option Int:=if p.height < -10000∨10000 < p.height then some 1 else none
def Vm (n:Nat) (r:XRoad):Option Int:=
 if r.fr < 0∨(n:Int)≤r.fr∨r.to < 0∨(n:Int)≤r.to∨r.fr=r.to then some 4
 else if r.len < 1∨100000 < r.len∨r.area < 1∨1000 < r.area∨Zcb r.rest 1 262144=false∨Zcb r.lift (-2199023255552) 2199023255552=false then some 1 else none
def Uf (m:XMine):Int:=
 if 64 < m.places.l.length∨128 < m.roads.l.length then 2
 else match m.places.l.findSome? Z3 with
  | some e=>e
  | none=>(m.roads.l.findSome? (Vm m.places.l.length)).getD 0
def Jbb (m:XMine) (L:LB) (R:LS) (hm:MineR m R):
 Tri Tryz.prog 183 [m.val].toArray L R (fun v M U=>v=.int .i64 (Uf m)∧L=M∧R=U):=by
 have hpl:=hm.places;have hro:=hm.roads;refine Ve Tryz.call183 hpl fun hpn=>?_;refine Ve Tryz.call183 hro fun hrn=>?_;refine Je 100 Tryz.call183 Tryz.func183 rfl rfl rfl ?_;apply (Xag);intro b1;apply Xaq∘Xdi∘qah;apply Kf (G:=[_,_,_,_]) (j:=4) (cj:=12) rfl rfl zb rfl zfb rfl;·exact zod
 intro junk5;apply (qaf);refine q_c ?_ ?_<;>intro hc0;·apply (Xa6);refine q_i L R ?_;exact ⟨by simp [Uf];omega,rfl,rfl⟩
 apply (Xcp);refine Jk [(1,.pointer _),(19,.slice _ _ _),(20,.int _ _),(21,.int _ _)] zh fun tq0=>?_;refine q_p ([2,4]++rg 21 13) ((⟨fun g=>[(21,.int .i64 ((g.1:Nat):Int))],fun _=>⟨b1,m.cells,28⟩ :: L,fun _=>R,fun g=>m.places.l.length - g.1⟩:Head (FS Z3 m.places.l))) (⟨0,Kea _ _⟩) ?_;rintro ⟨k,hk,hkeep⟩ junk;try dsimp only
 apply (Xan);refine q_c ?_ ?_<;>intro hc1;·
  obtain ⟨x,hx⟩:=Kh (l:=m.places.l) (k:=k) za;apply qbb∘qa3∘Xdw;intro b4;apply Xa1∘Xbn;apply Kf (G:=[_,_,_]) (j:=3) (cj:=28) rfl rfl zb rfl zfb rfl;·exact zad
  intro junk4;apply (qaf);refine q_c ?_ ?_<;>intro hc2;·apply (Xb7);refine q_i L R ?_;exact ⟨by simp [Uf,Zc hkeep hx (show Z3 x=some 1 by simp [Z3];omega)];omega,rfl,rfl⟩
  apply (Xa3);exact q_k ⟨k + 1,Jza hkeep hx (by simp [Z3];omega)⟩
 have hp:=Jva hkeep za;apply qbk∘Xab∘Xaq∘Xaz;refine Jk [(5,.int _ _),(38,.slice _ _ _),(39,.int _ _),(40,.int _ _)] zh fun tq1=>?_;refine q_p ([2,7]++rg 40 60) ((⟨fun g=>[(40,.int .i64 ((g.1:Nat):Int))],fun _=>⟨b1,m.cells,28⟩ :: L,fun _=>R,fun g=>m.roads.l.length - g.1⟩:Head (FS (Vm m.places.l.length) m.roads.l))) (⟨0,Kea _ _⟩) ?_;rintro ⟨k2,hk2,hkeep2⟩ junk;try dsimp only
 apply (Xan);refine q_c ?_ ?_<;>intro hc3;·
  obtain ⟨y,hy⟩:=Kh (l:=m.roads.l) (k:=k2) za;apply qbb∘qa3∘qc8∘qaq;intro b7;apply Xbh∘Xbn;apply Kf (G:=[_,_,_,_]) (j:=3) (cj:=47) rfl rfl zb rfl zfb rfl;·exact ubh
  intro junk4;apply (qah);apply Kf (G:=[_,_,_]) (j:=9) (cj:=53) rfl rfl zb rfl zfb rfl;·intro hg10;replace hg10:=qb hg10;exact znd
  intro junk10;apply (qah);apply Kf (G:=[_,_,_,_]) (j:=14) (cj:=58) rfl rfl zb rfl zfb rfl;·intro hg15;replace hg15:=qb hg15;exact (Xaj) zhd
  intro junk15;apply (qah);apply Kf (G:=[_,_,_,_,_]) (j:=20) (cj:=64) rfl rfl zb rfl zfb rfl;·intro hg21;replace hg21:=qb hg21;exact (Xbo∘qbn) qai
  intro junk21;apply (qaf);refine q_c ?_ ?_<;>intro hc4;·apply (Xc6);refine q_i L R ?_;exact ⟨by simp [Uf,hp,Zc hkeep2 hy (show Vm m.places.l.length y=some 4 by simp [Vm];omega)];omega,rfl,rfl⟩
  apply qbo∘Xbn;apply Kf (G:=[_,_,_]) (j:=3) (cj:=74) rfl rfl zb rfl zfb rfl;·exact zad
  intro junk4;apply (qah);apply Kf (G:=[_,_,_]) (j:=8) (cj:=79) rfl rfl zb rfl zfb rfl;·exact zTd
  intro junk9;apply (qah);apply Kf (G:=[_,_,_]) (j:=13) (cj:=84) rfl rfl zb rfl zfb rfl;·exact zwd
  intro junk14;apply (qaf);refine q_c ?_ ?_<;>intro hc5;·apply (Xc6);refine q_i L R ?_;exact ⟨by simp [Uf,hp,Zc hkeep2 hy (show Vm m.places.l.length y=some 1 by rw [Vm,if_neg za,if_pos za])];omega,rfl,rfl⟩
  apply qbv∘Xdv;refine q_l rfl (Z7b y.rest _ _ _ _) ?_;apply (Xcv);apply Kf (G:=[_,_,_,_]) (j:=4) (cj:=93) rfl rfl zb rfl zfb rfl;·intro hg5;replace hg5:=qb hg5;apply (Xdv);refine q_l rfl (Z7b y.lift _ _ _ _) ?_;exact (qb4) qai
  intro junk5;apply (qaf);refine q_c ?_ ?_<;>intro hc6;·apply (Xb7);refine q_i L R ?_;exact ⟨by simp [Uf,hp,Zc hkeep2 hy (show Vm m.places.l.length y=some 1 by rw [Vm,if_neg za,if_pos (by rcases hc6 with h | h <;> simp [h])])];omega,rfl,rfl⟩
  apply (Xa3);exact q_k ⟨k2 + 1,Jza hkeep2 hy (by rw [Vm,if_neg za,if_neg (by simp [hc6];omega)])⟩
 have hq:=Jva hkeep2 za;apply (Xcx);refine q_i L R ?_;exact ⟨by simp [Uf,hp,hq];omega,rfl,rfl⟩
end Go.Proofs.YtchfclmokpbldaaGreat
end
section
namespace Go.Proofs.YtchfclmokpbldaaGreat
open Go.Aw Go
set_option maxRecDepth 20000
attribute [local irreducible] CJ LJ DJ Tri YV Gives Uo J0 Kj Un RV J2
def V7 (l:List XPoint) (i:Nat):Option Int:=
 match l[i]? with
 | none=>none
 | some p => if p.flow < -1048576 ∨ 1048576 < p.flow ∨ p.pres < 0 ∨ 2199023255552 < p.pres then some 1
  else if i=0 then none
  else match l[i - 1]? with
   | none=>none
   | some q=>if p.flow≤q.flow∨q.pres < p.pres then some 14 else none
def Voa (f:XFan):Int:=
 if f.road < 0 then 4 else if f.curve.l.length < 1∨8 < f.curve.l.length then 2
 else ((List.range f.curve.l.length).findSome? (V7 f.curve.l)).getD 0
def Jcc {l:List XPoint} {k:Nat} {p:XPoint} (h:l[k]?=some p) (hr:p.flow < -1048576∨1048576 < p.flow∨p.pres < 0∨2199023255552 < p.pres):V7 l k=some 1:=by simp only [V7,h,if_pos hr]
def V9b {l:List XPoint} {k:Nat} {p q:XPoint} (h:l[k]?=some p) (hr:¬ (p.flow < -1048576∨1048576 < p.flow∨p.pres < 0∨2199023255552 < p.pres)) (hk:k≠0) (h':l[k - 1]?=some q) (hb:p.flow≤q.flow∨q.pres < p.pres):V7 l k=some 14:=by simp only [V7,h,if_neg hr,if_neg hk,h',if_pos hb]
def Jmc {l:List XPoint} {k:Nat} {p:XPoint} (h:l[k]?=some p) (hr:¬ (p.flow < -1048576∨1048576 < p.flow∨p.pres < 0∨2199023255552 < p.pres)) (hk:k=0):V7 l k=none:=by simp only [V7,h,if_neg hr,if_pos hk]
def Z3b {l:List XPoint} {k:Nat} {p q:XPoint} (h:l[k]?=some p) (hr:¬ (p.flow < -1048576∨1048576 < p.flow∨p.pres < 0∨2199023255552 < p.pres)) (hk:k≠0) (h':l[k - 1]?=some q) (hb:¬ (p.flow≤q.flow∨q.pres < p.pres)):V7 l k=none:=by simp only [V7,h,if_neg hr,if_neg hk,h',if_neg hb]
def Yrc (f:XFan) (L:LB) (R:LS) (hm:InR f.sl R):
 Tri Tryz.prog 184 [f.val].toArray L R (fun v M U=>v=.int .i64 (Voa f)∧L=M∧R=U):=by
 refine Ve Tryz.call184 hm fun hpn=>?_;refine Je 71 Tryz.call184 Tryz.func184 rfl rfl rfl ?_;apply (Xag);intro b1;apply Xaq∘Xaa∘Xa2;refine q_c ?_ ?_<;>intro hc0;·apply (Xa6);refine q_i L R ?_;exact ⟨by rw [Voa,if_pos za],rfl,rfl⟩
 apply qbo∘Xab∘Xat;apply Kf (G:=[_,_,_,_]) (j:=4) (cj:=12) rfl rfl zb rfl zfb rfl;·exact zod
 intro junk5;apply (qaf);refine q_c ?_ ?_<;>intro hc1;·apply (Xa6);refine q_i L R ?_;exact ⟨by rw [Voa,if_neg za,if_pos za],rfl,rfl⟩
 apply (Xcp);refine Jk [(1,.pointer _),(19,.slice _ _ _),(20,.int _ _),(21,.int _ _)] zh fun tq0=>?_;refine q_s ([2,3,4]++rg 21 50) (fun g:FSR (V7 f.curve.l) (f.curve.l.length)=>[(21,.int .i64 ((g.1:Nat):Int))]) (fun g=>(f.curve.l.length) - g.1) ⟨0,J7a _ _⟩ ?_;rintro ⟨k0,hk0,hp0⟩ junk;try dsimp only
 apply (Xan);refine q_c ?_ ?_<;>intro hc2;·
  obtain ⟨p,hp⟩:=Kh (l:=f.curve.l) (k:=k0) za;apply Xbb∘Yve∘Xdw;intro b4;apply qad∘Xbh∘Xbn;apply Kf (G:=[_,_,_]) (j:=3) (cj:=29) rfl rfl zb rfl zfb rfl;·exact zad
  intro junk4;apply (qah);apply Kf (G:=[_,_,_]) (j:=8) (cj:=34) rfl rfl zb rfl zfb rfl;·exact zTd
  intro junk9;apply (qah);apply Kf (G:=[_,_,_]) (j:=13) (cj:=39) rfl rfl zb rfl zfb rfl;·exact zwd
  intro junk14;apply (qaf);refine q_c ?_ ?_<;>intro hc3;·apply (Xc6);refine q_i L R ?_;exact ⟨by rw [Voa,if_neg za,if_neg za,V9 hp0 za (Jcc hp za)];rfl,rfl,rfl⟩
  apply (qcl);refine Kk tb [0,1,2,3,4,5,6,7,8,9,10,11,12,13,14,15,16,17,18,19,20,21,22,23,24,25] _ Kr zc ye ?_;apply (qao);refine K3 (Vcc rfl rfl) rfl rfl rfl ?_;apply (qb2);refine Z9 (k:=46) zfb (fun hg2=>?_) (fun hg2=>?_);·
   replace hg2:=qb hg2;obtain ⟨q,hq⟩:=Kh (l:=f.curve.l) (k:=k0 - 1) za;apply Xal∘Xbx∘qb7∘Yff∘qce∘qbl;refine K3 (Y6e rfl rfl) rfl rfl rfl ?_;apply (qb2);refine Z9 (k:=57) zfb (fun hg13=>?_) (fun hg13=>?_);·replace hg13:=qb hg13;(iterate 10 apply (qap));apply qbp∘Xc1;refine U9 rfl ?_;apply (Xb7);refine q_i L R ?_;exact Vxf
   replace hg13:=qb hg13;apply Xal∘Xbx∘qb7∘Yff∘qce∘qbl;refine K3 (Vcc rfl rfl) rfl rfl rfl ?_;apply qbp∘Xc1;refine q_c ?_ ?_<;>intro hc4;·apply (Xb7);refine q_i L R ?_;exact Vxf
   exact zGd
  replace hg2:=qb hg2;iterate 22 apply (qap)
  apply (Xc1);refine Zn rfl ?_;exact zGd
 have hn0:=Jha hp0 za;apply (Xcx);refine q_i L R ?_;exact ⟨by rw [Voa,if_neg za,if_neg za,hn0];rfl,rfl,rfl⟩
end Go.Proofs.YtchfclmokpbldaaGreat
end
section
namespace Go.Proofs.YtchfclmokpbldaaGreat
open Go.Aw Go
set_option maxRecDepth 20000
attribute [local irreducible] CJ LJ DJ Tri YV Gives Uo J0 Kj Un RV J2
def Zma (x:Int):Option Int:=if x < 0∨262144 < x then some 1 else none
def Kha (l : List Int) : Nat → Bool
 | 0=>true
 | k + 1=>Kha l k && (decide (k=0) || decide (l.getD k 0 < l.getD (k - 1) 0))
def Jad {l:List Int} {k:Nat} {x:Int} (hx:l[k]?=some x):(Kha l k && (decide ((k:Int)=0) || decide (x < l.getD (k - 1) 0)))=Kha l (k + 1):=by rw [Kha,getD_some hx];congr 2;simp only [decide_eq_decide];omega
abbrev J4b (l:List XDoor) (i:Nat) (d:XDoor):Prop:=
 d.other≠-1∧(d.other < 0∨(l.length:Int)≤d.other∨d.other=(i:Int)∨(l.getD d.other.toNat default).other≠(i:Int))
def Jba (l:List XDoor) (i:Nat):Option Int:=
 match l[i]? with
 | none=>none
 | some d => if d.road < 0 then some 4 else if d.rests.l.length < 2 ∨ 6 < d.rests.l.length then some 2
  else match d.rests.l.findSome? Zma with
   | some e=>some e
   | none=>if Kha d.rests.l d.rests.l.length=false then some 15 else if J4b l i d then some 15 else none
def Vk (l:List XDoor):Int:=if 16 < l.length then 2 else ((List.range l.length).findSome? (Jba l)).getD 0
def Kjb {l : List XDoor} {i : Nat} {d : XDoor} (h : l[i]? = some d) : Jba l i = if d.road < 0 then some 4 else if d.rests.l.length < 2 ∨ 6 < d.rests.l.length then some 2
 else match d.rests.l.findSome? Zma with
  | some e=>some e
  | none=>if Kha d.rests.l d.rests.l.length=false then some 15 else if J4b l i d then some 15 else none:=by rw [Jba,h]
def Kfa {l:List XDoor} {k:Nat} {e:Int} (h16:¬ 16 < l.length) (hp:(List.range l.length).findSome? (Jba l)=((List.range l.length).drop k).findSome? (Jba l)) (hk:k < l.length) (h:Jba l k=some e):Vk l=e:=by rw [Vk,if_neg h16,V9 hp hk h];rfl
def Kwc (x:Arr XDoor) (L:LB) (R:LS) (hm:InR (dsl x) R):
 Tri Tryz.prog 185 [x.val].toArray L R (fun v M U=>v=.int .i64 (Vk x.l)∧L=M∧R=U):=by
 refine Ve Tryz.call185 hm fun hpn=>?_;refine Je 95 Tryz.call185 Tryz.func185 rfl rfl rfl ?_;apply Xac∘qaw∘Xak∘Xb1;refine q_c ?_ ?_<;>intro hc0;·apply (Xa6);refine q_i L R ?_;exact ⟨by rw [Vk,if_pos za],rfl,rfl⟩
 apply qbo∘Xcc;refine Jk [(0,.slice _ _ _),(11,.slice _ _ _),(12,.int _ _),(13,.int _ _)] zh fun tq0=>?_;refine q_s (rg 2 6++rg 13 82) (fun g:FSR (Jba x.l) (x.l.length)=>[(13,.int .i64 ((g.1:Nat):Int))]) (fun g=>(x.l.length) - g.1) ⟨0,J7a _ _⟩ ?_;rintro ⟨k0,hk0,hp0⟩ junk;try dsimp only
 apply (Xan);refine q_c ?_ ?_<;>intro hc1;·
  obtain ⟨d,hd⟩:=Kh (l:=x.l) (k:=k0) za;have hdr:=InR.door hm hd;have hde:=Kjb hd;apply Xbb∘Yve∘qdk∘qaq;intro b4;apply qad∘Xbh∘Xaa∘Xa2;refine q_c ?_ ?_<;>intro hc2;·apply (Xc6);refine q_i L R ?_;exact ⟨by rw [Kfa za hp0 za (hde.trans (if_pos za))],rfl,rfl⟩
  apply qbo∘Xab∘Xat;apply Kf (G:=[_,_,_,_]) (j:=4) (cj:=25) rfl rfl zb rfl zfb rfl;·exact zod
  intro junk5;apply (qaf);refine q_c ?_ ?_<;>intro hc3;·apply (Xc6);refine q_i L R ?_;exact ⟨by rw [Kfa za hp0 za (hde.trans (by rw [if_neg za,if_pos za]))],rfl,rfl⟩
  rw [if_neg za,if_neg za] at hde;apply qbv∘qaz∘qaw∘Xaz;refine Va (rg 2 6++rg 13 82) zI [(3,.int _ _),(4,.pointer _),(5,.bool _),(13,.int _ _),(32,.slice _ _ _),(33,.int _ _),(34,.int _ _)] zh fun tq1=>?_;refine q_s ([2,5,6,7]++rg 34 27) (fun g:FS (Zma) (d.rests.l)=>[(34,.int .i64 ((g.1:Nat):Int)),(5,.bool (Kha d.rests.l g.1))]) (fun g=>(d.rests.l).length - g.1) ⟨0,Kea _ _⟩ ?_;rintro ⟨k1,hk1,hp1⟩ junk;try dsimp only
  apply (Xan);refine q_c ?_ ?_<;>intro hc4;·
   obtain ⟨r,hr⟩:=Kh (l:=d.rests.l) (k:=k1) za;apply Xbb∘Vwe∘qa7∘qad∘Xaq∘Xb5;apply Kf (G:=[_,_]) (j:=2) (cj:=41) rfl rfl zb rfl zfb rfl;·exact zdd
   intro junk3;apply (qaf);refine q_c ?_ ?_<;>intro hc5;·apply (Xac);refine J5 (Jb (Up (Kg (Kc (Kg (Vx (Kc (Kg (Kc (Kg (Vx (Kc (Kg ?_)))))))))))));refine q_i L R ?_;exact ⟨by rw [Kfa za hp0 za (hde.trans (by rw [Zc hp1 hr (if_pos za)]))],rfl,rfl⟩
   refine J1 (Jb (Jf ?_));apply qah∘qah;apply Vp (G:=[_,_,_,_,_,_,_,_,_,_,_,_]) (j:=1) (cj:=46) rfl rfl zb rfl zfb rfl;·
    intro hg2;replace hg2:=qb hg2;apply qaa∘Xcq;apply Kf (G:=[_,_,_,_,_,_,_,_]) (j:=4) (cj:=49) rfl rfl zb rfl zfb rfl;·intro hg5;replace hg5:=qb hg5;have hy:=Ju (l:=d.rests.l) (k:=k1 - 1) 0 za;apply qaa∘Xaj∘qa9;refine Jx (by first | exact Jh tb rfl rfl rfl rfl zx (i:=k1 - 1) zk za | exact Jn tb rfl rfl rfl rfl (i:=k1 - 1) zk za) rfl ?_;exact (qa7) zxd
    intro junk5;exact qai
   intro junk2;apply qaz∘Xbj;exact Kq ⟨k1 + 1,Jza hp1 hr (if_neg za)⟩ zm ⟨rfl,congrArg Value.bool (Jad hr),trivial⟩ zi zxb zw
  have hn1:=Jva hp1 za;obtain rfl:k1=d.rests.l.length:=by omega
  rw [hn1] at hde;dsimp only at hde;apply qcf∘qah∘Xbg;refine q_c ?_ ?_<;>intro hc6;·apply (Xc6);refine q_i L R ?_;exact ⟨by rw [Kfa za hp0 za (hde.trans (by rw [if_pos hc6]))],rfl,rfl⟩
  rw [if_neg (by simp [hc6])] at hde;apply qbv∘Xaa∘Xcn;apply Vp (G:=[_,_,_,_,_,_,_,_,_,_,_,_,_,_,_,_,_,_,_,_,_,_,_,_,_,_]) (j:=3) (cj:=66) rfl rfl zb rfl zfb rfl;·
   intro hg4;replace hg4:=qb hg4;apply (Xbn);apply Kf (G:=[_,_,_,_,_]) (j:=7) (cj:=70) rfl rfl zb rfl zfb rfl;·intro hg8;replace hg8:=qb hg8;exact (Xaa∘Xak) zhd
   intro junk8;apply (qah);apply Kf (G:=[_,_,_,_]) (j:=14) (cj:=77) rfl rfl zb rfl zfb rfl;·intro hg15;replace hg15:=qb hg15;exact (Xaj∘qbn) qai
   intro junk15;apply (qah);apply Kf (G:=[_,_,_,_,_,_,_,_]) (j:=20) (cj:=83) rfl rfl zb rfl zfb rfl;·intro hg21;replace hg21:=qb hg21;have ho:=Ju (l:=x.l) (k:=d.other.toNat) default za;apply (Xcl);refine Jx (by first | exact Jh tb rfl rfl rfl rfl zx (i:=d.other.toNat) zk za | exact Jn tb rfl rfl rfl rfl (i:=d.other.toNat) zk za) rfl ?_;exact (Xb3∘qaa) zfd
   intro junk21;exact qai
  intro junk4;apply (qaf);refine q_c ?_ ?_<;>intro hc7;·apply (Xb7);refine q_i L R ?_;exact ⟨by rw [Kfa za hp0 za (hde.trans (by rw [if_pos za]))],rfl,rfl⟩
  apply (Xa3);exact q_k ⟨k0 + 1,Y8 hp0 za (hde.trans (if_neg za))⟩
 have hn0:=Jha hp0 za;apply (Xcx);refine q_i L R ?_;exact ⟨by rw [Vk,if_neg za,hn0];rfl,rfl,rfl⟩
end Go.Proofs.YtchfclmokpbldaaGreat
end
section
namespace Go.Proofs.YtchfclmokpbldaaGreat
open Go.Aw Go
set_option maxRecDepth 20000
attribute [local irreducible] CJ LJ DJ Tri YV Gives Uo J0 Kj Un RV J2
def Jrd (n:Nat) (f:XFan):Option Int:=if Voa f≠0 then some (Voa f) else if (n:Int)≤f.road then some 4 else none
def U8b (n:Nat) (d:XDoor):Option Int:=if (n:Int)≤d.road then some 4 else none
def Kv (x:XAir):Int:=
 if Uf x.mine≠0 then Uf x.mine else if 8 < x.fans.l.length then 2
 else match x.fans.l.findSome? (Jrd x.mine.roads.l.length) with
  | some e=>e
  | none=>if Vk x.doors.l≠0 then Vk x.doors.l else (x.doors.l.findSome? (U8b x.mine.roads.l.length)).getD 0
def Zwb {x:XAir} (h:Uf x.mine=0) (h8:¬ 8 < x.fans.l.length) {e:Int} (hf:x.fans.l.findSome? (Jrd x.mine.roads.l.length)=some e):Kv x=e:=by rw [Kv,if_neg za,if_neg h8,hf]
def U6b {x:XAir} (h:Uf x.mine=0) (h8:¬ 8 < x.fans.l.length) (hf:x.fans.l.findSome? (Jrd x.mine.roads.l.length)=none):
 Kv x=if Vk x.doors.l≠0 then Vk x.doors.l else (x.doors.l.findSome? (U8b x.mine.roads.l.length)).getD 0:=by rw [Kv,if_neg za,if_neg h8,hf]
def Zt (x:XAir) (L:LB) (R:LS) (hm:AirR x R):
 Tri Tryz.prog 109 [x.val].toArray L R (fun v M U=>v=.int .i64 (Kv x)∧L=M∧R=U):=by
 have hfa:=hm.fans;have hdo:=hm.doors;refine Ve Tryz.call109 hfa fun hfn=>?_;refine Ve Tryz.call109 hdo fun hdn=>?_;refine Je 61 Tryz.call109 Tryz.func109 rfl rfl rfl ?_;apply (Xag);intro b1;apply Xaq∘Xdv;refine q_l rfl (Jbb x.mine _ _ hm.mineR) ?_;apply (Xbp);refine q_c ?_ ?_<;>intro hc0;·apply (Xdr);refine q_i L R ?_;exact ⟨by rw [Kv,if_pos hc0],rfl,rfl⟩
 simp only [Decidable.not_not] at hc0;apply qbo∘Xab∘Xb1;refine q_c ?_ ?_<;>intro hc1;·apply (Xa6);refine q_i L R ?_;exact ⟨by rw [Kv,if_neg za,if_pos za],rfl,rfl⟩
 apply (Xcp);refine Jk [(1,.pointer _),(21,.slice _ _ _),(22,.int _ _),(23,.int _ _)] zh fun tq0=>?_;refine q_s ([2,5,6]++rg 23 17) (fun g:FS (Jrd x.mine.roads.l.length) (x.fans.l)=>[(23,.int .i64 ((g.1:Nat):Int))]) (fun g=>(x.fans.l).length - g.1) ⟨0,Kea _ _⟩ ?_;rintro ⟨k0,hk0,hp0⟩ junk;try dsimp only
 apply (Xan);refine q_c ?_ ?_<;>intro hc2;·
  obtain ⟨f,hf⟩:=Kh (l:=x.fans.l) (k:=k0) za;have hfr:=InR.fan hfa hf;apply qbb∘Yve∘Xdj;intro b5;apply Xbh∘qa8;refine q_l rfl (Yrc f _ _ hfr) ?_
  skip
  apply (Xbp);refine q_c ?_ ?_<;>intro hc3;·apply Xbr∘qad∘qch;refine q_i L R ?_;exact ⟨by rw [Zwb hc0 za (Zc hp0 hf (if_pos hc3))],rfl,rfl⟩
  apply qbv∘Xaa∘Xb6∘Xcj;refine q_c ?_ ?_<;>intro hc4;·apply (Xb7);refine q_i L R ?_;exact ⟨by rw [Zwb hc0 za (Zc hp0 hf ((if_neg hc3).trans (if_pos hc4)))],rfl,rfl⟩
  apply (Xa3);exact q_k ⟨k0 + 1,Jza hp0 hf ((if_neg hc3).trans (if_neg hc4))⟩
 have hn0:=Jva hp0 za;have hr:=U6b hc0 za hn0;apply qcf∘Xaa;refine q_l rfl (Kwc x.doors _ _ hdo) ?_;apply (Xbp);refine q_c ?_ ?_<;>intro hc5;·apply (Xdr);refine q_i L R ?_;exact ⟨by rw [hr,if_pos hc5],rfl,rfl⟩
 rw [if_neg hc5] at hr;apply (Xcp);refine Jk [(1,.pointer _),(47,.slice _ _ _),(48,.int _ _),(49,.int _ _)] zh fun tq1=>?_;refine q_s ([2,9]++rg 49 12) (fun g:FS (U8b x.mine.roads.l.length) (x.doors.l)=>[(49,.int .i64 ((g.1:Nat):Int))]) (fun g=>(x.doors.l).length - g.1) ⟨0,Kea _ _⟩ ?_;rintro ⟨k1,hk1,hp1⟩ junk;try dsimp only
 apply (Xan);refine q_c ?_ ?_<;>intro hc6;·
  obtain ⟨d,hd⟩:=Kh (l:=x.doors.l) (k:=k1) za;apply qbb∘Vwe∘qdk∘qaq;intro b9;apply Xb2∘Xb6∘Xcj;refine q_c ?_ ?_<;>intro hc7;·apply (Xb7);refine q_i L R ?_;exact ⟨by rw [hr,Zc hp1 hd (if_pos hc7)];rfl,rfl,rfl⟩
  apply (Xa3);exact q_k ⟨k1 + 1,Jza hp1 hd (if_neg hc7)⟩
 have hn1:=Jva hp1 za;apply (Xcx);refine q_i L R ?_;exact ⟨by rw [hr,hn1];rfl,rfl,rfl⟩
def Jdb (x:Int):Option Unit:=if x < -1∨2 < x then some () else none
def Y5 (l:List XDoor) (s:List Int) (i:Nat):Option Unit:=
 match s[i]?,l[i]? with
 | some y,some d=>if y < -1∨(d.rests.l.length:Int)≤y then some () else none
 | _,_=>none
def K6a (a:XAir) (s:XSetting):Bool:=
 if s.fans.l.length≠a.fans.l.length∨s.doors.l.length≠a.doors.l.length then false
 else (s.fans.l.findSome? Jdb).isNone && ((List.range s.doors.l.length).findSome? (Y5 a.doors.l s.doors.l)).isNone
def V4a {l:List XDoor} {s:List Int} {i:Nat} {y:Int} {d:XDoor} (hy:s[i]?=some y) (hd:l[i]?=some d):Y5 l s i=if y < -1∨(d.rests.l.length:Int)≤y then some () else none:=by rw [Y5,hy,hd]
def Ulb {a:XAir} {s:XSetting} (h:s.fans.l.length=a.fans.l.length) (h':s.doors.l.length=a.doors.l.length):K6a a s=((s.fans.l.findSome? Jdb).isNone && ((List.range s.doors.l.length).findSome? (Y5 a.doors.l s.doors.l)).isNone):=by rw [K6a,if_neg za]
def Zta (a:XAir) (s:XSetting) (L:LB) (R:LS) (hm:AirR a R) (hs:SetR s R):
 Tri Tryz.prog 110 [a.val,s.val].toArray L R (fun v M U=>v=.bool (K6a a s)∧L=M∧R=U):=by
 have hfa:=hm.fans;have hdo:=hm.doors;have hsf:=hs.fans;have hsd:=hs.doors;refine Ve Tryz.call110 hsf fun hfn=>?_;refine Ve Tryz.call110 hsd fun hdn=>?_;refine Je 61 Tryz.call110 Tryz.func110 rfl rfl rfl ?_;apply (Xag);intro b2;apply (qax);intro b3;apply qaz∘qaw∘Xab∘Xab∘Xcn;apply Kf (G:=[_,_,_,_,_,_,_]) (j:=7) (cj:=16) rfl rfl zb rfl zfb rfl;·intro hg8;replace hg8:=qb hg8;exact (Xab∘Xab) zfd
 intro junk8;apply (qaf);refine q_c ?_ ?_<;>intro hc0;·apply Xbm∘qbh;refine q_b L R ?_;exact ⟨by rw [K6a,if_pos za],rfl,rfl⟩
 apply (Xcp);refine Jk [(2,.pointer _),(3,.pointer _),(26,.slice _ _ _),(27,.int _ _),(28,.int _ _)] zh fun tq0=>?_;refine q_s ([4,6]++rg 28 11) (fun g:FS (Jdb) (s.fans.l)=>[(28,.int .i64 ((g.1:Nat):Int))]) (fun g=>(s.fans.l).length - g.1) ⟨0,Kea _ _⟩ ?_;rintro ⟨k0,hk0,hp0⟩ junk;try dsimp only
 apply (Xan);refine q_c ?_ ?_<;>intro hc1;·
  obtain ⟨x,hx⟩:=Kh (l:=s.fans.l) (k:=k0) za;apply qbb∘Yve∘qa7∘Xau∘Xat;apply Kf (G:=[_,_]) (j:=2) (cj:=34) rfl rfl zb rfl zfb rfl;·exact zdd
  intro junk3;apply (qaf);refine q_c ?_ ?_<;>intro hc2;·apply Xbm∘qbt;refine q_b L R ?_;exact ⟨by rw [Ulb za za,Zc hp0 hx (if_pos za)];rfl,rfl,rfl⟩
  apply (Xa3);exact q_k ⟨k0 + 1,Jza hp0 hx (if_neg za)⟩
 have hn0:=Jva hp0 za;apply qcf∘Xaz;refine Jk [(2,.pointer _),(40,.slice _ _ _),(41,.int _ _),(42,.int _ _)] zh fun tq1=>?_;refine q_s ([4,7,8]++rg 42 19) (fun g:FSR (Y5 a.doors.l s.doors.l) (s.doors.l.length)=>[(42,.int .i64 ((g.1:Nat):Int))]) (fun g=>(s.doors.l.length) - g.1) ⟨0,J7a _ _⟩ ?_;rintro ⟨k1,hk1,hp1⟩ junk;try dsimp only
 apply (Xan);refine q_c ?_ ?_<;>intro hc3;·
  obtain ⟨y,hy⟩:=Kh (l:=s.doors.l) (k:=k1) za;obtain ⟨d,hd⟩:=Kh (l:=a.doors.l) (k:=k1) za;have he:=V4a hy hd;apply Xbb∘Vwe∘qa7∘qad∘Xau∘Xat;apply Kf (G:=[_,_,_,_,_,_,_,_,_]) (j:=2) (cj:=49) rfl rfl zb rfl zfb rfl;·intro hg3;replace hg3:=qb hg3;exact (qaa∘Xaj∘Vwe∘Xb3∘qag) zhd
  intro junk3;apply (qaf);refine q_c ?_ ?_<;>intro hc4;·apply Xbm∘qbt;refine q_b L R ?_;exact ⟨by rw [Ulb za za,V9 hp1 za (he.trans (if_pos za))];simp,rfl,rfl⟩
  apply (Xa3);exact q_k ⟨k1 + 1,Y8 hp1 za (he.trans (if_neg za))⟩
 have hn1:=Jha hp1 za;apply qbk∘Xbl;refine q_b L R ?_;exact ⟨by rw [Ulb za za,hn0,hn1];rfl,rfl,rfl⟩
end Go.Proofs.YtchfclmokpbldaaGreat
end
section
namespace Go.Proofs.YtchfclmokpbldaaGreat
open Go.Aw Go
set_option maxRecDepth 20000
attribute [local irreducible] CJ LJ DJ Tri YV Gives Uo J0 Kj Un RV J2
def Vub (l : List Int) : Nat → Int
 | 0=>l.getD 0 0
 | k + 1=>min (Vub l k) (l.getD k 0)
def Ylb (l : List Int) : Nat → Int
 | 0=>l.getD 0 0
 | k + 1=>max (Ylb l k) (l.getD k 0)
def Zd (d:XDoor) (s:Int):XSpan:=
 if d.rests.l.length=0∨s < -1∨(d.rests.l.length:Int)≤s then ⟨0,0⟩
 else if s= -1 then ⟨Vub d.rests.l d.rests.l.length,Ylb d.rests.l d.rests.l.length⟩
 else ⟨d.rests.l.getD s.toNat 0,d.rests.l.getD s.toNat 0⟩
def Zte (x:Arr Int) (L:LB) (R:LS) (hm:InR (isl x) R) (h1:1≤x.l.length):
 Tri Tryz.prog 244 [x.val].toArray L R (fun v M U=>v=.int .i64 (Vub x.l x.l.length)∧L=M∧R=U):=by
 refine Ve Tryz.call244 hm fun hpn=>?_;have h0:=Ju (l:=x.l) (k:=0) 0 za;refine Je 25 Tryz.call244 Tryz.func244 rfl rfl rfl ?_;apply Xac∘qaw∘Xak∘Xa2;refine Jhb zfb zC ?_;apply qbv∘qbm∘qdt∘qa7∘Xaq∘Xa4;refine Jk [(0,.slice _ _ _),(3,.int _ _),(4,.int _ _)] zh fun tq0=>?_;refine Jvc ([3,4]++rg 12 12) (fun g:{k:Nat // 1≤k∧k≤x.l.length}=>[(4,.int .i64 ((g.1:Nat):Int)),(3,.int .i64 (Vub x.l g.1))]) (fun g=>x.l.length - g.1) (⟨1,by omega,by omega⟩) ⟨rfl,congrArg (Value.int .i64) (Int.min_self _).symm,trivial⟩ ?_;rintro ⟨k,hk1,hk2⟩ junk;try dsimp only
 apply Xaw∘Xak∘Xa2;refine q_c ?_ ?_<;>intro hc1;·have hk:=Ju (l:=x.l) (k:=k) 0 za;refine J1 (Jb (Jl (Kb (Jf ?_))));apply qaa∘Xas∘qa3∘qa7;refine Jx (Yhb rfl rfl) rfl ?_;exact (qad∘Xdf) qd0
 exact zVd
def Ktf (x:Arr Int) (L:LB) (R:LS) (hm:InR (isl x) R) (h1:1≤x.l.length):
 Tri Tryz.prog 245 [x.val].toArray L R (fun v M U=>v=.int .i64 (Ylb x.l x.l.length)∧L=M∧R=U):=by
 refine Ve Tryz.call245 hm fun hpn=>?_;have h0:=Ju (l:=x.l) (k:=0) 0 za;refine Je 25 Tryz.call245 Tryz.func245 rfl rfl rfl ?_;apply Xac∘qaw∘Xak∘Xa2;refine Jhb zfb zC ?_;apply qbv∘qbm∘qdt∘qa7∘Xaq∘Xa4;refine Jk [(0,.slice _ _ _),(3,.int _ _),(4,.int _ _)] zh fun tq0=>?_;refine Jvc ([3,4]++rg 12 12) (fun g:{k:Nat // 1≤k∧k≤x.l.length}=>[(4,.int .i64 ((g.1:Nat):Int)),(3,.int .i64 (Ylb x.l g.1))]) (fun g=>x.l.length - g.1) (⟨1,by omega,by omega⟩) ⟨rfl,congrArg (Value.int .i64) (Int.max_self _).symm,trivial⟩ ?_;rintro ⟨k,hk1,hk2⟩ junk;try dsimp only
 apply Xaw∘Xak∘Xa2;refine q_c ?_ ?_<;>intro hc1;·have hk:=Ju (l:=x.l) (k:=k) 0 za;refine J1 (Jb (Jl (Kb (Jf ?_))));apply qaa∘Xas∘qa3∘qa7;refine Jx zcc rfl ?_;exact (qad∘Xdf) qd0
 exact zVd
def Y1e (d:XDoor) (s:Int) (L:LB) (R:LS) (hm:InR d.sl R):
 Tri Tryz.prog 192 [d.val,.int .i64 s].toArray L R (fun v M U=>v=(Zd d s).val∧L=M∧R=U):=by
 refine Ve Tryz.call192 hm fun hpn=>?_;refine Je 43 Tryz.call192 Tryz.func192 rfl rfl rfl ?_;apply (Xag);intro b2;apply (qaq);intro b4;refine J5 (Jb (Jl (Kb (Jl (Jf ?_)))));apply Xab∘Xcq;apply Kf (G:=[_,_]) (j:=4) (cj:=10) rfl rfl zb rfl zfb rfl;·intro hg5;replace hg5:=qb hg5;exact (qaa) zxd
 intro junk5;apply (qah);apply Kf (G:=[_,_,_,_,_]) (j:=8) (cj:=14) rfl rfl zb rfl zfb rfl;·intro hg9;replace hg9:=qb hg9;exact zQd
 intro junk9;apply (Xap);refine q_c ?_ ?_<;>intro hc0;·apply qae∘qck∘qak∘qdb;refine q_r L R zFc ?_;exact ⟨by rw [Zd,if_pos za],rfl,rfl⟩
 apply Xbr∘Xay;refine q_c ?_ ?_<;>intro hc1;·refine Jl ?_;refine J6 tb [] [0,1,3,4,2,5,6] [7] (_) _ Kr zc zi zQ ?_;apply Xaf∘Xaf;refine Kp rfl (Zte d.rests _ _ hm za) rfl rfl ?_;rintro v M U ⟨rfl,rfl,rfl⟩;refine ⟨zi,zq,?_⟩;refine Kp rfl (Ktf d.rests _ _ hm za) rfl rfl ?_;rintro v M U ⟨rfl,rfl,rfl⟩;refine ⟨zi,zq,?_⟩;apply qcw∘Xdc;refine J3 (Jb (Up (Kc (Kg ?_))));refine q_r L R zFc ?_;exact ⟨by rw [Zd,if_neg za,if_pos za],rfl,rfl⟩
 refine J1 (Jd (Jb (Jl ?_)));have hk:=Ju (l:=d.rests.l) (k:=s.toNat) 0 za;apply U1f∘Xce∘Vke∘qci∘Xce∘Vke∘qci∘qcw∘Xdc;refine J3 (Jb (Up ?_));refine q_r L R zFc ?_;exact ⟨by rw [Zd,if_neg za,if_neg za],rfl,rfl⟩
def K9c (d:XDoor) (s:Int) (L:LB) (R:LS) (hm:InR d.sl R):
 Tri Tryz.prog 181 [d.val,.int .i64 s].toArray L R (fun v M U=>v=(Zd d s).val∧L=M∧R=U):=by
 refine Ve Tryz.call181 hm fun hpn=>?_;refine Je 71 Tryz.call181 Tryz.func181 rfl rfl rfl ?_;apply (Xag);intro b2;apply (qaq);intro b4;apply qaw∘Xab∘Xcq;apply Kf (G:=[_,_]) (j:=4) (cj:=11) rfl rfl zb rfl zfb rfl;·intro hg5;replace hg5:=qb hg5;exact (qaa) zxd
 intro junk5;apply (qah);apply Kf (G:=[_,_,_,_,_]) (j:=8) (cj:=15) rfl rfl zb rfl zfb rfl;·intro hg9;replace hg9:=qb hg9;exact zQd
 intro junk9;apply (qaf);refine q_c ?_ ?_<;>intro hc0;·apply qae∘qck∘Xdk;refine q_r L R zFc ?_;exact ⟨by rw [Zd,if_pos za],rfl,rfl⟩
 apply qbo∘qaa∘Xcj;refine q_c ?_ ?_<;>intro hc1;·refine Jl ?_;have hk:=Ju (l:=d.rests.l) (k:=s.toNat) 0 za;apply U1f∘Xce∘Vke∘qci∘Xce∘Vke∘qci∘qcw∘Xdc;refine J3 (Jb (Up (Kg ?_)));refine q_r L R zFc ?_;exact ⟨by rw [Zd,if_neg za,if_neg za],rfl,rfl⟩
 apply (qcl);have h0:=Ju (l:=d.rests.l) (k:=0) 0 za;refine Kk tb [0,1,2,3,4,5,6,7,8,9,10] _ Kr zc ye ?_;apply Xal∘qdu∘qbl∘Xal∘qdu∘qbl;refine K3 zub rfl rfl rfl ?_;apply (qbr);intro b5;apply qbg∘qc6∘Xa4;refine Jk [(2,.pointer _),(4,.pointer _),(5,.pointer _),(6,.int _ _)] zh fun tq0=>?_;refine q_p ([6]++rg 45 25) ((⟨fun g=>[(6,.int .i64 ((g.1:Nat):Int))],fun g=>⟨b5,[.int .i64 (Vub d.rests.l g.1),.int .i64 (Ylb d.rests.l g.1)],90⟩ :: ⟨b4,[.int .i64 0,.int .i64 0],90⟩ :: ⟨b2,d.cells,239⟩ :: L,fun _=>R,fun g=>d.rests.l.length - g.1⟩:Head {k:Nat // k≤d.rests.l.length})) (⟨0,by omega⟩) ?_;rintro ⟨k,hk⟩ junk;try dsimp only
 apply Xaw∘Xdu;refine q_c ?_ ?_<;>intro hc2;·have hx:=Ju (l:=d.rests.l) (k:=k) 0 za;refine J1 (Jb (Jl (Kb ?_)));refine J6 tb [62,63,64,65,66,67] [0,1,2,3,4,5,6,7,8,9,10,11,12,13,14,15,16] [17,18,19] (_) _ Kr zc zi (by (repeat (first | apply List.Sublist.cons (a:=Blk.mk b5 _ _) | apply List.Sublist.cons_cons));exact yu _) ?_;apply Xaf∘Xce∘qc5∘qci;refine Kn (Yhb rfl rfl) rfl rfl rfl rfl ?_;apply Xaf∘Xc8;refine Vy (Jz zgb) rfl rfl rfl rfl ?_;refine Vy zya rfl rfl rfl rfl ?_;refine Vy zaa rfl rfl rfl rfl ?_;refine Vy zcc rfl rfl rfl rfl ?_;apply Xdx∘qb6∘qal∘qb6∘qby∘Xbd;exact q_k ⟨k + 1,by omega⟩
 obtain rfl:k=d.rests.l.length:=by omega
 apply qbk∘Xcs;refine q_r L R zFc ?_;exact ⟨by rw [Zd,if_neg za,if_pos za],rfl,rfl⟩
end Go.Proofs.YtchfclmokpbldaaGreat
end
