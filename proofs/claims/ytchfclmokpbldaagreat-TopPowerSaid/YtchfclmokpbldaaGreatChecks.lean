/-
  Checks: Plan, FanC, DoorC, BranchC, Rest, in one text. By an AI agent; no person has read it.
-/
import Derived.Test.YtchfclmokpbldaaGreatRun
set_option linter.all false
set_option maxHeartbeats 4000000
section
variable {A B:Prop}
def Zqe(h:A→B:=by exact Jx zaa rfl):=h
def Jwf(h:A→B:=by exact Jx zJa rfl):=h
def Jcg(h:A→B:=by exact K2 (by first | exact Jf tb rfl rfl rfl rfl zt (i:=k0 - 1) zk za | exact Jl tb rfl rfl rfl rfl (i:=k0 - 1) zk za) rfl rfl rfl):=h
def Jyg(h:B:=by exact ⟨by rw [Z1a,if_neg za,if_neg za,Yb hp0 za (V3b hp za za hq za)];rfl,rfl,rfl⟩):=h
def Zxf(h:A→B:=by exact Ku zIa rfl rfl rfl rfl):=h
end
section
namespace Go.Proofs.YtchfclmokpbldaaGreat
open Go.Aw Go
set_option maxRecDepth 20000
attribute [local irreducible] CJ LJ DJ Tri YV Gives U0 J3 Kj Uz RV J5
def Z5b (s:XSpan) (lo hi:Int):Bool:=decide (lo≤s.low) && (decide (s.low≤s.high) && decide (s.high≤hi))
def Kfc (s:XSpan) (lo hi:Int) (L:LB) (R:LS):
 Tri Tryz.prog 237 [s.val,.int .i64 lo,.int .i64 hi].toArray L R (fun v M U=>v=.bool (Z5b s lo hi)∧L=M∧R=U):=by
 refine Jj 24 Tryz.call237 Tryz.func237 rfl rfl rfl ?_;apply (Xaf);intro b3;apply qaz∘Xdh∘Xaa∘qbx∘qah;apply Ui (G:=[_,_,_,_,_]) (j:=4) (cj:=11) rfl rfl zb rfl zfb rfl;·intro hg5;replace hg5:=qb hg5;exact (Xbq∘qbx) qai
 intro junk5;apply (qah);apply Ui (G:=[_,_,_,_]) (j:=11) (cj:=18) rfl rfl zb rfl zfb rfl;·intro hg12;replace hg12:=qb hg12;exact (Xam∘qbx) qai
 intro junk12;apply (Xa2);refine q_b L R ?_;exact ⟨by simp [Z5b,Bool.and_assoc],rfl,rfl⟩
def Vva (p:XPlace):Option Int:=if p.height < -10000∨10000 < p.height then some 1 else none
def Zn (n:Nat) (r:XRoad):Option Int:=
 if r.fr < 0∨(n:Int)≤r.fr∨r.to < 0∨(n:Int)≤r.to∨r.fr=r.to then some 4
 else if r.len < 1∨100000 < r.len∨r.area < 1∨1000 < r.area∨Z5b r.rest 1 262144=false∨Z5b r.lift (-2199023255552) 2199023255552=false then some 1 else none
def Vv (m:XMine):Int:=
 if 64 < m.places.l.length∨128 < m.roads.l.length then 2
 else match m.places.l.findSome? Vva with
  | some e=>e
  | none=>(m.roads.l.findSome? (Zn m.places.l.length)).getD 0
def Kib (m:XMine) (L:LB) (R:LS) (hm:MineR m R):
 Tri Tryz.prog 183 [m.val].toArray L R (fun v M U=>v=.int .i64 (Vv m)∧L=M∧R=U):=by
 have hpl:=hm.places;have hro:=hm.roads;refine Vo Tryz.call183 hpl fun hpn=>?_;refine Vo Tryz.call183 hro fun hrn=>?_;refine Jj 100 Tryz.call183 Tryz.func183 rfl rfl rfl ?_;apply (Xaf);intro b1;apply Xap∘Xcp∘qah;apply J9 (G:=[_,_,_,_]) (j:=4) (cj:=12) rfl rfl zb rfl zfb rfl;·exact ztd
 intro junk5;apply (qaf);refine q_c ?_ ?_<;>intro hc0;·apply (Xa6);refine q_i L R ?_;exact ⟨by simp [Vv];omega,rfl,rfl⟩
 apply (Xco);refine Jp [(1,.pointer _),(19,.slice _ _ _),(20,.int _ _),(21,.int _ _)] zh fun tq0=>?_;refine q_p ([2,4]++rg 21 13) ((⟨fun g=>[(21,.int .i64 ((g.1:Nat):Int))],fun _=>⟨b1,m.cells,28⟩ :: L,fun _=>R,fun g=>m.places.l.length - g.1⟩:Head (FS Vva m.places.l))) (⟨0,K1a _ _⟩) ?_;rintro ⟨k,hk,hkeep⟩ junk;try dsimp only
 apply (Xak);refine q_c ?_ ?_<;>intro hc1;·
  obtain ⟨x,hx⟩:=Ky (l:=m.places.l) (k:=k) za;apply qbb∘qa3∘Xdq;intro b4;apply Xay∘Xbc;apply J9 (G:=[_,_,_]) (j:=3) (cj:=28) rfl rfl zb rfl zfb rfl;·exact zcd
  intro junk4;apply (qaf);refine q_c ?_ ?_<;>intro hc2;·apply (Xby);refine q_i L R ?_;exact ⟨by simp [Vv,Zm hkeep hx (show Vva x=some 1 by simp [Vva];omega)];omega,rfl,rfl⟩
  apply (Xax);exact q_k ⟨k + 1,Kba hkeep hx (by simp [Vva];omega)⟩
 have hp:=Kaa hkeep za;apply qbk∘Xab∘Xap∘Xaw;refine Jp [(5,.int _ _),(38,.slice _ _ _),(39,.int _ _),(40,.int _ _)] zh fun tq1=>?_;refine q_p ([2,7]++rg 40 60) ((⟨fun g=>[(40,.int .i64 ((g.1:Nat):Int))],fun _=>⟨b1,m.cells,28⟩ :: L,fun _=>R,fun g=>m.roads.l.length - g.1⟩:Head (FS (Zn m.places.l.length) m.roads.l))) (⟨0,K1a _ _⟩) ?_;rintro ⟨k2,hk2,hkeep2⟩ junk;try dsimp only
 apply (Xak);refine q_c ?_ ?_<;>intro hc3;·
  obtain ⟨y,hy⟩:=Ky (l:=m.roads.l) (k:=k2) za;apply qbb∘qa3∘qc8∘qaq;intro b7;apply Xa8∘Xbc;apply J9 (G:=[_,_,_,_]) (j:=3) (cj:=47) rfl rfl zb rfl zfb rfl;·exact ubh
  intro junk4;apply (qah);apply J9 (G:=[_,_,_]) (j:=9) (cj:=53) rfl rfl zb rfl zfb rfl;·intro hg10;replace hg10:=qb hg10;exact zsd
  intro junk10;apply (qah);apply J9 (G:=[_,_,_,_]) (j:=14) (cj:=58) rfl rfl zb rfl zfb rfl;·intro hg15;replace hg15:=qb hg15;exact (Xam) zjd
  intro junk15;apply (qah);apply J9 (G:=[_,_,_,_,_]) (j:=20) (cj:=64) rfl rfl zb rfl zfb rfl;·intro hg21;replace hg21:=qb hg21;exact (Xaa∘Xbj) qai
  intro junk21;apply (qaf);refine q_c ?_ ?_<;>intro hc4;·apply (Xcu);refine q_i L R ?_;exact ⟨by simp [Vv,hp,Zm hkeep2 hy (show Zn m.places.l.length y=some 4 by simp [Zn];omega)];omega,rfl,rfl⟩
  apply qbo∘Xbc;apply J9 (G:=[_,_,_]) (j:=3) (cj:=74) rfl rfl zb rfl zfb rfl;·exact zcd
  intro junk4;apply (qah);apply J9 (G:=[_,_,_]) (j:=8) (cj:=79) rfl rfl zb rfl zfb rfl;·exact zee
  intro junk9;apply (qah);apply J9 (G:=[_,_,_]) (j:=13) (cj:=84) rfl rfl zb rfl zfb rfl;·exact zDd
  intro junk14;apply (qaf);refine q_c ?_ ?_<;>intro hc5;·apply (Xcu);refine q_i L R ?_;exact ⟨by simp [Vv,hp,Zm hkeep2 hy (show Zn m.places.l.length y=some 1 by rw [Zn,if_neg za,if_pos za])];omega,rfl,rfl⟩
  apply qbv∘Xdp;refine q_l rfl (Kfc y.rest _ _ _ _) ?_;apply (Xce);apply J9 (G:=[_,_,_,_]) (j:=4) (cj:=93) rfl rfl zb rfl zfb rfl;·intro hg5;replace hg5:=qb hg5;apply (Xdp);refine q_l rfl (Kfc y.lift _ _ _ _) ?_;exact zLd
  intro junk5;apply (qaf);refine q_c ?_ ?_<;>intro hc6;·apply (Xby);refine q_i L R ?_;exact ⟨by simp [Vv,hp,Zm hkeep2 hy (show Zn m.places.l.length y=some 1 by rw [Zn,if_neg za,if_pos (by rcases hc6 with h | h <;> simp [h])])];omega,rfl,rfl⟩
  apply (Xax);exact q_k ⟨k2 + 1,Kba hkeep2 hy (by rw [Zn,if_neg za,if_neg (by simp [hc6];omega)])⟩
 have hq:=Kaa hkeep2 za;apply (Xca);refine q_i L R ?_;exact ⟨by simp [Vv,hp,hq];omega,rfl,rfl⟩
end Go.Proofs.YtchfclmokpbldaaGreat
end
section
namespace Go.Proofs.YtchfclmokpbldaaGreat
open Go.Aw Go
set_option maxRecDepth 20000
attribute [local irreducible] CJ LJ DJ Tri YV Gives U0 J3 Kj Uz RV J5
def Yo (l:List XPoint) (i:Nat):Option Int:=
 match l[i]? with
 | none=>none
 | some p => if p.flow < -1048576 ∨ 1048576 < p.flow ∨ p.pres < 0 ∨ 2199023255552 < p.pres then some 1
  else if i=0 then none
  else match l[i - 1]? with
   | none=>none
   | some q=>if p.flow≤q.flow∨q.pres < p.pres then some 14 else none
def Z1a (f:XFan):Int:=
 if f.road < 0 then 4 else if f.curve.l.length < 1∨8 < f.curve.l.length then 2
 else ((List.range f.curve.l.length).findSome? (Yo f.curve.l)).getD 0
def Kmc {l:List XPoint} {k:Nat} {p:XPoint} (h:l[k]?=some p) (hr:p.flow < -1048576∨1048576 < p.flow∨p.pres < 0∨2199023255552 < p.pres):Yo l k=some 1:=by simp only [Yo,h,if_pos hr]
def V3b {l:List XPoint} {k:Nat} {p q:XPoint} (h:l[k]?=some p) (hr:¬ (p.flow < -1048576∨1048576 < p.flow∨p.pres < 0∨2199023255552 < p.pres)) (hk:k≠0) (h':l[k - 1]?=some q) (hb:p.flow≤q.flow∨q.pres < p.pres):Yo l k=some 14:=by simp only [Yo,h,if_neg hr,if_neg hk,h',if_pos hb]
def Kkc {l:List XPoint} {k:Nat} {p:XPoint} (h:l[k]?=some p) (hr:¬ (p.flow < -1048576∨1048576 < p.flow∨p.pres < 0∨2199023255552 < p.pres)) (hk:k=0):Yo l k=none:=by simp only [Yo,h,if_neg hr,if_pos hk]
def Ktc {l:List XPoint} {k:Nat} {p q:XPoint} (h:l[k]?=some p) (hr:¬ (p.flow < -1048576∨1048576 < p.flow∨p.pres < 0∨2199023255552 < p.pres)) (hk:k≠0) (h':l[k - 1]?=some q) (hb:¬ (p.flow≤q.flow∨q.pres < p.pres)):Yo l k=none:=by simp only [Yo,h,if_neg hr,if_neg hk,h',if_neg hb]
def Ysc (f:XFan) (L:LB) (R:LS) (hm:InR f.sl R):
 Tri Tryz.prog 184 [f.val].toArray L R (fun v M U=>v=.int .i64 (Z1a f)∧L=M∧R=U):=by
 refine Vo Tryz.call184 hm fun hpn=>?_;refine Jj 71 Tryz.call184 Tryz.func184 rfl rfl rfl ?_;apply (Xaf);intro b1;apply Xap∘Xaa∘Xbm;refine q_c ?_ ?_<;>intro hc0;·apply (Xa6);refine q_i L R ?_;exact ⟨by rw [Z1a,if_pos za],rfl,rfl⟩
 apply qbo∘Xab∘Xav;apply J9 (G:=[_,_,_,_]) (j:=4) (cj:=12) rfl rfl zb rfl zfb rfl;·exact ztd
 intro junk5;apply (qaf);refine q_c ?_ ?_<;>intro hc1;·apply (Xa6);refine q_i L R ?_;exact ⟨by rw [Z1a,if_neg za,if_pos za],rfl,rfl⟩
 apply (Xco);refine Jp [(1,.pointer _),(19,.slice _ _ _),(20,.int _ _),(21,.int _ _)] zh fun tq0=>?_;refine q_s ([2,3,4]++rg 21 50) (fun g:FSR (Yo f.curve.l) (f.curve.l.length)=>[(21,.int .i64 ((g.1:Nat):Int))]) (fun g=>(f.curve.l.length) - g.1) ⟨0,Kna _ _⟩ ?_;rintro ⟨k0,hk0,hp0⟩ junk;try dsimp only
 apply (Xak);refine q_c ?_ ?_<;>intro hc2;·
  obtain ⟨p,hp⟩:=Ky (l:=f.curve.l) (k:=k0) za;apply Xa0∘Zqe∘Xdq;intro b4;apply qad∘Xa8∘Xbc;apply J9 (G:=[_,_,_]) (j:=3) (cj:=29) rfl rfl zb rfl zfb rfl;·exact zcd
  intro junk4;apply (qah);apply J9 (G:=[_,_,_]) (j:=8) (cj:=34) rfl rfl zb rfl zfb rfl;·exact zee
  intro junk9;apply (qah);apply J9 (G:=[_,_,_]) (j:=13) (cj:=39) rfl rfl zb rfl zfb rfl;·exact zDd
  intro junk14;apply (qaf);refine q_c ?_ ?_<;>intro hc3;·apply (Xcu);refine q_i L R ?_;exact ⟨by rw [Z1a,if_neg za,if_neg za,Yb hp0 za (Kmc hp za)];rfl,rfl,rfl⟩
  apply (qcl);refine Kp tb [0,1,2,3,4,5,6,7,8,9,10,11,12,13,14,15,16,17,18,19,20,21,22,23,24,25] _ K3 zc ye ?_;apply (qao);refine K2 (Kvc rfl rfl) rfl rfl rfl ?_;apply (qb2);refine Yl (k:=46) zfb (fun hg2=>?_) (fun hg2=>?_);·
   replace hg2:=qb hg2;obtain ⟨q,hq⟩:=Ky (l:=f.curve.l) (k:=k0 - 1) za;apply Xan∘Xb4∘qb7∘Jcg∘qce∘qbl;refine K2 (Khf rfl rfl) rfl rfl rfl ?_;apply (qb2);refine Yl (k:=57) zfb (fun hg13=>?_) (fun hg13=>?_);·replace hg13:=qb hg13;(iterate 10 apply (qap));apply qbp∘Xbw;refine Ua rfl ?_;apply (Xby);refine q_i L R ?_;exact Jyg
   replace hg13:=qb hg13;apply Xan∘Xb4∘qb7∘Jcg∘qce∘qbl;refine K2 (Kvc rfl rfl) rfl rfl rfl ?_;apply qbp∘Xbw;refine q_c ?_ ?_<;>intro hc4;·apply (Xby);refine q_i L R ?_;exact Jyg
   exact zOd
  replace hg2:=qb hg2;iterate 22 apply (qap)
  apply (Xbw);refine Y7 rfl ?_;exact zOd
 have hn0:=J0a hp0 za;apply (Xca);refine q_i L R ?_;exact ⟨by rw [Z1a,if_neg za,if_neg za,hn0];rfl,rfl,rfl⟩
end Go.Proofs.YtchfclmokpbldaaGreat
end
section
namespace Go.Proofs.YtchfclmokpbldaaGreat
open Go.Aw Go
set_option maxRecDepth 20000
attribute [local irreducible] CJ LJ DJ Tri YV Gives U0 J3 Kj Uz RV J5
def Uab (x:Int):Option Int:=if x < 0∨262144 < x then some 1 else none
def Klb (l : List Int) : Nat → Bool
 | 0=>true
 | k + 1=>Klb l k && (decide (k=0) || decide (l.getD k 0 < l.getD (k - 1) 0))
def Jid {l:List Int} {k:Nat} {x:Int} (hx:l[k]?=some x):(Klb l k && (decide ((k:Int)=0) || decide (x < l.getD (k - 1) 0)))=Klb l (k + 1):=by rw [Klb,getD_some hx];congr 2;simp only [decide_eq_decide];omega
abbrev Kxb (l:List XDoor) (i:Nat) (d:XDoor):Prop:=
 d.other≠-1∧(d.other < 0∨(l.length:Int)≤d.other∨d.other=(i:Int)∨(l.getD d.other.toNat default).other≠(i:Int))
def Joa (l:List XDoor) (i:Nat):Option Int:=
 match l[i]? with
 | none=>none
 | some d => if d.road < 0 then some 4 else if d.rests.l.length < 2 ∨ 6 < d.rests.l.length then some 2
  else match d.rests.l.findSome? Uab with
   | some e=>some e
   | none=>if Klb d.rests.l d.rests.l.length=false then some 15 else if Kxb l i d then some 15 else none
def V8 (l:List XDoor):Int:=if 16 < l.length then 2 else ((List.range l.length).findSome? (Joa l)).getD 0
def Jsc {l : List XDoor} {i : Nat} {d : XDoor} (h : l[i]? = some d) : Joa l i = if d.road < 0 then some 4 else if d.rests.l.length < 2 ∨ 6 < d.rests.l.length then some 2
 else match d.rests.l.findSome? Uab with
  | some e=>some e
  | none=>if Klb d.rests.l d.rests.l.length=false then some 15 else if Kxb l i d then some 15 else none:=by rw [Joa,h]
def Kva {l:List XDoor} {k:Nat} {e:Int} (h16:¬ 16 < l.length) (hp:(List.range l.length).findSome? (Joa l)=((List.range l.length).drop k).findSome? (Joa l)) (hk:k < l.length) (h:Joa l k=some e):V8 l=e:=by rw [V8,if_neg h16,Yb hp hk h];rfl
def Upc (x:Arr XDoor) (L:LB) (R:LS) (hm:InR (dsl x) R):
 Tri Tryz.prog 185 [x.val].toArray L R (fun v M U=>v=.int .i64 (V8 x.l)∧L=M∧R=U):=by
 refine Vo Tryz.call185 hm fun hpn=>?_;refine Jj 95 Tryz.call185 Tryz.func185 rfl rfl rfl ?_;apply Xac∘qaw∘Xaq∘qa5∘qaf;refine q_c ?_ ?_<;>intro hc0;·apply (Xa6);refine q_i L R ?_;exact ⟨by rw [V8,if_pos za],rfl,rfl⟩
 apply qbo∘Xbt;refine Jp [(0,.slice _ _ _),(11,.slice _ _ _),(12,.int _ _),(13,.int _ _)] zh fun tq0=>?_;refine q_s (rg 2 6++rg 13 82) (fun g:FSR (Joa x.l) (x.l.length)=>[(13,.int .i64 ((g.1:Nat):Int))]) (fun g=>(x.l.length) - g.1) ⟨0,Kna _ _⟩ ?_;rintro ⟨k0,hk0,hp0⟩ junk;try dsimp only
 apply (Xak);refine q_c ?_ ?_<;>intro hc1;·
  obtain ⟨d,hd⟩:=Ky (l:=x.l) (k:=k0) za;have hdr:=InR.door hm hd;have hde:=Jsc hd;apply Xa0∘Zqe∘qdk∘qaq;intro b4;apply qad∘Xa8∘Xaa∘Xbm;refine q_c ?_ ?_<;>intro hc2;·apply (Xcu);refine q_i L R ?_;exact ⟨by rw [Kva za hp0 za (hde.trans (if_pos za))],rfl,rfl⟩
  apply qbo∘Xab∘Xav;apply J9 (G:=[_,_,_,_]) (j:=4) (cj:=25) rfl rfl zb rfl zfb rfl;·exact ztd
  intro junk5;apply (qaf);refine q_c ?_ ?_<;>intro hc3;·apply (Xcu);refine q_i L R ?_;exact ⟨by rw [Kva za hp0 za (hde.trans (by rw [if_neg za,if_pos za]))],rfl,rfl⟩
  rw [if_neg za,if_neg za] at hde;apply qbv∘qaz∘qaw∘Xaw;refine Y6 (rg 2 6++rg 13 82) zI [(3,.int _ _),(4,.pointer _),(5,.bool _),(13,.int _ _),(32,.slice _ _ _),(33,.int _ _),(34,.int _ _)] zh fun tq1=>?_;refine q_s ([2,5,6,7]++rg 34 27) (fun g:FS (Uab) (d.rests.l)=>[(34,.int .i64 ((g.1:Nat):Int)),(5,.bool (Klb d.rests.l g.1))]) (fun g=>(d.rests.l).length - g.1) ⟨0,K1a _ _⟩ ?_;rintro ⟨k1,hk1,hp1⟩ junk;try dsimp only
  apply (Xak);refine q_c ?_ ?_<;>intro hc4;·
   obtain ⟨r,hr⟩:=Ky (l:=d.rests.l) (k:=k1) za;apply Xa0∘Jwf∘qa7∘qad∘Xb2∘Xav;apply J9 (G:=[_,_]) (j:=2) (cj:=41) rfl rfl zb rfl zfb rfl;·exact zgd
   intro junk3;apply (qaf);refine q_c ?_ ?_<;>intro hc5;·apply (Xac);refine J6 (Jc (U4 (Ke (J8 (Ke (Yg (J8 (Ke (J8 (Ke (Yg (J8 (Ke ?_)))))))))))));refine q_i L R ?_;exact ⟨by rw [Kva za hp0 za (hde.trans (by rw [Zm hp1 hr (if_pos za)]))],rfl,rfl⟩
   refine Ka (Jc (Jh ?_));apply qah∘qah;apply Ui (G:=[_,_,_,_,_,_,_,_,_,_,_,_]) (j:=1) (cj:=46) rfl rfl zb rfl zfb rfl;·
    intro hg2;replace hg2:=qb hg2;apply qaa∘qbn∘qah;apply J9 (G:=[_,_,_,_,_,_,_,_]) (j:=4) (cj:=49) rfl rfl zb rfl zfb rfl;·intro hg5;replace hg5:=qb hg5;have hy:=Jw (l:=d.rests.l) (k:=k1 - 1) 0 za;apply qaa∘Xam∘qa9;refine Jx (by first | exact Jf tb rfl rfl rfl rfl zt (i:=k1 - 1) zk za | exact Jl tb rfl rfl rfl rfl (i:=k1 - 1) zk za) rfl ?_;exact (qa7) zyd
    intro junk5;exact qai
   intro junk2;apply qaz∘Xa7;exact Kr ⟨k1 + 1,Kba hp1 hr (if_neg za)⟩ zm ⟨rfl,congrArg Value.bool (Jid hr),trivial⟩ zi ztb zx
  have hn1:=Kaa hp1 za;obtain rfl:k1=d.rests.l.length:=by omega
  rw [hn1] at hde;dsimp only at hde;apply qcf∘qah∘Xbb;refine q_c ?_ ?_<;>intro hc6;·apply (Xcu);refine q_i L R ?_;exact ⟨by rw [Kva za hp0 za (hde.trans (by rw [if_pos hc6]))],rfl,rfl⟩
  rw [if_neg (by simp [hc6])] at hde;apply qbv∘Xaa∘Xbu;apply Ui (G:=[_,_,_,_,_,_,_,_,_,_,_,_,_,_,_,_,_,_,_,_,_,_,_,_,_,_]) (j:=3) (cj:=66) rfl rfl zb rfl zfb rfl;·
   intro hg4;replace hg4:=qb hg4;apply (Xbc);apply J9 (G:=[_,_,_,_,_]) (j:=7) (cj:=70) rfl rfl zb rfl zfb rfl;·intro hg8;replace hg8:=qb hg8;exact (Xaa∘Xaq) zjd
   intro junk8;apply (qah);apply J9 (G:=[_,_,_,_]) (j:=14) (cj:=77) rfl rfl zb rfl zfb rfl;·intro hg15;replace hg15:=qb hg15;exact (Xam∘qbn) qai
   intro junk15;apply (qah);apply J9 (G:=[_,_,_,_,_,_,_,_]) (j:=20) (cj:=83) rfl rfl zb rfl zfb rfl;·intro hg21;replace hg21:=qb hg21;have ho:=Jw (l:=x.l) (k:=d.other.toNat) default za;apply (Xci);refine Jx (by first | exact Jf tb rfl rfl rfl rfl zt (i:=d.other.toNat) zk za | exact Jl tb rfl rfl rfl rfl (i:=d.other.toNat) zk za) rfl ?_;exact (Xbv∘qaa) zhd
   intro junk21;exact qai
  intro junk4;apply (qaf);refine q_c ?_ ?_<;>intro hc7;·apply (Xby);refine q_i L R ?_;exact ⟨by rw [Kva za hp0 za (hde.trans (by rw [if_pos za]))],rfl,rfl⟩
  apply (Xax);exact q_k ⟨k0 + 1,Zk hp0 za (hde.trans (if_neg za))⟩
 have hn0:=J0a hp0 za;apply (Xca);refine q_i L R ?_;exact ⟨by rw [V8,if_neg za,hn0];rfl,rfl,rfl⟩
end Go.Proofs.YtchfclmokpbldaaGreat
end
section
namespace Go.Proofs.YtchfclmokpbldaaGreat
open Go.Aw Go
set_option maxRecDepth 20000
attribute [local irreducible] CJ LJ DJ Tri YV Gives U0 J3 Kj Uz RV J5
def Z4d (n:Nat) (f:XFan):Option Int:=if Z1a f≠0 then some (Z1a f) else if (n:Int)≤f.road then some 4 else none
def J3c (n:Nat) (d:XDoor):Option Int:=if (n:Int)≤d.road then some 4 else none
def K1 (x:XAir):Int:=
 if Vv x.mine≠0 then Vv x.mine else if 8 < x.fans.l.length then 2
 else match x.fans.l.findSome? (Z4d x.mine.roads.l.length) with
  | some e=>e
  | none=>if V8 x.doors.l≠0 then V8 x.doors.l else (x.doors.l.findSome? (J3c x.mine.roads.l.length)).getD 0
def Kbc {x:XAir} (h:Vv x.mine=0) (h8:¬ 8 < x.fans.l.length) {e:Int} (hf:x.fans.l.findSome? (Z4d x.mine.roads.l.length)=some e):K1 x=e:=by rw [K1,if_neg za,if_neg h8,hf]
def Kxd {x:XAir} (h:Vv x.mine=0) (h8:¬ 8 < x.fans.l.length) (hf:x.fans.l.findSome? (Z4d x.mine.roads.l.length)=none):
 K1 x=if V8 x.doors.l≠0 then V8 x.doors.l else (x.doors.l.findSome? (J3c x.mine.roads.l.length)).getD 0:=by rw [K1,if_neg za,if_neg h8,hf]
def Z6 (x:XAir) (L:LB) (R:LS) (hm:AirR x R):
 Tri Tryz.prog 109 [x.val].toArray L R (fun v M U=>v=.int .i64 (K1 x)∧L=M∧R=U):=by
 have hfa:=hm.fans;have hdo:=hm.doors;refine Vo Tryz.call109 hfa fun hfn=>?_;refine Vo Tryz.call109 hdo fun hdn=>?_;refine Jj 61 Tryz.call109 Tryz.func109 rfl rfl rfl ?_;apply (Xaf);intro b1;apply Xap∘Xdp;refine q_l rfl (Kib x.mine _ _ hm.mineR) ?_;apply (Xba);refine q_c ?_ ?_<;>intro hc0;·apply (Xdl);refine q_i L R ?_;exact ⟨by rw [K1,if_pos hc0],rfl,rfl⟩
 simp only [Decidable.not_not] at hc0;apply qbo∘Xcp∘qaf;refine q_c ?_ ?_<;>intro hc1;·apply (Xa6);refine q_i L R ?_;exact ⟨by rw [K1,if_neg za,if_pos za],rfl,rfl⟩
 apply (Xco);refine Jp [(1,.pointer _),(21,.slice _ _ _),(22,.int _ _),(23,.int _ _)] zh fun tq0=>?_;refine q_s ([2,5,6]++rg 23 17) (fun g:FS (Z4d x.mine.roads.l.length) (x.fans.l)=>[(23,.int .i64 ((g.1:Nat):Int))]) (fun g=>(x.fans.l).length - g.1) ⟨0,K1a _ _⟩ ?_;rintro ⟨k0,hk0,hp0⟩ junk;try dsimp only
 apply (Xak);refine q_c ?_ ?_<;>intro hc2;·
  obtain ⟨f,hf⟩:=Ky (l:=x.fans.l) (k:=k0) za;have hfr:=InR.fan hfa hf;apply qbb∘Zqe∘Xdb;intro b5;apply Xa8∘qa8;refine q_l rfl (Ysc f _ _ hfr) ?_
  skip
  apply (Xba);refine q_c ?_ ?_<;>intro hc3;·apply Xdj∘qch;refine q_i L R ?_;exact ⟨by rw [Kbc hc0 za (Zm hp0 hf (if_pos hc3))],rfl,rfl⟩
  apply qbv∘Xaa∘Xb6∘Xcn;refine q_c ?_ ?_<;>intro hc4;·apply (Xby);refine q_i L R ?_;exact ⟨by rw [Kbc hc0 za (Zm hp0 hf ((if_neg hc3).trans (if_pos hc4)))],rfl,rfl⟩
  apply (Xax);exact q_k ⟨k0 + 1,Kba hp0 hf ((if_neg hc3).trans (if_neg hc4))⟩
 have hn0:=Kaa hp0 za;have hr:=Kxd hc0 za hn0;apply qcf∘Xaa;refine q_l rfl (Upc x.doors _ _ hdo) ?_;apply (Xba);refine q_c ?_ ?_<;>intro hc5;·apply (Xdl);refine q_i L R ?_;exact ⟨by rw [hr,if_pos hc5],rfl,rfl⟩
 rw [if_neg hc5] at hr;apply (Xco);refine Jp [(1,.pointer _),(47,.slice _ _ _),(48,.int _ _),(49,.int _ _)] zh fun tq1=>?_;refine q_s ([2,9]++rg 49 12) (fun g:FS (J3c x.mine.roads.l.length) (x.doors.l)=>[(49,.int .i64 ((g.1:Nat):Int))]) (fun g=>(x.doors.l).length - g.1) ⟨0,K1a _ _⟩ ?_;rintro ⟨k1,hk1,hp1⟩ junk;try dsimp only
 apply (Xak);refine q_c ?_ ?_<;>intro hc6;·
  obtain ⟨d,hd⟩:=Ky (l:=x.doors.l) (k:=k1) za;apply qbb∘Jwf∘qdk∘qaq;intro b9;apply Xbx∘Xb6∘Xcn;refine q_c ?_ ?_<;>intro hc7;·apply (Xby);refine q_i L R ?_;exact ⟨by rw [hr,Zm hp1 hd (if_pos hc7)];rfl,rfl,rfl⟩
  apply (Xax);exact q_k ⟨k1 + 1,Kba hp1 hd (if_neg hc7)⟩
 have hn1:=Kaa hp1 za;apply (Xca);refine q_i L R ?_;exact ⟨by rw [hr,hn1];rfl,rfl,rfl⟩
def J2b (x:Int):Option Unit:=if x < -1∨2 < x then some () else none
def Zf (l:List XDoor) (s:List Int) (i:Nat):Option Unit:=
 match s[i]?,l[i]? with
 | some y,some d=>if y < -1∨(d.rests.l.length:Int)≤y then some () else none
 | _,_=>none
def Yfa (a:XAir) (s:XSetting):Bool:=
 if s.fans.l.length≠a.fans.l.length∨s.doors.l.length≠a.doors.l.length then false
 else (s.fans.l.findSome? J2b).isNone && ((List.range s.doors.l.length).findSome? (Zf a.doors.l s.doors.l)).isNone
def Vwe (a:XAir) (s:XSetting):Bool:=decide (K1 a=0) && Yfa a s
def Yja {l:List XDoor} {s:List Int} {i:Nat} {y:Int} {d:XDoor} (hy:s[i]?=some y) (hd:l[i]?=some d):Zf l s i=if y < -1∨(d.rests.l.length:Int)≤y then some () else none:=by rw [Zf,hy,hd]
def Vjb {a:XAir} {s:XSetting} (h:s.fans.l.length=a.fans.l.length) (h':s.doors.l.length=a.doors.l.length):Yfa a s=((s.fans.l.findSome? J2b).isNone && ((List.range s.doors.l.length).findSome? (Zf a.doors.l s.doors.l)).isNone):=by rw [Yfa,if_neg za]
def Jhb (a:XAir) (s:XSetting) (L:LB) (R:LS) (hm:AirR a R) (hs:SetR s R):
 Tri Tryz.prog 110 [a.val,s.val].toArray L R (fun v M U=>v=.bool (Yfa a s)∧L=M∧R=U):=by
 have hfa:=hm.fans;have hdo:=hm.doors;have hsf:=hs.fans;have hsd:=hs.doors;refine Vo Tryz.call110 hsf fun hfn=>?_;refine Vo Tryz.call110 hsd fun hdn=>?_;refine Jj 61 Tryz.call110 Tryz.func110 rfl rfl rfl ?_;apply (Xaf);intro b2;apply (qax);intro b3;apply qaz∘qaw∘Xab∘Xab∘Xbu;apply J9 (G:=[_,_,_,_,_,_,_]) (j:=7) (cj:=16) rfl rfl zb rfl zfb rfl;·intro hg8;replace hg8:=qb hg8;exact (Xab∘Xab) zhd
 intro junk8;apply (qaf);refine q_c ?_ ?_<;>intro hc0;·apply Xbe∘qbh;refine q_b L R ?_;exact ⟨by rw [Yfa,if_pos za],rfl,rfl⟩
 apply (Xco);refine Jp [(2,.pointer _),(3,.pointer _),(26,.slice _ _ _),(27,.int _ _),(28,.int _ _)] zh fun tq0=>?_;refine q_s ([4,6]++rg 28 11) (fun g:FS (J2b) (s.fans.l)=>[(28,.int .i64 ((g.1:Nat):Int))]) (fun g=>(s.fans.l).length - g.1) ⟨0,K1a _ _⟩ ?_;rintro ⟨k0,hk0,hp0⟩ junk;try dsimp only
 apply (Xak);refine q_c ?_ ?_<;>intro hc1;·
  obtain ⟨x,hx⟩:=Ky (l:=s.fans.l) (k:=k0) za;apply qbb∘Zqe∘qa7∘Xau∘Xav;apply J9 (G:=[_,_]) (j:=2) (cj:=34) rfl rfl zb rfl zfb rfl;·exact zgd
  intro junk3;apply (qaf);refine q_c ?_ ?_<;>intro hc2;·apply Xbe∘qbt;refine q_b L R ?_;exact ⟨by rw [Vjb za za,Zm hp0 hx (if_pos za)];rfl,rfl,rfl⟩
  apply (Xax);exact q_k ⟨k0 + 1,Kba hp0 hx (if_neg za)⟩
 have hn0:=Kaa hp0 za;apply qcf∘Xaw;refine Jp [(2,.pointer _),(40,.slice _ _ _),(41,.int _ _),(42,.int _ _)] zh fun tq1=>?_;refine q_s ([4,7,8]++rg 42 19) (fun g:FSR (Zf a.doors.l s.doors.l) (s.doors.l.length)=>[(42,.int .i64 ((g.1:Nat):Int))]) (fun g=>(s.doors.l.length) - g.1) ⟨0,Kna _ _⟩ ?_;rintro ⟨k1,hk1,hp1⟩ junk;try dsimp only
 apply (Xak);refine q_c ?_ ?_<;>intro hc3;·
  obtain ⟨y,hy⟩:=Ky (l:=s.doors.l) (k:=k1) za;obtain ⟨d,hd⟩:=Ky (l:=a.doors.l) (k:=k1) za;have he:=Yja hy hd;apply Xa0∘Jwf∘qa7∘qad∘Xau∘Xav;apply J9 (G:=[_,_,_,_,_,_,_,_,_]) (j:=2) (cj:=49) rfl rfl zb rfl zfb rfl;·intro hg3;replace hg3:=qb hg3;exact (qaa∘Xam∘Jwf∘Xbv∘qag) zjd
  intro junk3;apply (qaf);refine q_c ?_ ?_<;>intro hc4;·apply Xbe∘qbt;refine q_b L R ?_;exact ⟨by rw [Vjb za za,Yb hp1 za (he.trans (if_pos za))];simp,rfl,rfl⟩
  apply (Xax);exact q_k ⟨k1 + 1,Zk hp1 za (he.trans (if_neg za))⟩
 have hn1:=J0a hp1 za;apply qbk∘Xa2;refine q_b L R ?_;exact ⟨by rw [Vjb za za,hn0,hn1];rfl,rfl,rfl⟩
end Go.Proofs.YtchfclmokpbldaaGreat
end
section
namespace Go.Proofs.YtchfclmokpbldaaGreat
open Go.Aw Go
set_option maxRecDepth 20000
attribute [local irreducible] CJ LJ DJ Tri YV Gives U0 J3 Kj Uz RV J5
def Zpc (l : List Int) : Nat → Int
 | 0=>l.getD 0 0
 | k + 1=>min (Zpc l k) (l.getD k 0)
def Y9c (l : List Int) : Nat → Int
 | 0=>l.getD 0 0
 | k + 1=>max (Y9c l k) (l.getD k 0)
def Zqa (d:XDoor) (s:Int):XSpan:=
 if d.rests.l.length=0∨s < -1∨(d.rests.l.length:Int)≤s then ⟨0,0⟩
 else if s= -1 then ⟨Zpc d.rests.l d.rests.l.length,Y9c d.rests.l d.rests.l.length⟩
 else ⟨d.rests.l.getD s.toNat 0,d.rests.l.getD s.toNat 0⟩
def Vgf (x:Arr Int) (L:LB) (R:LS) (hm:InR (isl x) R) (h1:1≤x.l.length):
 Tri Tryz.prog 244 [x.val].toArray L R (fun v M U=>v=.int .i64 (Zpc x.l x.l.length)∧L=M∧R=U):=by
 refine Vo Tryz.call244 hm fun hpn=>?_;have h0:=Jw (l:=x.l) (k:=0) 0 za;refine Jj 25 Tryz.call244 Tryz.func244 rfl rfl rfl ?_;apply Xac∘qaw∘Xaq∘Xbm;refine Jrb zfb zD ?_;apply qbv∘qbm∘qdt∘qa7∘Xap∘Xcc;refine Jp [(0,.slice _ _ _),(3,.int _ _),(4,.int _ _)] zh fun tq0=>?_;refine K4c ([3,4]++rg 12 12) (fun g:{k:Nat // 1≤k∧k≤x.l.length}=>[(4,.int .i64 ((g.1:Nat):Int)),(3,.int .i64 (Zpc x.l g.1))]) (fun g=>x.l.length - g.1) (⟨1,by omega,by omega⟩) ⟨rfl,congrArg (Value.int .i64) (Int.min_self _).symm,trivial⟩ ?_;rintro ⟨k,hk1,hk2⟩ junk;try dsimp only
 apply Xb1∘Xaq∘Xbm;refine q_c ?_ ?_<;>intro hc1;·have hk:=Jw (l:=x.l) (k:=k) 0 za;refine Ka (Jc (Jr (Km (Jh ?_))));apply qaa∘Xat∘qa3∘qa7;refine Jx (Zib rfl rfl) rfl ?_;exact (qad∘qcs∘Xdf) qd0
 exact zge
def Ujf (x:Arr Int) (L:LB) (R:LS) (hm:InR (isl x) R) (h1:1≤x.l.length):
 Tri Tryz.prog 245 [x.val].toArray L R (fun v M U=>v=.int .i64 (Y9c x.l x.l.length)∧L=M∧R=U):=by
 refine Vo Tryz.call245 hm fun hpn=>?_;have h0:=Jw (l:=x.l) (k:=0) 0 za;refine Jj 25 Tryz.call245 Tryz.func245 rfl rfl rfl ?_;apply Xac∘qaw∘Xaq∘Xbm;refine Jrb zfb zD ?_;apply qbv∘qbm∘qdt∘qa7∘Xap∘Xcc;refine Jp [(0,.slice _ _ _),(3,.int _ _),(4,.int _ _)] zh fun tq0=>?_;refine K4c ([3,4]++rg 12 12) (fun g:{k:Nat // 1≤k∧k≤x.l.length}=>[(4,.int .i64 ((g.1:Nat):Int)),(3,.int .i64 (Y9c x.l g.1))]) (fun g=>x.l.length - g.1) (⟨1,by omega,by omega⟩) ⟨rfl,congrArg (Value.int .i64) (Int.max_self _).symm,trivial⟩ ?_;rintro ⟨k,hk1,hk2⟩ junk;try dsimp only
 apply Xb1∘Xaq∘Xbm;refine q_c ?_ ?_<;>intro hc1;·have hk:=Jw (l:=x.l) (k:=k) 0 za;refine Ka (Jc (Jr (Km (Jh ?_))));apply qaa∘Xat∘qa3∘qa7;refine Jx zmc rfl ?_;exact (qad∘qcs∘Xdf) qd0
 exact zge
def Jef (d:XDoor) (s:Int) (L:LB) (R:LS) (hm:InR d.sl R):
 Tri Tryz.prog 192 [d.val,.int .i64 s].toArray L R (fun v M U=>v=(Zqa d s).val∧L=M∧R=U):=by
 refine Vo Tryz.call192 hm fun hpn=>?_;refine Jj 43 Tryz.call192 Tryz.func192 rfl rfl rfl ?_;apply (Xaf);intro b2;apply (qaq);intro b4;refine J6 (Jc (Jr (Km (Jr (Jh ?_)))));apply Xab∘qbn∘qah;apply J9 (G:=[_,_]) (j:=4) (cj:=10) rfl rfl zb rfl zfb rfl;·intro hg5;replace hg5:=qb hg5;exact (qaa) zyd
 intro junk5;apply (qah);apply J9 (G:=[_,_,_,_,_]) (j:=8) (cj:=14) rfl rfl zb rfl zfb rfl;·intro hg9;replace hg9:=qb hg9;exact (qaa∘Xab) zjd
 intro junk9;apply (Xas);refine q_c ?_ ?_<;>intro hc0;·apply qae∘qck∘qak∘qdb;refine q_r L R zDc ?_;exact ⟨by rw [Zqa,if_pos za],rfl,rfl⟩
 apply Xbd∘Xa4;refine q_c ?_ ?_<;>intro hc1;·refine Jr ?_;refine Kh tb [] [0,1,3,4,2,5,6] [7] (_) _ K3 zc zi zja ?_;apply Xar∘Xar;refine Up rfl (Vgf d.rests _ _ hm za) rfl rfl ?_;rintro v M U ⟨rfl,rfl,rfl⟩;refine ⟨zi,zw,?_⟩;refine Up rfl (Ujf d.rests _ _ hm za) rfl rfl ?_;rintro v M U ⟨rfl,rfl,rfl⟩;refine ⟨zi,zw,?_⟩;apply qcw∘Xch;refine Jz (Jc (U4 (J8 (Ke ?_))));refine q_r L R zDc ?_;exact ⟨by rw [Zqa,if_neg za,if_pos za],rfl,rfl⟩
 refine Ka (Jk (Jc (Jr ?_)));have hk:=Jw (l:=d.rests.l) (k:=s.toNat) 0 za;refine Kh tb [] [0,1,2,3,4,5,6,7,8,9,10] [11] (_) _ K3 zc zi zja ?_;apply Xdc∘Zxf∘qci∘Xdc∘Zxf∘qci∘qcw∘Xch;refine Jz (Jc (U4 ?_));refine q_r L R zDc ?_;exact ⟨by rw [Zqa,if_neg za,if_neg za],rfl,rfl⟩
end Go.Proofs.YtchfclmokpbldaaGreat
end
