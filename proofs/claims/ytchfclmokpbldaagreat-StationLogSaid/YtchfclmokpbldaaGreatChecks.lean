/-
  Checks: Plan, FanC, DoorC, BranchC, Rest, in one text. By an AI agent; no person has read it.
-/
import Derived.Test.YtchfclmokpbldaaGreatRun
set_option linter.unusedVariables false
set_option linter.unusedSimpArgs false
section
variable {A9 B9:Prop}
theorem Vte (a:A9) (h:A9→B9:=by exact Jx zW rfl):B9:=h a
theorem Kke (a:A9) (h:A9→B9:=by exact Jx zHa rfl):B9:=h a
theorem U3f (a:A9) (h:A9→B9:=by exact Kv (by first | exact Jf tb rfl rfl rfl rfl zt (i:=k0 - 1) zk za | exact Jk tb rfl rfl rfl rfl (i:=k0 - 1) zk za) rfl rfl rfl):B9:=h a
theorem Jtf (h:B9:=by exact ⟨by rw [Y9a,if_neg za,if_neg za,Vv hp0 za (Vpb hp za za hq za)];rfl,rfl,rfl⟩):B9:=h
theorem Vtf (a:A9) (h:A9→B9:=by exact Kx zGa rfl rfl rfl rfl):B9:=h a
end
section
namespace Go.Proofs.YtchfclmokpbldaaGreat
open Go.Aw Go
set_option maxRecDepth 20000
attribute [local irreducible] CJ LJ DJ Tri YV Gives Ui J0 Ke Uh RV J2
def Ywb (s:XSpan) (lo hi:Int):Bool:=decide (lo≤s.low) && (decide (s.low≤s.high) && decide (s.high≤hi))
theorem Zxb (s:XSpan) (lo hi:Int) (L:List Blk) (R:List Sl):
    Tri Tryz.prog 237 [s.val,.int .i64 lo,.int .i64 hi].toArray L R (fun v L' R'=>v=.bool (Ywb s lo hi)∧L=L'∧R=R'):=by
  refine Jg 24 Tryz.call237 Tryz.func237 rfl rfl rfl ?_
  refine Xag ?_
  intro b3
  refine qaz ?_
  refine Xde ?_
  refine Xaa ?_
  refine qbx ?_
  refine qah ?_
  apply Ur (G:=[_,_,_,_,_]) (j:=4) (cj:=11) rfl rfl zb rfl zdb rfl
  ·
   intro hg5
   replace hg5:=qb hg5
   refine Xbe ?_
   refine qbx ?_
   exact qai
  intro junk5
  refine qah ?_
  apply Ur (G:=[_,_,_,_]) (j:=11) (cj:=18) rfl rfl zb rfl zdb rfl
  ·
   intro hg12
   replace hg12:=qb hg12
   refine Xam ?_
   refine qbx ?_
   exact qai
  intro junk12
  refine Xba ?_
  refine q_b (L':=L) (R':=R) ?_
  exact ⟨by simp [Ywb,Bool.and_assoc],rfl,rfl⟩
def Uxa (p:XPlace):Option Int:=if p.height < -10000∨10000 < p.height then some 1 else none
def Y2 (n:Nat) (r:XRoad):Option Int:=
  if r.fr < 0∨(n:Int)≤r.fr∨r.to < 0∨(n:Int)≤r.to∨r.fr=r.to then some 4
  else if r.len < 1∨100000 < r.len∨r.area < 1∨1000 < r.area∨Ywb r.rest 1 262144=false∨Ywb r.lift (-2199023255552) 2199023255552=false then some 1 else none
def Vf (m:XMine):Int:=
  if 64 < m.places.l.length∨128 < m.roads.l.length then 2
  else match m.places.l.findSome? Uxa with
    | some e=>e
    | none=>(m.roads.l.findSome? (Y2 m.places.l.length)).getD 0
theorem Jgb (m:XMine) (L:List Blk) (R:List Sl) (hm:MineR m R):
    Tri Tryz.prog 183 [m.val].toArray L R (fun v L' R'=>v=.int .i64 (Vf m)∧L=L'∧R=R'):=by
  have hpl:=hm.places
  have hro:=hm.roads
  refine U8 Tryz.call183 hpl fun hpn=>?_
  refine U8 Tryz.call183 hro fun hrn=>?_
  refine Jg 100 Tryz.call183 Tryz.func183 rfl rfl rfl ?_
  refine Xag ?_
  intro b1
  refine Xas ?_
  refine Xco ?_
  refine qah ?_
  apply J9 (G:=[_,_,_,_]) (j:=4) (cj:=12) rfl rfl zb rfl zdb rfl
  ·
   exact zqd
  intro junk5
  refine qaf ?_
  refine q_c (fun hc0=>?_) (fun hc0=>?_)
  ·
   refine Xa5 ?_
   refine q_i (L':=L) (R':=R) ?_
   exact ⟨by simp [Vf];omega,rfl,rfl⟩
  refine Xcl ?_
  refine Jo [(1,Value.pointer _),(19,Value.slice _ _ _),(20,Value.int _ _),(21,Value.int _ _)] zg fun tq0=>?_
  refine q_p [2,4,21,22,23,24,25,26,27,28,29,30,31,32,33] ((⟨fun g=>[(21,.int .i64 ((g.1:Nat):Int))],fun _=>⟨b1,m.cells,28⟩ :: L,fun _=>R,fun g=>m.places.l.length - g.1⟩:Head (FS Uxa m.places.l))) (⟨0,Kia _ _⟩) ?_
  rintro ⟨k,hk,hkeep⟩ junk
  try dsimp only
  refine Xak ?_
  refine q_c (fun hc1=>?_) (fun hc1=>?_)
  ·
   obtain ⟨x,hx⟩:=Kr (l:=m.places.l) (k:=k) za
   refine qbb ?_
   refine qa3 ?_
   refine Xdq ?_
   intro b4
   refine Xa0 ?_
   refine Xbg ?_
   apply J9 (G:=[_,_,_]) (j:=3) (cj:=28) rfl rfl zb rfl zdb rfl
   ·
    exact zZc
   intro junk4
   refine qaf ?_
   refine q_c (fun hc2=>?_) (fun hc2=>?_)
   ·
    refine Xbw ?_
    refine q_i (L':=L) (R':=R) ?_
    exact ⟨by simp [Vf,Y0 hkeep hx (show Uxa x=some 1 by simp [Uxa];omega)];omega,rfl,rfl⟩
   refine Xax ?_
   exact q_k ⟨k + 1,Jta hkeep hx (by simp [Uxa];omega)⟩
  have hp:=Jra hkeep za
  refine qbk ?_
  refine Xac ?_
  refine Xas ?_
  refine Xaw ?_
  refine Jo [(5,Value.int _ _),(38,Value.slice _ _ _),(39,Value.int _ _),(40,Value.int _ _)] zg fun tq1=>?_
  refine q_p [2,7,40,41,42,43,44,45,46,47,48,49,50,51,52,53,54,55,56,57,58,59,60,61,62,63,64,65,66,67,68,69,70,71,72,73,74,75,76,77,78,79,80,81,82,83,84,85,86,87,88,89,90,91,92,93,94,95,96,97,98,99] ((⟨fun g=>[(40,.int .i64 ((g.1:Nat):Int))],fun _=>⟨b1,m.cells,28⟩ :: L,fun _=>R,fun g=>m.roads.l.length - g.1⟩:Head (FS (Y2 m.places.l.length) m.roads.l))) (⟨0,Kia _ _⟩) ?_
  rintro ⟨k2,hk2,hkeep2⟩ junk
  try dsimp only
  refine Xak ?_
  refine q_c (fun hc3=>?_) (fun hc3=>?_)
  ·
   obtain ⟨y,hy⟩:=Kr (l:=m.roads.l) (k:=k2) za
   refine qbb ?_
   refine qa3 ?_
   refine qc8 ?_
   refine qaq ?_
   intro b7
   refine Xa9 ?_
   refine Xbg ?_
   apply J9 (G:=[_,_,_,_]) (j:=3) (cj:=47) rfl rfl zb rfl zdb rfl
   ·
    intro hg4
    replace hg4:=qb hg4
    refine Xam ?_
    exact zid
   intro junk4
   refine qah ?_
   apply J9 (G:=[_,_,_]) (j:=9) (cj:=53) rfl rfl zb rfl zdb rfl
   ·
    intro hg10
    replace hg10:=qb hg10
    exact znd
   intro junk10
   refine qah ?_
   apply J9 (G:=[_,_,_,_]) (j:=14) (cj:=58) rfl rfl zb rfl zdb rfl
   ·
    intro hg15
    replace hg15:=qb hg15
    refine Xam ?_
    exact zid
   intro junk15
   refine qah ?_
   apply J9 (G:=[_,_,_,_,_]) (j:=20) (cj:=64) rfl rfl zb rfl zdb rfl
   ·
    intro hg21
    replace hg21:=qb hg21
    refine Xbe ?_
    refine qbn ?_
    exact qai
   intro junk21
   refine qaf ?_
   refine q_c (fun hc4=>?_) (fun hc4=>?_)
   ·
    refine Xcs ?_
    refine q_i (L':=L) (R':=R) ?_
    exact ⟨by simp [Vf,hp,Y0 hkeep2 hy (show Y2 m.places.l.length y=some 4 by simp [Y2];omega)];omega,rfl,rfl⟩
   refine qbo ?_
   refine Xbg ?_
   apply J9 (G:=[_,_,_]) (j:=3) (cj:=74) rfl rfl zb rfl zdb rfl
   ·
    exact zZc
   intro junk4
   refine qah ?_
   apply J9 (G:=[_,_,_]) (j:=8) (cj:=79) rfl rfl zb rfl zdb rfl
   ·
    exact zUd
   intro junk9
   refine qah ?_
   apply J9 (G:=[_,_,_]) (j:=13) (cj:=84) rfl rfl zb rfl zdb rfl
   ·
    exact zWd
   intro junk14
   refine qaf ?_
   refine q_c (fun hc5=>?_) (fun hc5=>?_)
   ·
    refine Xcs ?_
    refine q_i (L':=L) (R':=R) ?_
    exact ⟨by simp [Vf,hp,Y0 hkeep2 hy (show Y2 m.places.l.length y=some 1 by rw [Y2,if_neg za,if_pos za])];omega,rfl,rfl⟩
   refine qbv ?_
   refine Xdp ?_
   refine q_l rfl (Zxb y.rest _ _ _ _) ?_
   refine Xcc ?_
   apply J9 (G:=[_,_,_,_]) (j:=4) (cj:=93) rfl rfl zb rfl zdb rfl
   ·
    intro hg5
    replace hg5:=qb hg5
    refine Xdp ?_
    refine q_l rfl (Zxb y.lift _ _ _ _) ?_
    refine qb4 ?_
    exact qai
   intro junk5
   refine qaf ?_
   refine q_c (fun hc6=>?_) (fun hc6=>?_)
   ·
    refine Xbw ?_
    refine q_i (L':=L) (R':=R) ?_
    exact ⟨by simp [Vf,hp,Y0 hkeep2 hy (show Y2 m.places.l.length y=some 1 by rw [Y2,if_neg za,if_pos (by rcases hc6 with h | h <;> simp [h])])];omega,rfl,rfl⟩
   refine Xax ?_
   exact q_k ⟨k2 + 1,Jta hkeep2 hy (by rw [Y2,if_neg za,if_neg (by simp [hc6];omega)])⟩
  have hq:=Jra hkeep2 za
  refine Xb7 ?_
  refine q_i (L':=L) (R':=R) ?_
  exact ⟨by simp [Vf,hp,hq];omega,rfl,rfl⟩
end Go.Proofs.YtchfclmokpbldaaGreat
end
section
namespace Go.Proofs.YtchfclmokpbldaaGreat
open Go.Aw Go
set_option maxRecDepth 20000
attribute [local irreducible] CJ LJ DJ Tri YV Gives Ui J0 Ke Uh RV J2
def V9 (l:List XPoint) (i:Nat):Option Int:=
  match l[i]? with
  | none=>none
  | some p => if p.flow < -1048576 ∨ 1048576 < p.flow ∨ p.pres < 0 ∨ 2199023255552 < p.pres then some 1
    else if i=0 then none
    else match l[i - 1]? with
      | none=>none
      | some q=>if p.flow≤q.flow∨q.pres < p.pres then some 14 else none
def Y9a (f:XFan):Int:=
  if f.road < 0 then 4 else if f.curve.l.length < 1∨8 < f.curve.l.length then 2
  else ((List.range f.curve.l.length).findSome? (V9 f.curve.l)).getD 0
theorem Zab {l:List XPoint} {k:Nat} {p:XPoint} (h:l[k]?=some p) (hr:p.flow < -1048576∨1048576 < p.flow∨p.pres < 0∨2199023255552 < p.pres):V9 l k=some 1:=by
  simp only [V9,h,if_pos hr]
theorem Vpb {l:List XPoint} {k:Nat} {p q:XPoint} (h:l[k]?=some p) (hr:¬ (p.flow < -1048576∨1048576 < p.flow∨p.pres < 0∨2199023255552 < p.pres)) (hk:k≠0) (h':l[k - 1]?=some q) (hb:p.flow≤q.flow∨q.pres < p.pres):V9 l k=some 14:=by
  simp only [V9,h,if_neg hr,if_neg hk,h',if_pos hb]
theorem Y0b {l:List XPoint} {k:Nat} {p:XPoint} (h:l[k]?=some p) (hr:¬ (p.flow < -1048576∨1048576 < p.flow∨p.pres < 0∨2199023255552 < p.pres)) (hk:k=0):V9 l k=none:=by
  simp only [V9,h,if_neg hr,if_pos hk]
theorem Jbc {l:List XPoint} {k:Nat} {p q:XPoint} (h:l[k]?=some p) (hr:¬ (p.flow < -1048576∨1048576 < p.flow∨p.pres < 0∨2199023255552 < p.pres)) (hk:k≠0) (h':l[k - 1]?=some q) (hb:¬ (p.flow≤q.flow∨q.pres < p.pres)):V9 l k=none:=by
  simp only [V9,h,if_neg hr,if_neg hk,h',if_neg hb]
theorem Uqc (f:XFan) (L:List Blk) (R:List Sl) (hm:InR f.sl R):
    Tri Tryz.prog 184 [f.val].toArray L R (fun v L' R'=>v=.int .i64 (Y9a f)∧L=L'∧R=R'):=by
  refine U8 Tryz.call184 hm fun hpn=>?_
  refine Jg 71 Tryz.call184 Tryz.func184 rfl rfl rfl ?_
  refine Xag ?_
  intro b1
  refine Xas ?_
  refine Xaa ?_
  refine Xbo ?_
  refine q_c (fun hc0=>?_) (fun hc0=>?_)
  ·
   refine Xa5 ?_
   refine q_i (L':=L) (R':=R) ?_
   exact ⟨by rw [Y9a,if_pos za],rfl,rfl⟩
  refine qbo ?_
  refine Xac ?_
  refine Xav ?_
  apply J9 (G:=[_,_,_,_]) (j:=4) (cj:=12) rfl rfl zb rfl zdb rfl
  ·
   exact zqd
  intro junk5
  refine qaf ?_
  refine q_c (fun hc1=>?_) (fun hc1=>?_)
  ·
   refine Xa5 ?_
   refine q_i (L':=L) (R':=R) ?_
   exact ⟨by rw [Y9a,if_neg za,if_pos za],rfl,rfl⟩
  refine Xcl ?_
  refine Jo [(1,Value.pointer _),(19,Value.slice _ _ _),(20,Value.int _ _),(21,Value.int _ _)] zg fun tq0=>?_
  refine q_s [2,3,4,21,22,23,24,25,26,27,28,29,30,31,32,33,34,35,36,37,38,39,40,41,42,43,44,45,46,47,48,49,50,51,52,53,54,55,56,57,58,59,60,61,62,63,64,65,66,67,68,69,70] (fun g:FSR (V9 f.curve.l) (f.curve.l.length)=>[(21,.int .i64 ((g.1:Nat):Int))]) (fun g=>(f.curve.l.length) - g.1) ⟨0,Jxa _ _⟩ ?_
  rintro ⟨k0,hk0,hp0⟩ junk
  try dsimp only
  refine Xak ?_
  refine q_c (fun hc2=>?_) (fun hc2=>?_)
  ·
   obtain ⟨p,hp⟩:=Kr (l:=f.curve.l) (k:=k0) za
   refine Xa2 ?_
   refine Vte ?_
   refine Xdq ?_
   intro b4
   refine qad ?_
   refine Xa9 ?_
   refine Xbg ?_
   apply J9 (G:=[_,_,_]) (j:=3) (cj:=29) rfl rfl zb rfl zdb rfl
   ·
    exact zZc
   intro junk4
   refine qah ?_
   apply J9 (G:=[_,_,_]) (j:=8) (cj:=34) rfl rfl zb rfl zdb rfl
   ·
    exact zUd
   intro junk9
   refine qah ?_
   apply J9 (G:=[_,_,_]) (j:=13) (cj:=39) rfl rfl zb rfl zdb rfl
   ·
    exact zWd
   intro junk14
   refine qaf ?_
   refine q_c (fun hc3=>?_) (fun hc3=>?_)
   ·
    refine Xcs ?_
    refine q_i (L':=L) (R':=R) ?_
    exact ⟨by rw [Y9a,if_neg za,if_neg za,Vv hp0 za (Zab hp za)];rfl,rfl,rfl⟩
   refine qcl ?_
   refine Kn tb [0,1,2,3,4,5,6,7,8,9,10,11,12,13,14,15,16,17,18,19,20,21,22,23,24,25] _ K1 ze (List.Sublist.refl _) ?_
   refine qao ?_
   refine Kv (U0c rfl rfl) rfl rfl rfl ?_
   refine qb2 ?_
   refine Vd (k:=46) zdb (fun hg2=>?_) (fun hg2=>?_)
   ·
    replace hg2:=qb hg2
    obtain ⟨q,hq⟩:=Kr (l:=f.curve.l) (k:=k0 - 1) za
    refine Xan ?_
    refine Xb1 ?_
    refine qb7 ?_
    refine U3f ?_
    refine qce ?_
    refine qbl ?_
    refine Kv (V4e rfl rfl) rfl rfl rfl ?_
    refine qb2 ?_
    refine Vd (k:=57) zdb (fun hg13=>?_) (fun hg13=>?_)
    ·
     replace hg13:=qb hg13
     iterate 10 refine qap ?_
     refine qbp ?_
     refine Xbu ?_
     refine K3 rfl ?_
     refine Xbw ?_
     refine q_i (L':=L) (R':=R) ?_
     exact Jtf
    replace hg13:=qb hg13
    refine Xan ?_
    refine Xb1 ?_
    refine qb7 ?_
    refine U3f ?_
    refine qce ?_
    refine qbl ?_
    refine Kv (U0c rfl rfl) rfl rfl rfl ?_
    refine qbp ?_
    refine Xbu ?_
    refine q_c (fun hc4=>?_) (fun hc4=>?_)
    ·
     refine Xbw ?_
     refine q_i (L':=L) (R':=R) ?_
     exact Jtf
    exact zId
   replace hg2:=qb hg2
   iterate 22 refine qap ?_
   refine Xbu ?_
   refine Zj rfl ?_
   exact zId
  have hn0:=Jba hp0 za
  refine Xb7 ?_
  refine q_i (L':=L) (R':=R) ?_
  exact ⟨by rw [Y9a,if_neg za,if_neg za,hn0];rfl,rfl,rfl⟩
end Go.Proofs.YtchfclmokpbldaaGreat
end
section
namespace Go.Proofs.YtchfclmokpbldaaGreat
open Go.Aw Go
set_option maxRecDepth 20000
attribute [local irreducible] CJ LJ DJ Tri YV Gives Ui J0 Ke Uh RV J2
def Kfb (x:Int):Option Int:=if x < 0∨262144 < x then some 1 else none
def Jbb (l : List Int) : Nat → Bool
  | 0=>true
  | k + 1=>Jbb l k && (decide (k=0) || decide (l.getD k 0 < l.getD (k - 1) 0))
theorem Jdd {l:List Int} {k:Nat} {x:Int} (hx:l[k]?=some x):(Jbb l k && (decide ((k:Int)=0) || decide (x < l.getD (k - 1) 0)))=Jbb l (k + 1):=by
  rw [Jbb,getD_some hx]
  congr 2
  simp only [decide_eq_decide];omega
abbrev Khb (l:List XDoor) (i:Nat) (d:XDoor):Prop:=
  d.other≠-1∧(d.other < 0∨(l.length:Int)≤d.other∨d.other=(i:Int)∨(l.getD d.other.toNat default).other≠(i:Int))
def Z7 (l:List XDoor) (i:Nat):Option Int:=
  match l[i]? with
  | none=>none
  | some d => if d.road < 0 then some 4 else if d.rests.l.length < 2 ∨ 6 < d.rests.l.length then some 2
    else match d.rests.l.findSome? Kfb with
      | some e=>some e
      | none=>if Jbb d.rests.l d.rests.l.length=false then some 15 else if Khb l i d then some 15 else none
def Vt (l:List XDoor):Int:=if 16 < l.length then 2 else ((List.range l.length).findSome? (Z7 l)).getD 0
theorem Zhb {l : List XDoor} {i : Nat} {d : XDoor} (h : l[i]? = some d) : Z7 l i = if d.road < 0 then some 4 else if d.rests.l.length < 2 ∨ 6 < d.rests.l.length then some 2
    else match d.rests.l.findSome? Kfb with
      | some e=>some e
      | none=>if Jbb d.rests.l d.rests.l.length=false then some 15 else if Khb l i d then some 15 else none:=by
  rw [Z7,h]
theorem J7a {l:List XDoor} {k:Nat} {e:Int} (h16:¬ 16 < l.length) (hp:(List.range l.length).findSome? (Z7 l)=((List.range l.length).drop k).findSome? (Z7 l)) (hk:k < l.length) (h:Z7 l k=some e):Vt l=e:=by
  rw [Vt,if_neg h16,Vv hp hk h];rfl
theorem J7c (x:Arr XDoor) (L:List Blk) (R:List Sl) (hm:InR (dsl x) R):
    Tri Tryz.prog 185 [x.val].toArray L R (fun v L' R'=>v=.int .i64 (Vt x.l)∧L=L'∧R=R'):=by
  refine U8 Tryz.call185 hm fun hpn=>?_
  refine Jg 95 Tryz.call185 Tryz.func185 rfl rfl rfl ?_
  refine Xab ?_
  refine qaw ?_
  refine Xap ?_
  refine qa5 ?_
  refine qaf ?_
  refine q_c (fun hc0=>?_) (fun hc0=>?_)
  ·
   refine Xa5 ?_
   refine q_i (L':=L) (R':=R) ?_
   exact ⟨by rw [Vt,if_pos za],rfl,rfl⟩
  refine qbo ?_
  refine Xbt ?_
  refine Jo [(0,Value.slice _ _ _),(11,Value.slice _ _ _),(12,Value.int _ _),(13,Value.int _ _)] zg fun tq0=>?_
  refine q_s [2,3,4,5,6,7,13,14,15,16,17,18,19,20,21,22,23,24,25,26,27,28,29,30,31,32,33,34,35,36,37,38,39,40,41,42,43,44,45,46,47,48,49,50,51,52,53,54,55,56,57,58,59,60,61,62,63,64,65,66,67,68,69,70,71,72,73,74,75,76,77,78,79,80,81,82,83,84,85,86,87,88,89,90,91,92,93,94] (fun g:FSR (Z7 x.l) (x.l.length)=>[(13,.int .i64 ((g.1:Nat):Int))]) (fun g=>(x.l.length) - g.1) ⟨0,Jxa _ _⟩ ?_
  rintro ⟨k0,hk0,hp0⟩ junk
  try dsimp only
  refine Xak ?_
  refine q_c (fun hc1=>?_) (fun hc1=>?_)
  ·
   obtain ⟨d,hd⟩:=Kr (l:=x.l) (k:=k0) za
   have hdr:=InR.door hm hd
   have hde:=Zhb hd
   refine Xa2 ?_
   refine Vte ?_
   refine qdk ?_
   refine qaq ?_
   intro b4
   refine qad ?_
   refine Xa9 ?_
   refine Xaa ?_
   refine Xbo ?_
   refine q_c (fun hc2=>?_) (fun hc2=>?_)
   ·
    refine Xcs ?_
    refine q_i (L':=L) (R':=R) ?_
    exact ⟨by rw [J7a za hp0 za (hde.trans (if_pos za))],rfl,rfl⟩
   refine qbo ?_
   refine Xac ?_
   refine Xav ?_
   apply J9 (G:=[_,_,_,_]) (j:=4) (cj:=25) rfl rfl zb rfl zdb rfl
   ·
    exact zqd
   intro junk5
   refine qaf ?_
   refine q_c (fun hc3=>?_) (fun hc3=>?_)
   ·
    refine Xcs ?_
    refine q_i (L':=L) (R':=R) ?_
    exact ⟨by rw [J7a za hp0 za (hde.trans (by rw [if_neg za,if_pos za]))],rfl,rfl⟩
   rw [if_neg za,if_neg za] at hde
   refine qbv ?_
   refine qaz ?_
   refine qaw ?_
   refine Xaw ?_
   refine Y4 [2,3,4,5,6,7,13,14,15,16,17,18,19,20,21,22,23,24,25,26,27,28,29,30,31,32,33,34,35,36,37,38,39,40,41,42,43,44,45,46,47,48,49,50,51,52,53,54,55,56,57,58,59,60,61,62,63,64,65,66,67,68,69,70,71,72,73,74,75,76,77,78,79,80,81,82,83,84,85,86,87,88,89,90,91,92,93,94] zK [(3,Value.int _ _),(4,Value.pointer _),(5,Value.bool _),(13,Value.int _ _),(32,Value.slice _ _ _),(33,Value.int _ _),(34,Value.int _ _)] zg fun tq1=>?_
   refine q_s [2,5,6,7,34,35,36,37,38,39,40,41,42,43,44,45,46,47,48,49,50,51,52,53,54,55,56,57,58,59,60] (fun g:FS (Kfb) (d.rests.l)=>[(34,.int .i64 ((g.1:Nat):Int)),(5,.bool (Jbb d.rests.l g.1))]) (fun g=>(d.rests.l).length - g.1) ⟨0,Kia _ _⟩ ?_
   rintro ⟨k1,hk1,hp1⟩ junk
   try dsimp only
   refine Xak ?_
   refine q_c (fun hc4=>?_) (fun hc4=>?_)
   ·
    obtain ⟨r,hr⟩:=Kr (l:=d.rests.l) (k:=k1) za
    refine Xa2 ?_
    refine Kke ?_
    refine qa7 ?_
    refine qad ?_
    refine Xas ?_
    refine Xb5 ?_
    apply J9 (G:=[_,_]) (j:=2) (cj:=41) rfl rfl zb rfl zdb rfl
    ·
     exact zdd
    intro junk3
    refine qaf ?_
    refine q_c (fun hc5=>?_) (fun hc5=>?_)
    ·
     refine Xab ?_
     refine J6 (Jb (Uo (J7 (J3 (J7 (Va (J3 (J7 (J3 (J7 (Va (J3 (J7 ?_)))))))))))))
     refine q_i (L':=L) (R':=R) ?_
     exact ⟨by rw [J7a za hp0 za (hde.trans (by rw [Y0 hp1 hr (if_pos za)]))],rfl,rfl⟩
    refine J5 (Jb (Jh ?_))
    refine qah ?_
    refine qah ?_
    apply Ur (G:=[_,_,_,_,_,_,_,_,_,_,_,_]) (j:=1) (cj:=46) rfl rfl zb rfl zdb rfl
    ·
     intro hg2
     replace hg2:=qb hg2
     refine qaa ?_
     refine qbn ?_
     refine qah ?_
     apply J9 (G:=[_,_,_,_,_,_,_,_]) (j:=4) (cj:=49) rfl rfl zb rfl zdb rfl
     ·
      intro hg5
      replace hg5:=qb hg5
      have hy:=Jw (l:=d.rests.l) (k:=k1 - 1) 0 za
      refine qaa ?_
      refine Xam ?_
      refine qa9 ?_
      refine Jx (by first | exact Jf tb rfl rfl rfl rfl zt (i:=k1 - 1) zk za | exact Jk tb rfl rfl rfl rfl (i:=k1 - 1) zk za) rfl ?_
      refine qa7 ?_
      exact zyd
     intro junk5
     exact qai
    intro junk2
    refine qaz ?_
    refine Xa8 ?_
    exact Kf ⟨k1 + 1,Jta hp1 hr (if_neg za)⟩ zm ⟨rfl,congrArg Value.bool (Jdd hr),trivial⟩ zi zqb zx
   have hn1:=Jra hp1 za
   obtain rfl:k1=d.rests.l.length:=by omega
   rw [hn1] at hde
   dsimp only at hde
   refine qcf ?_
   refine qah ?_
   refine Xbd ?_
   refine q_c (fun hc6=>?_) (fun hc6=>?_)
   ·
    refine Xcs ?_
    refine q_i (L':=L) (R':=R) ?_
    exact ⟨by rw [J7a za hp0 za (hde.trans (by rw [if_pos hc6]))],rfl,rfl⟩
   rw [if_neg (by simp [hc6])] at hde
   refine qbv ?_
   refine Xaa ?_
   refine Xbx ?_
   apply Ur (G:=[_,_,_,_,_,_,_,_,_,_,_,_,_,_,_,_,_,_,_,_,_,_,_,_,_,_]) (j:=3) (cj:=66) rfl rfl zb rfl zdb rfl
   ·
    intro hg4
    replace hg4:=qb hg4
    refine Xbg ?_
    apply J9 (G:=[_,_,_,_,_]) (j:=7) (cj:=70) rfl rfl zb rfl zdb rfl
    ·
     intro hg8
     replace hg8:=qb hg8
     refine Xaa ?_
     refine Xap ?_
     exact zid
    intro junk8
    refine qah ?_
    apply J9 (G:=[_,_,_,_]) (j:=14) (cj:=77) rfl rfl zb rfl zdb rfl
    ·
     intro hg15
     replace hg15:=qb hg15
     refine Xam ?_
     refine qbn ?_
     exact qai
    intro junk15
    refine qah ?_
    apply J9 (G:=[_,_,_,_,_,_,_,_]) (j:=20) (cj:=83) rfl rfl zb rfl zdb rfl
    ·
     intro hg21
     replace hg21:=qb hg21
     have ho:=Jw (l:=x.l) (k:=d.other.toNat) default za
     refine Xcg ?_
     refine Jx (by first | exact Jf tb rfl rfl rfl rfl zt (i:=d.other.toNat) zk za | exact Jk tb rfl rfl rfl rfl (i:=d.other.toNat) zk za) rfl ?_
     refine Xbv ?_
     refine qaa ?_
     exact zfd
    intro junk21
    exact qai
   intro junk4
   refine qaf ?_
   refine q_c (fun hc7=>?_) (fun hc7=>?_)
   ·
    refine Xbw ?_
    refine q_i (L':=L) (R':=R) ?_
    exact ⟨by rw [J7a za hp0 za (hde.trans (by rw [if_pos za]))],rfl,rfl⟩
   refine Xax ?_
   exact q_k ⟨k0 + 1,Yz hp0 za (hde.trans (if_neg za))⟩
  have hn0:=Jba hp0 za
  refine Xb7 ?_
  refine q_i (L':=L) (R':=R) ?_
  exact ⟨by rw [Vt,if_neg za,hn0];rfl,rfl,rfl⟩
end Go.Proofs.YtchfclmokpbldaaGreat
end
section
namespace Go.Proofs.YtchfclmokpbldaaGreat
open Go.Aw Go
set_option maxRecDepth 20000
attribute [local irreducible] CJ LJ DJ Tri YV Gives Ui J0 Ke Uh RV J2
def Uxd (n:Nat) (f:XFan):Option Int:=if Y9a f≠0 then some (Y9a f) else if (n:Int)≤f.road then some 4 else none
def Zbb (n:Nat) (d:XDoor):Option Int:=if (n:Int)≤d.road then some 4 else none
def Ky (x:XAir):Int:=
  if Vf x.mine≠0 then Vf x.mine else if 8 < x.fans.l.length then 2
  else match x.fans.l.findSome? (Uxd x.mine.roads.l.length) with
    | some e=>e
    | none=>if Vt x.doors.l≠0 then Vt x.doors.l else (x.doors.l.findSome? (Zbb x.mine.roads.l.length)).getD 0
theorem Znb {x:XAir} (h:Vf x.mine=0) (h8:¬ 8 < x.fans.l.length) {e:Int} (hf:x.fans.l.findSome? (Uxd x.mine.roads.l.length)=some e):Ky x=e:=by
  rw [Ky,if_neg za,if_neg h8,hf]
theorem Zyc {x:XAir} (h:Vf x.mine=0) (h8:¬ 8 < x.fans.l.length) (hf:x.fans.l.findSome? (Uxd x.mine.roads.l.length)=none):
    Ky x=if Vt x.doors.l≠0 then Vt x.doors.l else (x.doors.l.findSome? (Zbb x.mine.roads.l.length)).getD 0:=by
  rw [Ky,if_neg za,if_neg h8,hf]
theorem Zi (x:XAir) (L:List Blk) (R:List Sl) (hm:AirR x R):
    Tri Tryz.prog 109 [x.val].toArray L R (fun v L' R'=>v=.int .i64 (Ky x)∧L=L'∧R=R'):=by
  have hfa:=hm.fans
  have hdo:=hm.doors
  refine U8 Tryz.call109 hfa fun hfn=>?_
  refine U8 Tryz.call109 hdo fun hdn=>?_
  refine Jg 61 Tryz.call109 Tryz.func109 rfl rfl rfl ?_
  refine Xag ?_
  intro b1
  refine Xas ?_
  refine Xdp ?_
  refine q_l rfl (Jgb x.mine _ _ hm.mineR) ?_
  refine Xa7 ?_
  refine q_c (fun hc0=>?_) (fun hc0=>?_)
  ·
   refine Xdl ?_
   refine q_i (L':=L) (R':=R) ?_
   exact ⟨by rw [Ky,if_pos hc0],rfl,rfl⟩
  simp only [Decidable.not_not] at hc0
  refine qbo ?_
  refine Xco ?_
  refine qaf ?_
  refine q_c (fun hc1=>?_) (fun hc1=>?_)
  ·
   refine Xa5 ?_
   refine q_i (L':=L) (R':=R) ?_
   exact ⟨by rw [Ky,if_neg za,if_pos za],rfl,rfl⟩
  refine Xcl ?_
  refine Jo [(1,Value.pointer _),(21,Value.slice _ _ _),(22,Value.int _ _),(23,Value.int _ _)] zg fun tq0=>?_
  refine q_s [2,5,6,23,24,25,26,27,28,29,30,31,32,33,34,35,36,37,38,39] (fun g:FS (Uxd x.mine.roads.l.length) (x.fans.l)=>[(23,.int .i64 ((g.1:Nat):Int))]) (fun g=>(x.fans.l).length - g.1) ⟨0,Kia _ _⟩ ?_
  rintro ⟨k0,hk0,hp0⟩ junk
  try dsimp only
  refine Xak ?_
  refine q_c (fun hc2=>?_) (fun hc2=>?_)
  ·
   obtain ⟨f,hf⟩:=Kr (l:=x.fans.l) (k:=k0) za
   have hfr:=InR.fan hfa hf
   refine qbb ?_
   refine Vte ?_
   refine Xcv ?_
   intro b5
   refine Xa9 ?_
   refine qa8 ?_
   refine q_l rfl (Uqc f _ _ hfr) ?_
   skip
   refine Xa7 ?_
   refine q_c (fun hc3=>?_) (fun hc3=>?_)
   ·
    refine Xdj ?_
    refine qch ?_
    refine q_i (L':=L) (R':=R) ?_
    exact ⟨by rw [Znb hc0 za (Y0 hp0 hf (if_pos hc3))],rfl,rfl⟩
   refine qbv ?_
   refine Xaa ?_
   refine Xck ?_
   refine Xcj ?_
   refine q_c (fun hc4=>?_) (fun hc4=>?_)
   ·
    refine Xbw ?_
    refine q_i (L':=L) (R':=R) ?_
    exact ⟨by rw [Znb hc0 za (Y0 hp0 hf ((if_neg hc3).trans (if_pos hc4)))],rfl,rfl⟩
   refine Xax ?_
   exact q_k ⟨k0 + 1,Jta hp0 hf ((if_neg hc3).trans (if_neg hc4))⟩
  have hn0:=Jra hp0 za
  have hr:=Zyc hc0 za hn0
  refine qcf ?_
  refine Xaa ?_
  refine q_l rfl (J7c x.doors _ _ hdo) ?_
  refine Xa7 ?_
  refine q_c (fun hc5=>?_) (fun hc5=>?_)
  ·
   refine Xdl ?_
   refine q_i (L':=L) (R':=R) ?_
   exact ⟨by rw [hr,if_pos hc5],rfl,rfl⟩
  rw [if_neg hc5] at hr
  refine Xcl ?_
  refine Jo [(1,Value.pointer _),(47,Value.slice _ _ _),(48,Value.int _ _),(49,Value.int _ _)] zg fun tq1=>?_
  refine q_s [2,9,49,50,51,52,53,54,55,56,57,58,59,60] (fun g:FS (Zbb x.mine.roads.l.length) (x.doors.l)=>[(49,.int .i64 ((g.1:Nat):Int))]) (fun g=>(x.doors.l).length - g.1) ⟨0,Kia _ _⟩ ?_
  rintro ⟨k1,hk1,hp1⟩ junk
  try dsimp only
  refine Xak ?_
  refine q_c (fun hc6=>?_) (fun hc6=>?_)
  ·
   obtain ⟨d,hd⟩:=Kr (l:=x.doors.l) (k:=k1) za
   refine qbb ?_
   refine Kke ?_
   refine qdk ?_
   refine qaq ?_
   intro b9
   refine Xb2 ?_
   refine Xck ?_
   refine Xcj ?_
   refine q_c (fun hc7=>?_) (fun hc7=>?_)
   ·
    refine Xbw ?_
    refine q_i (L':=L) (R':=R) ?_
    exact ⟨by rw [hr,Y0 hp1 hd (if_pos hc7)];rfl,rfl,rfl⟩
   refine Xax ?_
   exact q_k ⟨k1 + 1,Jta hp1 hd (if_neg hc7)⟩
  have hn1:=Jra hp1 za
  refine Xb7 ?_
  refine q_i (L':=L) (R':=R) ?_
  exact ⟨by rw [hr,hn1];rfl,rfl,rfl⟩
def Jab (x:Int):Option Unit:=if x < -1∨2 < x then some () else none
def Yx (l:List XDoor) (s:List Int) (i:Nat):Option Unit:=
  match s[i]?,l[i]? with
  | some y,some d=>if y < -1∨(d.rests.l.length:Int)≤y then some () else none
  | _,_=>none
def Vja (a:XAir) (s:XSetting):Bool:=
  if s.fans.l.length≠a.fans.l.length∨s.doors.l.length≠a.doors.l.length then false
  else (s.fans.l.findSome? Jab).isNone && ((List.range s.doors.l.length).findSome? (Yx a.doors.l s.doors.l)).isNone
theorem Vsa {l:List XDoor} {s:List Int} {i:Nat} {y:Int} {d:XDoor} (hy:s[i]?=some y) (hd:l[i]?=some d):Yx l s i=if y < -1∨(d.rests.l.length:Int)≤y then some () else none:=by
  rw [Yx,hy,hd]
theorem Uqb {a:XAir} {s:XSetting} (h:s.fans.l.length=a.fans.l.length) (h':s.doors.l.length=a.doors.l.length):Vja a s=((s.fans.l.findSome? Jab).isNone && ((List.range s.doors.l.length).findSome? (Yx a.doors.l s.doors.l)).isNone):=by
  rw [Vja,if_neg za]
theorem Zga (a:XAir) (s:XSetting) (L:List Blk) (R:List Sl) (hm:AirR a R) (hs:SetR s R):
    Tri Tryz.prog 110 [a.val,s.val].toArray L R (fun v L' R'=>v=.bool (Vja a s)∧L=L'∧R=R'):=by
  have hfa:=hm.fans
  have hdo:=hm.doors
  have hsf:=hs.fans
  have hsd:=hs.doors
  refine U8 Tryz.call110 hsf fun hfn=>?_
  refine U8 Tryz.call110 hsd fun hdn=>?_
  refine Jg 61 Tryz.call110 Tryz.func110 rfl rfl rfl ?_
  refine Xag ?_
  intro b2
  refine qax ?_
  intro b3
  refine qaz ?_
  refine qaw ?_
  refine Xac ?_
  refine Xac ?_
  refine Xbx ?_
  apply J9 (G:=[_,_,_,_,_,_,_]) (j:=7) (cj:=16) rfl rfl zb rfl zdb rfl
  ·
   intro hg8
   replace hg8:=qb hg8
   refine Xac ?_
   refine Xac ?_
   exact zfd
  intro junk8
  refine qaf ?_
  refine q_c (fun hc0=>?_) (fun hc0=>?_)
  ·
   refine Xbb ?_
   refine qbh ?_
   refine q_b (L':=L) (R':=R) ?_
   exact ⟨by rw [Vja,if_pos za],rfl,rfl⟩
  refine Xcl ?_
  refine Jo [(2,Value.pointer _),(3,Value.pointer _),(26,Value.slice _ _ _),(27,Value.int _ _),(28,Value.int _ _)] zg fun tq0=>?_
  refine q_s [4,6,28,29,30,31,32,33,34,35,36,37,38] (fun g:FS (Jab) (s.fans.l)=>[(28,.int .i64 ((g.1:Nat):Int))]) (fun g=>(s.fans.l).length - g.1) ⟨0,Kia _ _⟩ ?_
  rintro ⟨k0,hk0,hp0⟩ junk
  try dsimp only
  refine Xak ?_
  refine q_c (fun hc1=>?_) (fun hc1=>?_)
  ·
   obtain ⟨x,hx⟩:=Kr (l:=s.fans.l) (k:=k0) za
   refine qbb ?_
   refine Vte ?_
   refine qa7 ?_
   refine Xat ?_
   refine Xav ?_
   apply J9 (G:=[_,_]) (j:=2) (cj:=34) rfl rfl zb rfl zdb rfl
   ·
    exact zdd
   intro junk3
   refine qaf ?_
   refine q_c (fun hc2=>?_) (fun hc2=>?_)
   ·
    refine Xbb ?_
    refine qbt ?_
    refine q_b (L':=L) (R':=R) ?_
    exact ⟨by rw [Uqb za za,Y0 hp0 hx (if_pos za)];rfl,rfl,rfl⟩
   refine Xax ?_
   exact q_k ⟨k0 + 1,Jta hp0 hx (if_neg za)⟩
  have hn0:=Jra hp0 za
  refine qcf ?_
  refine Xaw ?_
  refine Jo [(2,Value.pointer _),(40,Value.slice _ _ _),(41,Value.int _ _),(42,Value.int _ _)] zg fun tq1=>?_
  refine q_s [4,7,8,42,43,44,45,46,47,48,49,50,51,52,53,54,55,56,57,58,59,60] (fun g:FSR (Yx a.doors.l s.doors.l) (s.doors.l.length)=>[(42,.int .i64 ((g.1:Nat):Int))]) (fun g=>(s.doors.l.length) - g.1) ⟨0,Jxa _ _⟩ ?_
  rintro ⟨k1,hk1,hp1⟩ junk
  try dsimp only
  refine Xak ?_
  refine q_c (fun hc3=>?_) (fun hc3=>?_)
  ·
   obtain ⟨y,hy⟩:=Kr (l:=s.doors.l) (k:=k1) za
   obtain ⟨d,hd⟩:=Kr (l:=a.doors.l) (k:=k1) za
   have he:=Vsa hy hd
   refine Xa2 ?_
   refine Kke ?_
   refine qa7 ?_
   refine qad ?_
   refine Xat ?_
   refine Xav ?_
   apply J9 (G:=[_,_,_,_,_,_,_,_,_]) (j:=2) (cj:=49) rfl rfl zb rfl zdb rfl
   ·
    intro hg3
    replace hg3:=qb hg3
    refine qaa ?_
    refine Xam ?_
    refine Kke ?_
    refine Xbv ?_
    refine qag ?_
    exact zid
   intro junk3
   refine qaf ?_
   refine q_c (fun hc4=>?_) (fun hc4=>?_)
   ·
    refine Xbb ?_
    refine qbt ?_
    refine q_b (L':=L) (R':=R) ?_
    exact ⟨by rw [Uqb za za,Vv hp1 za (he.trans (if_pos za))];simp,rfl,rfl⟩
   refine Xax ?_
   exact q_k ⟨k1 + 1,Yz hp1 za (he.trans (if_neg za))⟩
  have hn1:=Jba hp1 za
  refine qbk ?_
  refine Xba ?_
  refine q_b (L':=L) (R':=R) ?_
  exact ⟨by rw [Uqb za za,hn0,hn1];rfl,rfl,rfl⟩
end Go.Proofs.YtchfclmokpbldaaGreat
end
section
namespace Go.Proofs.YtchfclmokpbldaaGreat
open Go.Aw Go
set_option maxRecDepth 20000
attribute [local irreducible] CJ LJ DJ Tri YV Gives Ui J0 Ke Uh RV J2
def Vac (l : List Int) : Nat → Int
  | 0=>l.getD 0 0
  | k + 1=>min (Vac l k) (l.getD k 0)
def Upc (l : List Int) : Nat → Int
  | 0=>l.getD 0 0
  | k + 1=>max (Upc l k) (l.getD k 0)
def Ysa (d:XDoor) (s:Int):XSpan:=
  if d.rests.l.length=0∨s < -1∨(d.rests.l.length:Int)≤s then ⟨0,0⟩
  else if s= -1 then ⟨Vac d.rests.l d.rests.l.length,Upc d.rests.l d.rests.l.length⟩
  else ⟨d.rests.l.getD s.toNat 0,d.rests.l.getD s.toNat 0⟩
theorem Yxe (x:Arr Int) (L:List Blk) (R:List Sl) (hm:InR (isl x) R) (h1:1≤x.l.length):
    Tri Tryz.prog 244 [x.val].toArray L R (fun v L' R'=>v=.int .i64 (Vac x.l x.l.length)∧L=L'∧R=R'):=by
  refine U8 Tryz.call244 hm fun hpn=>?_
  have h0:=Jw (l:=x.l) (k:=0) 0 za
  refine Jg 25 Tryz.call244 Tryz.func244 rfl rfl rfl ?_
  refine Xab ?_
  refine qaw ?_
  refine Xap ?_
  refine Xbo ?_
  refine Zua zdb zD ?_
  refine qbv ?_
  refine qbm ?_
  refine qdt ?_
  refine qa7 ?_
  refine Xas ?_
  refine Xb4 ?_
  refine Jo [(0,Value.slice _ _ _),(3,Value.int _ _),(4,Value.int _ _)] zg fun tq0=>?_
  refine Jnc [3,4,12,13,14,15,16,17,18,19,20,21,22,23] (fun g:{k:Nat // 1≤k∧k≤x.l.length}=>[(4,.int .i64 ((g.1:Nat):Int)),(3,.int .i64 (Vac x.l g.1))]) (fun g=>x.l.length - g.1) (⟨1,by omega,by omega⟩) ⟨rfl,congrArg (Value.int .i64) (Int.min_self _).symm,trivial⟩ ?_
  rintro ⟨k,hk1,hk2⟩ junk
  try dsimp only
  refine Xce ?_
  refine Xap ?_
  refine Xbo ?_
  refine q_c (fun hc1=>?_) (fun hc1=>?_)
  ·
   have hk:=Jw (l:=x.l) (k:=k) 0 za
   refine J5 (Jb (Jn (Kg (Jh ?_))))
   refine qaa ?_
   refine Xau ?_
   refine qa3 ?_
   refine qa7 ?_
   refine Jx (J0c rfl rfl) rfl ?_
   refine qad ?_
   refine qcs ?_
   refine Xdo ?_
   exact qd0
  exact zXd
theorem Yge (x:Arr Int) (L:List Blk) (R:List Sl) (hm:InR (isl x) R) (h1:1≤x.l.length):
    Tri Tryz.prog 245 [x.val].toArray L R (fun v L' R'=>v=.int .i64 (Upc x.l x.l.length)∧L=L'∧R=R'):=by
  refine U8 Tryz.call245 hm fun hpn=>?_
  have h0:=Jw (l:=x.l) (k:=0) 0 za
  refine Jg 25 Tryz.call245 Tryz.func245 rfl rfl rfl ?_
  refine Xab ?_
  refine qaw ?_
  refine Xap ?_
  refine Xbo ?_
  refine Zua zdb zD ?_
  refine qbv ?_
  refine qbm ?_
  refine qdt ?_
  refine qa7 ?_
  refine Xas ?_
  refine Xb4 ?_
  refine Jo [(0,Value.slice _ _ _),(3,Value.int _ _),(4,Value.int _ _)] zg fun tq0=>?_
  refine Jnc [3,4,12,13,14,15,16,17,18,19,20,21,22,23] (fun g:{k:Nat // 1≤k∧k≤x.l.length}=>[(4,.int .i64 ((g.1:Nat):Int)),(3,.int .i64 (Upc x.l g.1))]) (fun g=>x.l.length - g.1) (⟨1,by omega,by omega⟩) ⟨rfl,congrArg (Value.int .i64) (Int.max_self _).symm,trivial⟩ ?_
  rintro ⟨k,hk1,hk2⟩ junk
  try dsimp only
  refine Xce ?_
  refine Xap ?_
  refine Xbo ?_
  refine q_c (fun hc1=>?_) (fun hc1=>?_)
  ·
   have hk:=Jw (l:=x.l) (k:=k) 0 za
   refine J5 (Jb (Jn (Kg (Jh ?_))))
   refine qaa ?_
   refine Xau ?_
   refine qa3 ?_
   refine qa7 ?_
   refine Jx zkc rfl ?_
   refine qad ?_
   refine qcs ?_
   refine Xdo ?_
   exact qd0
  exact zXd
theorem K2e (d:XDoor) (s:Int) (L:List Blk) (R:List Sl) (hm:InR d.sl R):
    Tri Tryz.prog 192 [d.val,.int .i64 s].toArray L R (fun v L' R'=>v=(Ysa d s).val∧L=L'∧R=R'):=by
  refine U8 Tryz.call192 hm fun hpn=>?_
  refine Jg 43 Tryz.call192 Tryz.func192 rfl rfl rfl ?_
  refine Xag ?_
  intro b2
  refine qaq ?_
  intro b4
  refine J6 (Jb (Jn (Kg (Jn (Jh ?_)))))
  refine Xac ?_
  refine qbn ?_
  refine qah ?_
  apply J9 (G:=[_,_]) (j:=4) (cj:=10) rfl rfl zb rfl zdb rfl
  ·
   intro hg5
   replace hg5:=qb hg5
   refine qaa ?_
   exact zyd
  intro junk5
  refine qah ?_
  apply J9 (G:=[_,_,_,_,_]) (j:=8) (cj:=14) rfl rfl zb rfl zdb rfl
  ·
   intro hg9
   replace hg9:=qb hg9
   refine qaa ?_
   refine Xac ?_
   exact zid
  intro junk9
  refine Xao ?_
  refine q_c (fun hc0=>?_) (fun hc0=>?_)
  ·
   refine qae ?_
   refine qck ?_
   refine qak ?_
   refine qdb ?_
   refine q_r (L':=L) (R':=R) zBc ?_
   exact ⟨by rw [Ysa,if_pos za],rfl,rfl⟩
  refine Xbc ?_
  refine Xay ?_
  refine q_c (fun hc1=>?_) (fun hc1=>?_)
  ·
   refine Jn ?_
   refine Kj tb [] [0,1,3,4,2,5,6] [7] (_) _ K1 ze zi zha ?_
   refine Xar ?_
   refine Xar ?_
   refine Vi rfl (Yxe d.rests _ _ hm za) rfl rfl ?_
   rintro v L' R' ⟨rfl,rfl,rfl⟩
   refine ⟨zi,zw,?_⟩
   refine Vi rfl (Yge d.rests _ _ hm za) rfl rfl ?_
   rintro v L' R' ⟨rfl,rfl,rfl⟩
   refine ⟨zi,zw,?_⟩
   refine qcw ?_
   refine Xda ?_
   refine J1 (Jb (Uo (J3 (J7 ?_))))
   refine q_r (L':=L) (R':=R) zBc ?_
   exact ⟨by rw [Ysa,if_neg za,if_pos za],rfl,rfl⟩
  refine J5 (Ji (Jb (Jn ?_)))
  have hk:=Jw (l:=d.rests.l) (k:=s.toNat) 0 za
  refine Kj tb [] [0,1,2,3,4,5,6,7,8,9,10] [11] (_) _ K1 ze zi zha ?_
  refine Xc8 ?_
  refine Vtf ?_
  refine qci ?_
  refine Xc8 ?_
  refine Vtf ?_
  refine qci ?_
  refine qcw ?_
  refine Xda ?_
  refine J1 (Jb (Uo ?_))
  refine q_r (L':=L) (R':=R) zBc ?_
  exact ⟨by rw [Ysa,if_neg za,if_neg za],rfl,rfl⟩
end Go.Proofs.YtchfclmokpbldaaGreat
end
