/-
  Checks: Plan, FanC, DoorC, BranchC, Rest, in one text. By an AI agent; no person has read it.
-/
import Derived.Test.YtchfclmokpbldaaGreatRun
set_option linter.unusedVariables false
set_option linter.unusedSimpArgs false
section
variable {A9 B9:Prop}
theorem J40 (a:A9) (h:A9→B9:=by exact Jax zX rfl):B9:=h a
theorem J54 (a:A9) (h:A9→B9:=by exact Jax zIa rfl):B9:=h a
theorem J9q (a:A9) (h:A9→B9:=by exact Jbu (by first | exact Jae tb rfl rfl rfl rfl zt (i:=k0 - 1) zj za | exact Jak tb rfl rfl rfl rfl (i:=k0 - 1) zj za) rfl rfl rfl):B9:=h a
theorem Kcz (h:B9:=by exact ⟨by rw [Jkp,if_neg za,if_neg za,Jdo hp0 za (Jpv hp za za hq za)];rfl,rfl,rfl⟩):B9:=h
theorem J9w (a:A9) (h:A9→B9:=by exact Jbv zHa rfl rfl rfl rfl):B9:=h a
end
section
namespace Go.Proofs.YtchfclmokpbldaaGreat
open Go.Aw Go
set_option maxRecDepth 20000
attribute [local irreducible] CJ LJ DJ Tri YV Gives Jcj Ja1 Jbg Jci RV Ja2
def Jp9 (s:XSpan) (lo hi:Int):Bool:=decide (lo≤s.low) && (decide (s.low≤s.high) && decide (s.high≤hi))
theorem Jql (s:XSpan) (lo hi:Int) (L:List Blk) (R:List Sl):
    Tri Tryz.prog 237 [s.val,.int .i64 lo,.int .i64 hi].toArray L R (fun v L' R'=>v=.bool (Jp9 s lo hi)∧L=L'∧R=R'):=by
  refine Jad 24 Tryz.call237 Tryz.func237 rfl rfl rfl ?_
  refine Xaf ?_
  intro b3
  refine qaz ?_
  refine Xdi ?_
  refine Xaa ?_
  refine qbx ?_
  refine qah ?_
  apply Jb7 (G:=[_,_,_,_,_]) (j:=4) (cj:=11) rfl rfl zb rfl (show _=Value.bool _ from rfl) rfl
  ·
   intro hg5
   replace hg5:=qb hg5
   refine Xa1 ?_
   refine qbx ?_
   exact qai
  intro junk5
  refine qah ?_
  apply Jb7 (G:=[_,_,_,_]) (j:=11) (cj:=18) rfl rfl zb rfl (show _=Value.bool _ from rfl) rfl
  ·
   intro hg12
   replace hg12:=qb hg12
   refine Xal ?_
   refine qbx ?_
   exact qai
  intro junk12
  refine Xa3 ?_
  refine q_b (L':=L) (R':=R) ?_
  exact ⟨by simp [Jp9,Bool.and_assoc],rfl,rfl⟩
def Jh3 (p:XPlace):Option Int:=if p.height < -10000∨10000 < p.height then some 1 else none
def Jeq (n:Nat) (r:XRoad):Option Int:=
  if r.fr < 0∨(n:Int)≤r.fr∨r.to < 0∨(n:Int)≤r.to∨r.fr=r.to then some 4
  else if r.len < 1∨100000 < r.len∨r.area < 1∨1000 < r.area∨Jp9 r.rest 1 262144=false∨Jp9 r.lift (-2199023255552) 2199023255552=false then some 1 else none
def Jdc (m:XMine):Int:=
  if 64 < m.places.l.length∨128 < m.roads.l.length then 2
  else match m.places.l.findSome? Jh3 with
    | some e=>e
    | none=>(m.roads.l.findSome? (Jeq m.places.l.length)).getD 0
theorem Jlu (m:XMine) (L:List Blk) (R:List Sl) (hm:MineR m R):
    Tri Tryz.prog 183 [m.val].toArray L R (fun v L' R'=>v=.int .i64 (Jdc m)∧L=L'∧R=R'):=by
  have hpl:=hm.places
  have hro:=hm.roads
  refine Jc1 Tryz.call183 hpl fun hpn=>?_
  refine Jc1 Tryz.call183 hro fun hrn=>?_
  refine Jad 100 Tryz.call183 Tryz.func183 rfl rfl rfl ?_
  refine Xaf ?_
  intro b1
  refine Xas ?_
  refine Xcu ?_
  refine qah ?_
  apply Ja7 (G:=[_,_,_,_]) (j:=4) (cj:=12) rfl rfl zb rfl (show _=Value.bool _ from rfl) rfl
  ·
   intro hg5
   replace hg5:=qb hg5
   refine Xcu ?_
   exact qai
  intro junk5
  refine qaf ?_
  refine q_c (fun hc0=>?_) (fun hc0=>?_)
  ·
   refine Xa7 ?_
   refine q_i (L':=L) (R':=R) ?_
   exact ⟨by simp [Jdc];omega,rfl,rfl⟩
  refine Xcm ?_
  refine Jan [(1,Value.pointer _),(19,Value.slice _ _ _),(20,Value.int _ _),(21,Value.int _ _)] zh fun tq0=>?_
  refine q_p [2,4,21,22,23,24,25,26,27,28,29,30,31,32,33] ((⟨fun g=>[(21,.int .i64 ((g.1:Nat):Int))],fun _=>⟨b1,m.cells,28⟩ :: L,fun _=>R,fun g=>m.places.l.length - g.1⟩:Head (FS Jh3 m.places.l))) (⟨0,Jgx _ _⟩) ?_
  rintro ⟨k,hk,hkeep⟩ junk
  try dsimp only
  refine Xak ?_
  refine q_c (fun hc1=>?_) (fun hc1=>?_)
  ·
   obtain ⟨x,hx⟩:=Jbr (l:=m.places.l) (k:=k) za
   refine qbb ?_
   refine qa3 ?_
   refine Xdt ?_
   intro b4
   refine Xa2 ?_
   refine Xbi ?_
   apply Ja7 (G:=[_,_,_]) (j:=3) (cj:=28) rfl rfl zb rfl (show _=Value.bool _ from rfl) rfl
   ·
    intro hg4
    replace hg4:=qb hg4
    refine Xbg ?_
    exact qai
   intro junk4
   refine qaf ?_
   refine q_c (fun hc2=>?_) (fun hc2=>?_)
   ·
    refine Xby ?_
    refine q_i (L':=L) (R':=R) ?_
    exact ⟨by simp [Jdc,Jep hkeep hx (show Jh3 x=some 1 by simp [Jh3];omega)];omega,rfl,rfl⟩
   refine Xay ?_
   exact q_k ⟨k + 1,Jge hkeep hx (by simp [Jh3];omega)⟩
  have hp:=Jgf hkeep za
  refine qbk ?_
  refine Xab ?_
  refine Xas ?_
  refine Xaw ?_
  refine Jan [(5,Value.int _ _),(38,Value.slice _ _ _),(39,Value.int _ _),(40,Value.int _ _)] zh fun tq1=>?_
  refine q_p [2,7,40,41,42,43,44,45,46,47,48,49,50,51,52,53,54,55,56,57,58,59,60,61,62,63,64,65,66,67,68,69,70,71,72,73,74,75,76,77,78,79,80,81,82,83,84,85,86,87,88,89,90,91,92,93,94,95,96,97,98,99] ((⟨fun g=>[(40,.int .i64 ((g.1:Nat):Int))],fun _=>⟨b1,m.cells,28⟩ :: L,fun _=>R,fun g=>m.roads.l.length - g.1⟩:Head (FS (Jeq m.places.l.length) m.roads.l))) (⟨0,Jgx _ _⟩) ?_
  rintro ⟨k2,hk2,hkeep2⟩ junk
  try dsimp only
  refine Xak ?_
  refine q_c (fun hc3=>?_) (fun hc3=>?_)
  ·
   obtain ⟨y,hy⟩:=Jbr (l:=m.roads.l) (k:=k2) za
   refine qbb ?_
   refine qa3 ?_
   refine qc8 ?_
   refine qaq ?_
   intro b7
   refine Xba ?_
   refine Xbi ?_
   apply Ja7 (G:=[_,_,_,_]) (j:=3) (cj:=47) rfl rfl zb rfl (show _=Value.bool _ from rfl) rfl
   ·
    intro hg4
    replace hg4:=qb hg4
    refine Xal ?_
    refine qbz ?_
    exact qai
   intro junk4
   refine qah ?_
   apply Ja7 (G:=[_,_,_]) (j:=9) (cj:=53) rfl rfl zb rfl (show _=Value.bool _ from rfl) rfl
   ·
    intro hg10
    replace hg10:=qb hg10
    refine Xcg ?_
    exact qai
   intro junk10
   refine qah ?_
   apply Ja7 (G:=[_,_,_,_]) (j:=14) (cj:=58) rfl rfl zb rfl (show _=Value.bool _ from rfl) rfl
   ·
    intro hg15
    replace hg15:=qb hg15
    refine Xal ?_
    refine qbz ?_
    exact qai
   intro junk15
   refine qah ?_
   apply Ja7 (G:=[_,_,_,_,_]) (j:=20) (cj:=64) rfl rfl zb rfl (show _=Value.bool _ from rfl) rfl
   ·
    intro hg21
    replace hg21:=qb hg21
    refine Xa1 ?_
    refine qbn ?_
    exact qai
   intro junk21
   refine qaf ?_
   refine q_c (fun hc4=>?_) (fun hc4=>?_)
   ·
    refine Xcr ?_
    refine q_i (L':=L) (R':=R) ?_
    exact ⟨by simp [Jdc,hp,Jep hkeep2 hy (show Jeq m.places.l.length y=some 4 by simp [Jeq];omega)];omega,rfl,rfl⟩
   refine qbo ?_
   refine Xbi ?_
   apply Ja7 (G:=[_,_,_]) (j:=3) (cj:=74) rfl rfl zb rfl (show _=Value.bool _ from rfl) rfl
   ·
    intro hg4
    replace hg4:=qb hg4
    refine Xbg ?_
    exact qai
   intro junk4
   refine qah ?_
   apply Ja7 (G:=[_,_,_]) (j:=8) (cj:=79) rfl rfl zb rfl (show _=Value.bool _ from rfl) rfl
   ·
    intro hg9
    replace hg9:=qb hg9
    refine Xcg ?_
    exact qai
   intro junk9
   refine qah ?_
   apply Ja7 (G:=[_,_,_]) (j:=13) (cj:=84) rfl rfl zb rfl (show _=Value.bool _ from rfl) rfl
   ·
    intro hg14
    replace hg14:=qb hg14
    refine Xbg ?_
    exact qai
   intro junk14
   refine qaf ?_
   refine q_c (fun hc5=>?_) (fun hc5=>?_)
   ·
    refine Xcr ?_
    refine q_i (L':=L) (R':=R) ?_
    exact ⟨by simp [Jdc,hp,Jep hkeep2 hy (show Jeq m.places.l.length y=some 1 by rw [Jeq,if_neg za,if_pos za])];omega,rfl,rfl⟩
   refine qbv ?_
   refine Xds ?_
   refine q_l rfl (Jql y.rest _ _ _ _) ?_
   refine Xcl ?_
   apply Ja7 (G:=[_,_,_,_]) (j:=4) (cj:=93) rfl rfl zb rfl (show _=Value.bool _ from rfl) rfl
   ·
    intro hg5
    replace hg5:=qb hg5
    refine Xds ?_
    refine q_l rfl (Jql y.lift _ _ _ _) ?_
    refine qb4 ?_
    exact qai
   intro junk5
   refine qaf ?_
   refine q_c (fun hc6=>?_) (fun hc6=>?_)
   ·
    refine Xby ?_
    refine q_i (L':=L) (R':=R) ?_
    exact ⟨by simp [Jdc,hp,Jep hkeep2 hy (show Jeq m.places.l.length y=some 1 by rw [Jeq,if_neg za,if_pos (by rcases hc6 with h | h <;> simp [h])])];omega,rfl,rfl⟩
   refine Xay ?_
   exact q_k ⟨k2 + 1,Jge hkeep2 hy (by rw [Jeq,if_neg za,if_neg (by simp [hc6];omega)])⟩
  have hq:=Jgf hkeep2 za
  refine Xb9 ?_
  refine q_i (L':=L) (R':=R) ?_
  exact ⟨by simp [Jdc,hp,hq];omega,rfl,rfl⟩
end Go.Proofs.YtchfclmokpbldaaGreat
end
section
namespace Go.Proofs.YtchfclmokpbldaaGreat
open Go.Aw Go
set_option maxRecDepth 20000
attribute [local irreducible] CJ LJ DJ Tri YV Gives Jcj Ja1 Jbg Jci RV Ja2
def Jd1 (l:List XPoint) (i:Nat):Option Int:=
  match l[i]? with
  | none=>none
  | some p => if p.flow < -1048576 ∨ 1048576 < p.flow ∨ p.pres < 0 ∨ 2199023255552 < p.pres then some 1
    else if i=0 then none
    else match l[i - 1]? with
      | none=>none
      | some q=>if p.flow≤q.flow∨q.pres < p.pres then some 14 else none
def Jkp (f:XFan):Int:=
  if f.road < 0 then 4 else if f.curve.l.length < 1∨8 < f.curve.l.length then 2
  else ((List.range f.curve.l.length).findSome? (Jd1 f.curve.l)).getD 0
theorem Jq4 {l:List XPoint} {k:Nat} {p:XPoint} (h:l[k]?=some p) (hr:p.flow < -1048576∨1048576 < p.flow∨p.pres < 0∨2199023255552 < p.pres):Jd1 l k=some 1:=by
  simp only [Jd1,h,if_pos hr]
theorem Jpv {l:List XPoint} {k:Nat} {p q:XPoint} (h:l[k]?=some p) (hr:¬ (p.flow < -1048576∨1048576 < p.flow∨p.pres < 0∨2199023255552 < p.pres)) (hk:k≠0) (h':l[k - 1]?=some q) (hb:p.flow≤q.flow∨q.pres < p.pres):Jd1 l k=some 14:=by
  simp only [Jd1,h,if_neg hr,if_neg hk,h',if_pos hb]
theorem Jqs {l:List XPoint} {k:Nat} {p:XPoint} (h:l[k]?=some p) (hr:¬ (p.flow < -1048576∨1048576 < p.flow∨p.pres < 0∨2199023255552 < p.pres)) (hk:k=0):Jd1 l k=none:=by
  simp only [Jd1,h,if_neg hr,if_pos hk]
theorem Jri {l:List XPoint} {k:Nat} {p q:XPoint} (h:l[k]?=some p) (hr:¬ (p.flow < -1048576∨1048576 < p.flow∨p.pres < 0∨2199023255552 < p.pres)) (hk:k≠0) (h':l[k - 1]?=some q) (hb:¬ (p.flow≤q.flow∨q.pres < p.pres)):Jd1 l k=none:=by
  simp only [Jd1,h,if_neg hr,if_neg hk,h',if_neg hb]
theorem Jud (f:XFan) (L:List Blk) (R:List Sl) (hm:InR f.sl R):
    Tri Tryz.prog 184 [f.val].toArray L R (fun v L' R'=>v=.int .i64 (Jkp f)∧L=L'∧R=R'):=by
  refine Jc1 Tryz.call184 hm fun hpn=>?_
  refine Jad 71 Tryz.call184 Tryz.func184 rfl rfl rfl ?_
  refine Xaf ?_
  intro b1
  refine Xas ?_
  refine Xaa ?_
  refine Xbe ?_
  refine q_c (fun hc0=>?_) (fun hc0=>?_)
  ·
   refine Xa7 ?_
   refine q_i (L':=L) (R':=R) ?_
   exact ⟨by rw [Jkp,if_pos za],rfl,rfl⟩
  refine qbo ?_
  refine Xab ?_
  refine Xav ?_
  apply Ja7 (G:=[_,_,_,_]) (j:=4) (cj:=12) rfl rfl zb rfl (show _=Value.bool _ from rfl) rfl
  ·
   intro hg5
   replace hg5:=qb hg5
   refine Xcu ?_
   exact qai
  intro junk5
  refine qaf ?_
  refine q_c (fun hc1=>?_) (fun hc1=>?_)
  ·
   refine Xa7 ?_
   refine q_i (L':=L) (R':=R) ?_
   exact ⟨by rw [Jkp,if_neg za,if_pos za],rfl,rfl⟩
  refine Xcm ?_
  refine Jan [(1,Value.pointer _),(19,Value.slice _ _ _),(20,Value.int _ _),(21,Value.int _ _)] zh fun tq0=>?_
  refine q_s [2,3,4,21,22,23,24,25,26,27,28,29,30,31,32,33,34,35,36,37,38,39,40,41,42,43,44,45,46,47,48,49,50,51,52,53,54,55,56,57,58,59,60,61,62,63,64,65,66,67,68,69,70] (fun g:FSR (Jd1 f.curve.l) (f.curve.l.length)=>[(21,.int .i64 ((g.1:Nat):Int))]) (fun g=>(f.curve.l.length) - g.1) ⟨0,Jgn _ _⟩ ?_
  rintro ⟨k0,hk0,hp0⟩ junk
  try dsimp only
  refine Xak ?_
  refine q_c (fun hc2=>?_) (fun hc2=>?_)
  ·
   obtain ⟨p,hp⟩:=Jbr (l:=f.curve.l) (k:=k0) za
   refine Xa6 ?_
   refine J40 ?_
   refine Xdt ?_
   intro b4
   refine qad ?_
   refine Xba ?_
   refine Xbi ?_
   apply Ja7 (G:=[_,_,_]) (j:=3) (cj:=29) rfl rfl zb rfl (show _=Value.bool _ from rfl) rfl
   ·
    intro hg4
    replace hg4:=qb hg4
    refine Xbg ?_
    exact qai
   intro junk4
   refine qah ?_
   apply Ja7 (G:=[_,_,_]) (j:=8) (cj:=34) rfl rfl zb rfl (show _=Value.bool _ from rfl) rfl
   ·
    intro hg9
    replace hg9:=qb hg9
    refine Xcg ?_
    exact qai
   intro junk9
   refine qah ?_
   apply Ja7 (G:=[_,_,_]) (j:=13) (cj:=39) rfl rfl zb rfl (show _=Value.bool _ from rfl) rfl
   ·
    intro hg14
    replace hg14:=qb hg14
    refine Xbg ?_
    exact qai
   intro junk14
   refine qaf ?_
   refine q_c (fun hc3=>?_) (fun hc3=>?_)
   ·
    refine Xcr ?_
    refine q_i (L':=L) (R':=R) ?_
    exact ⟨by rw [Jkp,if_neg za,if_neg za,Jdo hp0 za (Jq4 hp za)];rfl,rfl,rfl⟩
   refine qcl ?_
   refine Jbf tb [0,1,2,3,4,5,6,7,8,9,10,11,12,13,14,15,16,17,18,19,20,21,22,23,24,25] _ Jby zc (List.Sublist.refl _) ?_
   refine qao ?_
   refine Jbu (Jup rfl rfl) rfl rfl rfl ?_
   refine qb2 ?_
   refine Jdw (k:=46) (show _=Value.bool _ from rfl) (fun hg2=>?_) (fun hg2=>?_)
   ·
    replace hg2:=qb hg2
    obtain ⟨q,hq⟩:=Jbr (l:=f.curve.l) (k:=k0 - 1) za
    refine Xan ?_
    refine Xbo ?_
    refine qb7 ?_
    refine J9q ?_
    refine qce ?_
    refine qbl ?_
    refine Jbu (J7d rfl rfl) rfl rfl rfl ?_
    refine qb2 ?_
    refine Jdw (k:=57) (show _=Value.bool _ from rfl) (fun hg13=>?_) (fun hg13=>?_)
    ·
     replace hg13:=qb hg13
     iterate 10 refine qap ?_
     refine qbp ?_
     refine Xbx ?_
     refine Jb2 rfl ?_
     refine Xby ?_
     refine q_i (L':=L) (R':=R) ?_
     exact Kcz
    replace hg13:=qb hg13
    refine Xan ?_
    refine Xbo ?_
    refine qb7 ?_
    refine J9q ?_
    refine qce ?_
    refine qbl ?_
    refine Jbu (Jup rfl rfl) rfl rfl rfl ?_
    refine qbp ?_
    refine Xbx ?_
    refine q_c (fun hc4=>?_) (fun hc4=>?_)
    ·
     refine Xby ?_
     refine q_i (L':=L) (R':=R) ?_
     exact Kcz
    refine Xay ?_
    exact q_k ⟨k0 + 1,Jen hp0 za (by first | exact Jqs hp za za | exact Jri hp za za hq za)⟩
   replace hg2:=qb hg2
   iterate 22 refine qap ?_
   refine Xbx ?_
   refine Je9 rfl ?_
   refine Xay ?_
   exact q_k ⟨k0 + 1,Jen hp0 za (by first | exact Jqs hp za za | exact Jri hp za za hq za)⟩
  have hn0:=Jf2 hp0 za
  refine Xb9 ?_
  refine q_i (L':=L) (R':=R) ?_
  exact ⟨by rw [Jkp,if_neg za,if_neg za,hn0];rfl,rfl,rfl⟩
end Go.Proofs.YtchfclmokpbldaaGreat
end
section
namespace Go.Proofs.YtchfclmokpbldaaGreat
open Go.Aw Go
set_option maxRecDepth 20000
attribute [local irreducible] CJ LJ DJ Tri YV Gives Jcj Ja1 Jbg Jci RV Ja2
def Jmf (x:Int):Option Int:=if x < 0∨262144 < x then some 1 else none
def Jli (l : List Int) : Nat → Bool
  | 0=>true
  | k + 1=>Jli l k && (decide (k=0) || decide (l.getD k 0 < l.getD (k - 1) 0))
theorem Jw0 {l:List Int} {k:Nat} {x:Int} (hx:l[k]?=some x):(Jli l k && (decide ((k:Int)=0) || decide (x < l.getD (k - 1) 0)))=Jli l (k + 1):=by
  rw [Jli,getD_some hx]
  congr 2
  simp only [decide_eq_decide];omega
abbrev Jmi (l:List XDoor) (i:Nat) (d:XDoor):Prop:=
  d.other≠-1∧(d.other < 0∨(l.length:Int)≤d.other∨d.other=(i:Int)∨(l.getD d.other.toNat default).other≠(i:Int))
def Jfu (l:List XDoor) (i:Nat):Option Int:=
  match l[i]? with
  | none=>none
  | some d => if d.road < 0 then some 4 else if d.rests.l.length < 2 ∨ 6 < d.rests.l.length then some 2
    else match d.rests.l.findSome? Jmf with
      | some e=>some e
      | none=>if Jli d.rests.l d.rests.l.length=false then some 15 else if Jmi l i d then some 15 else none
def Jdq (l:List XDoor):Int:=if 16 < l.length then 2 else ((List.range l.length).findSome? (Jfu l)).getD 0
theorem Jq6 {l : List XDoor} {i : Nat} {d : XDoor} (h : l[i]? = some d) : Jfu l i = if d.road < 0 then some 4 else if d.rests.l.length < 2 ∨ 6 < d.rests.l.length then some 2
    else match d.rests.l.findSome? Jmf with
      | some e=>some e
      | none=>if Jli d.rests.l d.rests.l.length=false then some 15 else if Jmi l i d then some 15 else none:=by
  rw [Jfu,h]
theorem Jgz {l:List XDoor} {k:Nat} {e:Int} (h16:¬ 16 < l.length) (hp:(List.range l.length).findSome? (Jfu l)=((List.range l.length).drop k).findSome? (Jfu l)) (hk:k < l.length) (h:Jfu l k=some e):Jdq l=e:=by
  rw [Jdq,if_neg h16,Jdo hp hk h];rfl
theorem Jr7 (x:Arr XDoor) (L:List Blk) (R:List Sl) (hm:InR (dsl x) R):
    Tri Tryz.prog 185 [x.val].toArray L R (fun v L' R'=>v=.int .i64 (Jdq x.l)∧L=L'∧R=R'):=by
  refine Jc1 Tryz.call185 hm fun hpn=>?_
  refine Jad 95 Tryz.call185 Tryz.func185 rfl rfl rfl ?_
  refine Xac ?_
  refine Xdr ?_
  refine qa5 ?_
  refine qaf ?_
  refine q_c (fun hc0=>?_) (fun hc0=>?_)
  ·
   refine Xa7 ?_
   refine q_i (L':=L) (R':=R) ?_
   exact ⟨by rw [Jdq,if_pos za],rfl,rfl⟩
  refine qbo ?_
  refine Xbv ?_
  refine Jan [(0,Value.slice _ _ _),(11,Value.slice _ _ _),(12,Value.int _ _),(13,Value.int _ _)] zh fun tq0=>?_
  refine q_s [2,3,4,5,6,7,13,14,15,16,17,18,19,20,21,22,23,24,25,26,27,28,29,30,31,32,33,34,35,36,37,38,39,40,41,42,43,44,45,46,47,48,49,50,51,52,53,54,55,56,57,58,59,60,61,62,63,64,65,66,67,68,69,70,71,72,73,74,75,76,77,78,79,80,81,82,83,84,85,86,87,88,89,90,91,92,93,94] (fun g:FSR (Jfu x.l) (x.l.length)=>[(13,.int .i64 ((g.1:Nat):Int))]) (fun g=>(x.l.length) - g.1) ⟨0,Jgn _ _⟩ ?_
  rintro ⟨k0,hk0,hp0⟩ junk
  try dsimp only
  refine Xak ?_
  refine q_c (fun hc1=>?_) (fun hc1=>?_)
  ·
   obtain ⟨d,hd⟩:=Jbr (l:=x.l) (k:=k0) za
   have hdr:=InR.door hm hd
   have hde:=Jq6 hd
   refine Xa6 ?_
   refine J40 ?_
   refine qdk ?_
   refine qaq ?_
   intro b4
   refine qad ?_
   refine Xba ?_
   refine Xaa ?_
   refine Xbe ?_
   refine q_c (fun hc2=>?_) (fun hc2=>?_)
   ·
    refine Xcr ?_
    refine q_i (L':=L) (R':=R) ?_
    exact ⟨by rw [Jgz za hp0 za (hde.trans (if_pos za))],rfl,rfl⟩
   refine qbo ?_
   refine Xab ?_
   refine Xav ?_
   apply Ja7 (G:=[_,_,_,_]) (j:=4) (cj:=25) rfl rfl zb rfl (show _=Value.bool _ from rfl) rfl
   ·
    intro hg5
    replace hg5:=qb hg5
    refine Xcu ?_
    exact qai
   intro junk5
   refine qaf ?_
   refine q_c (fun hc3=>?_) (fun hc3=>?_)
   ·
    refine Xcr ?_
    refine q_i (L':=L) (R':=R) ?_
    exact ⟨by rw [Jgz za hp0 za (hde.trans (by rw [if_neg za,if_pos za]))],rfl,rfl⟩
   rw [if_neg za,if_neg za] at hde
   refine qbv ?_
   refine qaz ?_
   refine qaw ?_
   refine Xaw ?_
   refine Jfq [2,3,4,5,6,7,13,14,15,16,17,18,19,20,21,22,23,24,25,26,27,28,29,30,31,32,33,34,35,36,37,38,39,40,41,42,43,44,45,46,47,48,49,50,51,52,53,54,55,56,57,58,59,60,61,62,63,64,65,66,67,68,69,70,71,72,73,74,75,76,77,78,79,80,81,82,83,84,85,86,87,88,89,90,91,92,93,94] zN [(3,Value.int _ _),(4,Value.pointer _),(5,Value.bool _),(13,Value.int _ _),(32,Value.slice _ _ _),(33,Value.int _ _),(34,Value.int _ _)] zh fun tq1=>?_
   refine q_s [2,5,6,7,34,35,36,37,38,39,40,41,42,43,44,45,46,47,48,49,50,51,52,53,54,55,56,57,58,59,60] (fun g:FS (Jmf) (d.rests.l)=>[(34,.int .i64 ((g.1:Nat):Int)),(5,.bool (Jli d.rests.l g.1))]) (fun g=>(d.rests.l).length - g.1) ⟨0,Jgx _ _⟩ ?_
   rintro ⟨k1,hk1,hp1⟩ junk
   try dsimp only
   refine Xak ?_
   refine q_c (fun hc4=>?_) (fun hc4=>?_)
   ·
    obtain ⟨r,hr⟩:=Jbr (l:=d.rests.l) (k:=k1) za
    refine Xa6 ?_
    refine J54 ?_
    refine qa7 ?_
    refine qad ?_
    refine Xas ?_
    refine Xb0 ?_
    apply Ja7 (G:=[_,_]) (j:=2) (cj:=41) rfl rfl zb rfl (show _=Value.bool _ from rfl) rfl
    ·
     intro hg3
     replace hg3:=qb hg3
     refine Xb5 ?_
     exact qai
    intro junk3
    refine qaf ?_
    refine q_c (fun hc5=>?_) (fun hc5=>?_)
    ·
     refine Xac ?_
     refine Ja6 (Jab (Jcq (Jba (Ja5 (Jba (Jdu (Ja5 (Jba (Ja5 (Jba (Jdu (Ja5 (Jba ?_)))))))))))))
     refine q_i (L':=L) (R':=R) ?_
     exact ⟨by rw [Jgz za hp0 za (hde.trans (by rw [Jep hp1 hr (if_pos za)]))],rfl,rfl⟩
    refine Ja4 (Jab (Jah ?_))
    refine qah ?_
    refine qah ?_
    apply Jb7 (G:=[_,_,_,_,_,_,_,_,_,_,_,_]) (j:=1) (cj:=46) rfl rfl zb rfl (show _=Value.bool _ from rfl) rfl
    ·
     intro hg2
     replace hg2:=qb hg2
     refine qaa ?_
     refine Xb7 ?_
     apply Ja7 (G:=[_,_,_,_,_,_,_,_]) (j:=4) (cj:=49) rfl rfl zb rfl (show _=Value.bool _ from rfl) rfl
     ·
      intro hg5
      replace hg5:=qb hg5
      have hy:=Jau (l:=d.rests.l) (k:=k1 - 1) 0 za
      refine qaa ?_
      refine Xal ?_
      refine qa9 ?_
      refine Jax (by first | exact Jae tb rfl rfl rfl rfl zt (i:=k1 - 1) zj za | exact Jak tb rfl rfl rfl rfl (i:=k1 - 1) zj za) rfl ?_
      refine qa7 ?_
      refine qaj ?_
      exact qai
     intro junk5
     exact qai
    intro junk2
    refine qaz ?_
    refine Xbb ?_
    exact Jbl ⟨k1 + 1,Jge hp1 hr (if_neg za)⟩ zm ⟨rfl,congrArg Value.bool (Jw0 hr),trivial⟩ zi (Jac _) zy
   have hn1:=Jgf hp1 za
   obtain rfl:k1=d.rests.l.length:=by omega
   rw [hn1] at hde
   dsimp only at hde
   refine qcf ?_
   refine qah ?_
   refine Xbd ?_
   refine q_c (fun hc6=>?_) (fun hc6=>?_)
   ·
    refine Xcr ?_
    refine q_i (L':=L) (R':=R) ?_
    exact ⟨by rw [Jgz za hp0 za (hde.trans (by rw [if_pos hc6]))],rfl,rfl⟩
   rw [if_neg (by simp [hc6])] at hde
   refine qbv ?_
   refine Xaa ?_
   refine Xbu ?_
   apply Jb7 (G:=[_,_,_,_,_,_,_,_,_,_,_,_,_,_,_,_,_,_,_,_,_,_,_,_,_,_]) (j:=3) (cj:=66) rfl rfl zb rfl (show _=Value.bool _ from rfl) rfl
   ·
    intro hg4
    replace hg4:=qb hg4
    refine Xbi ?_
    apply Ja7 (G:=[_,_,_,_,_]) (j:=7) (cj:=70) rfl rfl zb rfl (show _=Value.bool _ from rfl) rfl
    ·
     intro hg8
     replace hg8:=qb hg8
     refine Xaa ?_
     refine Xao ?_
     refine qbz ?_
     exact qai
    intro junk8
    refine qah ?_
    apply Ja7 (G:=[_,_,_,_]) (j:=14) (cj:=77) rfl rfl zb rfl (show _=Value.bool _ from rfl) rfl
    ·
     intro hg15
     replace hg15:=qb hg15
     refine Xal ?_
     refine qbn ?_
     exact qai
    intro junk15
    refine qah ?_
    apply Ja7 (G:=[_,_,_,_,_,_,_,_]) (j:=20) (cj:=83) rfl rfl zb rfl (show _=Value.bool _ from rfl) rfl
    ·
     intro hg21
     replace hg21:=qb hg21
     have ho:=Jau (l:=x.l) (k:=d.other.toNat) default za
     refine Xcj ?_
     refine Jax (by first | exact Jae tb rfl rfl rfl rfl zt (i:=d.other.toNat) zj za | exact Jak tb rfl rfl rfl rfl (i:=d.other.toNat) zj za) rfl ?_
     refine Xb4 ?_
     refine qaa ?_
     refine qbq ?_
     exact qai
    intro junk21
    exact qai
   intro junk4
   refine qaf ?_
   refine q_c (fun hc7=>?_) (fun hc7=>?_)
   ·
    refine Xby ?_
    refine q_i (L':=L) (R':=R) ?_
    exact ⟨by rw [Jgz za hp0 za (hde.trans (by rw [if_pos za]))],rfl,rfl⟩
   refine Xay ?_
   exact q_k ⟨k0 + 1,Jen hp0 za (hde.trans (if_neg za))⟩
  have hn0:=Jf2 hp0 za
  refine Xb9 ?_
  refine q_i (L':=L) (R':=R) ?_
  exact ⟨by rw [Jdq,if_neg za,hn0];rfl,rfl,rfl⟩
end Go.Proofs.YtchfclmokpbldaaGreat
end
section
namespace Go.Proofs.YtchfclmokpbldaaGreat
open Go.Aw Go
set_option maxRecDepth 20000
attribute [local irreducible] CJ LJ DJ Tri YV Gives Jcj Ja1 Jbg Jci RV Ja2
def Jzu (n:Nat) (f:XFan):Option Int:=if Jkp f≠0 then some (Jkp f) else if (n:Int)≤f.road then some 4 else none
def Jqi (n:Nat) (d:XDoor):Option Int:=if (n:Int)≤d.road then some 4 else none
def Jbx (x:XAir):Int:=
  if Jdc x.mine≠0 then Jdc x.mine else if 8 < x.fans.l.length then 2
  else match x.fans.l.findSome? (Jzu x.mine.roads.l.length) with
    | some e=>e
    | none=>if Jdq x.doors.l≠0 then Jdq x.doors.l else (x.doors.l.findSome? (Jqi x.mine.roads.l.length)).getD 0
theorem Jrc {x:XAir} (h:Jdc x.mine=0) (h8:¬ 8 < x.fans.l.length) {e:Int} (hf:x.fans.l.findSome? (Jzu x.mine.roads.l.length)=some e):Jbx x=e:=by
  rw [Jbx,if_neg za,if_neg h8,hf]
theorem Jv2 {x:XAir} (h:Jdc x.mine=0) (h8:¬ 8 < x.fans.l.length) (hf:x.fans.l.findSome? (Jzu x.mine.roads.l.length)=none):
    Jbx x=if Jdq x.doors.l≠0 then Jdq x.doors.l else (x.doors.l.findSome? (Jqi x.mine.roads.l.length)).getD 0:=by
  rw [Jbx,if_neg za,if_neg h8,hf]
theorem Je4 (x:XAir) (L:List Blk) (R:List Sl) (hm:AirR x R):
    Tri Tryz.prog 109 [x.val].toArray L R (fun v L' R'=>v=.int .i64 (Jbx x)∧L=L'∧R=R'):=by
  have hfa:=hm.fans
  have hdo:=hm.doors
  refine Jc1 Tryz.call109 hfa fun hfn=>?_
  refine Jc1 Tryz.call109 hdo fun hdn=>?_
  refine Jad 61 Tryz.call109 Tryz.func109 rfl rfl rfl ?_
  refine Xaf ?_
  intro b1
  refine Xas ?_
  refine Xds ?_
  refine q_l rfl (Jlu x.mine _ _ hm.mineR) ?_
  refine Xa9 ?_
  refine q_c (fun hc0=>?_) (fun hc0=>?_)
  ·
   refine Xdl ?_
   refine q_i (L':=L) (R':=R) ?_
   exact ⟨by rw [Jbx,if_pos hc0],rfl,rfl⟩
  simp only [Decidable.not_not] at hc0
  refine qbo ?_
  refine Xcu ?_
  refine qaf ?_
  refine q_c (fun hc1=>?_) (fun hc1=>?_)
  ·
   refine Xa7 ?_
   refine q_i (L':=L) (R':=R) ?_
   exact ⟨by rw [Jbx,if_neg za,if_pos za],rfl,rfl⟩
  refine Xcm ?_
  refine Jan [(1,Value.pointer _),(21,Value.slice _ _ _),(22,Value.int _ _),(23,Value.int _ _)] zh fun tq0=>?_
  refine q_s [2,5,6,23,24,25,26,27,28,29,30,31,32,33,34,35,36,37,38,39] (fun g:FS (Jzu x.mine.roads.l.length) (x.fans.l)=>[(23,.int .i64 ((g.1:Nat):Int))]) (fun g=>(x.fans.l).length - g.1) ⟨0,Jgx _ _⟩ ?_
  rintro ⟨k0,hk0,hp0⟩ junk
  try dsimp only
  refine Xak ?_
  refine q_c (fun hc2=>?_) (fun hc2=>?_)
  ·
   obtain ⟨f,hf⟩:=Jbr (l:=x.fans.l) (k:=k0) za
   have hfr:=InR.fan hfa hf
   refine qbb ?_
   refine J40 ?_
   refine Xc5 ?_
   intro b5
   refine Xba ?_
   refine qa8 ?_
   refine q_l rfl (Jud f _ _ hfr) ?_
   skip
   refine Xa9 ?_
   refine q_c (fun hc3=>?_) (fun hc3=>?_)
   ·
    refine Xdj ?_
    refine qch ?_
    refine q_i (L':=L) (R':=R) ?_
    exact ⟨by rw [Jrc hc0 za (Jep hp0 hf (if_pos hc3))],rfl,rfl⟩
   refine qbv ?_
   refine Xaa ?_
   refine Xb8 ?_
   refine Xcq ?_
   refine q_c (fun hc4=>?_) (fun hc4=>?_)
   ·
    refine Xby ?_
    refine q_i (L':=L) (R':=R) ?_
    exact ⟨by rw [Jrc hc0 za (Jep hp0 hf ((if_neg hc3).trans (if_pos hc4)))],rfl,rfl⟩
   refine Xay ?_
   exact q_k ⟨k0 + 1,Jge hp0 hf ((if_neg hc3).trans (if_neg hc4))⟩
  have hn0:=Jgf hp0 za
  have hr:=Jv2 hc0 za hn0
  refine qcf ?_
  refine Xaa ?_
  refine q_l rfl (Jr7 x.doors _ _ hdo) ?_
  refine Xa9 ?_
  refine q_c (fun hc5=>?_) (fun hc5=>?_)
  ·
   refine Xdl ?_
   refine q_i (L':=L) (R':=R) ?_
   exact ⟨by rw [hr,if_pos hc5],rfl,rfl⟩
  rw [if_neg hc5] at hr
  refine Xcm ?_
  refine Jan [(1,Value.pointer _),(47,Value.slice _ _ _),(48,Value.int _ _),(49,Value.int _ _)] zh fun tq1=>?_
  refine q_s [2,9,49,50,51,52,53,54,55,56,57,58,59,60] (fun g:FS (Jqi x.mine.roads.l.length) (x.doors.l)=>[(49,.int .i64 ((g.1:Nat):Int))]) (fun g=>(x.doors.l).length - g.1) ⟨0,Jgx _ _⟩ ?_
  rintro ⟨k1,hk1,hp1⟩ junk
  try dsimp only
  refine Xak ?_
  refine q_c (fun hc6=>?_) (fun hc6=>?_)
  ·
   obtain ⟨d,hd⟩:=Jbr (l:=x.doors.l) (k:=k1) za
   refine qbb ?_
   refine J54 ?_
   refine qdk ?_
   refine qaq ?_
   intro b9
   refine Xb1 ?_
   refine Xb8 ?_
   refine Xcq ?_
   refine q_c (fun hc7=>?_) (fun hc7=>?_)
   ·
    refine Xby ?_
    refine q_i (L':=L) (R':=R) ?_
    exact ⟨by rw [hr,Jep hp1 hd (if_pos hc7)];rfl,rfl,rfl⟩
   refine Xay ?_
   exact q_k ⟨k1 + 1,Jge hp1 hd (if_neg hc7)⟩
  have hn1:=Jgf hp1 za
  refine Xb9 ?_
  refine q_i (L':=L) (R':=R) ?_
  exact ⟨by rw [hr,hn1];rfl,rfl,rfl⟩
def Jle (x:Int):Option Unit:=if x < -1∨2 < x then some () else none
def Jek (l:List XDoor) (s:List Int) (i:Nat):Option Unit:=
  match s[i]?,l[i]? with
  | some y,some d=>if y < -1∨(d.rests.l.length:Int)≤y then some () else none
  | _,_=>none
def Jjb (a:XAir) (s:XSetting):Bool:=
  if s.fans.l.length≠a.fans.l.length∨s.doors.l.length≠a.doors.l.length then false
  else (s.fans.l.findSome? Jle).isNone && ((List.range s.doors.l.length).findSome? (Jek a.doors.l s.doors.l)).isNone
theorem Jjz {l:List XDoor} {s:List Int} {i:Nat} {y:Int} {d:XDoor} (hy:s[i]?=some y) (hd:l[i]?=some d):Jek l s i=if y < -1∨(d.rests.l.length:Int)≤y then some () else none:=by
  rw [Jek,hy,hd]
theorem Jnr {a:XAir} {s:XSetting} (h:s.fans.l.length=a.fans.l.length) (h':s.doors.l.length=a.doors.l.length):Jjb a s=((s.fans.l.findSome? Jle).isNone && ((List.range s.doors.l.length).findSome? (Jek a.doors.l s.doors.l)).isNone):=by
  rw [Jjb,if_neg za]
theorem Jk9 (a:XAir) (s:XSetting) (L:List Blk) (R:List Sl) (hm:AirR a R) (hs:SetR s R):
    Tri Tryz.prog 110 [a.val,s.val].toArray L R (fun v L' R'=>v=.bool (Jjb a s)∧L=L'∧R=R'):=by
  have hfa:=hm.fans
  have hdo:=hm.doors
  have hsf:=hs.fans
  have hsd:=hs.doors
  refine Jc1 Tryz.call110 hsf fun hfn=>?_
  refine Jc1 Tryz.call110 hsd fun hdn=>?_
  refine Jad 61 Tryz.call110 Tryz.func110 rfl rfl rfl ?_
  refine Xaf ?_
  intro b2
  refine qax ?_
  intro b3
  refine qaz ?_
  refine qaw ?_
  refine Xab ?_
  refine Xab ?_
  refine Xbu ?_
  apply Ja7 (G:=[_,_,_,_,_,_,_]) (j:=7) (cj:=16) rfl rfl zb rfl (show _=Value.bool _ from rfl) rfl
  ·
   intro hg8
   replace hg8:=qb hg8
   refine Xab ?_
   refine Xab ?_
   refine qbq ?_
   exact qai
  intro junk8
  refine qaf ?_
  refine q_c (fun hc0=>?_) (fun hc0=>?_)
  ·
   refine Xch ?_
   refine q_b (L':=L) (R':=R) ?_
   exact ⟨by rw [Jjb,if_pos za],rfl,rfl⟩
  refine Xcm ?_
  refine Jan [(2,Value.pointer _),(3,Value.pointer _),(26,Value.slice _ _ _),(27,Value.int _ _),(28,Value.int _ _)] zh fun tq0=>?_
  refine q_s [4,6,28,29,30,31,32,33,34,35,36,37,38] (fun g:FS (Jle) (s.fans.l)=>[(28,.int .i64 ((g.1:Nat):Int))]) (fun g=>(s.fans.l).length - g.1) ⟨0,Jgx _ _⟩ ?_
  rintro ⟨k0,hk0,hp0⟩ junk
  try dsimp only
  refine Xak ?_
  refine q_c (fun hc1=>?_) (fun hc1=>?_)
  ·
   obtain ⟨x,hx⟩:=Jbr (l:=s.fans.l) (k:=k0) za
   refine qbb ?_
   refine J40 ?_
   refine qa7 ?_
   refine Xat ?_
   refine Xav ?_
   apply Ja7 (G:=[_,_]) (j:=2) (cj:=34) rfl rfl zb rfl (show _=Value.bool _ from rfl) rfl
   ·
    intro hg3
    replace hg3:=qb hg3
    refine Xb5 ?_
    exact qai
   intro junk3
   refine qaf ?_
   refine q_c (fun hc2=>?_) (fun hc2=>?_)
   ·
    refine Xca ?_
    refine q_b (L':=L) (R':=R) ?_
    exact ⟨by rw [Jnr za za,Jep hp0 hx (if_pos za)];rfl,rfl,rfl⟩
   refine Xay ?_
   exact q_k ⟨k0 + 1,Jge hp0 hx (if_neg za)⟩
  have hn0:=Jgf hp0 za
  refine qcf ?_
  refine Xaw ?_
  refine Jan [(2,Value.pointer _),(40,Value.slice _ _ _),(41,Value.int _ _),(42,Value.int _ _)] zh fun tq1=>?_
  refine q_s [4,7,8,42,43,44,45,46,47,48,49,50,51,52,53,54,55,56,57,58,59,60] (fun g:FSR (Jek a.doors.l s.doors.l) (s.doors.l.length)=>[(42,.int .i64 ((g.1:Nat):Int))]) (fun g=>(s.doors.l.length) - g.1) ⟨0,Jgn _ _⟩ ?_
  rintro ⟨k1,hk1,hp1⟩ junk
  try dsimp only
  refine Xak ?_
  refine q_c (fun hc3=>?_) (fun hc3=>?_)
  ·
   obtain ⟨y,hy⟩:=Jbr (l:=s.doors.l) (k:=k1) za
   obtain ⟨d,hd⟩:=Jbr (l:=a.doors.l) (k:=k1) za
   have he:=Jjz hy hd
   refine Xa6 ?_
   refine J54 ?_
   refine qa7 ?_
   refine qad ?_
   refine Xat ?_
   refine Xav ?_
   apply Ja7 (G:=[_,_,_,_,_,_,_,_,_]) (j:=2) (cj:=49) rfl rfl zb rfl (show _=Value.bool _ from rfl) rfl
   ·
    intro hg3
    replace hg3:=qb hg3
    refine qaa ?_
    refine Xal ?_
    refine J54 ?_
    refine Xb4 ?_
    refine qag ?_
    refine qbz ?_
    exact qai
   intro junk3
   refine qaf ?_
   refine q_c (fun hc4=>?_) (fun hc4=>?_)
   ·
    refine Xca ?_
    refine q_b (L':=L) (R':=R) ?_
    exact ⟨by rw [Jnr za za,Jdo hp1 za (he.trans (if_pos za))];simp,rfl,rfl⟩
   refine Xay ?_
   exact q_k ⟨k1 + 1,Jen hp1 za (he.trans (if_neg za))⟩
  have hn1:=Jf2 hp1 za
  refine Xdf ?_
  refine q_b (L':=L) (R':=R) ?_
  exact ⟨by rw [Jnr za za,hn0,hn1];rfl,rfl,rfl⟩
end Go.Proofs.YtchfclmokpbldaaGreat
end
section
namespace Go.Proofs.YtchfclmokpbldaaGreat
open Go.Aw Go
set_option maxRecDepth 20000
attribute [local irreducible] CJ LJ DJ Tri YV Gives Jcj Ja1 Jbg Jci RV Ja2
def Jvc (l : List Int) : Nat → Int
  | 0=>l.getD 0 0
  | k + 1=>min (Jvc l k) (l.getD k 0)
def Jvn (l : List Int) : Nat → Int
  | 0=>l.getD 0 0
  | k + 1=>max (Jvn l k) (l.getD k 0)
def Jkb (d:XDoor) (s:Int):XSpan:=
  if d.rests.l.length=0∨s < -1∨(d.rests.l.length:Int)≤s then ⟨0,0⟩
  else if s= -1 then ⟨Jvc d.rests.l d.rests.l.length,Jvn d.rests.l d.rests.l.length⟩
  else ⟨d.rests.l.getD s.toNat 0,d.rests.l.getD s.toNat 0⟩
theorem J7t (x:Arr Int) (L:List Blk) (R:List Sl) (hm:InR (isl x) R) (h1:1≤x.l.length):
    Tri Tryz.prog 244 [x.val].toArray L R (fun v L' R'=>v=.int .i64 (Jvc x.l x.l.length)∧L=L'∧R=R'):=by
  refine Jc1 Tryz.call244 hm fun hpn=>?_
  have h0:=Jau (l:=x.l) (k:=0) 0 za
  refine Jad 25 Tryz.call244 Tryz.func244 rfl rfl rfl ?_
  refine Xac ?_
  refine Xdr ?_
  refine Xbe ?_
  refine Jln (show _=Value.bool _ from rfl) zF ?_
  refine qbv ?_
  refine qbm ?_
  refine qdt ?_
  refine qa7 ?_
  refine Xas ?_
  refine Xb2 ?_
  refine Jan [(0,Value.slice _ _ _),(3,Value.int _ _),(4,Value.int _ _)] zh fun tq0=>?_
  refine Jrx [3,4,12,13,14,15,16,17,18,19,20,21,22,23] (fun g:{k:Nat // 1≤k∧k≤x.l.length}=>[(4,.int .i64 ((g.1:Nat):Int)),(3,.int .i64 (Jvc x.l g.1))]) (fun g=>x.l.length - g.1) (⟨1,by omega,by omega⟩) ⟨rfl,congrArg (Value.int .i64) (Int.min_self _).symm,trivial⟩ ?_
  rintro ⟨k,hk1,hk2⟩ junk
  try dsimp only
  refine Xbn ?_
  refine Xao ?_
  refine Xbe ?_
  refine q_c (fun hc1=>?_) (fun hc1=>?_)
  ·
   have hk:=Jau (l:=x.l) (k:=k) 0 za
   refine Ja4 (Jab (Jam (Jbd (Jah ?_))))
   refine qaa ?_
   refine Xau ?_
   refine qa3 ?_
   refine qa7 ?_
   refine Jax (Js0 rfl rfl) rfl ?_
   refine qad ?_
   refine qcs ?_
   refine Xco ?_
   exact qd0
  obtain rfl:k=x.l.length:=by omega
  refine qbk ?_
  refine qaa ?_
  refine Xah ?_
  refine q_i (L':=L) (R':=R) ?_
  exact ⟨rfl,rfl,rfl⟩
theorem J7v (x:Arr Int) (L:List Blk) (R:List Sl) (hm:InR (isl x) R) (h1:1≤x.l.length):
    Tri Tryz.prog 245 [x.val].toArray L R (fun v L' R'=>v=.int .i64 (Jvn x.l x.l.length)∧L=L'∧R=R'):=by
  refine Jc1 Tryz.call245 hm fun hpn=>?_
  have h0:=Jau (l:=x.l) (k:=0) 0 za
  refine Jad 25 Tryz.call245 Tryz.func245 rfl rfl rfl ?_
  refine Xac ?_
  refine Xdr ?_
  refine Xbe ?_
  refine Jln (show _=Value.bool _ from rfl) zF ?_
  refine qbv ?_
  refine qbm ?_
  refine qdt ?_
  refine qa7 ?_
  refine Xas ?_
  refine Xb2 ?_
  refine Jan [(0,Value.slice _ _ _),(3,Value.int _ _),(4,Value.int _ _)] zh fun tq0=>?_
  refine Jrx [3,4,12,13,14,15,16,17,18,19,20,21,22,23] (fun g:{k:Nat // 1≤k∧k≤x.l.length}=>[(4,.int .i64 ((g.1:Nat):Int)),(3,.int .i64 (Jvn x.l g.1))]) (fun g=>x.l.length - g.1) (⟨1,by omega,by omega⟩) ⟨rfl,congrArg (Value.int .i64) (Int.max_self _).symm,trivial⟩ ?_
  rintro ⟨k,hk1,hk2⟩ junk
  try dsimp only
  refine Xbn ?_
  refine Xao ?_
  refine Xbe ?_
  refine q_c (fun hc1=>?_) (fun hc1=>?_)
  ·
   have hk:=Jau (l:=x.l) (k:=k) 0 za
   refine Ja4 (Jab (Jam (Jbd (Jah ?_))))
   refine qaa ?_
   refine Xau ?_
   refine qa3 ?_
   refine qa7 ?_
   refine Jax (Jih rfl rfl) rfl ?_
   refine qad ?_
   refine qcs ?_
   refine Xco ?_
   exact qd0
  obtain rfl:k=x.l.length:=by omega
  refine qbk ?_
  refine qaa ?_
  refine Xah ?_
  refine q_i (L':=L) (R':=R) ?_
  exact ⟨rfl,rfl,rfl⟩
theorem J6h (d:XDoor) (s:Int) (L:List Blk) (R:List Sl) (hm:InR d.sl R):
    Tri Tryz.prog 192 [d.val,.int .i64 s].toArray L R (fun v L' R'=>v=(Jkb d s).val∧L=L'∧R=R'):=by
  refine Jc1 Tryz.call192 hm fun hpn=>?_
  refine Jad 43 Tryz.call192 Tryz.func192 rfl rfl rfl ?_
  refine Xaf ?_
  intro b2
  refine qaq ?_
  intro b4
  refine Ja6 (Jab (Jam (Jbd (Jam (Jah ?_)))))
  refine Xab ?_
  refine Xb7 ?_
  apply Ja7 (G:=[_,_]) (j:=4) (cj:=10) rfl rfl zb rfl (show _=Value.bool _ from rfl) rfl
  ·
   intro hg5
   replace hg5:=qb hg5
   refine qaa ?_
   refine qaj ?_
   exact qai
  intro junk5
  refine qah ?_
  apply Ja7 (G:=[_,_,_,_,_]) (j:=8) (cj:=14) rfl rfl zb rfl (show _=Value.bool _ from rfl) rfl
  ·
   intro hg9
   replace hg9:=qb hg9
   refine qaa ?_
   refine Xab ?_
   refine qbz ?_
   exact qai
  intro junk9
  refine Xap ?_
  refine q_c (fun hc0=>?_) (fun hc0=>?_)
  ·
   refine qae ?_
   refine qck ?_
   refine qak ?_
   refine qdb ?_
   refine q_r (L':=L) (R':=R) (Jec rfl (Jao (row:=[_,_]) tb rfl rfl rfl zf zb zb)) ?_
   exact ⟨by rw [Jkb,if_pos za],rfl,rfl⟩
  refine Xbc ?_
  refine Xaz ?_
  refine q_c (fun hc1=>?_) (fun hc1=>?_)
  ·
   refine Jam ?_
   refine Jbk tb [] [0,1,3,4,2,5,6] [7] (_) _ Jby zc zi zha ?_
   refine Xar ?_
   refine Xar ?_
   refine Jdf rfl (J7t d.rests _ _ hm za) rfl rfl ?_
   rintro v L' R' ⟨rfl,rfl,rfl⟩
   refine qas ?_
   refine Jdf rfl (J7v d.rests _ _ hm za) rfl rfl ?_
   rintro v L' R' ⟨rfl,rfl,rfl⟩
   refine qas ?_
   refine qcw ?_
   refine Xc8 ?_
   refine Jaz (Jab (Jcq (Ja5 (Jba ?_))))
   refine q_r (L':=L) (R':=R) (Jec rfl (Jao (row:=[_,_]) tb rfl rfl rfl zf zb zb)) ?_
   exact ⟨by rw [Jkb,if_neg za,if_pos za],rfl,rfl⟩
  refine Ja4 (Jag (Jab (Jam ?_)))
  have hk:=Jau (l:=d.rests.l) (k:=s.toNat) 0 za
  refine Jbk tb [] [0,1,2,3,4,5,6,7,8,9,10] [11] (_) _ Jby zc zi zha ?_
  refine Xc6 ?_
  refine J9w ?_
  refine qci ?_
  refine Xc6 ?_
  refine J9w ?_
  refine qci ?_
  refine qcw ?_
  refine Xc8 ?_
  refine Jaz (Jab (Jcq ?_))
  refine q_r (L':=L) (R':=R) (Jec rfl (Jao (row:=[_,_]) tb rfl rfl rfl zf zb zb)) ?_
  exact ⟨by rw [Jkb,if_neg za,if_neg za],rfl,rfl⟩
end Go.Proofs.YtchfclmokpbldaaGreat
end
