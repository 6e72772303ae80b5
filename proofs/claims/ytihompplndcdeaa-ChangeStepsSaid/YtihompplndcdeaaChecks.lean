/-
  Checks: Plan, FanC, DoorC, BranchC, Rest, in one text. By an AI agent; no person has read it.
-/
import Derived.Test.YtihompplndcdeaaRun
set_option linter.unusedVariables false
set_option linter.unusedSimpArgs false
section
variable {A9 B9:Prop}
theorem Jo2 (a:A9) (h:A9→B9:=by exact Jax (by first | exact Jaf tb rfl rfl rfl rfl (by first | assumption | exact zr (by simp)) (i:=k0) (by first | rfl | omega | (simp;omega)) (by omega) | exact Jah tb rfl rfl rfl rfl (i:=k0) (by first | rfl | omega | (simp;omega)) (by omega)) rfl):B9:=h a
theorem Jt0 (a:A9) (h:A9→B9:=by exact Jax (by first | exact Jaf tb rfl rfl rfl rfl (by first | assumption | exact zr (by simp)) (i:=k1) (by first | rfl | omega | (simp;omega)) (by omega) | exact Jah tb rfl rfl rfl rfl (i:=k1) (by first | rfl | omega | (simp;omega)) (by omega)) rfl):B9:=h a
theorem J02 (a:A9) (h:A9→B9:=by exact Jbx (by first | exact Jaf tb rfl rfl rfl rfl (by first | assumption | exact zr (by simp)) (i:=k0 - 1) (by first | rfl | omega | (simp;omega)) (by omega) | exact Jah tb rfl rfl rfl rfl (i:=k0 - 1) (by first | rfl | omega | (simp;omega)) (by omega)) rfl rfl rfl):B9:=h a
theorem J1n (h:B9:=by exact ⟨by rw [Jfi,if_neg (by omega),if_neg (by omega),Jfc hp0 (by omega) (Jn8 hp (by omega) (by omega) hq (by omega))];rfl,rfl,rfl⟩):B9:=h
theorem J1s (a:A9) (h:A9→B9:=by exact Jbx (by first | exact Jaf tb rfl rfl rfl rfl (by first | assumption | exact zr (by simp)) (i:=k1) (by first | rfl | omega | (simp;omega)) (by omega) | exact Jah tb rfl rfl rfl rfl (i:=k1) (by first | rfl | omega | (simp;omega)) (by omega)) rfl rfl rfl):B9:=h a
theorem Jz2 (a:A9) (h:A9→B9:=by exact Jb1 (by first | exact Jaf tb rfl rfl rfl rfl (by first | assumption | exact zr (by simp)) (i:=s.toNat) (by first | rfl | omega | (simp;omega)) (by omega) | exact Jah tb rfl rfl rfl rfl (i:=s.toNat) (by first | rfl | omega | (simp;omega)) (by omega)) rfl rfl rfl rfl):B9:=h a
theorem J3d (a:A9) (h:A9→B9:=by exact Ja5 tb [0,1,2,3,4,5,6,7,8,9,10] _ Jbh (by kernel_rfl) (List.Sublist.refl _)):B9:=h a
theorem J5h (h:B9:=by exact ⟨by rw [Jfi,if_neg (by omega),if_neg (by omega),Jfc hp0 (by omega) (Jpl hp (by omega))];rfl,rfl,rfl⟩):B9:=h
theorem J50 (a:A9) (h:A9→B9:=by exact Ja5 tb [0,1,2,3,4,5,6,7,8,9,10,11,12,13,14,15,16,17,18,19,20,21,22,23,24,25] _ Jbh (by kernel_rfl) (List.Sublist.refl _)):B9:=h a
theorem J44 (h:B9:=by exact ⟨by rw [Jdz (by omega) hp0 (by omega) (hde.trans (by rw [if_neg (by omega),if_pos (by omega)]))],rfl,rfl⟩):B9:=h
theorem J5i (h:B9:=by exact ⟨by rw [Jdz (by omega) hp0 (by omega) (hde.trans (by rw [Jc3 hp1 hr (if_pos (by omega))]))],rfl,rfl⟩):B9:=h
theorem J5v (a:A9) (h:A9→B9:=by exact Jax (by first | exact Jaf tb rfl rfl rfl rfl (by first | assumption | exact zr (by simp)) (i:=d.other.toNat) (by first | rfl | omega | (simp;omega)) (by omega) | exact Jah tb rfl rfl rfl rfl (i:=d.other.toNat) (by first | rfl | omega | (simp;omega)) (by omega)) rfl):B9:=h a
theorem J5q (h:B9:=by exact ⟨by rw [hr,Jg6 (by omega) (by omega),Jfc hp1 (by omega) (he.trans (if_pos (by omega)))];simp,rfl,rfl⟩):B9:=h
theorem J5f (a:A9) (h:A9→B9:=by exact Jaz tb [] [0,1,2,3,4,5,6,7,8,9,10] [11] (_) _ Jbh (by kernel_rfl) (by repeat (first | exact zs0 _ | exact zs1 _ | apply zs2 | apply zs3 | apply zs4 | apply zs5)) (by (repeat (first | apply List.Sublist.cons (a:=Blk.mk b4 _ _) | apply List.Sublist.cons_cons));exact List.Sublist.refl _)):B9:=h a
end
section
namespace Go.Proofs.Ytihompplndcdeaa
open Go.Aw Go
set_option maxRecDepth 20000
attribute [local irreducible] CJ LJ DJ Tri YV Gives Jdn Jaw Jbk Jdo RV Jay
def Jl6 (s:XSpan) (lo hi:Int):Bool:=decide (lo≤s.low) && (decide (s.low≤s.high) && decide (s.high≤hi))
theorem Jpm (s:XSpan) (lo hi:Int) (L:List Blk) (R:List Sl):
    Tri Try.prog 76 [s.val,.int .i64 lo,.int .i64 hi].toArray L R (fun v L' R'=>v=.bool (Jl6 s lo hi)∧L=L'∧R=R'):=by
  refine Jae 24 Try.call76 Try.func76 rfl rfl rfl ?_
  refine Xaj ?_
  intro b3
  refine Xct ?_
  refine qaa ?_
  refine Xaa ?_
  refine qbx ?_
  refine qah ?_
  apply Jb3 (G:=[_,_,_,_,_]) (j:=4) (cj:=11) rfl rfl (by rfl) rfl (show _=Value.bool _ from rfl) rfl
  ·
   intro hg5
   replace hg5:=qb hg5
   refine Xa1 ?_
   refine qbx ?_
   exact qai
  intro junk5
  refine qah ?_
  apply Jb3 (G:=[_,_,_,_]) (j:=11) (cj:=18) rfl rfl (by rfl) rfl (show _=Value.bool _ from rfl) rfl
  ·
   intro hg12
   replace hg12:=qb hg12
   refine Xah ?_
   refine qbx ?_
   exact qai
  intro junk12
  refine Xa9 ?_
  refine q_b (L':=L) (R':=R) ?_
  exact ⟨by simp [Jl6,Bool.and_assoc],rfl,rfl⟩
def Jez (p:XPlace):Option Int:=if p.height < -10000∨10000 < p.height then some 1 else none
def Jc5 (n:Nat) (r:XRoad):Option Int:=
  if r.fr < 0∨(n:Int)≤r.fr∨r.to < 0∨(n:Int)≤r.to∨r.fr=r.to then some 4
  else if r.len < 1∨100000 < r.len∨r.area < 1∨1000 < r.area∨Jl6 r.rest 1 262144=false∨Jl6 r.lift (-2199023255552) 2199023255552=false then some 1 else none
def Jbs (m:XMine):Int:=
  if 64 < m.places.l.length∨128 < m.roads.l.length then 2
  else match m.places.l.findSome? Jez with
    | some e=>e
    | none=>(m.roads.l.findSome? (Jc5 m.places.l.length)).getD 0
theorem Jkm (m:XMine) (L:List Blk) (R:List Sl) (hm:MineR m R):
    Tri Try.prog 56 [m.val].toArray L R (fun v L' R'=>v=.int .i64 (Jbs m)∧L=L'∧R=R'):=by
  have hpl:=hm.places
  have hro:=hm.roads
  refine Jb7 Try.call56 hpl fun hpn=>?_
  refine Jb7 Try.call56 hro fun hrn=>?_
  refine Jae 100 Try.call56 Try.func56 rfl rfl rfl ?_
  refine Xaj ?_
  intro b1
  refine Xaw ?_
  refine Xab ?_
  refine qa5 ?_
  refine qah ?_
  apply Jbi (G:=[_,_,_,_]) (j:=4) (cj:=12) rfl rfl (by rfl) rfl (show _=Value.bool _ from rfl) rfl
  ·
   intro hg5
   replace hg5:=qb hg5
   refine Xab ?_
   refine qa5 ?_
   exact qai
  intro junk5
  refine qaf ?_
  refine q_c (fun hc0=>?_) (fun hc0=>?_)
  ·
   refine Xbn ?_
   refine q_i (L':=L) (R':=R) ?_
   exact ⟨by simp [Jbs];omega,rfl,rfl⟩
  refine qbo ?_
  refine Xbm ?_
  refine Jag [(1,Value.pointer _),(19,Value.slice _ _ _),(20,Value.int _ _),(21,Value.int _ _)] (by repeat' (first | exact trivial | refine And.intro rfl ?_)) fun tq0=>?_
  refine q_p [2,4,21,22,23,24,25,26,27,28,29,30,31,32,33] ((⟨fun g=>[(21,.int .i64 ((g.1:Nat):Int))],fun _=>⟨b1,m.cells,28⟩ :: L,fun _=>R,fun g=>m.places.l.length - g.1⟩:Head (FS Jez m.places.l))) (⟨0,Jec _ _⟩) ?_
  rintro ⟨k,hk,hkeep⟩ junk
  try dsimp only
  refine Xar ?_
  refine q_c (fun hc1=>?_) (fun hc1=>?_)
  ·
   obtain ⟨x,hx⟩:=Jar (l:=m.places.l) (k:=k) (by omega)
   refine qbb ?_
   refine qa3 ?_
   refine Xcu ?_
   intro b4
   refine Xcd ?_
   refine Xa2 ?_
   apply Jbi (G:=[_,_,_]) (j:=3) (cj:=28) rfl rfl (by rfl) rfl (show _=Value.bool _ from rfl) rfl
   ·
    intro hg4
    replace hg4:=qb hg4
    refine Xcp ?_
    exact qai
   intro junk4
   refine qaf ?_
   refine q_c (fun hc2=>?_) (fun hc2=>?_)
   ·
    refine Xbj ?_
    refine q_i (L':=L) (R':=R) ?_
    exact ⟨by simp [Jbs,Jc3 hkeep hx (show Jez x=some 1 by simp [Jez];omega)];omega,rfl,rfl⟩
   refine Xay ?_
   exact q_k ⟨k + 1,Jd3 hkeep hx (by simp [Jez];omega)⟩
  have hp:=Jdv hkeep (by omega)
  refine qbk ?_
  refine Xab ?_
  refine Xaw ?_
  refine Xbm ?_
  refine Jag [(5,Value.int _ _),(38,Value.slice _ _ _),(39,Value.int _ _),(40,Value.int _ _)] (by repeat' (first | exact trivial | refine And.intro rfl ?_)) fun tq1=>?_
  refine q_p [2,7,40,41,42,43,44,45,46,47,48,49,50,51,52,53,54,55,56,57,58,59,60,61,62,63,64,65,66,67,68,69,70,71,72,73,74,75,76,77,78,79,80,81,82,83,84,85,86,87,88,89,90,91,92,93,94,95,96,97,98,99] ((⟨fun g=>[(40,.int .i64 ((g.1:Nat):Int))],fun _=>⟨b1,m.cells,28⟩ :: L,fun _=>R,fun g=>m.roads.l.length - g.1⟩:Head (FS (Jc5 m.places.l.length) m.roads.l))) (⟨0,Jec _ _⟩) ?_
  rintro ⟨k2,hk2,hkeep2⟩ junk
  try dsimp only
  refine Xar ?_
  refine q_c (fun hc3=>?_) (fun hc3=>?_)
  ·
   obtain ⟨y,hy⟩:=Jar (l:=m.roads.l) (k:=k2) (by omega)
   refine qbb ?_
   refine qa3 ?_
   refine qc8 ?_
   refine qaq ?_
   intro b7
   refine Xcv ?_
   refine Xa2 ?_
   apply Jbi (G:=[_,_,_,_]) (j:=3) (cj:=47) rfl rfl (by rfl) rfl (show _=Value.bool _ from rfl) rfl
   ·
    intro hg4
    replace hg4:=qb hg4
    refine Xah ?_
    refine qbz ?_
    exact qai
   intro junk4
   refine qah ?_
   apply Jbi (G:=[_,_,_]) (j:=9) (cj:=53) rfl rfl (by rfl) rfl (show _=Value.bool _ from rfl) rfl
   ·
    intro hg10
    replace hg10:=qb hg10
    refine Xaa ?_
    refine qaj ?_
    exact qai
   intro junk10
   refine qah ?_
   apply Jbi (G:=[_,_,_,_]) (j:=14) (cj:=58) rfl rfl (by rfl) rfl (show _=Value.bool _ from rfl) rfl
   ·
    intro hg15
    replace hg15:=qb hg15
    refine Xah ?_
    refine qbz ?_
    exact qai
   intro junk15
   refine qah ?_
   apply Jbi (G:=[_,_,_,_,_]) (j:=20) (cj:=64) rfl rfl (by rfl) rfl (show _=Value.bool _ from rfl) rfl
   ·
    intro hg21
    replace hg21:=qb hg21
    refine Xa1 ?_
    refine qbn ?_
    exact qai
   intro junk21
   refine qaf ?_
   refine q_c (fun hc4=>?_) (fun hc4=>?_)
   ·
    refine Xcj ?_
    refine q_i (L':=L) (R':=R) ?_
    exact ⟨by simp [Jbs,hp,Jc3 hkeep2 hy (show Jc5 m.places.l.length y=some 4 by simp [Jc5];omega)];omega,rfl,rfl⟩
   refine qbo ?_
   refine Xaa ?_
   refine Xa2 ?_
   apply Jbi (G:=[_,_,_]) (j:=3) (cj:=74) rfl rfl (by rfl) rfl (show _=Value.bool _ from rfl) rfl
   ·
    intro hg4
    replace hg4:=qb hg4
    refine Xcp ?_
    exact qai
   intro junk4
   refine qah ?_
   apply Jbi (G:=[_,_,_]) (j:=8) (cj:=79) rfl rfl (by rfl) rfl (show _=Value.bool _ from rfl) rfl
   ·
    intro hg9
    replace hg9:=qb hg9
    refine Xaa ?_
    refine qaj ?_
    exact qai
   intro junk9
   refine qah ?_
   apply Jbi (G:=[_,_,_]) (j:=13) (cj:=84) rfl rfl (by rfl) rfl (show _=Value.bool _ from rfl) rfl
   ·
    intro hg14
    replace hg14:=qb hg14
    refine Xcp ?_
    exact qai
   intro junk14
   refine qaf ?_
   refine q_c (fun hc5=>?_) (fun hc5=>?_)
   ·
    refine Xcj ?_
    refine q_i (L':=L) (R':=R) ?_
    exact ⟨by simp [Jbs,hp,Jc3 hkeep2 hy (show Jc5 m.places.l.length y=some 1 by rw [Jc5,if_neg (by omega),if_pos (by omega)])];omega,rfl,rfl⟩
   refine qbv ?_
   refine Xb4 ?_
   refine q_l rfl (Jpm y.rest _ _ _ _) ?_
   refine qb4 ?_
   refine qah ?_
   apply Jbi (G:=[_,_,_,_]) (j:=4) (cj:=93) rfl rfl (by rfl) rfl (show _=Value.bool _ from rfl) rfl
   ·
    intro hg5
    replace hg5:=qb hg5
    refine Xb4 ?_
    refine q_l rfl (Jpm y.lift _ _ _ _) ?_
    refine qb4 ?_
    exact qai
   intro junk5
   refine qaf ?_
   refine q_c (fun hc6=>?_) (fun hc6=>?_)
   ·
    refine Xbj ?_
    refine q_i (L':=L) (R':=R) ?_
    exact ⟨by simp [Jbs,hp,Jc3 hkeep2 hy (show Jc5 m.places.l.length y=some 1 by rw [Jc5,if_neg (by omega),if_pos (by rcases hc6 with h | h <;> simp [h])])];omega,rfl,rfl⟩
   refine Xay ?_
   exact q_k ⟨k2 + 1,Jd3 hkeep2 hy (by rw [Jc5,if_neg (by omega),if_neg (by simp [hc6];omega)])⟩
  have hq:=Jdv hkeep2 (by omega)
  refine Xce ?_
  refine q_i (L':=L) (R':=R) ?_
  exact ⟨by simp [Jbs,hp,hq];omega,rfl,rfl⟩
theorem Jpw (s:XSpan) (lo hi:Int) (L:List Blk) (R:List Sl):
    Tri Try.prog 69 [s.val,.int .i64 lo,.int .i64 hi].toArray L R (fun v L' R'=>v=.bool (Jl6 s lo hi)∧L=L'∧R=R'):=by
  refine Jae 24 Try.call69 Try.func69 rfl rfl rfl ?_
  refine Xaj ?_
  intro b3
  refine Xct ?_
  refine qaa ?_
  refine Xaa ?_
  refine qbx ?_
  refine qah ?_
  apply Jb3 (G:=[_,_,_,_,_]) (j:=4) (cj:=11) rfl rfl (by rfl) rfl (show _=Value.bool _ from rfl) rfl
  ·
   intro hg5
   replace hg5:=qb hg5
   refine Xa1 ?_
   refine qbx ?_
   exact qai
  intro junk5
  refine qah ?_
  apply Jb3 (G:=[_,_,_,_]) (j:=11) (cj:=18) rfl rfl (by rfl) rfl (show _=Value.bool _ from rfl) rfl
  ·
   intro hg12
   replace hg12:=qb hg12
   refine Xah ?_
   refine qbx ?_
   exact qai
  intro junk12
  refine Xa9 ?_
  refine q_b (L':=L) (R':=R) ?_
  exact ⟨by simp [Jl6,Bool.and_assoc],rfl,rfl⟩
theorem Jo1 (m:XMine) (L:List Blk) (R:List Sl) (hm:MineR m R):
    Tri Try.prog 46 [m.val].toArray L R (fun v L' R'=>v=.int .i64 (Jbs m)∧L=L'∧R=R'):=by
  have hpl:=hm.places
  have hro:=hm.roads
  refine Jb7 Try.call46 hpl fun hpn=>?_
  refine Jb7 Try.call46 hro fun hrn=>?_
  refine Jae 109 Try.call46 Try.func46 rfl rfl rfl ?_
  refine Xaj ?_
  intro b1
  refine Xaw ?_
  refine Xab ?_
  refine qa5 ?_
  refine qah ?_
  apply Jbi (G:=[_,_,_,_]) (j:=4) (cj:=11) rfl rfl (by rfl) rfl (show _=Value.bool _ from rfl) rfl
  ·
   intro hg5
   replace hg5:=qb hg5
   refine Xab ?_
   refine qa5 ?_
   exact qai
  intro junk5
  refine qaf ?_
  refine q_c (fun hc0=>?_) (fun hc0=>?_)
  ·
   refine Xbn ?_
   refine q_i (L':=L) (R':=R) ?_
   exact ⟨by simp [Jbs];omega,rfl,rfl⟩
  refine Xcq ?_
  refine Jag [(1,Value.pointer _),(3,Value.int _ _)] (by repeat' (first | exact trivial | refine And.intro rfl ?_)) fun tq0=>?_
  refine q_s [2,3,4,17,18,19,20,21,22,23,24,25,26,27,28,29,30,31,32,33,34,35] (fun g:FS (Jez) (m.places.l)=>[(3,.int .i64 ((g.1:Nat):Int))]) (fun g=>(m.places.l).length - g.1) ⟨0,Jec _ _⟩ ?_
  rintro ⟨k0,hk0,hp0⟩ junk
  try dsimp only
  refine Xbq ?_
  refine q_c (fun hc1=>?_) (fun hc1=>?_)
  ·
   obtain ⟨x,hx⟩:=Jar (l:=m.places.l) (k:=k0) (by omega)
   refine Xci ?_
   refine Jo2 ?_
   refine Xbc ?_
   refine Xax ?_
   refine Xa2 ?_
   apply Jbi (G:=[_,_]) (j:=2) (cj:=32) rfl rfl (by rfl) rfl (show _=Value.bool _ from rfl) rfl
   ·
    intro hg3
    replace hg3:=qb hg3
    refine qaa ?_
    refine qa5 ?_
    exact qai
   intro junk3
   refine qaf ?_
   refine q_c (fun hc2=>?_) (fun hc2=>?_)
   ·
    refine Xbj ?_
    refine q_i (L':=L) (R':=R) ?_
    exact ⟨by simp [Jbs,Jc3 hp0 hx (show Jez x=some 1 by simp [Jez];omega)];omega,rfl,rfl⟩
   refine Xbg ?_
   exact q_k ⟨k0 + 1,Jd3 hp0 hx (by simp [Jez];omega)⟩
  have hn0:=Jdv hp0 (by omega)
  refine qcf ?_
  refine Xav ?_
  refine Jag [(1,Value.pointer _),(5,Value.int _ _)] (by repeat' (first | exact trivial | refine And.intro rfl ?_)) fun tq1=>?_
  refine q_s [2,5,6,36,37,38,39,40,41,42,43,44,45,46,47,48,49,50,51,52,53,54,55,56,57,58,59,60,61,62,63,64,65,66,67,68,69,70,71,72,73,74,75,76,77,78,79,80,81,82,83,84,85,86,87,88,89,90,91,92,93,94,95,96,97,98,99,100,101,102,103,104,105,106,107,108] (fun g:FS (Jc5 m.places.l.length) (m.roads.l)=>[(5,.int .i64 ((g.1:Nat):Int))]) (fun g=>(m.roads.l).length - g.1) ⟨0,Jec _ _⟩ ?_
  rintro ⟨k1,hk1,hp1⟩ junk
  try dsimp only
  refine Xbq ?_
  refine q_c (fun hc3=>?_) (fun hc3=>?_)
  ·
   obtain ⟨y,hy⟩:=Jar (l:=m.roads.l) (k:=k1) (by omega)
   refine Xci ?_
   refine Jt0 ?_
   refine qc8 ?_
   refine qaq ?_
   intro b6
   refine Xcv ?_
   refine Xa2 ?_
   apply Jbi (G:=[_,_,_,_,_,_]) (j:=3) (cj:=51) rfl rfl (by rfl) rfl (show _=Value.bool _ from rfl) rfl
   ·
    intro hg4
    replace hg4:=qb hg4
    refine Xaa ?_
    refine Xab ?_
    refine qbz ?_
    exact qai
   intro junk4
   refine qah ?_
   apply Jbi (G:=[_,_,_]) (j:=11) (cj:=59) rfl rfl (by rfl) rfl (show _=Value.bool _ from rfl) rfl
   ·
    intro hg12
    replace hg12:=qb hg12
    refine Xaa ?_
    refine qaj ?_
    exact qai
   intro junk12
   refine qah ?_
   apply Jbi (G:=[_,_,_,_,_,_]) (j:=16) (cj:=64) rfl rfl (by rfl) rfl (show _=Value.bool _ from rfl) rfl
   ·
    intro hg17
    replace hg17:=qb hg17
    refine Xaa ?_
    refine Xab ?_
    refine qbz ?_
    exact qai
   intro junk17
   refine qah ?_
   apply Jbi (G:=[_,_,_,_,_]) (j:=24) (cj:=72) rfl rfl (by rfl) rfl (show _=Value.bool _ from rfl) rfl
   ·
    intro hg25
    replace hg25:=qb hg25
    refine Xa1 ?_
    refine qbn ?_
    exact qai
   intro junk25
   refine qaf ?_
   refine q_c (fun hc4=>?_) (fun hc4=>?_)
   ·
    refine Xcj ?_
    refine q_i (L':=L) (R':=R) ?_
    exact ⟨by simp [Jbs,hn0,Jc3 hp1 hy (show Jc5 m.places.l.length y=some 4 by simp [Jc5];omega)];omega,rfl,rfl⟩
   refine qbv ?_
   refine Xaa ?_
   refine Xa2 ?_
   apply Jbi (G:=[_,_,_]) (j:=3) (cj:=82) rfl rfl (by rfl) rfl (show _=Value.bool _ from rfl) rfl
   ·
    intro hg4
    replace hg4:=qb hg4
    refine Xcp ?_
    exact qai
   intro junk4
   refine qah ?_
   apply Jbi (G:=[_,_,_]) (j:=8) (cj:=87) rfl rfl (by rfl) rfl (show _=Value.bool _ from rfl) rfl
   ·
    intro hg9
    replace hg9:=qb hg9
    refine Xaa ?_
    refine qaj ?_
    exact qai
   intro junk9
   refine qah ?_
   apply Jbi (G:=[_,_,_]) (j:=13) (cj:=92) rfl rfl (by rfl) rfl (show _=Value.bool _ from rfl) rfl
   ·
    intro hg14
    replace hg14:=qb hg14
    refine Xcp ?_
    exact qai
   intro junk14
   refine qah ?_
   apply Jbi (G:=[_,_,_,_]) (j:=18) (cj:=97) rfl rfl (by rfl) rfl (show _=Value.bool _ from rfl) rfl
   ·
    intro hg19
    replace hg19:=qb hg19
    refine Xb4 ?_
    refine q_l rfl (Jpw y.rest _ _ _ _) ?_
    refine qb4 ?_
    exact qai
   intro junk19
   refine qah ?_
   apply Jbi (G:=[_,_,_,_]) (j:=24) (cj:=103) rfl rfl (by rfl) rfl (show _=Value.bool _ from rfl) rfl
   ·
    intro hg25
    replace hg25:=qb hg25
    refine Xb4 ?_
    refine q_l rfl (Jpw y.lift _ _ _ _) ?_
    refine qb4 ?_
    exact qai
   intro junk25
   refine qaf ?_
   refine q_c (fun hc5=>?_) (fun hc5=>?_)
   ·
    refine Xbj ?_
    refine q_i (L':=L) (R':=R) ?_
    exact ⟨by simp [Jbs,hn0,Jc3 hp1 hy (show Jc5 m.places.l.length y=some 1 by rw [Jc5,if_neg (by omega),if_pos (by simpa [or_assoc] using hc5)])];omega,rfl,rfl⟩
   refine Xbg ?_
   exact q_k ⟨k1 + 1,Jd3 hp1 hy (by rw [Jc5,if_neg (by omega),if_neg (by simpa [and_assoc] using hc5)])⟩
  have hn1:=Jdv hp1 (by omega)
  refine Xce ?_
  refine q_i (L':=L) (R':=R) ?_
  exact ⟨by simp [Jbs,hn0,hn1];omega,rfl,rfl⟩
end Go.Proofs.Ytihompplndcdeaa
end
section
namespace Go.Proofs.Ytihompplndcdeaa
open Go.Aw Go
set_option maxRecDepth 20000
attribute [local irreducible] CJ LJ DJ Tri YV Gives Jdn Jaw Jbk Jdo RV Jay
def Jc8 (l:List XPoint) (i:Nat):Option Int:=
  match l[i]? with
  | none=>none
  | some p => if p.flow < -1048576 ∨ 1048576 < p.flow ∨ p.pres < 0 ∨ 2199023255552 < p.pres then some 1
    else if i=0 then none
    else match l[i - 1]? with
      | none=>none
      | some q=>if p.flow≤q.flow∨q.pres < p.pres then some 14 else none
def Jfi (f:XFan):Int:=
  if f.road < 0 then 4 else if f.curve.l.length < 1∨8 < f.curve.l.length then 2
  else ((List.range f.curve.l.length).findSome? (Jc8 f.curve.l)).getD 0
theorem Jpl {l:List XPoint} {k:Nat} {p:XPoint} (h:l[k]?=some p) (hr:p.flow < -1048576∨1048576 < p.flow∨p.pres < 0∨2199023255552 < p.pres):Jc8 l k=some 1:=by
  simp only [Jc8,h,if_pos hr]
theorem Jn8 {l:List XPoint} {k:Nat} {p q:XPoint} (h:l[k]?=some p) (hr:¬ (p.flow < -1048576∨1048576 < p.flow∨p.pres < 0∨2199023255552 < p.pres)) (hk:k≠0) (h':l[k - 1]?=some q) (hb:p.flow≤q.flow∨q.pres < p.pres):Jc8 l k=some 14:=by
  simp only [Jc8,h,if_neg hr,if_neg hk,h',if_pos hb]
theorem Jis {l:List XPoint} {k:Nat} {p:XPoint} (h:l[k]?=some p) (hr:¬ (p.flow < -1048576∨1048576 < p.flow∨p.pres < 0∨2199023255552 < p.pres)) (hk:k=0):Jc8 l k=none:=by
  simp only [Jc8,h,if_neg hr,if_pos hk]
theorem Jiw {l:List XPoint} {k:Nat} {p q:XPoint} (h:l[k]?=some p) (hr:¬ (p.flow < -1048576∨1048576 < p.flow∨p.pres < 0∨2199023255552 < p.pres)) (hk:k≠0) (h':l[k - 1]?=some q) (hb:¬ (p.flow≤q.flow∨q.pres < p.pres)):Jc8 l k=none:=by
  simp only [Jc8,h,if_neg hr,if_neg hk,h',if_neg hb]
theorem Jre (f:XFan) (L:List Blk) (R:List Sl) (hm:InR f.sl R):
    Tri Try.prog 57 [f.val].toArray L R (fun v L' R'=>v=.int .i64 (Jfi f)∧L=L'∧R=R'):=by
  refine Jb7 Try.call57 hm fun hpn=>?_
  refine Jae 71 Try.call57 Try.func57 rfl rfl rfl ?_
  refine Xaj ?_
  intro b1
  refine Xaw ?_
  refine Xaa ?_
  refine Xan ?_
  refine q_c (fun hc0=>?_) (fun hc0=>?_)
  ·
   refine Xbn ?_
   refine q_i (L':=L) (R':=R) ?_
   exact ⟨by rw [Jfi,if_pos (by omega)],rfl,rfl⟩
  refine qbo ?_
  refine Xab ?_
  refine Xa2 ?_
  apply Jbi (G:=[_,_,_,_]) (j:=4) (cj:=12) rfl rfl (by rfl) rfl (show _=Value.bool _ from rfl) rfl
  ·
   intro hg5
   replace hg5:=qb hg5
   refine Xab ?_
   refine qa5 ?_
   exact qai
  intro junk5
  refine qaf ?_
  refine q_c (fun hc1=>?_) (fun hc1=>?_)
  ·
   refine Xbn ?_
   refine q_i (L':=L) (R':=R) ?_
   exact ⟨by rw [Jfi,if_neg (by omega),if_pos (by omega)],rfl,rfl⟩
  refine qbo ?_
  refine Xbm ?_
  refine Jag [(1,Value.pointer _),(19,Value.slice _ _ _),(20,Value.int _ _),(21,Value.int _ _)] (by repeat' (first | exact trivial | refine And.intro rfl ?_)) fun tq0=>?_
  refine q_s [2,3,4,21,22,23,24,25,26,27,28,29,30,31,32,33,34,35,36,37,38,39,40,41,42,43,44,45,46,47,48,49,50,51,52,53,54,55,56,57,58,59,60,61,62,63,64,65,66,67,68,69,70] (fun g:FSR (Jc8 f.curve.l) (f.curve.l.length)=>[(21,.int .i64 ((g.1:Nat):Int))]) (fun g=>(f.curve.l.length) - g.1) ⟨0,Jet _ _⟩ ?_
  rintro ⟨k0,hk0,hp0⟩ junk
  try dsimp only
  refine Xar ?_
  refine q_c (fun hc2=>?_) (fun hc2=>?_)
  ·
   obtain ⟨p,hp⟩:=Jar (l:=f.curve.l) (k:=k0) (by omega)
   refine Xa8 ?_
   refine Jo2 ?_
   refine Xcu ?_
   intro b4
   refine qad ?_
   refine Xcv ?_
   refine Xa2 ?_
   apply Jbi (G:=[_,_,_]) (j:=3) (cj:=29) rfl rfl (by rfl) rfl (show _=Value.bool _ from rfl) rfl
   ·
    intro hg4
    replace hg4:=qb hg4
    refine Xcp ?_
    exact qai
   intro junk4
   refine qah ?_
   apply Jbi (G:=[_,_,_]) (j:=8) (cj:=34) rfl rfl (by rfl) rfl (show _=Value.bool _ from rfl) rfl
   ·
    intro hg9
    replace hg9:=qb hg9
    refine Xaa ?_
    refine qaj ?_
    exact qai
   intro junk9
   refine qah ?_
   apply Jbi (G:=[_,_,_]) (j:=13) (cj:=39) rfl rfl (by rfl) rfl (show _=Value.bool _ from rfl) rfl
   ·
    intro hg14
    replace hg14:=qb hg14
    refine Xcp ?_
    exact qai
   intro junk14
   refine qaf ?_
   refine q_c (fun hc3=>?_) (fun hc3=>?_)
   ·
    refine Xcj ?_
    refine q_i (L':=L) (R':=R) ?_
    exact J5h
   refine qcl ?_
   refine J50 ?_
   refine qao ?_
   refine Jbx (Jnf rfl rfl) rfl rfl rfl ?_
   refine qb2 ?_
   refine Jep (k:=46) (show _=Value.bool _ from rfl) (fun hg2=>?_) (fun hg2=>?_)
   ·
    replace hg2:=qb hg2
    obtain ⟨q,hq⟩:=Jar (l:=f.curve.l) (k:=k0 - 1) (by omega)
    refine Xad ?_
    refine Xa0 ?_
    refine qb7 ?_
    refine J02 ?_
    refine Xb9 ?_
    refine Jbx (Jv1 rfl rfl) rfl rfl rfl ?_
    refine qb2 ?_
    refine Jep (k:=57) (show _=Value.bool _ from rfl) (fun hg13=>?_) (fun hg13=>?_)
    ·
     replace hg13:=qb hg13
     iterate 10 refine qap ?_
     refine qbp ?_
     refine Xbi ?_
     refine Jco rfl ?_
     refine Xbj ?_
     refine q_i (L':=L) (R':=R) ?_
     exact J1n
    replace hg13:=qb hg13
    refine Xad ?_
    refine Xa0 ?_
    refine qb7 ?_
    refine J02 ?_
    refine Xb9 ?_
    refine Jbx (Jnf rfl rfl) rfl rfl rfl ?_
    refine qbp ?_
    refine Xbi ?_
    refine q_c (fun hc4=>?_) (fun hc4=>?_)
    ·
     refine Xbj ?_
     refine q_i (L':=L) (R':=R) ?_
     exact J1n
    refine Xay ?_
    exact q_k ⟨k0 + 1,Jds hp0 (by omega) (by first | exact Jis hp (by omega) (by omega) | exact Jiw hp (by omega) (by omega) hq (by omega))⟩
   replace hg2:=qb hg2
   iterate 22 refine qap ?_
   refine Xbi ?_
   refine Jb0 rfl ?_
   refine Xay ?_
   exact q_k ⟨k0 + 1,Jds hp0 (by omega) (by first | exact Jis hp (by omega) (by omega) | exact Jiw hp (by omega) (by omega) hq (by omega))⟩
  have hn0:=Je1 hp0 (by omega)
  refine Xce ?_
  refine q_i (L':=L) (R':=R) ?_
  exact ⟨by rw [Jfi,if_neg (by omega),if_neg (by omega),hn0];rfl,rfl,rfl⟩
theorem Joy (f:XFan) (L:List Blk) (R:List Sl) (hm:InR f.sl R):
    Tri Try.prog 47 [f.val].toArray L R (fun v L' R'=>v=.int .i64 (Jfi f)∧L=L'∧R=R'):=by
  refine Jb7 Try.call47 hm fun hpn=>?_
  refine Jae 74 Try.call47 Try.func47 rfl rfl rfl ?_
  refine Xaj ?_
  intro b1
  refine Xaw ?_
  refine Xaa ?_
  refine Xan ?_
  refine q_c (fun hc0=>?_) (fun hc0=>?_)
  ·
   refine Xbn ?_
   refine q_i (L':=L) (R':=R) ?_
   exact ⟨by rw [Jfi,if_pos (by omega)],rfl,rfl⟩
  refine qbo ?_
  refine Xab ?_
  refine Xa2 ?_
  apply Jbi (G:=[_,_,_,_]) (j:=4) (cj:=12) rfl rfl (by rfl) rfl (show _=Value.bool _ from rfl) rfl
  ·
   intro hg5
   replace hg5:=qb hg5
   refine Xab ?_
   refine qa5 ?_
   exact qai
  intro junk5
  refine qaf ?_
  refine q_c (fun hc1=>?_) (fun hc1=>?_)
  ·
   refine Xbn ?_
   refine q_i (L':=L) (R':=R) ?_
   exact ⟨by rw [Jfi,if_neg (by omega),if_pos (by omega)],rfl,rfl⟩
  refine Xcq ?_
  refine Jag [(1,Value.pointer _),(3,Value.int _ _)] (by repeat' (first | exact trivial | refine And.intro rfl ?_)) fun tq0=>?_
  refine q_s [2,3,4,18,19,20,21,22,23,24,25,26,27,28,29,30,31,32,33,34,35,36,37,38,39,40,41,42,43,44,45,46,47,48,49,50,51,52,53,54,55,56,57,58,59,60,61,62,63,64,65,66,67,68,69,70,71,72,73] (fun g:FSR (Jc8 f.curve.l) (f.curve.l.length)=>[(3,.int .i64 ((g.1:Nat):Int))]) (fun g=>(f.curve.l.length) - g.1) ⟨0,Jet _ _⟩ ?_
  rintro ⟨k0,hk0,hp0⟩ junk
  try dsimp only
  refine Xbq ?_
  refine q_c (fun hc2=>?_) (fun hc2=>?_)
  ·
   obtain ⟨p,hp⟩:=Jar (l:=f.curve.l) (k:=k0) (by omega)
   refine Xci ?_
   refine Jo2 ?_
   refine Xcu ?_
   intro b4
   refine Xcv ?_
   refine Xa2 ?_
   apply Jbi (G:=[_,_,_]) (j:=3) (cj:=33) rfl rfl (by rfl) rfl (show _=Value.bool _ from rfl) rfl
   ·
    intro hg4
    replace hg4:=qb hg4
    refine Xcp ?_
    exact qai
   intro junk4
   refine qah ?_
   apply Jbi (G:=[_,_,_]) (j:=8) (cj:=38) rfl rfl (by rfl) rfl (show _=Value.bool _ from rfl) rfl
   ·
    intro hg9
    replace hg9:=qb hg9
    refine Xaa ?_
    refine qaj ?_
    exact qai
   intro junk9
   refine qah ?_
   apply Jbi (G:=[_,_,_]) (j:=13) (cj:=43) rfl rfl (by rfl) rfl (show _=Value.bool _ from rfl) rfl
   ·
    intro hg14
    replace hg14:=qb hg14
    refine Xcp ?_
    exact qai
   intro junk14
   refine qaf ?_
   refine q_c (fun hc3=>?_) (fun hc3=>?_)
   ·
    refine Xcj ?_
    refine q_i (L':=L) (R':=R) ?_
    exact J5h
   refine qcl ?_
   refine J50 ?_
   refine qao ?_
   refine Jbx (Jnf rfl rfl) rfl rfl rfl ?_
   refine qb2 ?_
   refine Jep (k:=50) (show _=Value.bool _ from rfl) (fun hg2=>?_) (fun hg2=>?_)
   ·
    replace hg2:=qb hg2
    obtain ⟨q,hq⟩:=Jar (l:=f.curve.l) (k:=k0 - 1) (by omega)
    refine Xad ?_
    refine Xa0 ?_
    refine qb7 ?_
    refine J02 ?_
    refine Xb9 ?_
    refine Jbx (Jv1 rfl rfl) rfl rfl rfl ?_
    refine qb2 ?_
    refine Jep (k:=61) (show _=Value.bool _ from rfl) (fun hg13=>?_) (fun hg13=>?_)
    ·
     replace hg13:=qb hg13
     iterate 10 refine qap ?_
     refine qbp ?_
     refine Xbi ?_
     refine Jco rfl ?_
     refine Xbj ?_
     refine q_i (L':=L) (R':=R) ?_
     exact J1n
    replace hg13:=qb hg13
    refine Xad ?_
    refine Xa0 ?_
    refine qb7 ?_
    refine J02 ?_
    refine Xb9 ?_
    refine Jbx (Jnf rfl rfl) rfl rfl rfl ?_
    refine qbp ?_
    refine Xbi ?_
    refine q_c (fun hc4=>?_) (fun hc4=>?_)
    ·
     refine Xbj ?_
     refine q_i (L':=L) (R':=R) ?_
     exact J1n
    refine Xbg ?_
    exact q_k ⟨k0 + 1,Jds hp0 (by omega) (by first | exact Jis hp (by omega) (by omega) | exact Jiw hp (by omega) (by omega) hq (by omega))⟩
   replace hg2:=qb hg2
   iterate 22 refine qap ?_
   refine Xbi ?_
   refine Jb0 rfl ?_
   refine Xbg ?_
   exact q_k ⟨k0 + 1,Jds hp0 (by omega) (by first | exact Jis hp (by omega) (by omega) | exact Jiw hp (by omega) (by omega) hq (by omega))⟩
  have hn0:=Je1 hp0 (by omega)
  refine Xce ?_
  refine q_i (L':=L) (R':=R) ?_
  exact ⟨by rw [Jfi,if_neg (by omega),if_neg (by omega),hn0];rfl,rfl,rfl⟩
end Go.Proofs.Ytihompplndcdeaa
end
section
namespace Go.Proofs.Ytihompplndcdeaa
open Go.Aw Go
set_option maxRecDepth 20000
attribute [local irreducible] CJ LJ DJ Tri YV Gives Jdn Jaw Jbk Jdo RV Jay
def Jib (x:Int):Option Int:=if x < 0∨262144 < x then some 1 else none
def Jde (l : List Int) : Nat → Bool
  | 0=>true
  | k + 1=>Jde l k && (decide (k=0) || decide (l.getD k 0 < l.getD (k - 1) 0))
theorem Jzt {l:List Int} {k n:Nat} (h:k≤n) (hf:Jde l n=true):Jde l k=true:=by
  induction n with
  | zero=>rw [show k=0 by omega];rfl
  | succ n ih=>
    rcases Nat.lt_or_ge k (n + 1) with h' | h'
    · simp only [Jde,Bool.and_eq_true] at hf;exact ih (by omega) hf.1
    · rw [show k=n + 1 by omega];exact hf
theorem Jtg {l:List Int} {k:Nat} {x:Int} (hx:l[k]?=some x):(Jde l k && (decide ((k:Int)=0) || decide (x < l.getD (k - 1) 0)))=Jde l (k + 1):=by
  rw [Jde,getD_some hx]
  congr 2
  simp only [decide_eq_decide];omega
theorem Jwh {l:List Int} {k n:Nat} {x y:Int} (hk:k < n) (h0:k≠0) (hx:l[k]?=some x) (hy:l[k - 1]?=some y) (h:y≤x):Jde l n=false:=by
  rcases hb:Jde l n with _ | _
  · rfl
  · have := Jzt (show k + 1 ≤ n from hk) hb
    simp only [Jde,Bool.and_eq_true,Bool.or_eq_true,decide_eq_true_eq,getD_some hx,getD_some hy] at this
    omega
theorem Jus {l:List Int} {k:Nat} {x y:Int} (h0:k≠0) (hx:l[k]?=some x) (hy:l[k - 1]?=some y):Jde l (k + 1)=(Jde l k && decide (x < y)):=by
  rw [Jde,getD_some hx,getD_some hy];simp [h0]
abbrev Jjw (l:List XDoor) (i:Nat) (d:XDoor):Prop:=
  d.other≠-1∧(d.other < 0∨(l.length:Int)≤d.other∨d.other=(i:Int)∨(l.getD d.other.toNat default).other≠(i:Int))
def Jev (l:List XDoor) (i:Nat):Option Int:=
  match l[i]? with
  | none=>none
  | some d => if d.road < 0 then some 4 else if d.rests.l.length < 2 ∨ 6 < d.rests.l.length then some 2
    else match d.rests.l.findSome? Jib with
      | some e=>some e
      | none=>if Jde d.rests.l d.rests.l.length=false then some 15 else if Jjw l i d then some 15 else none
def Jbm (l:List XDoor):Int:=if 16 < l.length then 2 else ((List.range l.length).findSome? (Jev l)).getD 0
theorem Ji3 {l : List XDoor} {i : Nat} {d : XDoor} (h : l[i]? = some d) : Jev l i = if d.road < 0 then some 4 else if d.rests.l.length < 2 ∨ 6 < d.rests.l.length then some 2
    else match d.rests.l.findSome? Jib with
      | some e=>some e
      | none=>if Jde d.rests.l d.rests.l.length=false then some 15 else if Jjw l i d then some 15 else none:=by
  rw [Jev,h]
theorem Jdz {l:List XDoor} {k:Nat} {e:Int} (h16:¬ 16 < l.length) (hp:(List.range l.length).findSome? (Jev l)=((List.range l.length).drop k).findSome? (Jev l)) (hk:k < l.length) (h:Jev l k=some e):Jbm l=e:=by
  rw [Jbm,if_neg h16,Jfc hp hk h];rfl
theorem Jj5 (x:Arr XDoor) (L:List Blk) (R:List Sl) (hm:InR (dsl x) R):
    Tri Try.prog 58 [x.val].toArray L R (fun v L' R'=>v=.int .i64 (Jbm x.l)∧L=L'∧R=R'):=by
  refine Jb7 Try.call58 hm fun hpn=>?_
  refine Jae 95 Try.call58 Try.func58 rfl rfl rfl ?_
  refine Xaf ?_
  refine qaw ?_
  refine Xat ?_
  refine Xbx ?_
  refine q_c (fun hc0=>?_) (fun hc0=>?_)
  ·
   refine Xbn ?_
   refine q_i (L':=L) (R':=R) ?_
   exact ⟨by rw [Jbm,if_pos (by omega)],rfl,rfl⟩
  refine qbo ?_
  refine Xcl ?_
  refine Jag [(0,Value.slice _ _ _),(11,Value.slice _ _ _),(12,Value.int _ _),(13,Value.int _ _)] (by repeat' (first | exact trivial | refine And.intro rfl ?_)) fun tq0=>?_
  refine q_s [2,3,4,5,6,7,13,14,15,16,17,18,19,20,21,22,23,24,25,26,27,28,29,30,31,32,33,34,35,36,37,38,39,40,41,42,43,44,45,46,47,48,49,50,51,52,53,54,55,56,57,58,59,60,61,62,63,64,65,66,67,68,69,70,71,72,73,74,75,76,77,78,79,80,81,82,83,84,85,86,87,88,89,90,91,92,93,94] (fun g:FSR (Jev x.l) (x.l.length)=>[(13,.int .i64 ((g.1:Nat):Int))]) (fun g=>(x.l.length) - g.1) ⟨0,Jet _ _⟩ ?_
  rintro ⟨k0,hk0,hp0⟩ junk
  try dsimp only
  refine Xar ?_
  refine q_c (fun hc1=>?_) (fun hc1=>?_)
  ·
   obtain ⟨d,hd⟩:=Jar (l:=x.l) (k:=k0) (by omega)
   have hdr:=InR.door hm hd
   have hde:=Ji3 hd
   refine Xa8 ?_
   refine Jo2 ?_
   refine qdk ?_
   refine qaq ?_
   intro b4
   refine qad ?_
   refine Xcv ?_
   refine Xan ?_
   refine q_c (fun hc2=>?_) (fun hc2=>?_)
   ·
    refine Xcj ?_
    refine q_i (L':=L) (R':=R) ?_
    exact ⟨by rw [Jdz (by omega) hp0 (by omega) (hde.trans (if_pos (by omega)))],rfl,rfl⟩
   refine qbo ?_
   refine Xab ?_
   refine Xa2 ?_
   apply Jbi (G:=[_,_,_,_]) (j:=4) (cj:=25) rfl rfl (by rfl) rfl (show _=Value.bool _ from rfl) rfl
   ·
    intro hg5
    replace hg5:=qb hg5
    refine Xab ?_
    refine qa5 ?_
    exact qai
   intro junk5
   refine qaf ?_
   refine q_c (fun hc3=>?_) (fun hc3=>?_)
   ·
    refine Xcj ?_
    refine q_i (L':=L) (R':=R) ?_
    exact J44
   rw [if_neg (by omega),if_neg (by omega)] at hde
   refine qbv ?_
   refine Xc3 ?_
   refine Xbm ?_
   refine Jcv [2,3,4,5,6,7,13,14,15,16,17,18,19,20,21,22,23,24,25,26,27,28,29,30,31,32,33,34,35,36,37,38,39,40,41,42,43,44,45,46,47,48,49,50,51,52,53,54,55,56,57,58,59,60,61,62,63,64,65,66,67,68,69,70,71,72,73,74,75,76,77,78,79,80,81,82,83,84,85,86,87,88,89,90,91,92,93,94] (by repeat (first | apply Off.upd rfl | apply Off.havoc rfl | refine Off.updL (t':=havoc _ _ _) rfl ?_ | exact Off.refl)) [(3,Value.int _ _),(4,Value.pointer _),(5,Value.bool _),(13,Value.int _ _),(32,Value.slice _ _ _),(33,Value.int _ _),(34,Value.int _ _)] (by repeat' (first | exact trivial | refine And.intro rfl ?_)) fun tq1=>?_
   refine q_s [2,5,6,7,34,35,36,37,38,39,40,41,42,43,44,45,46,47,48,49,50,51,52,53,54,55,56,57,58,59,60] (fun g:FS (Jib) (d.rests.l)=>[(34,.int .i64 ((g.1:Nat):Int)),(5,.bool (Jde d.rests.l g.1))]) (fun g=>(d.rests.l).length - g.1) ⟨0,Jec _ _⟩ ?_
   rintro ⟨k1,hk1,hp1⟩ junk
   try dsimp only
   refine Xar ?_
   refine q_c (fun hc4=>?_) (fun hc4=>?_)
   ·
    obtain ⟨r,hr⟩:=Jar (l:=d.rests.l) (k:=k1) (by omega)
    refine Xa8 ?_
    refine Jt0 ?_
    refine qa7 ?_
    refine qad ?_
    refine Xcm ?_
    refine Xa2 ?_
    apply Jbi (G:=[_,_]) (j:=2) (cj:=41) rfl rfl (by rfl) rfl (show _=Value.bool _ from rfl) rfl
    ·
     intro hg3
     replace hg3:=qb hg3
     refine qaa ?_
     refine qa5 ?_
     exact qai
    intro junk3
    refine qaf ?_
    refine q_c (fun hc5=>?_) (fun hc5=>?_)
    ·
     refine Xaf ?_
     refine Jbr (Jaa (Jee (Jbg (Ja6 (Jbg (Jdb (Ja6 (Jbg (Ja6 (Jbg (Jdb (Ja6 (Jbg ?_)))))))))))))
     refine q_i (L':=L) (R':=R) ?_
     exact J5i
    refine Ja4 (Jaa (Jaj ?_))
    refine qah ?_
    refine qah ?_
    apply Jb3 (G:=[_,_,_,_,_,_,_,_,_,_,_,_]) (j:=1) (cj:=46) rfl rfl (by rfl) rfl (show _=Value.bool _ from rfl) rfl
    ·
     intro hg2
     replace hg2:=qb hg2
     refine qaa ?_
     refine Xcr ?_
     apply Jbi (G:=[_,_,_,_,_,_,_,_]) (j:=4) (cj:=49) rfl rfl (by rfl) rfl (show _=Value.bool _ from rfl) rfl
     ·
      intro hg5
      replace hg5:=qb hg5
      have hy:=Jai (l:=d.rests.l) (k:=k1 - 1) 0 (by omega)
      refine qaa ?_
      refine Xah ?_
      refine qa9 ?_
      refine Jax (by first | exact Jaf tb rfl rfl rfl rfl (by first | assumption | exact zr (by simp)) (i:=k1 - 1) (by first | rfl | omega | (simp;omega)) (by omega) | exact Jah tb rfl rfl rfl rfl (i:=k1 - 1) (by first | rfl | omega | (simp;omega)) (by omega)) rfl ?_
      refine qa7 ?_
      refine qaj ?_
      exact qai
     intro junk5
     exact qai
    intro junk2
    refine qaz ?_
    refine Xa5 ?_
    exact Jau ⟨k1 + 1,Jd3 hp1 hr (if_neg (by omega))⟩ (by repeat (first | exact Off.refl | apply Off.upd rfl | apply Off.havoc rfl | apply Off.updL rfl | apply Off.left rfl)) ⟨rfl,congrArg Value.bool (Jtg hr),trivial⟩ (by repeat (first | exact zs0 _ | exact zs1 _ | apply zs2 | apply zs3 | apply zs4 | apply zs5)) (Jac _) (by dsimp only;omega)
   have hn1:=Jdv hp1 (by omega)
   obtain rfl:k1=d.rests.l.length:=by omega
   rw [hn1] at hde
   dsimp only at hde
   refine qcf ?_
   refine qah ?_
   refine Xbu ?_
   refine q_c (fun hc6=>?_) (fun hc6=>?_)
   ·
    refine Xcj ?_
    refine q_i (L':=L) (R':=R) ?_
    exact ⟨by rw [Jdz (by omega) hp0 (by omega) (hde.trans (by rw [if_pos hc6]))],rfl,rfl⟩
   rw [if_neg (by simp [hc6])] at hde
   refine qbv ?_
   refine Xaa ?_
   refine Xb5 ?_
   apply Jb3 (G:=[_,_,_,_,_,_,_,_,_,_,_,_,_,_,_,_,_,_,_,_,_,_,_,_,_,_]) (j:=3) (cj:=66) rfl rfl (by rfl) rfl (show _=Value.bool _ from rfl) rfl
   ·
    intro hg4
    replace hg4:=qb hg4
    refine Xaa ?_
    refine Xa2 ?_
    apply Jbi (G:=[_,_,_,_,_]) (j:=7) (cj:=70) rfl rfl (by rfl) rfl (show _=Value.bool _ from rfl) rfl
    ·
     intro hg8
     replace hg8:=qb hg8
     refine Xaa ?_
     refine Xat ?_
     refine qbz ?_
     exact qai
    intro junk8
    refine qah ?_
    apply Jbi (G:=[_,_,_,_]) (j:=14) (cj:=77) rfl rfl (by rfl) rfl (show _=Value.bool _ from rfl) rfl
    ·
     intro hg15
     replace hg15:=qb hg15
     refine Xah ?_
     refine qbn ?_
     exact qai
    intro junk15
    refine qah ?_
    apply Jbi (G:=[_,_,_,_,_,_,_,_]) (j:=20) (cj:=83) rfl rfl (by rfl) rfl (show _=Value.bool _ from rfl) rfl
    ·
     intro hg21
     replace hg21:=qb hg21
     have ho:=Jai (l:=x.l) (k:=d.other.toNat) default (by omega)
     refine Xch ?_
     refine J5v ?_
     refine Xbc ?_
     refine qaa ?_
     refine qbq ?_
     exact qai
    intro junk21
    exact qai
   intro junk4
   refine qaf ?_
   refine q_c (fun hc7=>?_) (fun hc7=>?_)
   ·
    refine Xbj ?_
    refine q_i (L':=L) (R':=R) ?_
    exact ⟨by rw [Jdz (by omega) hp0 (by omega) (hde.trans (by rw [if_pos (by omega)]))],rfl,rfl⟩
   refine Xay ?_
   exact q_k ⟨k0 + 1,Jds hp0 (by omega) (hde.trans (if_neg (by omega)))⟩
  have hn0:=Je1 hp0 (by omega)
  refine Xce ?_
  refine q_i (L':=L) (R':=R) ?_
  exact ⟨by rw [Jbm,if_neg (by omega),hn0];rfl,rfl,rfl⟩
theorem Ji9 (x:Arr XDoor) (L:List Blk) (R:List Sl) (hm:InR (dsl x) R):
    Tri Try.prog 48 [x.val].toArray L R (fun v L' R'=>v=.int .i64 (Jbm x.l)∧L=L'∧R=R'):=by
  refine Jb7 Try.call48 hm fun hpn=>?_
  refine Jae 104 Try.call48 Try.func48 rfl rfl rfl ?_
  refine Xaf ?_
  refine qaw ?_
  refine Xat ?_
  refine Xbx ?_
  refine q_c (fun hc0=>?_) (fun hc0=>?_)
  ·
   refine Xbn ?_
   refine q_i (L':=L) (R':=R) ?_
   exact ⟨by rw [Jbm,if_pos (by omega)],rfl,rfl⟩
  refine Xcq ?_
  refine Jag [(0,Value.slice _ _ _),(3,Value.int _ _)] (by repeat' (first | exact trivial | refine And.intro rfl ?_)) fun tq0=>?_
  refine q_s [2,3,4,5,6,10,11,12,13,14,15,16,17,18,19,20,21,22,23,24,25,26,27,28,29,30,31,32,33,34,35,36,37,38,39,40,41,42,43,44,45,46,47,48,49,50,51,52,53,54,55,56,57,58,59,60,61,62,63,64,65,66,67,68,69,70,71,72,73,74,75,76,77,78,79,80,81,82,83,84,85,86,87,88,89,90,91,92,93,94,95,96,97,98,99,100,101,102,103] (fun g:FSR (Jev x.l) (x.l.length)=>[(3,.int .i64 ((g.1:Nat):Int))]) (fun g=>(x.l.length) - g.1) ⟨0,Jet _ _⟩ ?_
  rintro ⟨k0,hk0,hp0⟩ junk
  try dsimp only
  refine Xap ?_
  refine Xcy ?_
  refine q_c (fun hc1=>?_) (fun hc1=>?_)
  ·
   obtain ⟨d,hd⟩:=Jar (l:=x.l) (k:=k0) (by omega)
   have hdr:=InR.door hm hd
   have hde:=Ji3 hd
   refine qbb ?_
   refine Xal ?_
   refine Jo2 ?_
   refine qdk ?_
   refine qaq ?_
   intro b4
   refine Xcv ?_
   refine Xan ?_
   refine q_c (fun hc2=>?_) (fun hc2=>?_)
   ·
    refine Xcj ?_
    refine q_i (L':=L) (R':=R) ?_
    exact ⟨by rw [Jdz (by omega) hp0 (by omega) (hde.trans (if_pos (by omega)))],rfl,rfl⟩
   refine qbo ?_
   refine Xab ?_
   refine Xa2 ?_
   apply Jbi (G:=[_,_,_,_]) (j:=4) (cj:=27) rfl rfl (by rfl) rfl (show _=Value.bool _ from rfl) rfl
   ·
    intro hg5
    replace hg5:=qb hg5
    refine Xab ?_
    refine qa5 ?_
    exact qai
   intro junk5
   refine qaf ?_
   refine q_c (fun hc3=>?_) (fun hc3=>?_)
   ·
    refine Xcj ?_
    refine q_i (L':=L) (R':=R) ?_
    exact J44
   rw [if_neg (by omega),if_neg (by omega)] at hde
   refine Xcq ?_
   refine Jcv [2,3,4,5,6,10,11,12,13,14,15,16,17,18,19,20,21,22,23,24,25,26,27,28,29,30,31,32,33,34,35,36,37,38,39,40,41,42,43,44,45,46,47,48,49,50,51,52,53,54,55,56,57,58,59,60,61,62,63,64,65,66,67,68,69,70,71,72,73,74,75,76,77,78,79,80,81,82,83,84,85,86,87,88,89,90,91,92,93,94,95,96,97,98,99,100,101,102,103] (by repeat (first | apply Off.upd rfl | apply Off.havoc rfl | refine Off.updL (t':=havoc _ _ _) rfl ?_ | exact Off.refl)) [(3,Value.int _ _),(4,Value.pointer _),(5,Value.int _ _)] (by repeat' (first | exact trivial | refine And.intro rfl ?_)) fun tq1=>?_
   refine q_s [2,5,33,34,35,36,37,38,39,40,41,42,43,44,45,46,47,48,49,50,51,52,53] (fun g:FS (Jib) (d.rests.l)=>[(5,.int .i64 ((g.1:Nat):Int))]) (fun g=>(d.rests.l).length - g.1) ⟨0,Jec _ _⟩ ?_
   rintro ⟨k1,hk1,hp1⟩ junk
   try dsimp only
   refine Xbq ?_
   refine q_c (fun hc4=>?_) (fun hc4=>?_)
   ·
    obtain ⟨r,hr⟩:=Jar (l:=d.rests.l) (k:=k1) (by omega)
    refine Xci ?_
    refine Jt0 ?_
    refine qa7 ?_
    refine Xa2 ?_
    apply Jbi (G:=[_,_,_,_,_,_]) (j:=6) (cj:=46) rfl rfl (by rfl) rfl (show _=Value.bool _ from rfl) rfl
    ·
     intro hg7
     replace hg7:=qb hg7
     refine Xah ?_
     refine Jt0 ?_
     refine qa7 ?_
     refine qa5 ?_
     exact qai
    intro junk7
    refine qaf ?_
    refine q_c (fun hc5=>?_) (fun hc5=>?_)
    ·
     refine Xaf ?_
     refine Jbr (Jaa (Jee (Ja6 (Jbg (Jdb (Ja6 (Jbg (Ja6 (Jbg (Jdb (Ja6 (Jbg ?_))))))))))))
     refine q_i (L':=L) (R':=R) ?_
     exact J5i
    refine Xbg ?_
    exact q_k ⟨k1 + 1,Jd3 hp1 hr (if_neg (by omega))⟩
   have hn1:=Jdv hp1 (by omega)
   rw [hn1] at hde
   dsimp only at hde
   refine qcf ?_
   refine Xav ?_
   refine Jcv [2,3,4,5,6,10,11,12,13,14,15,16,17,18,19,20,21,22,23,24,25,26,27,28,29,30,31,32,33,34,35,36,37,38,39,40,41,42,43,44,45,46,47,48,49,50,51,52,53,54,55,56,57,58,59,60,61,62,63,64,65,66,67,68,69,70,71,72,73,74,75,76,77,78,79,80,81,82,83,84,85,86,87,88,89,90,91,92,93,94,95,96,97,98,99,100,101,102,103] (by repeat (first | apply Off.upd rfl | apply Off.havoc rfl | refine Off.updL (t':=havoc _ _ _) rfl ?_ | exact Off.refl)) [(3,Value.int _ _),(4,Value.pointer _),(6,Value.int _ _)] (by repeat' (first | exact trivial | refine And.intro rfl ?_)) fun tq2=>?_
   refine q_s [2,6,54,55,56,57,58,59,60,61,62,63,64,65,66,67,68,69,70,71,72] (fun g:{k:Nat // 1≤k∧k≤d.rests.l.length∧Jde d.rests.l k=true}=>[(6,.int .i64 ((g.1:Nat):Int))]) (fun g=>d.rests.l.length - g.1) (⟨1,by omega,by omega,by simp [Jde]⟩) ?_
   rintro ⟨k2,h21,h22,h23⟩ junk
   try dsimp only
   refine Xbq ?_
   refine q_c (fun hc6=>?_) (fun hc6=>?_)
   ·
    obtain ⟨r,hr⟩:=Jar (l:=d.rests.l) (k:=k2) (by omega)
    obtain ⟨y,hy⟩:=Jar (l:=d.rests.l) (k:=k2 - 1) (by omega)
    refine Ja4 (Jaa (Jan (Ja9 (Jan ?_))))
    refine Ja5 tb [0,1,2,3,4,5,6,7,8,9,10,11] _ Jbh (by kernel_rfl) (List.Sublist.refl _) ?_
    refine Xb6 ?_
    refine qbl ?_
    refine Xa0 ?_
    refine qb7 ?_
    refine Jbx (by first | exact Jaf tb rfl rfl rfl rfl (by first | assumption | exact zr (by simp)) (i:=k2 - 1) (by first | rfl | omega | (simp;omega)) (by omega) | exact Jah tb rfl rfl rfl rfl (i:=k2 - 1) (by first | rfl | omega | (simp;omega)) (by omega)) rfl rfl rfl ?_
    refine qbl ?_
    refine Jbx (Jkw rfl rfl) rfl rfl rfl ?_
    refine qbu ?_
    refine q_c (fun hc7=>?_) (fun hc7=>?_)
    ·
     refine Xaf ?_
     refine Jbr (Jaa (Jee (Ja6 (Jbg (Jdb (Ja6 (Jbg (Ja6 (Jbg (Jdb (Ja6 (Jbg ?_))))))))))))
     refine q_i (L':=L) (R':=R) ?_
     exact ⟨by rw [Jdz (by omega) hp0 (by omega) (hde.trans (by rw [if_pos (Jwh (by omega) (by omega) hr hy hc7)]))],rfl,rfl⟩
    refine Xbg ?_
    exact q_k (⟨k2 + 1,by omega,by omega,by rw [Jus (by omega) hr hy,h23,Bool.true_and,decide_eq_true_eq];omega⟩)
   obtain rfl:k2=d.rests.l.length:=by omega
   rw [if_neg (by simp [h23])] at hde
   refine qbk ?_
   refine Xaa ?_
   refine Xb5 ?_
   apply Jb3 (G:=[_,_,_,_,_,_,_,_,_,_,_,_,_,_,_,_,_,_,_,_,_,_,_,_,_,_]) (j:=3) (cj:=76) rfl rfl (by rfl) rfl (show _=Value.bool _ from rfl) rfl
   ·
    intro hg4
    replace hg4:=qb hg4
    refine Xaa ?_
    refine Xa2 ?_
    apply Jbi (G:=[_,_,_,_,_]) (j:=7) (cj:=80) rfl rfl (by rfl) rfl (show _=Value.bool _ from rfl) rfl
    ·
     intro hg8
     replace hg8:=qb hg8
     refine Xaa ?_
     refine Xat ?_
     refine qbz ?_
     exact qai
    intro junk8
    refine qah ?_
    apply Jbi (G:=[_,_,_,_]) (j:=14) (cj:=87) rfl rfl (by rfl) rfl (show _=Value.bool _ from rfl) rfl
    ·
     intro hg15
     replace hg15:=qb hg15
     refine Xah ?_
     refine qbn ?_
     exact qai
    intro junk15
    refine qah ?_
    apply Jbi (G:=[_,_,_,_,_,_,_,_]) (j:=20) (cj:=93) rfl rfl (by rfl) rfl (show _=Value.bool _ from rfl) rfl
    ·
     intro hg21
     replace hg21:=qb hg21
     have ho:=Jai (l:=x.l) (k:=d.other.toNat) default (by omega)
     refine Xch ?_
     refine J5v ?_
     refine Xbc ?_
     refine qaa ?_
     refine qbq ?_
     exact qai
    intro junk21
    exact qai
   intro junk4
   refine qaf ?_
   refine q_c (fun hc8=>?_) (fun hc8=>?_)
   ·
    refine Xbj ?_
    refine q_i (L':=L) (R':=R) ?_
    exact ⟨by rw [Jdz (by omega) hp0 (by omega) (hde.trans (by rw [if_pos (by omega)]))],rfl,rfl⟩
   refine Xbg ?_
   exact q_k ⟨k0 + 1,Jds hp0 (by omega) (hde.trans (if_neg (by omega)))⟩
  have hn0:=Je1 hp0 (by omega)
  refine Xce ?_
  refine q_i (L':=L) (R':=R) ?_
  exact ⟨by rw [Jbm,if_neg (by omega),hn0];rfl,rfl,rfl⟩
end Go.Proofs.Ytihompplndcdeaa
end
section
namespace Go.Proofs.Ytihompplndcdeaa
open Go.Aw Go
set_option maxRecDepth 20000
attribute [local irreducible] CJ LJ DJ Tri YV Gives Jdn Jaw Jbk Jdo RV Jay
def Jsu (n:Nat) (f:XFan):Option Int:=if Jfi f≠0 then some (Jfi f) else if (n:Int)≤f.road then some 4 else none
def Jlq (n:Nat) (d:XDoor):Option Int:=if (n:Int)≤d.road then some 4 else none
def Jat (x:XAir):Int:=
  if Jbs x.mine≠0 then Jbs x.mine else if 8 < x.fans.l.length then 2
  else match x.fans.l.findSome? (Jsu x.mine.roads.l.length) with
    | some e=>e
    | none=>if Jbm x.doors.l≠0 then Jbm x.doors.l else (x.doors.l.findSome? (Jlq x.mine.roads.l.length)).getD 0
theorem Jix {x:XAir} (h:Jbs x.mine=0) (h8:¬ 8 < x.fans.l.length) {e:Int} (hf:x.fans.l.findSome? (Jsu x.mine.roads.l.length)=some e):Jat x=e:=by
  rw [Jat,if_neg (by omega),if_neg h8,hf]
theorem Jji {x:XAir} (h:Jbs x.mine=0) (h8:¬ 8 < x.fans.l.length) (hf:x.fans.l.findSome? (Jsu x.mine.roads.l.length)=none):
    Jat x=if Jbm x.doors.l≠0 then Jbm x.doors.l else (x.doors.l.findSome? (Jlq x.mine.roads.l.length)).getD 0:=by
  rw [Jat,if_neg (by omega),if_neg h8,hf]
theorem Jdy (x:XAir) (L:List Blk) (R:List Sl) (hm:AirR x R):
    Tri Try.prog 33 [x.val].toArray L R (fun v L' R'=>v=.int .i64 (Jat x)∧L=L'∧R=R'):=by
  have hfa:=hm.fans
  have hdo:=hm.doors
  refine Jb7 Try.call33 hfa fun hfn=>?_
  refine Jb7 Try.call33 hdo fun hdn=>?_
  refine Jae 61 Try.call33 Try.func33 rfl rfl rfl ?_
  refine Xaj ?_
  intro b1
  refine Xaw ?_
  refine Xb4 ?_
  refine q_l rfl (Jkm x.mine _ _ hm.mineR) ?_
  refine Xbv ?_
  refine q_c (fun hc0=>?_) (fun hc0=>?_)
  ·
   refine Xbb ?_
   refine Xa4 ?_
   refine q_i (L':=L) (R':=R) ?_
   exact ⟨by rw [Jat,if_pos hc0],rfl,rfl⟩
  simp only [Decidable.not_not] at hc0
  refine qbo ?_
  refine Xab ?_
  refine Xbx ?_
  refine q_c (fun hc1=>?_) (fun hc1=>?_)
  ·
   refine Xbn ?_
   refine q_i (L':=L) (R':=R) ?_
   exact ⟨by rw [Jat,if_neg (by omega),if_pos (by omega)],rfl,rfl⟩
  refine qbo ?_
  refine Xbm ?_
  refine Jag [(1,Value.pointer _),(21,Value.slice _ _ _),(22,Value.int _ _),(23,Value.int _ _)] (by repeat' (first | exact trivial | refine And.intro rfl ?_)) fun tq0=>?_
  refine q_s [2,5,6,23,24,25,26,27,28,29,30,31,32,33,34,35,36,37,38,39] (fun g:FS (Jsu x.mine.roads.l.length) (x.fans.l)=>[(23,.int .i64 ((g.1:Nat):Int))]) (fun g=>(x.fans.l).length - g.1) ⟨0,Jec _ _⟩ ?_
  rintro ⟨k0,hk0,hp0⟩ junk
  try dsimp only
  refine Xar ?_
  refine q_c (fun hc2=>?_) (fun hc2=>?_)
  ·
   obtain ⟨f,hf⟩:=Jar (l:=x.fans.l) (k:=k0) (by omega)
   have hfr:=InR.fan hfa hf
   refine qbb ?_
   refine Jo2 ?_
   refine qdr ?_
   refine qaq ?_
   intro b5
   refine Xbk ?_
   refine qa8 ?_
   refine q_l rfl (Jre f _ _ hfr) ?_
   skip
   refine Xbv ?_
   refine q_c (fun hc3=>?_) (fun hc3=>?_)
   ·
    refine Xbb ?_
    refine qad ?_
    refine qch ?_
    refine q_i (L':=L) (R':=R) ?_
    exact ⟨by rw [Jix hc0 (by omega) (Jc3 hp0 hf (if_pos hc3))],rfl,rfl⟩
   refine qbv ?_
   refine Xaa ?_
   refine Xa7 ?_
   refine qbz ?_
   refine qaf ?_
   refine q_c (fun hc4=>?_) (fun hc4=>?_)
   ·
    refine Xbj ?_
    refine q_i (L':=L) (R':=R) ?_
    exact ⟨by rw [Jix hc0 (by omega) (Jc3 hp0 hf ((if_neg hc3).trans (if_pos hc4)))],rfl,rfl⟩
   refine Xay ?_
   exact q_k ⟨k0 + 1,Jd3 hp0 hf ((if_neg hc3).trans (if_neg hc4))⟩
  have hn0:=Jdv hp0 (by omega)
  have hr:=Jji hc0 (by omega) hn0
  refine qcf ?_
  refine Xaa ?_
  refine q_l rfl (Jj5 x.doors _ _ hdo) ?_
  refine Xbv ?_
  refine q_c (fun hc5=>?_) (fun hc5=>?_)
  ·
   refine Xbb ?_
   refine Xa4 ?_
   refine q_i (L':=L) (R':=R) ?_
   exact ⟨by rw [hr,if_pos hc5],rfl,rfl⟩
  rw [if_neg hc5] at hr
  refine qbo ?_
  refine Xbm ?_
  refine Jag [(1,Value.pointer _),(47,Value.slice _ _ _),(48,Value.int _ _),(49,Value.int _ _)] (by repeat' (first | exact trivial | refine And.intro rfl ?_)) fun tq1=>?_
  refine q_s [2,9,49,50,51,52,53,54,55,56,57,58,59,60] (fun g:FS (Jlq x.mine.roads.l.length) (x.doors.l)=>[(49,.int .i64 ((g.1:Nat):Int))]) (fun g=>(x.doors.l).length - g.1) ⟨0,Jec _ _⟩ ?_
  rintro ⟨k1,hk1,hp1⟩ junk
  try dsimp only
  refine Xar ?_
  refine q_c (fun hc6=>?_) (fun hc6=>?_)
  ·
   obtain ⟨d,hd⟩:=Jar (l:=x.doors.l) (k:=k1) (by omega)
   refine qbb ?_
   refine Jt0 ?_
   refine qdk ?_
   refine qaq ?_
   intro b9
   refine Xcd ?_
   refine Xa7 ?_
   refine qbz ?_
   refine qaf ?_
   refine q_c (fun hc7=>?_) (fun hc7=>?_)
   ·
    refine Xbj ?_
    refine q_i (L':=L) (R':=R) ?_
    exact ⟨by rw [hr,Jc3 hp1 hd (if_pos hc7)];rfl,rfl,rfl⟩
   refine Xay ?_
   exact q_k ⟨k1 + 1,Jd3 hp1 hd (if_neg hc7)⟩
  have hn1:=Jdv hp1 (by omega)
  refine Xce ?_
  refine q_i (L':=L) (R':=R) ?_
  exact ⟨by rw [hr,hn1];rfl,rfl,rfl⟩
theorem Jjh (x:XAir) (L:List Blk) (R:List Sl) (hm:AirR x R):
    Tri Try.prog 29 [x.val].toArray L R (fun v L' R'=>v=.int .i64 (Jat x)∧L=L'∧R=R'):=by
  have hfa:=hm.fans
  have hdo:=hm.doors
  refine Jb7 Try.call29 hfa fun hfn=>?_
  refine Jb7 Try.call29 hdo fun hdn=>?_
  refine Jae 69 Try.call29 Try.func29 rfl rfl rfl ?_
  refine Xaj ?_
  intro b1
  refine Xaw ?_
  refine Xb4 ?_
  refine q_l rfl (Jo1 x.mine _ _ hm.mineR) ?_
  refine Xbv ?_
  refine q_c (fun hc0=>?_) (fun hc0=>?_)
  ·
   refine Xbb ?_
   refine Xa4 ?_
   refine q_i (L':=L) (R':=R) ?_
   exact ⟨by rw [Jat,if_pos hc0],rfl,rfl⟩
  simp only [Decidable.not_not] at hc0
  refine qbo ?_
  refine Xab ?_
  refine Xbx ?_
  refine q_c (fun hc1=>?_) (fun hc1=>?_)
  ·
   refine Xbn ?_
   refine q_i (L':=L) (R':=R) ?_
   exact ⟨by rw [Jat,if_neg (by omega),if_pos (by omega)],rfl,rfl⟩
  refine Xcq ?_
  refine Jag [(1,Value.pointer _),(4,Value.int _ _)] (by repeat' (first | exact trivial | refine And.intro rfl ?_)) fun tq0=>?_
  refine q_s [2,4,5,18,19,20,21,22,23,24,25,26,27,28,29,30,31,32,33,34,35,36,37,38,39,40,41,42,43,44] (fun g:FS (Jsu x.mine.roads.l.length) (x.fans.l)=>[(4,.int .i64 ((g.1:Nat):Int))]) (fun g=>(x.fans.l).length - g.1) ⟨0,Jec _ _⟩ ?_
  rintro ⟨k0,hk0,hp0⟩ junk
  try dsimp only
  refine Xbq ?_
  refine q_c (fun hc2=>?_) (fun hc2=>?_)
  ·
   obtain ⟨f,hf⟩:=Jar (l:=x.fans.l) (k:=k0) (by omega)
   have hfr:=InR.fan hfa hf
   refine Ja4 (Jaa (Jan (Ja9 (Jan (Jan (Jaj ?_))))))
   refine Xah ?_
   refine Jo2 ?_
   refine qdr ?_
   refine q_l rfl (Joy f _ _ hfr) ?_
   refine Xbv ?_
   refine q_c (fun hc3=>?_) (fun hc3=>?_)
   ·
    refine Xbb ?_
    refine qad ?_
    refine qch ?_
    refine q_i (L':=L) (R':=R) ?_
    exact ⟨by rw [Jix hc0 (by omega) (Jc3 hp0 hf (if_pos hc3))],rfl,rfl⟩
   refine qcl ?_
   refine J3d ?_
   refine Xa0 ?_
   refine Jbx (by first | exact Jaf tb rfl rfl rfl rfl (by first | assumption | exact zr (by simp)) (i:=k0) (by first | rfl | omega | (simp;omega)) (by omega) | exact Jah tb rfl rfl rfl rfl (i:=k0) (by first | rfl | omega | (simp;omega)) (by omega)) rfl rfl rfl ?_
   refine Xb9 ?_
   refine qal ?_
   refine Xad ?_
   refine Jbx (Jew tb rfl rfl rfl) rfl rfl rfl ?_
   refine Jbx (Jkw rfl rfl) rfl rfl rfl ?_
   refine qbu ?_
   refine q_c (fun hc4=>?_) (fun hc4=>?_)
   ·
    refine Xbj ?_
    refine q_i (L':=L) (R':=R) ?_
    exact ⟨by rw [Jix hc0 (by omega) (Jc3 hp0 hf ((if_neg hc3).trans (if_pos hc4)))],rfl,rfl⟩
   refine Xbg ?_
   exact q_k ⟨k0 + 1,Jd3 hp0 hf ((if_neg hc3).trans (if_neg hc4))⟩
  have hn0:=Jdv hp0 (by omega)
  have hr:=Jji hc0 (by omega) hn0
  refine qcf ?_
  refine Xaa ?_
  refine q_l rfl (Ji9 x.doors _ _ hdo) ?_
  refine Xbv ?_
  refine q_c (fun hc5=>?_) (fun hc5=>?_)
  ·
   refine Xbb ?_
   refine Xa4 ?_
   refine q_i (L':=L) (R':=R) ?_
   exact ⟨by rw [hr,if_pos hc5],rfl,rfl⟩
  rw [if_neg hc5] at hr
  refine Xcq ?_
  refine Jag [(1,Value.pointer _),(7,Value.int _ _)] (by repeat' (first | exact trivial | refine And.intro rfl ?_)) fun tq1=>?_
  refine q_s [2,7,51,52,53,54,55,56,57,58,59,60,61,62,63,64,65,66,67,68] (fun g:FS (Jlq x.mine.roads.l.length) (x.doors.l)=>[(7,.int .i64 ((g.1:Nat):Int))]) (fun g=>(x.doors.l).length - g.1) ⟨0,Jec _ _⟩ ?_
  rintro ⟨k1,hk1,hp1⟩ junk
  try dsimp only
  refine Xbq ?_
  refine q_c (fun hc6=>?_) (fun hc6=>?_)
  ·
   obtain ⟨d,hd⟩:=Jar (l:=x.doors.l) (k:=k1) (by omega)
   refine Ja4 (Jaa (Jan (Ja9 (Jan ?_))))
   refine J3d ?_
   refine Xa0 ?_
   refine J1s ?_
   refine Xb9 ?_
   refine qal ?_
   refine Xad ?_
   refine Jbx (Jew tb rfl rfl rfl) rfl rfl rfl ?_
   refine Jbx (Jkw rfl rfl) rfl rfl rfl ?_
   refine qbu ?_
   refine q_c (fun hc7=>?_) (fun hc7=>?_)
   ·
    refine Xbj ?_
    refine q_i (L':=L) (R':=R) ?_
    exact ⟨by rw [hr,Jc3 hp1 hd (if_pos hc7)];rfl,rfl,rfl⟩
   refine Xbg ?_
   exact q_k ⟨k1 + 1,Jd3 hp1 hd (if_neg hc7)⟩
  have hn1:=Jdv hp1 (by omega)
  refine Xce ?_
  refine q_i (L':=L) (R':=R) ?_
  exact ⟨by rw [hr,hn1];rfl,rfl,rfl⟩
def Jgb (x:Int):Option Unit:=if x < -1∨2 < x then some () else none
def Jda (l:List XDoor) (s:List Int) (i:Nat):Option Unit:=
  match s[i]?,l[i]? with
  | some y,some d=>if y < -1∨(d.rests.l.length:Int)≤y then some () else none
  | _,_=>none
def Jdl (a:XAir) (s:XSetting):Bool:=
  if s.fans.l.length≠a.fans.l.length∨s.doors.l.length≠a.doors.l.length then false
  else (s.fans.l.findSome? Jgb).isNone && ((List.range s.doors.l.length).findSome? (Jda a.doors.l s.doors.l)).isNone
def Jea (a:XAir) (s:XSetting):Bool:=decide (Jat a=0) && Jdl a s
theorem Jf5 {l:List XDoor} {s:List Int} {i:Nat} {y:Int} {d:XDoor} (hy:s[i]?=some y) (hd:l[i]?=some d):Jda l s i=if y < -1∨(d.rests.l.length:Int)≤y then some () else none:=by
  rw [Jda,hy,hd]
theorem Jg6 {a:XAir} {s:XSetting} (h:s.fans.l.length=a.fans.l.length) (h':s.doors.l.length=a.doors.l.length):Jdl a s=((s.fans.l.findSome? Jgb).isNone && ((List.range s.doors.l.length).findSome? (Jda a.doors.l s.doors.l)).isNone):=by
  rw [Jdl,if_neg (by omega)]
theorem Je8 (a:XAir) (s:XSetting) (L:List Blk) (R:List Sl) (hm:AirR a R) (hs:SetR s R):
    Tri Try.prog 34 [a.val,s.val].toArray L R (fun v L' R'=>v=.bool (Jdl a s)∧L=L'∧R=R'):=by
  have hfa:=hm.fans
  have hdo:=hm.doors
  have hsf:=hs.fans
  have hsd:=hs.doors
  refine Jb7 Try.call34 hsf fun hfn=>?_
  refine Jb7 Try.call34 hsd fun hdn=>?_
  refine Jae 61 Try.call34 Try.func34 rfl rfl rfl ?_
  refine Xaj ?_
  intro b2
  refine qax ?_
  intro b3
  refine Xc3 ?_
  refine Xab ?_
  refine Xab ?_
  refine Xb5 ?_
  apply Jbi (G:=[_,_,_,_,_,_,_]) (j:=7) (cj:=16) rfl rfl (by rfl) rfl (show _=Value.bool _ from rfl) rfl
  ·
   intro hg8
   replace hg8:=qb hg8
   refine Xab ?_
   refine Xab ?_
   refine qbq ?_
   exact qai
  intro junk8
  refine qaf ?_
  refine q_c (fun hc0=>?_) (fun hc0=>?_)
  ·
   refine Xbh ?_
   refine qbh ?_
   refine q_b (L':=L) (R':=R) ?_
   exact ⟨by rw [Jdl,if_pos (by omega)],rfl,rfl⟩
  refine qbo ?_
  refine Xbm ?_
  refine Jag [(2,Value.pointer _),(3,Value.pointer _),(26,Value.slice _ _ _),(27,Value.int _ _),(28,Value.int _ _)] (by repeat' (first | exact trivial | refine And.intro rfl ?_)) fun tq0=>?_
  refine q_s [4,6,28,29,30,31,32,33,34,35,36,37,38] (fun g:FS (Jgb) (s.fans.l)=>[(28,.int .i64 ((g.1:Nat):Int))]) (fun g=>(s.fans.l).length - g.1) ⟨0,Jec _ _⟩ ?_
  rintro ⟨k0,hk0,hp0⟩ junk
  try dsimp only
  refine Xar ?_
  refine q_c (fun hc1=>?_) (fun hc1=>?_)
  ·
   obtain ⟨x,hx⟩:=Jar (l:=s.fans.l) (k:=k0) (by omega)
   refine qbb ?_
   refine Jo2 ?_
   refine qa7 ?_
   refine Xax ?_
   refine Xa2 ?_
   apply Jbi (G:=[_,_]) (j:=2) (cj:=34) rfl rfl (by rfl) rfl (show _=Value.bool _ from rfl) rfl
   ·
    intro hg3
    replace hg3:=qb hg3
    refine qaa ?_
    refine qa5 ?_
    exact qai
   intro junk3
   refine qaf ?_
   refine q_c (fun hc2=>?_) (fun hc2=>?_)
   ·
    refine Xbh ?_
    refine qbt ?_
    refine q_b (L':=L) (R':=R) ?_
    exact ⟨by rw [Jg6 (by omega) (by omega),Jc3 hp0 hx (if_pos (by omega))];rfl,rfl,rfl⟩
   refine Xay ?_
   exact q_k ⟨k0 + 1,Jd3 hp0 hx (if_neg (by omega))⟩
  have hn0:=Jdv hp0 (by omega)
  refine qcf ?_
  refine Xbm ?_
  refine Jag [(2,Value.pointer _),(40,Value.slice _ _ _),(41,Value.int _ _),(42,Value.int _ _)] (by repeat' (first | exact trivial | refine And.intro rfl ?_)) fun tq1=>?_
  refine q_s [4,7,8,42,43,44,45,46,47,48,49,50,51,52,53,54,55,56,57,58,59,60] (fun g:FSR (Jda a.doors.l s.doors.l) (s.doors.l.length)=>[(42,.int .i64 ((g.1:Nat):Int))]) (fun g=>(s.doors.l.length) - g.1) ⟨0,Jet _ _⟩ ?_
  rintro ⟨k1,hk1,hp1⟩ junk
  try dsimp only
  refine Xar ?_
  refine q_c (fun hc3=>?_) (fun hc3=>?_)
  ·
   obtain ⟨y,hy⟩:=Jar (l:=s.doors.l) (k:=k1) (by omega)
   obtain ⟨d,hd⟩:=Jar (l:=a.doors.l) (k:=k1) (by omega)
   have he:=Jf5 hy hd
   refine Xa8 ?_
   refine Jt0 ?_
   refine qa7 ?_
   refine qad ?_
   refine Xax ?_
   refine Xa2 ?_
   apply Jbi (G:=[_,_,_,_,_,_,_,_,_]) (j:=2) (cj:=49) rfl rfl (by rfl) rfl (show _=Value.bool _ from rfl) rfl
   ·
    intro hg3
    replace hg3:=qb hg3
    refine qaa ?_
    refine Xah ?_
    refine Jt0 ?_
    refine Xbc ?_
    refine qag ?_
    refine qbz ?_
    exact qai
   intro junk3
   refine qaf ?_
   refine q_c (fun hc4=>?_) (fun hc4=>?_)
   ·
    refine Xbh ?_
    refine qbt ?_
    refine q_b (L':=L) (R':=R) ?_
    exact ⟨by rw [Jg6 (by omega) (by omega),Jfc hp1 (by omega) (he.trans (if_pos (by omega)))];simp,rfl,rfl⟩
   refine Xay ?_
   exact q_k ⟨k1 + 1,Jds hp1 (by omega) (he.trans (if_neg (by omega)))⟩
  have hn1:=Je1 hp1 (by omega)
  refine qbk ?_
  refine Xa9 ?_
  refine q_b (L':=L) (R':=R) ?_
  exact ⟨by rw [Jg6 (by omega) (by omega),hn0,hn1];rfl,rfl,rfl⟩
theorem Jrp (a:XAir) (s:XSetting) (L:List Blk) (R:List Sl) (hm:AirR a R) (hs:SetR s R):
    Tri Try.prog 41 [a.val,s.val].toArray L R (fun v L' R'=>v=.bool (Jea a s)∧L=L'∧R=R'):=by
  refine Jae 13 Try.call41 Try.func41 rfl rfl rfl ?_
  refine Xaj ?_
  intro b2
  refine qax ?_
  intro b3
  refine Xct ?_
  refine qa8 ?_
  refine q_l rfl (Jdy a _ _ hm) ?_
  refine Xcr ?_
  apply Jb3 (G:=[_,_,_]) (j:=3) (cj:=8) rfl rfl (by rfl) rfl (show _=Value.bool _ from rfl) rfl
  ·
   intro hg4
   replace hg4:=qb hg4
   refine Xaz ?_
   refine q_l rfl (Je8 a s _ _ hm hs) ?_
   exact qai
  intro junk4
  refine Xa9 ?_
  refine q_b (L':=L) (R':=R) ?_
  exact ⟨rfl,rfl,rfl⟩
theorem Jjc (a:XAir) (s:XSetting) (L:List Blk) (R:List Sl) (hm:AirR a R) (hs:SetR s R):
    Tri Try.prog 30 [a.val,s.val].toArray L R (fun v L' R'=>v=.bool (Jea a s)∧L=L'∧R=R'):=by
  have hfa:=hm.fans
  have hdo:=hm.doors
  have hsf:=hs.fans
  have hsd:=hs.doors
  refine Jb7 Try.call30 hsf fun hfn=>?_
  refine Jb7 Try.call30 hsd fun hdn=>?_
  refine Jae 77 Try.call30 Try.func30 rfl rfl rfl ?_
  refine Xaj ?_
  intro b2
  refine qax ?_
  intro b3
  refine Xc3 ?_
  refine qa8 ?_
  refine q_l rfl (Jjh a _ _ hm) ?_
  refine Xb5 ?_
  apply Jbi (G:=[_,_,_,_,_,_,_]) (j:=3) (cj:=10) rfl rfl (by rfl) rfl (show _=Value.bool _ from rfl) rfl
  ·
   intro hg4
   replace hg4:=qb hg4
   refine Xab ?_
   refine Xab ?_
   refine qbq ?_
   exact qai
  intro junk4
  refine qah ?_
  apply Jbi (G:=[_,_,_,_,_,_,_]) (j:=12) (cj:=19) rfl rfl (by rfl) rfl (show _=Value.bool _ from rfl) rfl
  ·
   intro hg13
   replace hg13:=qb hg13
   refine Xab ?_
   refine Xab ?_
   refine qbq ?_
   exact qai
  intro junk13
  refine qaf ?_
  refine q_c (fun hc0=>?_) (fun hc0=>?_)
  ·
   have hr:Jea a s=false:=by rw [Jea,Jdl];by_cases he:Jat a=0;rw [if_pos (by omega)];simp;simp [he]
   refine Xbh ?_
   refine qbh ?_
   refine q_b (L':=L) (R':=R) ?_
   exact ⟨by rw [hr],rfl,rfl⟩
  have hr:Jea a s=Jdl a s:=by rw [Jea,decide_eq_true (by omega)];rfl
  refine Xcq ?_
  refine Jag [(2,Value.pointer _),(3,Value.pointer _),(5,Value.int _ _)] (by repeat' (first | exact trivial | refine And.intro rfl ?_)) fun tq0=>?_
  refine q_s [4,5,28,29,30,31,32,33,34,35,36,37,38,39,40,41,42,43,44,45,46,47,48] (fun g:FS (Jgb) (s.fans.l)=>[(5,.int .i64 ((g.1:Nat):Int))]) (fun g=>(s.fans.l).length - g.1) ⟨0,Jec _ _⟩ ?_
  rintro ⟨k0,hk0,hp0⟩ junk
  try dsimp only
  refine Xbq ?_
  refine q_c (fun hc1=>?_) (fun hc1=>?_)
  ·
   obtain ⟨x,hx⟩:=Jar (l:=s.fans.l) (k:=k0) (by omega)
   refine Xci ?_
   refine Jo2 ?_
   refine qa7 ?_
   refine Xa2 ?_
   apply Jbi (G:=[_,_,_,_,_,_]) (j:=6) (cj:=41) rfl rfl (by rfl) rfl (show _=Value.bool _ from rfl) rfl
   ·
    intro hg7
    replace hg7:=qb hg7
    refine Xah ?_
    refine Jo2 ?_
    refine qa7 ?_
    refine qa5 ?_
    exact qai
   intro junk7
   refine qaf ?_
   refine q_c (fun hc2=>?_) (fun hc2=>?_)
   ·
    refine Xbh ?_
    refine qbt ?_
    refine q_b (L':=L) (R':=R) ?_
    exact ⟨by rw [hr,Jg6 (by omega) (by omega),Jc3 hp0 hx (if_pos (by omega))];rfl,rfl,rfl⟩
   refine Xbg ?_
   exact q_k ⟨k0 + 1,Jd3 hp0 hx (if_neg (by omega))⟩
  have hn0:=Jdv hp0 (by omega)
  refine qcf ?_
  refine Xav ?_
  refine Jag [(2,Value.pointer _),(3,Value.pointer _),(6,Value.int _ _)] (by repeat' (first | exact trivial | refine And.intro rfl ?_)) fun tq1=>?_
  refine q_s [4,6,49,50,51,52,53,54,55,56,57,58,59,60,61,62,63,64,65,66,67,68,69,70,71,72,73,74,75,76] (fun g:FSR (Jda a.doors.l s.doors.l) (s.doors.l.length)=>[(6,.int .i64 ((g.1:Nat):Int))]) (fun g=>(s.doors.l.length) - g.1) ⟨0,Jet _ _⟩ ?_
  rintro ⟨k1,hk1,hp1⟩ junk
  try dsimp only
  refine Xbq ?_
  refine q_c (fun hc3=>?_) (fun hc3=>?_)
  ·
   obtain ⟨y,hy⟩:=Jar (l:=s.doors.l) (k:=k1) (by omega)
   obtain ⟨d,hd⟩:=Jar (l:=a.doors.l) (k:=k1) (by omega)
   have he:=Jf5 hy hd
   refine Ja4 (Jaa (Jan (Ja9 (Jan ?_))))
   refine Ja5 tb [0,1,2,3,4,5,6,7,8,9,10,11,12,13,14,15,16,17,18,19,20] _ Jbh (by kernel_rfl) (List.Sublist.refl _) ?_
   refine Xa0 ?_
   refine J1s ?_
   refine qbl ?_
   refine Jbx (Jna rfl rfl) rfl rfl rfl ?_
   refine qb2 ?_
   refine Jep (k:=62) (show _=Value.bool _ from rfl) (fun hg6=>?_) (fun hg6=>?_)
   ·
    replace hg6:=qb hg6
    iterate 13 refine qap ?_
    refine Xbi ?_
    refine Jco rfl ?_
    refine Xbh ?_
    refine qbt ?_
    refine q_b (L':=L) (R':=R) ?_
    exact J5q
   replace hg6:=qb hg6
   refine Xa0 ?_
   refine J1s ?_
   refine qbl ?_
   refine Xa0 ?_
   refine J1s ?_
   refine Xb9 ?_
   refine Jbx (Jew tb rfl rfl rfl) rfl rfl rfl ?_
   refine Jbx (Jkw rfl rfl) rfl rfl rfl ?_
   refine Xbi ?_
   refine q_c (fun hc4=>?_) (fun hc4=>?_)
   ·
    refine Xbh ?_
    refine qbt ?_
    refine q_b (L':=L) (R':=R) ?_
    exact J5q
   refine Xbg ?_
   exact q_k ⟨k1 + 1,Jds hp1 (by omega) (he.trans (if_neg (by omega)))⟩
  have hn1:=Je1 hp1 (by omega)
  refine qbk ?_
  refine Xa9 ?_
  refine q_b (L':=L) (R':=R) ?_
  exact ⟨by rw [hr,Jg6 (by omega) (by omega),hn0,hn1];rfl,rfl,rfl⟩
end Go.Proofs.Ytihompplndcdeaa
end
section
namespace Go.Proofs.Ytihompplndcdeaa
open Go.Aw Go
set_option maxRecDepth 20000
attribute [local irreducible] CJ LJ DJ Tri YV Gives Jdn Jaw Jbk Jdo RV Jay
def Jol (l : List Int) : Nat → Int
  | 0=>l.getD 0 0
  | k + 1=>min (Jol l k) (l.getD k 0)
def Jmu (l : List Int) : Nat → Int
  | 0=>l.getD 0 0
  | k + 1=>max (Jmu l k) (l.getD k 0)
def Jeh (d:XDoor) (s:Int):XSpan:=
  if d.rests.l.length=0∨s < -1∨(d.rests.l.length:Int)≤s then ⟨0,0⟩
  else if s= -1 then ⟨Jol d.rests.l d.rests.l.length,Jmu d.rests.l d.rests.l.length⟩
  else ⟨d.rests.l.getD s.toNat 0,d.rests.l.getD s.toNat 0⟩
theorem J3k (x:Arr Int) (L:List Blk) (R:List Sl) (hm:InR (isl x) R) (h1:1≤x.l.length):
    Tri Try.prog 92 [x.val].toArray L R (fun v L' R'=>v=.int .i64 (Jol x.l x.l.length)∧L=L'∧R=R'):=by
  refine Jb7 Try.call92 hm fun hpn=>?_
  have h0:=Jai (l:=x.l) (k:=0) 0 (by omega)
  refine Jae 25 Try.call92 Try.func92 rfl rfl rfl ?_
  refine Xaf ?_
  refine qaw ?_
  refine Xcy ?_
  refine Jka (show _=Value.bool _ from rfl) (by simp;omega) ?_
  refine qbv ?_
  refine qbm ?_
  refine qdt ?_
  refine qa7 ?_
  refine Xaw ?_
  refine Xav ?_
  refine Jag [(0,Value.slice _ _ _),(3,Value.int _ _),(4,Value.int _ _)] (by repeat' (first | exact trivial | refine And.intro rfl ?_)) fun tq0=>?_
  refine Jqf [3,4,12,13,14,15,16,17,18,19,20,21,22,23] (fun g:{k:Nat // 1≤k∧k≤x.l.length}=>[(4,.int .i64 ((g.1:Nat):Int)),(3,.int .i64 (Jol x.l g.1))]) (fun g=>x.l.length - g.1) (⟨1,by omega,by omega⟩) ⟨rfl,congrArg (Value.int .i64) (Int.min_self _).symm,trivial⟩ ?_
  rintro ⟨k,hk1,hk2⟩ junk
  try dsimp only
  refine Xap ?_
  refine Xcy ?_
  refine q_c (fun hc1=>?_) (fun hc1=>?_)
  ·
   have hk:=Jai (l:=x.l) (k:=k) 0 (by omega)
   refine Ja4 (Jaa (Jan (Ja9 (Jaj ?_))))
   refine qaa ?_
   refine Xal ?_
   refine Xc1 ?_
   refine Jax (Jtj rfl rfl) rfl ?_
   refine qad ?_
   refine Xca ?_
   exact qd0
  obtain rfl:k=x.l.length:=by omega
  refine qbk ?_
  refine qaa ?_
  refine Xau ?_
  refine q_i (L':=L) (R':=R) ?_
  exact ⟨rfl,rfl,rfl⟩
theorem J2h (x:Arr Int) (L:List Blk) (R:List Sl) (hm:InR (isl x) R) (h1:1≤x.l.length):
    Tri Try.prog 93 [x.val].toArray L R (fun v L' R'=>v=.int .i64 (Jmu x.l x.l.length)∧L=L'∧R=R'):=by
  refine Jb7 Try.call93 hm fun hpn=>?_
  have h0:=Jai (l:=x.l) (k:=0) 0 (by omega)
  refine Jae 25 Try.call93 Try.func93 rfl rfl rfl ?_
  refine Xaf ?_
  refine qaw ?_
  refine Xcy ?_
  refine Jka (show _=Value.bool _ from rfl) (by simp;omega) ?_
  refine qbv ?_
  refine qbm ?_
  refine qdt ?_
  refine qa7 ?_
  refine Xaw ?_
  refine Xav ?_
  refine Jag [(0,Value.slice _ _ _),(3,Value.int _ _),(4,Value.int _ _)] (by repeat' (first | exact trivial | refine And.intro rfl ?_)) fun tq0=>?_
  refine Jqf [3,4,12,13,14,15,16,17,18,19,20,21,22,23] (fun g:{k:Nat // 1≤k∧k≤x.l.length}=>[(4,.int .i64 ((g.1:Nat):Int)),(3,.int .i64 (Jmu x.l g.1))]) (fun g=>x.l.length - g.1) (⟨1,by omega,by omega⟩) ⟨rfl,congrArg (Value.int .i64) (Int.max_self _).symm,trivial⟩ ?_
  rintro ⟨k,hk1,hk2⟩ junk
  try dsimp only
  refine Xap ?_
  refine Xcy ?_
  refine q_c (fun hc1=>?_) (fun hc1=>?_)
  ·
   have hk:=Jai (l:=x.l) (k:=k) 0 (by omega)
   refine Ja4 (Jaa (Jan (Ja9 (Jaj ?_))))
   refine qaa ?_
   refine Xal ?_
   refine Xc1 ?_
   refine Jax (Jk3 rfl rfl) rfl ?_
   refine qad ?_
   refine Xca ?_
   exact qd0
  obtain rfl:k=x.l.length:=by omega
  refine qbk ?_
  refine qaa ?_
  refine Xau ?_
  refine q_i (L':=L) (R':=R) ?_
  exact ⟨rfl,rfl,rfl⟩
theorem J0m (d:XDoor) (s:Int) (L:List Blk) (R:List Sl) (hm:InR d.sl R):
    Tri Try.prog 82 [d.val,.int .i64 s].toArray L R (fun v L' R'=>v=(Jeh d s).val∧L=L'∧R=R'):=by
  refine Jb7 Try.call82 hm fun hpn=>?_
  refine Jae 43 Try.call82 Try.func82 rfl rfl rfl ?_
  refine Xaj ?_
  intro b2
  refine qaq ?_
  intro b4
  refine Jbr (Jaa (Jan (Ja9 (Jan (Jaj ?_)))))
  refine Xab ?_
  refine Xcr ?_
  apply Jbi (G:=[_,_]) (j:=4) (cj:=10) rfl rfl (by rfl) rfl (show _=Value.bool _ from rfl) rfl
  ·
   intro hg5
   replace hg5:=qb hg5
   refine qaa ?_
   refine qaj ?_
   exact qai
  intro junk5
  refine qah ?_
  apply Jbi (G:=[_,_,_,_,_]) (j:=8) (cj:=14) rfl rfl (by rfl) rfl (show _=Value.bool _ from rfl) rfl
  ·
   intro hg9
   replace hg9:=qb hg9
   refine qaa ?_
   refine Xab ?_
   refine qbz ?_
   exact qai
  intro junk9
  refine Xbt ?_
  refine q_c (fun hc0=>?_) (fun hc0=>?_)
  ·
   refine qae ?_
   refine qck ?_
   refine qak ?_
   refine qdb ?_
   refine q_r (L':=L) (R':=R) (Jd4 rfl (Ja0 (row:=[_,_]) tb rfl rfl rfl (by repeat (first | exact zi0 | apply zi1 | apply zi2)) (by rfl) (by rfl))) ?_
   exact ⟨by rw [Jeh,if_pos (by omega)],rfl,rfl⟩
  refine Xbb ?_
  refine qbn ?_
  refine Xbt ?_
  refine q_c (fun hc1=>?_) (fun hc1=>?_)
  ·
   refine Jan ?_
   refine Jaz tb [] [0,1,3,4,2,5,6] [7] (_) _ Jbh (by kernel_rfl) (by repeat (first | exact zs0 _ | exact zs1 _ | apply zs2 | apply zs3 | apply zs4 | apply zs5)) (by (repeat (first | apply List.Sublist.cons (a:=Blk.mk b4 _ _) | apply List.Sublist.cons_cons));exact List.Sublist.refl _) ?_
   refine Xac ?_
   refine Xac ?_
   refine Jbt rfl (J3k d.rests _ _ hm (by omega)) rfl rfl ?_
   rintro v L' R' ⟨rfl,rfl,rfl⟩
   refine qas ?_
   refine Jbt rfl (J2h d.rests _ _ hm (by omega)) rfl rfl ?_
   rintro v L' R' ⟨rfl,rfl,rfl⟩
   refine qas ?_
   refine qcw ?_
   refine qba ?_
   refine qbg ?_
   refine Jb8 (Jaa (Jee (Ja6 (Jbg ?_))))
   refine q_r (L':=L) (R':=R) (Jd4 rfl (Ja0 (row:=[_,_]) tb rfl rfl rfl (by repeat (first | exact zi0 | apply zi1 | apply zi2)) (by rfl) (by rfl))) ?_
   exact ⟨by rw [Jeh,if_neg (by omega),if_pos (by omega)],rfl,rfl⟩
  refine Ja4 (Ja7 (Jaa (Jan ?_)))
  have hk:=Jai (l:=d.rests.l) (k:=s.toNat) 0 (by omega)
  refine J5f ?_
  refine Xba ?_
  refine Jz2 ?_
  refine qci ?_
  refine Xba ?_
  refine Jz2 ?_
  refine qci ?_
  refine qcw ?_
  refine qba ?_
  refine qbg ?_
  refine Jb8 (Jaa (Jee ?_))
  refine q_r (L':=L) (R':=R) (Jd4 rfl (Ja0 (row:=[_,_]) tb rfl rfl rfl (by repeat (first | exact zi0 | apply zi1 | apply zi2)) (by rfl) (by rfl))) ?_
  exact ⟨by rw [Jeh,if_neg (by omega),if_neg (by omega)],rfl,rfl⟩
theorem Jkr (d:XDoor) (s:Int) (L:List Blk) (R:List Sl) (hm:InR d.sl R):
    Tri Try.prog 44 [d.val,.int .i64 s].toArray L R (fun v L' R'=>v=(Jeh d s).val∧L=L'∧R=R'):=by
  refine Jb7 Try.call44 hm fun hpn=>?_
  refine Jae 71 Try.call44 Try.func44 rfl rfl rfl ?_
  refine Xaj ?_
  intro b2
  refine qaq ?_
  intro b4
  refine qaw ?_
  refine Xab ?_
  refine Xcr ?_
  apply Jbi (G:=[_,_]) (j:=4) (cj:=11) rfl rfl (by rfl) rfl (show _=Value.bool _ from rfl) rfl
  ·
   intro hg5
   replace hg5:=qb hg5
   refine qaa ?_
   refine qaj ?_
   exact qai
  intro junk5
  refine qah ?_
  apply Jbi (G:=[_,_,_,_,_]) (j:=8) (cj:=15) rfl rfl (by rfl) rfl (show _=Value.bool _ from rfl) rfl
  ·
   intro hg9
   replace hg9:=qb hg9
   refine qaa ?_
   refine Xab ?_
   refine qbz ?_
   exact qai
  intro junk9
  refine qaf ?_
  refine q_c (fun hc0=>?_) (fun hc0=>?_)
  ·
   refine qae ?_
   refine qck ?_
   refine qak ?_
   refine qbh ?_
   refine q_r (L':=L) (R':=R) (Jd4 rfl (Ja0 (row:=[_,_]) tb rfl rfl rfl (by repeat (first | exact zi0 | apply zi1 | apply zi2)) (by rfl) (by rfl))) ?_
   exact ⟨by rw [Jeh,if_pos (by omega)],rfl,rfl⟩
  refine qbo ?_
  refine qaa ?_
  refine qbz ?_
  refine qaf ?_
  refine q_c (fun hc1=>?_) (fun hc1=>?_)
  ·
   refine Jan ?_
   have hk:=Jai (l:=d.rests.l) (k:=s.toNat) 0 (by omega)
   refine J5f ?_
   refine Xba ?_
   refine Jz2 ?_
   refine qci ?_
   refine Xba ?_
   refine Jz2 ?_
   refine qci ?_
   refine qcw ?_
   refine qba ?_
   refine qbg ?_
   refine Jb8 (Jaa (Jee (Jbg ?_)))
   refine q_r (L':=L) (R':=R) (Jd4 rfl (Ja0 (row:=[_,_]) tb rfl rfl rfl (by repeat (first | exact zi0 | apply zi1 | apply zi2)) (by rfl) (by rfl))) ?_
   exact ⟨by rw [Jeh,if_neg (by omega),if_neg (by omega)],rfl,rfl⟩
  refine qcl ?_
  have h0:=Jai (l:=d.rests.l) (k:=0) 0 (by omega)
  refine J3d ?_
  refine Xad ?_
  refine qdu ?_
  refine qbl ?_
  refine Xad ?_
  refine qdu ?_
  refine qbl ?_
  refine Jbx (Jbo (qs:=[(0,(Value.int _ _).cells.toList),(1,(Value.int _ _).cells.toList)]) (out:=[_,_]) tb rfl rfl rfl rfl) rfl rfl rfl ?_
  refine qbr ?_
  intro b5
  refine qbg ?_
  refine qc6 ?_
  refine Xav ?_
  refine Jag [(2,Value.pointer _),(4,Value.pointer _),(5,Value.pointer _),(6,Value.int _ _)] (by repeat' (first | exact trivial | refine And.intro rfl ?_)) fun tq0=>?_
  refine q_p [6,45,46,47,48,49,50,51,52,53,54,55,56,57,58,59,60,61,62,63,64,65,66,67,68,69] ((⟨fun g=>[(6,.int .i64 ((g.1:Nat):Int))],fun g=>⟨b5,[.int .i64 (Jol d.rests.l g.1),.int .i64 (Jmu d.rests.l g.1)],54⟩ :: ⟨b4,[.int .i64 0,.int .i64 0],54⟩ :: ⟨b2,d.cells,82⟩ :: L,fun _=>R,fun g=>d.rests.l.length - g.1⟩:Head {k:Nat // k≤d.rests.l.length})) (⟨0,by omega⟩) ?_
  rintro ⟨k,hk⟩ junk
  try dsimp only
  refine Xbq ?_
  refine q_c (fun hc2=>?_) (fun hc2=>?_)
  ·
   have hx:=Jai (l:=d.rests.l) (k:=k) 0 (by omega)
   refine Ja4 (Jaa (Jan (Ja9 ?_)))
   refine Jaz tb [62,63,64,65,66,67] [0,1,2,3,4,5,6,7,8,9,10,11,12,13,14,15,16] [17,18,19] (_) _ Jbh (by kernel_rfl) (by repeat (first | exact zs0 _ | exact zs1 _ | apply zs2 | apply zs3 | apply zs4 | apply zs5)) (by (repeat (first | apply List.Sublist.cons (a:=Blk.mk b5 _ _) | apply List.Sublist.cons_cons));exact List.Sublist.refl _) ?_
   refine Xac ?_
   refine Xba ?_
   refine qc5 ?_
   refine qci ?_
   refine Jb1 (Jtj rfl rfl) rfl rfl rfl rfl ?_
   refine Xac ?_
   refine Xb8 ?_
   refine Jgf (Jap (show _=Value.int _ _ from rfl)) rfl rfl rfl rfl ?_
   refine Jgf (by first | exact Jaf tb rfl rfl rfl rfl (by first | assumption | exact zr (by simp)) rfl (by omega) | exact Jah tb rfl rfl rfl rfl rfl (by omega)) rfl rfl rfl rfl ?_
   refine Jgf (by first | exact Jfy tb rfl rfl rfl (by first | assumption | exact zr (by simp)) (by assumption) (by rfl) | exact Jbl tb rfl rfl rfl (by repeat (first | exact zi0 | apply zi1 | apply zi2)) (by rfl) | exact Jbl tb rfl rfl rfl (by repeat (first | exact zi0 | apply zi1 | apply zi2)) (Jgl (by assumption)) | exact Jbl tb rfl rfl rfl (by repeat (first | exact zi0 | apply zi1 | apply zi2)) (Jf0 (fun _=>rfl) (by assumption) rfl)) rfl rfl rfl rfl ?_
   refine Jgf (Jk3 rfl rfl) rfl rfl rfl rfl ?_
   refine Xc0 ?_
   refine qal ?_
   refine qb6 ?_
   refine Xb7 ?_
   exact q_k ⟨k + 1,by omega⟩
  obtain rfl:k=d.rests.l.length:=by omega
  refine qbk ?_
  refine Xcs ?_
  refine q_r (L':=L) (R':=R) (Jd4 rfl (Ja0 (row:=[_,_]) tb rfl rfl rfl (by repeat (first | exact zi0 | apply zi1 | apply zi2)) (by rfl) (by rfl))) ?_
  exact ⟨by rw [Jeh,if_neg (by omega),if_pos (by omega)],rfl,rfl⟩
end Go.Proofs.Ytihompplndcdeaa
end
