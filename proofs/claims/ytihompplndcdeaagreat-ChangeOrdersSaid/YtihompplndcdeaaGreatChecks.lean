/-
  Checks: Plan, FanC, DoorC, BranchC, Rest, in one text. By an AI agent; no person has read it.
-/
import Derived.Test.YtihompplndcdeaaGreatRun
section
variable {A9 B9:Prop}
theorem Jpz (a:A9) (h:A9→B9:=by exact Ja2 (by first | exact Jag tb rfl rfl rfl rfl (by first | assumption | exact zr (by simp)) (i:=k0) (by first | rfl | omega | (simp;omega)) (by omega) | exact Jal tb rfl rfl rfl rfl (i:=k0) (by first | rfl | omega | (simp;omega)) (by omega)) rfl):B9:=h a
theorem Ju2 (a:A9) (h:A9→B9:=by exact Ja2 (by first | exact Jag tb rfl rfl rfl rfl (by first | assumption | exact zr (by simp)) (i:=k1) (by first | rfl | omega | (simp;omega)) (by omega) | exact Jal tb rfl rfl rfl rfl (i:=k1) (by first | rfl | omega | (simp;omega)) (by omega)) rfl):B9:=h a
theorem J2f (a:A9) (h:A9→B9:=by exact Jbu (by first | exact Jag tb rfl rfl rfl rfl (by first | assumption | exact zr (by simp)) (i:=k0 - 1) (by first | rfl | omega | (simp;omega)) (by omega) | exact Jal tb rfl rfl rfl rfl (i:=k0 - 1) (by first | rfl | omega | (simp;omega)) (by omega)) rfl rfl rfl):B9:=h a
theorem J1j (h:B9:=by exact ⟨by rw [Jf2,if_neg (by omega),if_neg (by omega),Jf5 hp0 (by omega) (Jnm hp (by omega) (by omega) hq (by omega))];rfl,rfl,rfl⟩):B9:=h
theorem J2g (a:A9) (h:A9→B9:=by exact Jbu (by first | exact Jag tb rfl rfl rfl rfl (by first | assumption | exact zr (by simp)) (i:=k1) (by first | rfl | omega | (simp;omega)) (by omega) | exact Jal tb rfl rfl rfl rfl (i:=k1) (by first | rfl | omega | (simp;omega)) (by omega)) rfl rfl rfl):B9:=h a
theorem J2d (a:A9) (h:A9→B9:=by exact Jca (by first | exact Jag tb rfl rfl rfl rfl (by first | assumption | exact zr (by simp)) (i:=s.toNat) (by first | rfl | omega | (simp;omega)) (by omega) | exact Jal tb rfl rfl rfl rfl (i:=s.toNat) (by first | rfl | omega | (simp;omega)) (by omega)) rfl rfl rfl rfl):B9:=h a
theorem J4d (a:A9) (h:A9→B9:=by exact Jbb tb [0,1,2,3,4,5,6,7,8,9,10] _ Jbn (by kernel_rfl) (List.Sublist.refl _)):B9:=h a
theorem J7z (h:B9:=by exact ⟨by rw [Jf2,if_neg (by omega),if_neg (by omega),Jf5 hp0 (by omega) (Jp9 hp (by omega))];rfl,rfl,rfl⟩):B9:=h
theorem J77 (a:A9) (h:A9→B9:=by exact Jbb tb [0,1,2,3,4,5,6,7,8,9,10,11,12,13,14,15,16,17,18,19,20,21,22,23,24,25] _ Jbn (by kernel_rfl) (List.Sublist.refl _)):B9:=h a
theorem J8k (h:B9:=by exact ⟨by rw [Jec (by omega) hp0 (by omega) (hde.trans (by rw [if_neg (by omega),if_pos (by omega)]))],rfl,rfl⟩):B9:=h
theorem J79 (h:B9:=by exact ⟨by rw [Jec (by omega) hp0 (by omega) (hde.trans (by rw [Jdt hp1 hr (if_pos (by omega))]))],rfl,rfl⟩):B9:=h
theorem J56 (a:A9) (h:A9→B9:=by exact Ja2 (by first | exact Jag tb rfl rfl rfl rfl (by first | assumption | exact zr (by simp)) (i:=d.other.toNat) (by first | rfl | omega | (simp;omega)) (by omega) | exact Jal tb rfl rfl rfl rfl (i:=d.other.toNat) (by first | rfl | omega | (simp;omega)) (by omega)) rfl):B9:=h a
theorem J8b (h:B9:=by exact ⟨by rw [hr,Jh1 (by omega) (by omega),Jf5 hp1 (by omega) (he.trans (if_pos (by omega)))];simp,rfl,rfl⟩):B9:=h
theorem J8o (a:A9) (h:A9→B9:=by exact Ja8 tb [] [0,1,2,3,4,5,6,7,8,9,10] [11] (_) _ Jbn (by kernel_rfl) (by repeat (first | exact zs0 _ | exact zs1 _ | apply zs2 | apply zs3 | apply zs4 | apply zs5)) (by (repeat (first | apply List.Sublist.cons (a:=Blk.mk b4 _ _) | apply List.Sublist.cons_cons));exact List.Sublist.refl _)):B9:=h a
end
section
namespace Go.Proofs.YtihompplndcdeaaGreat
open Go.Aw Go
set_option maxRecDepth 20000
attribute [local irreducible] CJ LJ DJ Tri YV Gives Jd5 Jbd Jbz Jd4 RV Jbf
def Jm2 (s:XSpan) (lo hi:Int):Bool:=decide (lo≤s.low) && (decide (s.low≤s.high) && decide (s.high≤hi))
theorem Jqw (s:XSpan) (lo hi:Int) (L:List Blk) (R:List Sl):
    Tri Tryz.prog 98 [s.val,.int .i64 lo,.int .i64 hi].toArray L R (fun v L' R'=>v=.bool (Jm2 s lo hi)∧L=L'∧R=R'):=by
  refine Jae 24 Tryz.call98 Tryz.func98 rfl rfl rfl ?_
  refine Xai ?_
  intro b3
  refine Xbr ?_
  refine qaa ?_
  refine Xaa ?_
  refine qbx ?_
  refine qah ?_
  apply Jcd (G:=[_,_,_,_,_]) (j:=4) (cj:=11) rfl rfl (by rfl) rfl (show _=Value.bool _ from rfl) rfl
  ·
   intro hg5
   replace hg5:=qb hg5
   refine Xa3 ?_
   refine qbx ?_
   exact qai
  intro junk5
  refine qah ?_
  apply Jcd (G:=[_,_,_,_]) (j:=11) (cj:=18) rfl rfl (by rfl) rfl (show _=Value.bool _ from rfl) rfl
  ·
   intro hg12
   replace hg12:=qb hg12
   refine Xak ?_
   refine qbx ?_
   exact qai
  intro junk12
  refine Xbb ?_
  refine q_b (L':=L) (R':=R) ?_
  exact ⟨by simp [Jm2,Bool.and_assoc],rfl,rfl⟩
def Jfb (p:XPlace):Option Int:=if p.height < -10000∨10000 < p.height then some 1 else none
def Jdl (n:Nat) (r:XRoad):Option Int:=
  if r.fr < 0∨(n:Int)≤r.fr∨r.to < 0∨(n:Int)≤r.to∨r.fr=r.to then some 4
  else if r.len < 1∨100000 < r.len∨r.area < 1∨1000 < r.area∨Jm2 r.rest 1 262144=false∨Jm2 r.lift (-2199023255552) 2199023255552=false then some 1 else none
def Jbv (m:XMine):Int:=
  if 64 < m.places.l.length∨128 < m.roads.l.length then 2
  else match m.places.l.findSome? Jfb with
    | some e=>e
    | none=>(m.roads.l.findSome? (Jdl m.places.l.length)).getD 0
theorem Jla (m:XMine) (L:List Blk) (R:List Sl) (hm:MineR m R):
    Tri Tryz.prog 70 [m.val].toArray L R (fun v L' R'=>v=.int .i64 (Jbv m)∧L=L'∧R=R'):=by
  have hpl:=hm.places
  have hro:=hm.roads
  refine Jb7 Tryz.call70 hpl fun hpn=>?_
  refine Jb7 Tryz.call70 hro fun hrn=>?_
  refine Jae 100 Tryz.call70 Tryz.func70 rfl rfl rfl ?_
  refine Xai ?_
  intro b1
  refine Xa5 ?_
  refine Xab ?_
  refine qa5 ?_
  refine qah ?_
  apply Jbw (G:=[_,_,_,_]) (j:=4) (cj:=12) rfl rfl (by rfl) rfl (show _=Value.bool _ from rfl) rfl
  ·
   intro hg5
   replace hg5:=qb hg5
   refine Xab ?_
   refine qa5 ?_
   exact qai
  intro junk5
  refine qaf ?_
  refine q_c (fun hc0=>?_) (fun hc0=>?_)
  ·
   refine Xbl ?_
   refine q_i (L':=L) (R':=R) ?_
   exact ⟨by simp [Jbv];omega,rfl,rfl⟩
  refine qbo ?_
  refine Xbz ?_
  refine Jai [(1,Value.pointer _),(19,Value.slice _ _ _),(20,Value.int _ _),(21,Value.int _ _)] (by repeat' (first | exact trivial | refine And.intro rfl ?_)) fun tq0=>?_
  refine q_p [2,4,21,22,23,24,25,26,27,28,29,30,31,32,33] ((⟨fun g=>[(21,.int .i64 ((g.1:Nat):Int))],fun _=>⟨b1,m.cells,31⟩ :: L,fun _=>R,fun g=>m.places.l.length - g.1⟩:Head (FS Jfb m.places.l))) (⟨0,Jey _ _⟩) ?_
  rintro ⟨k,hk,hkeep⟩ junk
  try dsimp only
  refine Xay ?_
  refine q_c (fun hc1=>?_) (fun hc1=>?_)
  ·
   obtain ⟨x,hx⟩:=Ja0 (l:=m.places.l) (k:=k) (by omega)
   refine qbb ?_
   refine qa3 ?_
   refine Xdn ?_
   intro b4
   refine Xc0 ?_
   refine Xa9 ?_
   apply Jbw (G:=[_,_,_]) (j:=3) (cj:=28) rfl rfl (by rfl) rfl (show _=Value.bool _ from rfl) rfl
   ·
    intro hg4
    replace hg4:=qb hg4
    refine Xdf ?_
    exact qai
   intro junk4
   refine qaf ?_
   refine q_c (fun hc2=>?_) (fun hc2=>?_)
   ·
    refine Xbv ?_
    refine q_i (L':=L) (R':=R) ?_
    exact ⟨by simp [Jbv,Jdt hkeep hx (show Jfb x=some 1 by simp [Jfb];omega)];omega,rfl,rfl⟩
   refine Xa6 ?_
   exact q_k ⟨k + 1,Jeo hkeep hx (by simp [Jfb];omega)⟩
  have hp:=Jel hkeep (by omega)
  refine qbk ?_
  refine Xab ?_
  refine Xa5 ?_
  refine Xbz ?_
  refine Jai [(5,Value.int _ _),(38,Value.slice _ _ _),(39,Value.int _ _),(40,Value.int _ _)] (by repeat' (first | exact trivial | refine And.intro rfl ?_)) fun tq1=>?_
  refine q_p [2,7,40,41,42,43,44,45,46,47,48,49,50,51,52,53,54,55,56,57,58,59,60,61,62,63,64,65,66,67,68,69,70,71,72,73,74,75,76,77,78,79,80,81,82,83,84,85,86,87,88,89,90,91,92,93,94,95,96,97,98,99] ((⟨fun g=>[(40,.int .i64 ((g.1:Nat):Int))],fun _=>⟨b1,m.cells,31⟩ :: L,fun _=>R,fun g=>m.roads.l.length - g.1⟩:Head (FS (Jdl m.places.l.length) m.roads.l))) (⟨0,Jey _ _⟩) ?_
  rintro ⟨k2,hk2,hkeep2⟩ junk
  try dsimp only
  refine Xay ?_
  refine q_c (fun hc3=>?_) (fun hc3=>?_)
  ·
   obtain ⟨y,hy⟩:=Ja0 (l:=m.roads.l) (k:=k2) (by omega)
   refine qbb ?_
   refine qa3 ?_
   refine Xda ?_
   intro b7
   refine Xct ?_
   refine Xa9 ?_
   apply Jbw (G:=[_,_,_,_]) (j:=3) (cj:=47) rfl rfl (by rfl) rfl (show _=Value.bool _ from rfl) rfl
   ·
    intro hg4
    replace hg4:=qb hg4
    refine Xak ?_
    refine qbz ?_
    exact qai
   intro junk4
   refine qah ?_
   apply Jbw (G:=[_,_,_]) (j:=9) (cj:=53) rfl rfl (by rfl) rfl (show _=Value.bool _ from rfl) rfl
   ·
    intro hg10
    replace hg10:=qb hg10
    refine Xaa ?_
    refine qaj ?_
    exact qai
   intro junk10
   refine qah ?_
   apply Jbw (G:=[_,_,_,_]) (j:=14) (cj:=58) rfl rfl (by rfl) rfl (show _=Value.bool _ from rfl) rfl
   ·
    intro hg15
    replace hg15:=qb hg15
    refine Xak ?_
    refine qbz ?_
    exact qai
   intro junk15
   refine qah ?_
   apply Jbw (G:=[_,_,_,_,_]) (j:=20) (cj:=64) rfl rfl (by rfl) rfl (show _=Value.bool _ from rfl) rfl
   ·
    intro hg21
    replace hg21:=qb hg21
    refine Xa3 ?_
    refine qbn ?_
    exact qai
   intro junk21
   refine qaf ?_
   refine q_c (fun hc4=>?_) (fun hc4=>?_)
   ·
    refine Xdq ?_
    refine q_i (L':=L) (R':=R) ?_
    exact ⟨by simp [Jbv,hp,Jdt hkeep2 hy (show Jdl m.places.l.length y=some 4 by simp [Jdl];omega)];omega,rfl,rfl⟩
   refine qbo ?_
   refine Xaa ?_
   refine Xa9 ?_
   apply Jbw (G:=[_,_,_]) (j:=3) (cj:=74) rfl rfl (by rfl) rfl (show _=Value.bool _ from rfl) rfl
   ·
    intro hg4
    replace hg4:=qb hg4
    refine Xdf ?_
    exact qai
   intro junk4
   refine qah ?_
   apply Jbw (G:=[_,_,_]) (j:=8) (cj:=79) rfl rfl (by rfl) rfl (show _=Value.bool _ from rfl) rfl
   ·
    intro hg9
    replace hg9:=qb hg9
    refine Xaa ?_
    refine qaj ?_
    exact qai
   intro junk9
   refine qah ?_
   apply Jbw (G:=[_,_,_]) (j:=13) (cj:=84) rfl rfl (by rfl) rfl (show _=Value.bool _ from rfl) rfl
   ·
    intro hg14
    replace hg14:=qb hg14
    refine Xdf ?_
    exact qai
   intro junk14
   refine qaf ?_
   refine q_c (fun hc5=>?_) (fun hc5=>?_)
   ·
    refine Xdq ?_
    refine q_i (L':=L) (R':=R) ?_
    exact ⟨by simp [Jbv,hp,Jdt hkeep2 hy (show Jdl m.places.l.length y=some 1 by rw [Jdl,if_neg (by omega),if_pos (by omega)])];omega,rfl,rfl⟩
   refine qbv ?_
   refine Xbu ?_
   refine q_l rfl (Jqw y.rest _ _ _ _) ?_
   refine Xdx ?_
   apply Jbw (G:=[_,_,_,_]) (j:=4) (cj:=93) rfl rfl (by rfl) rfl (show _=Value.bool _ from rfl) rfl
   ·
    intro hg5
    replace hg5:=qb hg5
    refine Xbu ?_
    refine q_l rfl (Jqw y.lift _ _ _ _) ?_
    refine qb4 ?_
    exact qai
   intro junk5
   refine qaf ?_
   refine q_c (fun hc6=>?_) (fun hc6=>?_)
   ·
    refine Xbv ?_
    refine q_i (L':=L) (R':=R) ?_
    exact ⟨by simp [Jbv,hp,Jdt hkeep2 hy (show Jdl m.places.l.length y=some 1 by rw [Jdl,if_neg (by omega),if_pos (by rcases hc6 with h | h <;> simp [h])])];omega,rfl,rfl⟩
   refine Xa6 ?_
   exact q_k ⟨k2 + 1,Jeo hkeep2 hy (by rw [Jdl,if_neg (by omega),if_neg (by simp [hc6];omega)])⟩
  have hq:=Jel hkeep2 (by omega)
  refine Xcu ?_
  refine q_i (L':=L) (R':=R) ?_
  exact ⟨by simp [Jbv,hp,hq];omega,rfl,rfl⟩
theorem Jqi (s:XSpan) (lo hi:Int) (L:List Blk) (R:List Sl):
    Tri Tryz.prog 52 [s.val,.int .i64 lo,.int .i64 hi].toArray L R (fun v L' R'=>v=.bool (Jm2 s lo hi)∧L=L'∧R=R'):=by
  refine Jae 24 Tryz.call52 Tryz.func52 rfl rfl rfl ?_
  refine Xai ?_
  intro b3
  refine Xbr ?_
  refine qaa ?_
  refine Xaa ?_
  refine qbx ?_
  refine qah ?_
  apply Jcd (G:=[_,_,_,_,_]) (j:=4) (cj:=11) rfl rfl (by rfl) rfl (show _=Value.bool _ from rfl) rfl
  ·
   intro hg5
   replace hg5:=qb hg5
   refine Xa3 ?_
   refine qbx ?_
   exact qai
  intro junk5
  refine qah ?_
  apply Jcd (G:=[_,_,_,_]) (j:=11) (cj:=18) rfl rfl (by rfl) rfl (show _=Value.bool _ from rfl) rfl
  ·
   intro hg12
   replace hg12:=qb hg12
   refine Xak ?_
   refine qbx ?_
   exact qai
  intro junk12
  refine Xbb ?_
  refine q_b (L':=L) (R':=R) ?_
  exact ⟨by simp [Jm2,Bool.and_assoc],rfl,rfl⟩
theorem Jep (m:XMine) (L:List Blk) (R:List Sl) (hm:MineR m R):
    Tri Tryz.prog 30 [m.val].toArray L R (fun v L' R'=>v=.int .i64 (Jbv m)∧L=L'∧R=R'):=by
  have hpl:=hm.places
  have hro:=hm.roads
  refine Jb7 Tryz.call30 hpl fun hpn=>?_
  refine Jb7 Tryz.call30 hro fun hrn=>?_
  refine Jae 109 Tryz.call30 Tryz.func30 rfl rfl rfl ?_
  refine Xai ?_
  intro b1
  refine Xa5 ?_
  refine Xab ?_
  refine qa5 ?_
  refine qah ?_
  apply Jbw (G:=[_,_,_,_]) (j:=4) (cj:=11) rfl rfl (by rfl) rfl (show _=Value.bool _ from rfl) rfl
  ·
   intro hg5
   replace hg5:=qb hg5
   refine Xab ?_
   refine qa5 ?_
   exact qai
  intro junk5
  refine qaf ?_
  refine q_c (fun hc0=>?_) (fun hc0=>?_)
  ·
   refine Xbl ?_
   refine q_i (L':=L) (R':=R) ?_
   exact ⟨by simp [Jbv];omega,rfl,rfl⟩
  refine Xdr ?_
  refine Jai [(1,Value.pointer _),(3,Value.int _ _)] (by repeat' (first | exact trivial | refine And.intro rfl ?_)) fun tq0=>?_
  refine q_s [2,3,4,17,18,19,20,21,22,23,24,25,26,27,28,29,30,31,32,33,34,35] (fun g:FS (Jfb) (m.places.l)=>[(3,.int .i64 ((g.1:Nat):Int))]) (fun g=>(m.places.l).length - g.1) ⟨0,Jey _ _⟩ ?_
  rintro ⟨k0,hk0,hp0⟩ junk
  try dsimp only
  refine Xbo ?_
  refine q_c (fun hc1=>?_) (fun hc1=>?_)
  ·
   obtain ⟨x,hx⟩:=Ja0 (l:=m.places.l) (k:=k0) (by omega)
   refine Xdd ?_
   refine Jpz ?_
   refine Xba ?_
   refine Xav ?_
   refine Xa9 ?_
   apply Jbw (G:=[_,_]) (j:=2) (cj:=32) rfl rfl (by rfl) rfl (show _=Value.bool _ from rfl) rfl
   ·
    intro hg3
    replace hg3:=qb hg3
    refine qaa ?_
    refine qa5 ?_
    exact qai
   intro junk3
   refine qaf ?_
   refine q_c (fun hc2=>?_) (fun hc2=>?_)
   ·
    refine Xbv ?_
    refine q_i (L':=L) (R':=R) ?_
    exact ⟨by simp [Jbv,Jdt hp0 hx (show Jfb x=some 1 by simp [Jfb];omega)];omega,rfl,rfl⟩
   refine Xa1 ?_
   exact q_k ⟨k0 + 1,Jeo hp0 hx (by simp [Jfb];omega)⟩
  have hn0:=Jel hp0 (by omega)
  refine qcf ?_
  refine Xas ?_
  refine Jai [(1,Value.pointer _),(5,Value.int _ _)] (by repeat' (first | exact trivial | refine And.intro rfl ?_)) fun tq1=>?_
  refine q_s [2,5,6,36,37,38,39,40,41,42,43,44,45,46,47,48,49,50,51,52,53,54,55,56,57,58,59,60,61,62,63,64,65,66,67,68,69,70,71,72,73,74,75,76,77,78,79,80,81,82,83,84,85,86,87,88,89,90,91,92,93,94,95,96,97,98,99,100,101,102,103,104,105,106,107,108] (fun g:FS (Jdl m.places.l.length) (m.roads.l)=>[(5,.int .i64 ((g.1:Nat):Int))]) (fun g=>(m.roads.l).length - g.1) ⟨0,Jey _ _⟩ ?_
  rintro ⟨k1,hk1,hp1⟩ junk
  try dsimp only
  refine Xbo ?_
  refine q_c (fun hc3=>?_) (fun hc3=>?_)
  ·
   obtain ⟨y,hy⟩:=Ja0 (l:=m.roads.l) (k:=k1) (by omega)
   refine Xdd ?_
   refine Ju2 ?_
   refine Xda ?_
   intro b6
   refine Xct ?_
   refine Xa9 ?_
   apply Jbw (G:=[_,_,_,_,_,_]) (j:=3) (cj:=51) rfl rfl (by rfl) rfl (show _=Value.bool _ from rfl) rfl
   ·
    intro hg4
    replace hg4:=qb hg4
    refine Xaa ?_
    refine Xab ?_
    refine qbz ?_
    exact qai
   intro junk4
   refine qah ?_
   apply Jbw (G:=[_,_,_]) (j:=11) (cj:=59) rfl rfl (by rfl) rfl (show _=Value.bool _ from rfl) rfl
   ·
    intro hg12
    replace hg12:=qb hg12
    refine Xaa ?_
    refine qaj ?_
    exact qai
   intro junk12
   refine qah ?_
   apply Jbw (G:=[_,_,_,_,_,_]) (j:=16) (cj:=64) rfl rfl (by rfl) rfl (show _=Value.bool _ from rfl) rfl
   ·
    intro hg17
    replace hg17:=qb hg17
    refine Xaa ?_
    refine Xab ?_
    refine qbz ?_
    exact qai
   intro junk17
   refine qah ?_
   apply Jbw (G:=[_,_,_,_,_]) (j:=24) (cj:=72) rfl rfl (by rfl) rfl (show _=Value.bool _ from rfl) rfl
   ·
    intro hg25
    replace hg25:=qb hg25
    refine Xa3 ?_
    refine qbn ?_
    exact qai
   intro junk25
   refine qaf ?_
   refine q_c (fun hc4=>?_) (fun hc4=>?_)
   ·
    refine Xdq ?_
    refine q_i (L':=L) (R':=R) ?_
    exact ⟨by simp [Jbv,hn0,Jdt hp1 hy (show Jdl m.places.l.length y=some 4 by simp [Jdl];omega)];omega,rfl,rfl⟩
   refine qbv ?_
   refine Xaa ?_
   refine Xa9 ?_
   apply Jbw (G:=[_,_,_]) (j:=3) (cj:=82) rfl rfl (by rfl) rfl (show _=Value.bool _ from rfl) rfl
   ·
    intro hg4
    replace hg4:=qb hg4
    refine Xdf ?_
    exact qai
   intro junk4
   refine qah ?_
   apply Jbw (G:=[_,_,_]) (j:=8) (cj:=87) rfl rfl (by rfl) rfl (show _=Value.bool _ from rfl) rfl
   ·
    intro hg9
    replace hg9:=qb hg9
    refine Xaa ?_
    refine qaj ?_
    exact qai
   intro junk9
   refine qah ?_
   apply Jbw (G:=[_,_,_]) (j:=13) (cj:=92) rfl rfl (by rfl) rfl (show _=Value.bool _ from rfl) rfl
   ·
    intro hg14
    replace hg14:=qb hg14
    refine Xdf ?_
    exact qai
   intro junk14
   refine qah ?_
   apply Jbw (G:=[_,_,_,_]) (j:=18) (cj:=97) rfl rfl (by rfl) rfl (show _=Value.bool _ from rfl) rfl
   ·
    intro hg19
    replace hg19:=qb hg19
    refine Xbu ?_
    refine q_l rfl (Jqi y.rest _ _ _ _) ?_
    refine qb4 ?_
    exact qai
   intro junk19
   refine qah ?_
   apply Jbw (G:=[_,_,_,_]) (j:=24) (cj:=103) rfl rfl (by rfl) rfl (show _=Value.bool _ from rfl) rfl
   ·
    intro hg25
    replace hg25:=qb hg25
    refine Xbu ?_
    refine q_l rfl (Jqi y.lift _ _ _ _) ?_
    refine qb4 ?_
    exact qai
   intro junk25
   refine qaf ?_
   refine q_c (fun hc5=>?_) (fun hc5=>?_)
   ·
    refine Xbv ?_
    refine q_i (L':=L) (R':=R) ?_
    exact ⟨by simp [Jbv,hn0,Jdt hp1 hy (show Jdl m.places.l.length y=some 1 by rw [Jdl,if_neg (by omega),if_pos (by simpa [or_assoc] using hc5)])];omega,rfl,rfl⟩
   refine Xa1 ?_
   exact q_k ⟨k1 + 1,Jeo hp1 hy (by rw [Jdl,if_neg (by omega),if_neg (by simpa [and_assoc] using hc5)])⟩
  have hn1:=Jel hp1 (by omega)
  refine Xcu ?_
  refine q_i (L':=L) (R':=R) ?_
  exact ⟨by simp [Jbv,hn0,hn1];omega,rfl,rfl⟩
end Go.Proofs.YtihompplndcdeaaGreat
end
section
namespace Go.Proofs.YtihompplndcdeaaGreat
open Go.Aw Go
set_option maxRecDepth 20000
attribute [local irreducible] CJ LJ DJ Tri YV Gives Jd5 Jbd Jbz Jd4 RV Jbf
def Jdp (l:List XPoint) (i:Nat):Option Int:=
  match l[i]? with
  | none=>none
  | some p => if p.flow < -1048576 ∨ 1048576 < p.flow ∨ p.pres < 0 ∨ 2199023255552 < p.pres then some 1
    else if i=0 then none
    else match l[i - 1]? with
      | none=>none
      | some q=>if p.flow≤q.flow∨q.pres < p.pres then some 14 else none
def Jf2 (f:XFan):Int:=
  if f.road < 0 then 4 else if f.curve.l.length < 1∨8 < f.curve.l.length then 2
  else ((List.range f.curve.l.length).findSome? (Jdp f.curve.l)).getD 0
theorem Jp9 {l:List XPoint} {k:Nat} {p:XPoint} (h:l[k]?=some p) (hr:p.flow < -1048576∨1048576 < p.flow∨p.pres < 0∨2199023255552 < p.pres):Jdp l k=some 1:=by
  simp only [Jdp,h,if_pos hr]
theorem Jnm {l:List XPoint} {k:Nat} {p q:XPoint} (h:l[k]?=some p) (hr:¬ (p.flow < -1048576∨1048576 < p.flow∨p.pres < 0∨2199023255552 < p.pres)) (hk:k≠0) (h':l[k - 1]?=some q) (hb:p.flow≤q.flow∨q.pres < p.pres):Jdp l k=some 14:=by
  simp only [Jdp,h,if_neg hr,if_neg hk,h',if_pos hb]
theorem Jjd {l:List XPoint} {k:Nat} {p:XPoint} (h:l[k]?=some p) (hr:¬ (p.flow < -1048576∨1048576 < p.flow∨p.pres < 0∨2199023255552 < p.pres)) (hk:k=0):Jdp l k=none:=by
  simp only [Jdp,h,if_neg hr,if_pos hk]
theorem Ji6 {l:List XPoint} {k:Nat} {p q:XPoint} (h:l[k]?=some p) (hr:¬ (p.flow < -1048576∨1048576 < p.flow∨p.pres < 0∨2199023255552 < p.pres)) (hk:k≠0) (h':l[k - 1]?=some q) (hb:¬ (p.flow≤q.flow∨q.pres < p.pres)):Jdp l k=none:=by
  simp only [Jdp,h,if_neg hr,if_neg hk,h',if_neg hb]
theorem Jtn (f:XFan) (L:List Blk) (R:List Sl) (hm:InR f.sl R):
    Tri Tryz.prog 71 [f.val].toArray L R (fun v L' R'=>v=.int .i64 (Jf2 f)∧L=L'∧R=R'):=by
  refine Jb7 Tryz.call71 hm fun hpn=>?_
  refine Jae 71 Tryz.call71 Tryz.func71 rfl rfl rfl ?_
  refine Xai ?_
  intro b1
  refine Xa5 ?_
  refine Xaa ?_
  refine Xao ?_
  refine q_c (fun hc0=>?_) (fun hc0=>?_)
  ·
   refine Xbl ?_
   refine q_i (L':=L) (R':=R) ?_
   exact ⟨by rw [Jf2,if_pos (by omega)],rfl,rfl⟩
  refine qbo ?_
  refine Xab ?_
  refine Xa9 ?_
  apply Jbw (G:=[_,_,_,_]) (j:=4) (cj:=12) rfl rfl (by rfl) rfl (show _=Value.bool _ from rfl) rfl
  ·
   intro hg5
   replace hg5:=qb hg5
   refine Xab ?_
   refine qa5 ?_
   exact qai
  intro junk5
  refine qaf ?_
  refine q_c (fun hc1=>?_) (fun hc1=>?_)
  ·
   refine Xbl ?_
   refine q_i (L':=L) (R':=R) ?_
   exact ⟨by rw [Jf2,if_neg (by omega),if_pos (by omega)],rfl,rfl⟩
  refine qbo ?_
  refine Xbz ?_
  refine Jai [(1,Value.pointer _),(19,Value.slice _ _ _),(20,Value.int _ _),(21,Value.int _ _)] (by repeat' (first | exact trivial | refine And.intro rfl ?_)) fun tq0=>?_
  refine q_s [2,3,4,21,22,23,24,25,26,27,28,29,30,31,32,33,34,35,36,37,38,39,40,41,42,43,44,45,46,47,48,49,50,51,52,53,54,55,56,57,58,59,60,61,62,63,64,65,66,67,68,69,70] (fun g:FSR (Jdp f.curve.l) (f.curve.l.length)=>[(21,.int .i64 ((g.1:Nat):Int))]) (fun g=>(f.curve.l.length) - g.1) ⟨0,Je3 _ _⟩ ?_
  rintro ⟨k0,hk0,hp0⟩ junk
  try dsimp only
  refine Xay ?_
  refine q_c (fun hc2=>?_) (fun hc2=>?_)
  ·
   obtain ⟨p,hp⟩:=Ja0 (l:=f.curve.l) (k:=k0) (by omega)
   refine Xb3 ?_
   refine Jpz ?_
   refine Xdn ?_
   intro b4
   refine qad ?_
   refine Xct ?_
   refine Xa9 ?_
   apply Jbw (G:=[_,_,_]) (j:=3) (cj:=29) rfl rfl (by rfl) rfl (show _=Value.bool _ from rfl) rfl
   ·
    intro hg4
    replace hg4:=qb hg4
    refine Xdf ?_
    exact qai
   intro junk4
   refine qah ?_
   apply Jbw (G:=[_,_,_]) (j:=8) (cj:=34) rfl rfl (by rfl) rfl (show _=Value.bool _ from rfl) rfl
   ·
    intro hg9
    replace hg9:=qb hg9
    refine Xaa ?_
    refine qaj ?_
    exact qai
   intro junk9
   refine qah ?_
   apply Jbw (G:=[_,_,_]) (j:=13) (cj:=39) rfl rfl (by rfl) rfl (show _=Value.bool _ from rfl) rfl
   ·
    intro hg14
    replace hg14:=qb hg14
    refine Xdf ?_
    exact qai
   intro junk14
   refine qaf ?_
   refine q_c (fun hc3=>?_) (fun hc3=>?_)
   ·
    refine Xdq ?_
    refine q_i (L':=L) (R':=R) ?_
    exact J7z
   refine qcl ?_
   refine J77 ?_
   refine qao ?_
   refine Jbu (Jlh rfl rfl) rfl rfl rfl ?_
   refine qb2 ?_
   refine Jcz (k:=46) (show _=Value.bool _ from rfl) (fun hg2=>?_) (fun hg2=>?_)
   ·
    replace hg2:=qb hg2
    obtain ⟨q,hq⟩:=Ja0 (l:=f.curve.l) (k:=k0 - 1) (by omega)
    refine Xae ?_
    refine Xa0 ?_
    refine qb7 ?_
    refine J2f ?_
    refine Xcv ?_
    refine Jbu (Jv8 rfl rfl) rfl rfl rfl ?_
    refine qb2 ?_
    refine Jcz (k:=57) (show _=Value.bool _ from rfl) (fun hg13=>?_) (fun hg13=>?_)
    ·
     replace hg13:=qb hg13
     iterate 10 refine qap ?_
     refine qbp ?_
     refine Xb0 ?_
     refine Jcu rfl ?_
     refine Xbv ?_
     refine q_i (L':=L) (R':=R) ?_
     exact J1j
    replace hg13:=qb hg13
    refine Xae ?_
    refine Xa0 ?_
    refine qb7 ?_
    refine J2f ?_
    refine Xcv ?_
    refine Jbu (Jlh rfl rfl) rfl rfl rfl ?_
    refine qbp ?_
    refine Xb0 ?_
    refine q_c (fun hc4=>?_) (fun hc4=>?_)
    ·
     refine Xbv ?_
     refine q_i (L':=L) (R':=R) ?_
     exact J1j
    refine Xa6 ?_
    exact q_k ⟨k0 + 1,Jdy hp0 (by omega) (by first | exact Jjd hp (by omega) (by omega) | exact Ji6 hp (by omega) (by omega) hq (by omega))⟩
   replace hg2:=qb hg2
   iterate 22 refine qap ?_
   refine Xb0 ?_
   refine Jcr rfl ?_
   refine Xa6 ?_
   exact q_k ⟨k0 + 1,Jdy hp0 (by omega) (by first | exact Jjd hp (by omega) (by omega) | exact Ji6 hp (by omega) (by omega) hq (by omega))⟩
  have hn0:=Je8 hp0 (by omega)
  refine Xcu ?_
  refine q_i (L':=L) (R':=R) ?_
  exact ⟨by rw [Jf2,if_neg (by omega),if_neg (by omega),hn0];rfl,rfl,rfl⟩
theorem Jpr (f:XFan) (L:List Blk) (R:List Sl) (hm:InR f.sl R):
    Tri Tryz.prog 75 [f.val].toArray L R (fun v L' R'=>v=.int .i64 (Jf2 f)∧L=L'∧R=R'):=by
  refine Jb7 Tryz.call75 hm fun hpn=>?_
  refine Jae 74 Tryz.call75 Tryz.func75 rfl rfl rfl ?_
  refine Xai ?_
  intro b1
  refine Xa5 ?_
  refine Xaa ?_
  refine Xao ?_
  refine q_c (fun hc0=>?_) (fun hc0=>?_)
  ·
   refine Xbl ?_
   refine q_i (L':=L) (R':=R) ?_
   exact ⟨by rw [Jf2,if_pos (by omega)],rfl,rfl⟩
  refine qbo ?_
  refine Xab ?_
  refine Xa9 ?_
  apply Jbw (G:=[_,_,_,_]) (j:=4) (cj:=12) rfl rfl (by rfl) rfl (show _=Value.bool _ from rfl) rfl
  ·
   intro hg5
   replace hg5:=qb hg5
   refine Xab ?_
   refine qa5 ?_
   exact qai
  intro junk5
  refine qaf ?_
  refine q_c (fun hc1=>?_) (fun hc1=>?_)
  ·
   refine Xbl ?_
   refine q_i (L':=L) (R':=R) ?_
   exact ⟨by rw [Jf2,if_neg (by omega),if_pos (by omega)],rfl,rfl⟩
  refine Xdr ?_
  refine Jai [(1,Value.pointer _),(3,Value.int _ _)] (by repeat' (first | exact trivial | refine And.intro rfl ?_)) fun tq0=>?_
  refine q_s [2,3,4,18,19,20,21,22,23,24,25,26,27,28,29,30,31,32,33,34,35,36,37,38,39,40,41,42,43,44,45,46,47,48,49,50,51,52,53,54,55,56,57,58,59,60,61,62,63,64,65,66,67,68,69,70,71,72,73] (fun g:FSR (Jdp f.curve.l) (f.curve.l.length)=>[(3,.int .i64 ((g.1:Nat):Int))]) (fun g=>(f.curve.l.length) - g.1) ⟨0,Je3 _ _⟩ ?_
  rintro ⟨k0,hk0,hp0⟩ junk
  try dsimp only
  refine Xbo ?_
  refine q_c (fun hc2=>?_) (fun hc2=>?_)
  ·
   obtain ⟨p,hp⟩:=Ja0 (l:=f.curve.l) (k:=k0) (by omega)
   refine Xdd ?_
   refine Jpz ?_
   refine Xdn ?_
   intro b4
   refine Xct ?_
   refine Xa9 ?_
   apply Jbw (G:=[_,_,_]) (j:=3) (cj:=33) rfl rfl (by rfl) rfl (show _=Value.bool _ from rfl) rfl
   ·
    intro hg4
    replace hg4:=qb hg4
    refine Xdf ?_
    exact qai
   intro junk4
   refine qah ?_
   apply Jbw (G:=[_,_,_]) (j:=8) (cj:=38) rfl rfl (by rfl) rfl (show _=Value.bool _ from rfl) rfl
   ·
    intro hg9
    replace hg9:=qb hg9
    refine Xaa ?_
    refine qaj ?_
    exact qai
   intro junk9
   refine qah ?_
   apply Jbw (G:=[_,_,_]) (j:=13) (cj:=43) rfl rfl (by rfl) rfl (show _=Value.bool _ from rfl) rfl
   ·
    intro hg14
    replace hg14:=qb hg14
    refine Xdf ?_
    exact qai
   intro junk14
   refine qaf ?_
   refine q_c (fun hc3=>?_) (fun hc3=>?_)
   ·
    refine Xdq ?_
    refine q_i (L':=L) (R':=R) ?_
    exact J7z
   refine qcl ?_
   refine J77 ?_
   refine qao ?_
   refine Jbu (Jlh rfl rfl) rfl rfl rfl ?_
   refine qb2 ?_
   refine Jcz (k:=50) (show _=Value.bool _ from rfl) (fun hg2=>?_) (fun hg2=>?_)
   ·
    replace hg2:=qb hg2
    obtain ⟨q,hq⟩:=Ja0 (l:=f.curve.l) (k:=k0 - 1) (by omega)
    refine Xae ?_
    refine Xa0 ?_
    refine qb7 ?_
    refine J2f ?_
    refine Xcv ?_
    refine Jbu (Jv8 rfl rfl) rfl rfl rfl ?_
    refine qb2 ?_
    refine Jcz (k:=61) (show _=Value.bool _ from rfl) (fun hg13=>?_) (fun hg13=>?_)
    ·
     replace hg13:=qb hg13
     iterate 10 refine qap ?_
     refine qbp ?_
     refine Xb0 ?_
     refine Jcu rfl ?_
     refine Xbv ?_
     refine q_i (L':=L) (R':=R) ?_
     exact J1j
    replace hg13:=qb hg13
    refine Xae ?_
    refine Xa0 ?_
    refine qb7 ?_
    refine J2f ?_
    refine Xcv ?_
    refine Jbu (Jlh rfl rfl) rfl rfl rfl ?_
    refine qbp ?_
    refine Xb0 ?_
    refine q_c (fun hc4=>?_) (fun hc4=>?_)
    ·
     refine Xbv ?_
     refine q_i (L':=L) (R':=R) ?_
     exact J1j
    refine Xa1 ?_
    exact q_k ⟨k0 + 1,Jdy hp0 (by omega) (by first | exact Jjd hp (by omega) (by omega) | exact Ji6 hp (by omega) (by omega) hq (by omega))⟩
   replace hg2:=qb hg2
   iterate 22 refine qap ?_
   refine Xb0 ?_
   refine Jcr rfl ?_
   refine Xa1 ?_
   exact q_k ⟨k0 + 1,Jdy hp0 (by omega) (by first | exact Jjd hp (by omega) (by omega) | exact Ji6 hp (by omega) (by omega) hq (by omega))⟩
  have hn0:=Je8 hp0 (by omega)
  refine Xcu ?_
  refine q_i (L':=L) (R':=R) ?_
  exact ⟨by rw [Jf2,if_neg (by omega),if_neg (by omega),hn0];rfl,rfl,rfl⟩
end Go.Proofs.YtihompplndcdeaaGreat
end
section
namespace Go.Proofs.YtihompplndcdeaaGreat
open Go.Aw Go
set_option maxRecDepth 20000
attribute [local irreducible] CJ LJ DJ Tri YV Gives Jd5 Jbd Jbz Jd4 RV Jbf
def Jin (x:Int):Option Int:=if x < 0∨262144 < x then some 1 else none
def Jdw (l : List Int) : Nat → Bool
  | 0=>true
  | k + 1=>Jdw l k && (decide (k=0) || decide (l.getD k 0 < l.getD (k - 1) 0))
theorem Jz9 {l:List Int} {k n:Nat} (h:k≤n) (hf:Jdw l n=true):Jdw l k=true:=by
  induction n with
  | zero=>rw [show k=0 by omega];rfl
  | succ n ih=>
    rcases Nat.lt_or_ge k (n + 1) with h' | h'
    · simp only [Jdw,Bool.and_eq_true] at hf;exact ih (by omega) hf.1
    · rw [show k=n + 1 by omega];exact hf
theorem Juq {l:List Int} {k:Nat} {x:Int} (hx:l[k]?=some x):(Jdw l k && (decide ((k:Int)=0) || decide (x < l.getD (k - 1) 0)))=Jdw l (k + 1):=by
  rw [Jdw,getD_some hx]
  congr 2
  simp only [decide_eq_decide];omega
theorem Jxv {l:List Int} {k n:Nat} {x y:Int} (hk:k < n) (h0:k≠0) (hx:l[k]?=some x) (hy:l[k - 1]?=some y) (h:y≤x):Jdw l n=false:=by
  rcases hb:Jdw l n with _ | _
  · rfl
  · have := Jz9 (show k + 1 ≤ n from hk) hb
    simp only [Jdw,Bool.and_eq_true,Bool.or_eq_true,decide_eq_true_eq,getD_some hx,getD_some hy] at this
    omega
theorem Jui {l:List Int} {k:Nat} {x y:Int} (h0:k≠0) (hx:l[k]?=some x) (hy:l[k - 1]?=some y):Jdw l (k + 1)=(Jdw l k && decide (x < y)):=by
  rw [Jdw,getD_some hx,getD_some hy];simp [h0]
abbrev Jj1 (l:List XDoor) (i:Nat) (d:XDoor):Prop:=
  d.other≠-1∧(d.other < 0∨(l.length:Int)≤d.other∨d.other=(i:Int)∨(l.getD d.other.toNat default).other≠(i:Int))
def Je5 (l:List XDoor) (i:Nat):Option Int:=
  match l[i]? with
  | none=>none
  | some d => if d.road < 0 then some 4 else if d.rests.l.length < 2 ∨ 6 < d.rests.l.length then some 2
    else match d.rests.l.findSome? Jin with
      | some e=>some e
      | none=>if Jdw d.rests.l d.rests.l.length=false then some 15 else if Jj1 l i d then some 15 else none
def Jb1 (l:List XDoor):Int:=if 16 < l.length then 2 else ((List.range l.length).findSome? (Je5 l)).getD 0
theorem Jji {l : List XDoor} {i : Nat} {d : XDoor} (h : l[i]? = some d) : Je5 l i = if d.road < 0 then some 4 else if d.rests.l.length < 2 ∨ 6 < d.rests.l.length then some 2
    else match d.rests.l.findSome? Jin with
      | some e=>some e
      | none=>if Jdw d.rests.l d.rests.l.length=false then some 15 else if Jj1 l i d then some 15 else none:=by
  rw [Je5,h]
theorem Jec {l:List XDoor} {k:Nat} {e:Int} (h16:¬ 16 < l.length) (hp:(List.range l.length).findSome? (Je5 l)=((List.range l.length).drop k).findSome? (Je5 l)) (hk:k < l.length) (h:Je5 l k=some e):Jb1 l=e:=by
  rw [Jb1,if_neg h16,Jf5 hp hk h];rfl
theorem Jlm (x:Arr XDoor) (L:List Blk) (R:List Sl) (hm:InR (dsl x) R):
    Tri Tryz.prog 72 [x.val].toArray L R (fun v L' R'=>v=.int .i64 (Jb1 x.l)∧L=L'∧R=R'):=by
  refine Jb7 Tryz.call72 hm fun hpn=>?_
  refine Jae 95 Tryz.call72 Tryz.func72 rfl rfl rfl ?_
  refine Xaj ?_
  refine qaw ?_
  refine Xat ?_
  refine Xb9 ?_
  refine q_c (fun hc0=>?_) (fun hc0=>?_)
  ·
   refine Xbl ?_
   refine q_i (L':=L) (R':=R) ?_
   exact ⟨by rw [Jb1,if_pos (by omega)],rfl,rfl⟩
  refine qbo ?_
  refine Xdj ?_
  refine Jai [(0,Value.slice _ _ _),(11,Value.slice _ _ _),(12,Value.int _ _),(13,Value.int _ _)] (by repeat' (first | exact trivial | refine And.intro rfl ?_)) fun tq0=>?_
  refine q_s [2,3,4,5,6,7,13,14,15,16,17,18,19,20,21,22,23,24,25,26,27,28,29,30,31,32,33,34,35,36,37,38,39,40,41,42,43,44,45,46,47,48,49,50,51,52,53,54,55,56,57,58,59,60,61,62,63,64,65,66,67,68,69,70,71,72,73,74,75,76,77,78,79,80,81,82,83,84,85,86,87,88,89,90,91,92,93,94] (fun g:FSR (Je5 x.l) (x.l.length)=>[(13,.int .i64 ((g.1:Nat):Int))]) (fun g=>(x.l.length) - g.1) ⟨0,Je3 _ _⟩ ?_
  rintro ⟨k0,hk0,hp0⟩ junk
  try dsimp only
  refine Xay ?_
  refine q_c (fun hc1=>?_) (fun hc1=>?_)
  ·
   obtain ⟨d,hd⟩:=Ja0 (l:=x.l) (k:=k0) (by omega)
   have hdr:=InR.door hm hd
   have hde:=Jji hd
   refine Xb3 ?_
   refine Jpz ?_
   refine qdk ?_
   refine qaq ?_
   intro b4
   refine qad ?_
   refine Xct ?_
   refine Xao ?_
   refine q_c (fun hc2=>?_) (fun hc2=>?_)
   ·
    refine Xdq ?_
    refine q_i (L':=L) (R':=R) ?_
    exact ⟨by rw [Jec (by omega) hp0 (by omega) (hde.trans (if_pos (by omega)))],rfl,rfl⟩
   refine qbo ?_
   refine Xab ?_
   refine Xa9 ?_
   apply Jbw (G:=[_,_,_,_]) (j:=4) (cj:=25) rfl rfl (by rfl) rfl (show _=Value.bool _ from rfl) rfl
   ·
    intro hg5
    replace hg5:=qb hg5
    refine Xab ?_
    refine qa5 ?_
    exact qai
   intro junk5
   refine qaf ?_
   refine q_c (fun hc3=>?_) (fun hc3=>?_)
   ·
    refine Xdq ?_
    refine q_i (L':=L) (R':=R) ?_
    exact J8k
   rw [if_neg (by omega),if_neg (by omega)] at hde
   refine qbv ?_
   refine Xb2 ?_
   refine Xbz ?_
   refine Jb8 [2,3,4,5,6,7,13,14,15,16,17,18,19,20,21,22,23,24,25,26,27,28,29,30,31,32,33,34,35,36,37,38,39,40,41,42,43,44,45,46,47,48,49,50,51,52,53,54,55,56,57,58,59,60,61,62,63,64,65,66,67,68,69,70,71,72,73,74,75,76,77,78,79,80,81,82,83,84,85,86,87,88,89,90,91,92,93,94] (by repeat (first | apply Off.upd rfl | apply Off.havoc rfl | refine Off.updL (t':=havoc _ _ _) rfl ?_ | exact Off.refl)) [(3,Value.int _ _),(4,Value.pointer _),(5,Value.bool _),(13,Value.int _ _),(32,Value.slice _ _ _),(33,Value.int _ _),(34,Value.int _ _)] (by repeat' (first | exact trivial | refine And.intro rfl ?_)) fun tq1=>?_
   refine q_s [2,5,6,7,34,35,36,37,38,39,40,41,42,43,44,45,46,47,48,49,50,51,52,53,54,55,56,57,58,59,60] (fun g:FS (Jin) (d.rests.l)=>[(34,.int .i64 ((g.1:Nat):Int)),(5,.bool (Jdw d.rests.l g.1))]) (fun g=>(d.rests.l).length - g.1) ⟨0,Jey _ _⟩ ?_
   rintro ⟨k1,hk1,hp1⟩ junk
   try dsimp only
   refine Xay ?_
   refine q_c (fun hc4=>?_) (fun hc4=>?_)
   ·
    obtain ⟨r,hr⟩:=Ja0 (l:=d.rests.l) (k:=k1) (by omega)
    refine Xb3 ?_
    refine Ju2 ?_
    refine qa7 ?_
    refine qad ?_
    refine Xa5 ?_
    refine qaa ?_
    refine Xa9 ?_
    apply Jbw (G:=[_,_]) (j:=2) (cj:=41) rfl rfl (by rfl) rfl (show _=Value.bool _ from rfl) rfl
    ·
     intro hg3
     replace hg3:=qb hg3
     refine qaa ?_
     refine qa5 ?_
     exact qai
    intro junk3
    refine qaf ?_
    refine q_c (fun hc5=>?_) (fun hc5=>?_)
    ·
     refine Xaj ?_
     refine Ja9 (Jaa (Jc5 (Ja7 (Jay (Ja7 (Jcm (Jay (Ja7 (Jay (Ja7 (Jcm (Jay (Ja7 ?_)))))))))))))
     refine q_i (L':=L) (R':=R) ?_
     exact J79
    refine Ja3 (Jaa (Jaf ?_))
    refine qah ?_
    refine qah ?_
    apply Jcd (G:=[_,_,_,_,_,_,_,_,_,_,_,_]) (j:=1) (cj:=46) rfl rfl (by rfl) rfl (show _=Value.bool _ from rfl) rfl
    ·
     intro hg2
     replace hg2:=qb hg2
     refine qaa ?_
     refine qbn ?_
     refine qah ?_
     apply Jbw (G:=[_,_,_,_,_,_,_,_]) (j:=4) (cj:=49) rfl rfl (by rfl) rfl (show _=Value.bool _ from rfl) rfl
     ·
      intro hg5
      replace hg5:=qb hg5
      have hy:=Jan (l:=d.rests.l) (k:=k1 - 1) 0 (by omega)
      refine qaa ?_
      refine Xak ?_
      refine qa9 ?_
      refine Ja2 (by first | exact Jag tb rfl rfl rfl rfl (by first | assumption | exact zr (by simp)) (i:=k1 - 1) (by first | rfl | omega | (simp;omega)) (by omega) | exact Jal tb rfl rfl rfl rfl (i:=k1 - 1) (by first | rfl | omega | (simp;omega)) (by omega)) rfl ?_
      refine qa7 ?_
      refine qaj ?_
      exact qai
     intro junk5
     exact qai
    intro junk2
    refine qaz ?_
    refine Xbj ?_
    exact Jat ⟨k1 + 1,Jeo hp1 hr (if_neg (by omega))⟩ (by repeat (first | exact Off.refl | apply Off.upd rfl | apply Off.havoc rfl | apply Off.updL rfl | apply Off.left rfl)) ⟨rfl,congrArg Value.bool (Juq hr),trivial⟩ (by repeat (first | exact zs0 _ | exact zs1 _ | apply zs2 | apply zs3 | apply zs4 | apply zs5)) (Jac _) (by dsimp only;omega)
   have hn1:=Jel hp1 (by omega)
   obtain rfl:k1=d.rests.l.length:=by omega
   rw [hn1] at hde
   dsimp only at hde
   refine qcf ?_
   refine Xc3 ?_
   refine q_c (fun hc6=>?_) (fun hc6=>?_)
   ·
    refine Xdq ?_
    refine q_i (L':=L) (R':=R) ?_
    exact ⟨by rw [Jec (by omega) hp0 (by omega) (hde.trans (by rw [if_pos hc6]))],rfl,rfl⟩
   rw [if_neg (by simp [hc6])] at hde
   refine qbv ?_
   refine Xaa ?_
   refine Xcp ?_
   apply Jcd (G:=[_,_,_,_,_,_,_,_,_,_,_,_,_,_,_,_,_,_,_,_,_,_,_,_,_,_]) (j:=3) (cj:=66) rfl rfl (by rfl) rfl (show _=Value.bool _ from rfl) rfl
   ·
    intro hg4
    replace hg4:=qb hg4
    refine Xaa ?_
    refine Xa9 ?_
    apply Jbw (G:=[_,_,_,_,_]) (j:=7) (cj:=70) rfl rfl (by rfl) rfl (show _=Value.bool _ from rfl) rfl
    ·
     intro hg8
     replace hg8:=qb hg8
     refine Xaa ?_
     refine Xat ?_
     refine qbz ?_
     exact qai
    intro junk8
    refine qah ?_
    apply Jbw (G:=[_,_,_,_]) (j:=14) (cj:=77) rfl rfl (by rfl) rfl (show _=Value.bool _ from rfl) rfl
    ·
     intro hg15
     replace hg15:=qb hg15
     refine Xak ?_
     refine qbn ?_
     exact qai
    intro junk15
    refine qah ?_
    apply Jbw (G:=[_,_,_,_,_,_,_,_]) (j:=20) (cj:=83) rfl rfl (by rfl) rfl (show _=Value.bool _ from rfl) rfl
    ·
     intro hg21
     replace hg21:=qb hg21
     have ho:=Jan (l:=x.l) (k:=d.other.toNat) default (by omega)
     refine Xcw ?_
     refine J56 ?_
     refine Xba ?_
     refine qaa ?_
     refine qbq ?_
     exact qai
    intro junk21
    exact qai
   intro junk4
   refine qaf ?_
   refine q_c (fun hc7=>?_) (fun hc7=>?_)
   ·
    refine Xbv ?_
    refine q_i (L':=L) (R':=R) ?_
    exact ⟨by rw [Jec (by omega) hp0 (by omega) (hde.trans (by rw [if_pos (by omega)]))],rfl,rfl⟩
   refine Xa6 ?_
   exact q_k ⟨k0 + 1,Jdy hp0 (by omega) (hde.trans (if_neg (by omega)))⟩
  have hn0:=Je8 hp0 (by omega)
  refine Xcu ?_
  refine q_i (L':=L) (R':=R) ?_
  exact ⟨by rw [Jb1,if_neg (by omega),hn0];rfl,rfl,rfl⟩
theorem Jjx (x:Arr XDoor) (L:List Blk) (R:List Sl) (hm:InR (dsl x) R):
    Tri Tryz.prog 76 [x.val].toArray L R (fun v L' R'=>v=.int .i64 (Jb1 x.l)∧L=L'∧R=R'):=by
  refine Jb7 Tryz.call76 hm fun hpn=>?_
  refine Jae 104 Tryz.call76 Tryz.func76 rfl rfl rfl ?_
  refine Xaj ?_
  refine qaw ?_
  refine Xat ?_
  refine Xb9 ?_
  refine q_c (fun hc0=>?_) (fun hc0=>?_)
  ·
   refine Xbl ?_
   refine q_i (L':=L) (R':=R) ?_
   exact ⟨by rw [Jb1,if_pos (by omega)],rfl,rfl⟩
  refine Xdr ?_
  refine Jai [(0,Value.slice _ _ _),(3,Value.int _ _)] (by repeat' (first | exact trivial | refine And.intro rfl ?_)) fun tq0=>?_
  refine q_s [2,3,4,5,6,10,11,12,13,14,15,16,17,18,19,20,21,22,23,24,25,26,27,28,29,30,31,32,33,34,35,36,37,38,39,40,41,42,43,44,45,46,47,48,49,50,51,52,53,54,55,56,57,58,59,60,61,62,63,64,65,66,67,68,69,70,71,72,73,74,75,76,77,78,79,80,81,82,83,84,85,86,87,88,89,90,91,92,93,94,95,96,97,98,99,100,101,102,103] (fun g:FSR (Je5 x.l) (x.l.length)=>[(3,.int .i64 ((g.1:Nat):Int))]) (fun g=>(x.l.length) - g.1) ⟨0,Je3 _ _⟩ ?_
  rintro ⟨k0,hk0,hp0⟩ junk
  try dsimp only
  refine Xcg ?_
  refine q_c (fun hc1=>?_) (fun hc1=>?_)
  ·
   obtain ⟨d,hd⟩:=Ja0 (l:=x.l) (k:=k0) (by omega)
   have hdr:=InR.door hm hd
   have hde:=Jji hd
   refine qbb ?_
   refine Xad ?_
   refine Jpz ?_
   refine qdk ?_
   refine qaq ?_
   intro b4
   refine Xct ?_
   refine Xao ?_
   refine q_c (fun hc2=>?_) (fun hc2=>?_)
   ·
    refine Xdq ?_
    refine q_i (L':=L) (R':=R) ?_
    exact ⟨by rw [Jec (by omega) hp0 (by omega) (hde.trans (if_pos (by omega)))],rfl,rfl⟩
   refine qbo ?_
   refine Xab ?_
   refine Xa9 ?_
   apply Jbw (G:=[_,_,_,_]) (j:=4) (cj:=27) rfl rfl (by rfl) rfl (show _=Value.bool _ from rfl) rfl
   ·
    intro hg5
    replace hg5:=qb hg5
    refine Xab ?_
    refine qa5 ?_
    exact qai
   intro junk5
   refine qaf ?_
   refine q_c (fun hc3=>?_) (fun hc3=>?_)
   ·
    refine Xdq ?_
    refine q_i (L':=L) (R':=R) ?_
    exact J8k
   rw [if_neg (by omega),if_neg (by omega)] at hde
   refine Xdr ?_
   refine Jb8 [2,3,4,5,6,10,11,12,13,14,15,16,17,18,19,20,21,22,23,24,25,26,27,28,29,30,31,32,33,34,35,36,37,38,39,40,41,42,43,44,45,46,47,48,49,50,51,52,53,54,55,56,57,58,59,60,61,62,63,64,65,66,67,68,69,70,71,72,73,74,75,76,77,78,79,80,81,82,83,84,85,86,87,88,89,90,91,92,93,94,95,96,97,98,99,100,101,102,103] (by repeat (first | apply Off.upd rfl | apply Off.havoc rfl | refine Off.updL (t':=havoc _ _ _) rfl ?_ | exact Off.refl)) [(3,Value.int _ _),(4,Value.pointer _),(5,Value.int _ _)] (by repeat' (first | exact trivial | refine And.intro rfl ?_)) fun tq1=>?_
   refine q_s [2,5,33,34,35,36,37,38,39,40,41,42,43,44,45,46,47,48,49,50,51,52,53] (fun g:FS (Jin) (d.rests.l)=>[(5,.int .i64 ((g.1:Nat):Int))]) (fun g=>(d.rests.l).length - g.1) ⟨0,Jey _ _⟩ ?_
   rintro ⟨k1,hk1,hp1⟩ junk
   try dsimp only
   refine Xbo ?_
   refine q_c (fun hc4=>?_) (fun hc4=>?_)
   ·
    obtain ⟨r,hr⟩:=Ja0 (l:=d.rests.l) (k:=k1) (by omega)
    refine Xdd ?_
    refine Ju2 ?_
    refine qa7 ?_
    refine Xa9 ?_
    apply Jbw (G:=[_,_,_,_,_,_]) (j:=6) (cj:=46) rfl rfl (by rfl) rfl (show _=Value.bool _ from rfl) rfl
    ·
     intro hg7
     replace hg7:=qb hg7
     refine Xak ?_
     refine Ju2 ?_
     refine qa7 ?_
     refine qa5 ?_
     exact qai
    intro junk7
    refine qaf ?_
    refine q_c (fun hc5=>?_) (fun hc5=>?_)
    ·
     refine Xaj ?_
     refine Ja9 (Jaa (Jc5 (Jay (Ja7 (Jcm (Jay (Ja7 (Jay (Ja7 (Jcm (Jay (Ja7 ?_))))))))))))
     refine q_i (L':=L) (R':=R) ?_
     exact J79
    refine Xa1 ?_
    exact q_k ⟨k1 + 1,Jeo hp1 hr (if_neg (by omega))⟩
   have hn1:=Jel hp1 (by omega)
   rw [hn1] at hde
   dsimp only at hde
   refine qcf ?_
   refine Xas ?_
   refine Jb8 [2,3,4,5,6,10,11,12,13,14,15,16,17,18,19,20,21,22,23,24,25,26,27,28,29,30,31,32,33,34,35,36,37,38,39,40,41,42,43,44,45,46,47,48,49,50,51,52,53,54,55,56,57,58,59,60,61,62,63,64,65,66,67,68,69,70,71,72,73,74,75,76,77,78,79,80,81,82,83,84,85,86,87,88,89,90,91,92,93,94,95,96,97,98,99,100,101,102,103] (by repeat (first | apply Off.upd rfl | apply Off.havoc rfl | refine Off.updL (t':=havoc _ _ _) rfl ?_ | exact Off.refl)) [(3,Value.int _ _),(4,Value.pointer _),(6,Value.int _ _)] (by repeat' (first | exact trivial | refine And.intro rfl ?_)) fun tq2=>?_
   refine q_s [2,6,54,55,56,57,58,59,60,61,62,63,64,65,66,67,68,69,70,71,72] (fun g:{k:Nat // 1≤k∧k≤d.rests.l.length∧Jdw d.rests.l k=true}=>[(6,.int .i64 ((g.1:Nat):Int))]) (fun g=>d.rests.l.length - g.1) (⟨1,by omega,by omega,by simp [Jdw]⟩) ?_
   rintro ⟨k2,h21,h22,h23⟩ junk
   try dsimp only
   refine Xbo ?_
   refine q_c (fun hc6=>?_) (fun hc6=>?_)
   ·
    obtain ⟨r,hr⟩:=Ja0 (l:=d.rests.l) (k:=k2) (by omega)
    obtain ⟨y,hy⟩:=Ja0 (l:=d.rests.l) (k:=k2 - 1) (by omega)
    refine Ja3 (Jaa (Jam (Ja1 (Jam ?_))))
    refine Jbb tb [0,1,2,3,4,5,6,7,8,9,10,11] _ Jbn (by kernel_rfl) (List.Sublist.refl _) ?_
    refine Xc5 ?_
    refine qbl ?_
    refine Xa0 ?_
    refine qb7 ?_
    refine Jbu (by first | exact Jag tb rfl rfl rfl rfl (by first | assumption | exact zr (by simp)) (i:=k2 - 1) (by first | rfl | omega | (simp;omega)) (by omega) | exact Jal tb rfl rfl rfl rfl (i:=k2 - 1) (by first | rfl | omega | (simp;omega)) (by omega)) rfl rfl rfl ?_
    refine qbl ?_
    refine Jbu (Jk0 rfl rfl) rfl rfl rfl ?_
    refine qbu ?_
    refine q_c (fun hc7=>?_) (fun hc7=>?_)
    ·
     refine Xaj ?_
     refine Ja9 (Jaa (Jc5 (Jay (Ja7 (Jcm (Jay (Ja7 (Jay (Ja7 (Jcm (Jay (Ja7 ?_))))))))))))
     refine q_i (L':=L) (R':=R) ?_
     exact ⟨by rw [Jec (by omega) hp0 (by omega) (hde.trans (by rw [if_pos (Jxv (by omega) (by omega) hr hy hc7)]))],rfl,rfl⟩
    refine Xa1 ?_
    exact q_k (⟨k2 + 1,by omega,by omega,by rw [Jui (by omega) hr hy,h23,Bool.true_and,decide_eq_true_eq];omega⟩)
   obtain rfl:k2=d.rests.l.length:=by omega
   rw [if_neg (by simp [h23])] at hde
   refine qbk ?_
   refine Xaa ?_
   refine Xcp ?_
   apply Jcd (G:=[_,_,_,_,_,_,_,_,_,_,_,_,_,_,_,_,_,_,_,_,_,_,_,_,_,_]) (j:=3) (cj:=76) rfl rfl (by rfl) rfl (show _=Value.bool _ from rfl) rfl
   ·
    intro hg4
    replace hg4:=qb hg4
    refine Xaa ?_
    refine Xa9 ?_
    apply Jbw (G:=[_,_,_,_,_]) (j:=7) (cj:=80) rfl rfl (by rfl) rfl (show _=Value.bool _ from rfl) rfl
    ·
     intro hg8
     replace hg8:=qb hg8
     refine Xaa ?_
     refine Xat ?_
     refine qbz ?_
     exact qai
    intro junk8
    refine qah ?_
    apply Jbw (G:=[_,_,_,_]) (j:=14) (cj:=87) rfl rfl (by rfl) rfl (show _=Value.bool _ from rfl) rfl
    ·
     intro hg15
     replace hg15:=qb hg15
     refine Xak ?_
     refine qbn ?_
     exact qai
    intro junk15
    refine qah ?_
    apply Jbw (G:=[_,_,_,_,_,_,_,_]) (j:=20) (cj:=93) rfl rfl (by rfl) rfl (show _=Value.bool _ from rfl) rfl
    ·
     intro hg21
     replace hg21:=qb hg21
     have ho:=Jan (l:=x.l) (k:=d.other.toNat) default (by omega)
     refine Xcw ?_
     refine J56 ?_
     refine Xba ?_
     refine qaa ?_
     refine qbq ?_
     exact qai
    intro junk21
    exact qai
   intro junk4
   refine qaf ?_
   refine q_c (fun hc8=>?_) (fun hc8=>?_)
   ·
    refine Xbv ?_
    refine q_i (L':=L) (R':=R) ?_
    exact ⟨by rw [Jec (by omega) hp0 (by omega) (hde.trans (by rw [if_pos (by omega)]))],rfl,rfl⟩
   refine Xa1 ?_
   exact q_k ⟨k0 + 1,Jdy hp0 (by omega) (hde.trans (if_neg (by omega)))⟩
  have hn0:=Je8 hp0 (by omega)
  refine Xcu ?_
  refine q_i (L':=L) (R':=R) ?_
  exact ⟨by rw [Jb1,if_neg (by omega),hn0];rfl,rfl,rfl⟩
end Go.Proofs.YtihompplndcdeaaGreat
end
section
namespace Go.Proofs.YtihompplndcdeaaGreat
open Go.Aw Go
set_option maxRecDepth 20000
attribute [local irreducible] CJ LJ DJ Tri YV Gives Jd5 Jbd Jbz Jd4 RV Jbf
def Jtl (n:Nat) (f:XFan):Option Int:=if Jf2 f≠0 then some (Jf2 f) else if (n:Int)≤f.road then some 4 else none
def Jmn (n:Nat) (d:XDoor):Option Int:=if (n:Int)≤d.road then some 4 else none
def Ja4 (x:XAir):Int:=
  if Jbv x.mine≠0 then Jbv x.mine else if 8 < x.fans.l.length then 2
  else match x.fans.l.findSome? (Jtl x.mine.roads.l.length) with
    | some e=>e
    | none=>if Jb1 x.doors.l≠0 then Jb1 x.doors.l else (x.doors.l.findSome? (Jmn x.mine.roads.l.length)).getD 0
theorem Ji9 {x:XAir} (h:Jbv x.mine=0) (h8:¬ 8 < x.fans.l.length) {e:Int} (hf:x.fans.l.findSome? (Jtl x.mine.roads.l.length)=some e):Ja4 x=e:=by
  rw [Ja4,if_neg (by omega),if_neg h8,hf]
theorem Jj6 {x:XAir} (h:Jbv x.mine=0) (h8:¬ 8 < x.fans.l.length) (hf:x.fans.l.findSome? (Jtl x.mine.roads.l.length)=none):
    Ja4 x=if Jb1 x.doors.l≠0 then Jb1 x.doors.l else (x.doors.l.findSome? (Jmn x.mine.roads.l.length)).getD 0:=by
  rw [Ja4,if_neg (by omega),if_neg h8,hf]
theorem Jea (x:XAir) (L:List Blk) (R:List Sl) (hm:AirR x R):
    Tri Tryz.prog 41 [x.val].toArray L R (fun v L' R'=>v=.int .i64 (Ja4 x)∧L=L'∧R=R'):=by
  have hfa:=hm.fans
  have hdo:=hm.doors
  refine Jb7 Tryz.call41 hfa fun hfn=>?_
  refine Jb7 Tryz.call41 hdo fun hdn=>?_
  refine Jae 61 Tryz.call41 Tryz.func41 rfl rfl rfl ?_
  refine Xai ?_
  intro b1
  refine Xa5 ?_
  refine Xbu ?_
  refine q_l rfl (Jla x.mine _ _ hm.mineR) ?_
  refine Xbt ?_
  refine q_c (fun hc0=>?_) (fun hc0=>?_)
  ·
   refine Xd0 ?_
   refine q_i (L':=L) (R':=R) ?_
   exact ⟨by rw [Ja4,if_pos hc0],rfl,rfl⟩
  simp only [Decidable.not_not] at hc0
  refine qbo ?_
  refine Xab ?_
  refine Xb9 ?_
  refine q_c (fun hc1=>?_) (fun hc1=>?_)
  ·
   refine Xbl ?_
   refine q_i (L':=L) (R':=R) ?_
   exact ⟨by rw [Ja4,if_neg (by omega),if_pos (by omega)],rfl,rfl⟩
  refine qbo ?_
  refine Xbz ?_
  refine Jai [(1,Value.pointer _),(21,Value.slice _ _ _),(22,Value.int _ _),(23,Value.int _ _)] (by repeat' (first | exact trivial | refine And.intro rfl ?_)) fun tq0=>?_
  refine q_s [2,5,6,23,24,25,26,27,28,29,30,31,32,33,34,35,36,37,38,39] (fun g:FS (Jtl x.mine.roads.l.length) (x.fans.l)=>[(23,.int .i64 ((g.1:Nat):Int))]) (fun g=>(x.fans.l).length - g.1) ⟨0,Jey _ _⟩ ?_
  rintro ⟨k0,hk0,hp0⟩ junk
  try dsimp only
  refine Xay ?_
  refine q_c (fun hc2=>?_) (fun hc2=>?_)
  ·
   obtain ⟨f,hf⟩:=Ja0 (l:=x.fans.l) (k:=k0) (by omega)
   have hfr:=InR.fan hfa hf
   refine qbb ?_
   refine Jpz ?_
   refine qdr ?_
   refine qaq ?_
   intro b5
   refine Xbm ?_
   refine qa8 ?_
   refine q_l rfl (Jtn f _ _ hfr) ?_
   skip
   refine Xbt ?_
   refine q_c (fun hc3=>?_) (fun hc3=>?_)
   ·
    refine Xco ?_
    refine qch ?_
    refine q_i (L':=L) (R':=R) ?_
    exact ⟨by rw [Ji9 hc0 (by omega) (Jdt hp0 hf (if_pos hc3))],rfl,rfl⟩
   refine qbv ?_
   refine Xaa ?_
   refine Xa7 ?_
   refine Xdb ?_
   refine q_c (fun hc4=>?_) (fun hc4=>?_)
   ·
    refine Xbv ?_
    refine q_i (L':=L) (R':=R) ?_
    exact ⟨by rw [Ji9 hc0 (by omega) (Jdt hp0 hf ((if_neg hc3).trans (if_pos hc4)))],rfl,rfl⟩
   refine Xa6 ?_
   exact q_k ⟨k0 + 1,Jeo hp0 hf ((if_neg hc3).trans (if_neg hc4))⟩
  have hn0:=Jel hp0 (by omega)
  have hr:=Jj6 hc0 (by omega) hn0
  refine qcf ?_
  refine Xaa ?_
  refine q_l rfl (Jlm x.doors _ _ hdo) ?_
  refine Xbt ?_
  refine q_c (fun hc5=>?_) (fun hc5=>?_)
  ·
   refine Xd0 ?_
   refine q_i (L':=L) (R':=R) ?_
   exact ⟨by rw [hr,if_pos hc5],rfl,rfl⟩
  rw [if_neg hc5] at hr
  refine qbo ?_
  refine Xbz ?_
  refine Jai [(1,Value.pointer _),(47,Value.slice _ _ _),(48,Value.int _ _),(49,Value.int _ _)] (by repeat' (first | exact trivial | refine And.intro rfl ?_)) fun tq1=>?_
  refine q_s [2,9,49,50,51,52,53,54,55,56,57,58,59,60] (fun g:FS (Jmn x.mine.roads.l.length) (x.doors.l)=>[(49,.int .i64 ((g.1:Nat):Int))]) (fun g=>(x.doors.l).length - g.1) ⟨0,Jey _ _⟩ ?_
  rintro ⟨k1,hk1,hp1⟩ junk
  try dsimp only
  refine Xay ?_
  refine q_c (fun hc6=>?_) (fun hc6=>?_)
  ·
   obtain ⟨d,hd⟩:=Ja0 (l:=x.doors.l) (k:=k1) (by omega)
   refine qbb ?_
   refine Ju2 ?_
   refine qdk ?_
   refine qaq ?_
   intro b9
   refine Xc0 ?_
   refine Xa7 ?_
   refine Xdb ?_
   refine q_c (fun hc7=>?_) (fun hc7=>?_)
   ·
    refine Xbv ?_
    refine q_i (L':=L) (R':=R) ?_
    exact ⟨by rw [hr,Jdt hp1 hd (if_pos hc7)];rfl,rfl,rfl⟩
   refine Xa6 ?_
   exact q_k ⟨k1 + 1,Jeo hp1 hd (if_neg hc7)⟩
  have hn1:=Jel hp1 (by omega)
  refine Xcu ?_
  refine q_i (L':=L) (R':=R) ?_
  exact ⟨by rw [hr,hn1];rfl,rfl,rfl⟩
theorem Jes (x:XAir) (L:List Blk) (R:List Sl) (hm:AirR x R):
    Tri Tryz.prog 45 [x.val].toArray L R (fun v L' R'=>v=.int .i64 (Ja4 x)∧L=L'∧R=R'):=by
  have hfa:=hm.fans
  have hdo:=hm.doors
  refine Jb7 Tryz.call45 hfa fun hfn=>?_
  refine Jb7 Tryz.call45 hdo fun hdn=>?_
  refine Jae 69 Tryz.call45 Tryz.func45 rfl rfl rfl ?_
  refine Xai ?_
  intro b1
  refine Xa5 ?_
  refine Xbu ?_
  refine q_l rfl (Jep x.mine _ _ hm.mineR) ?_
  refine Xbt ?_
  refine q_c (fun hc0=>?_) (fun hc0=>?_)
  ·
   refine Xd0 ?_
   refine q_i (L':=L) (R':=R) ?_
   exact ⟨by rw [Ja4,if_pos hc0],rfl,rfl⟩
  simp only [Decidable.not_not] at hc0
  refine qbo ?_
  refine Xab ?_
  refine Xb9 ?_
  refine q_c (fun hc1=>?_) (fun hc1=>?_)
  ·
   refine Xbl ?_
   refine q_i (L':=L) (R':=R) ?_
   exact ⟨by rw [Ja4,if_neg (by omega),if_pos (by omega)],rfl,rfl⟩
  refine Xdr ?_
  refine Jai [(1,Value.pointer _),(4,Value.int _ _)] (by repeat' (first | exact trivial | refine And.intro rfl ?_)) fun tq0=>?_
  refine q_s [2,4,5,18,19,20,21,22,23,24,25,26,27,28,29,30,31,32,33,34,35,36,37,38,39,40,41,42,43,44] (fun g:FS (Jtl x.mine.roads.l.length) (x.fans.l)=>[(4,.int .i64 ((g.1:Nat):Int))]) (fun g=>(x.fans.l).length - g.1) ⟨0,Jey _ _⟩ ?_
  rintro ⟨k0,hk0,hp0⟩ junk
  try dsimp only
  refine Xbo ?_
  refine q_c (fun hc2=>?_) (fun hc2=>?_)
  ·
   obtain ⟨f,hf⟩:=Ja0 (l:=x.fans.l) (k:=k0) (by omega)
   have hfr:=InR.fan hfa hf
   refine Ja3 (Jaa (Jam (Ja1 (Jam (Jam (Jaf ?_))))))
   refine Xak ?_
   refine Jpz ?_
   refine qdr ?_
   refine q_l rfl (Jpr f _ _ hfr) ?_
   refine Xbt ?_
   refine q_c (fun hc3=>?_) (fun hc3=>?_)
   ·
    refine Xco ?_
    refine qch ?_
    refine q_i (L':=L) (R':=R) ?_
    exact ⟨by rw [Ji9 hc0 (by omega) (Jdt hp0 hf (if_pos hc3))],rfl,rfl⟩
   refine qcl ?_
   refine J4d ?_
   refine Xa0 ?_
   refine Jbu (by first | exact Jag tb rfl rfl rfl rfl (by first | assumption | exact zr (by simp)) (i:=k0) (by first | rfl | omega | (simp;omega)) (by omega) | exact Jal tb rfl rfl rfl rfl (i:=k0) (by first | rfl | omega | (simp;omega)) (by omega)) rfl rfl rfl ?_
   refine Xcv ?_
   refine Xd4 ?_
   refine Jbu (Je0 tb rfl rfl rfl) rfl rfl rfl ?_
   refine Jbu (Jk0 rfl rfl) rfl rfl rfl ?_
   refine qbu ?_
   refine q_c (fun hc4=>?_) (fun hc4=>?_)
   ·
    refine Xbv ?_
    refine q_i (L':=L) (R':=R) ?_
    exact ⟨by rw [Ji9 hc0 (by omega) (Jdt hp0 hf ((if_neg hc3).trans (if_pos hc4)))],rfl,rfl⟩
   refine Xa1 ?_
   exact q_k ⟨k0 + 1,Jeo hp0 hf ((if_neg hc3).trans (if_neg hc4))⟩
  have hn0:=Jel hp0 (by omega)
  have hr:=Jj6 hc0 (by omega) hn0
  refine qcf ?_
  refine Xaa ?_
  refine q_l rfl (Jjx x.doors _ _ hdo) ?_
  refine Xbt ?_
  refine q_c (fun hc5=>?_) (fun hc5=>?_)
  ·
   refine Xd0 ?_
   refine q_i (L':=L) (R':=R) ?_
   exact ⟨by rw [hr,if_pos hc5],rfl,rfl⟩
  rw [if_neg hc5] at hr
  refine Xdr ?_
  refine Jai [(1,Value.pointer _),(7,Value.int _ _)] (by repeat' (first | exact trivial | refine And.intro rfl ?_)) fun tq1=>?_
  refine q_s [2,7,51,52,53,54,55,56,57,58,59,60,61,62,63,64,65,66,67,68] (fun g:FS (Jmn x.mine.roads.l.length) (x.doors.l)=>[(7,.int .i64 ((g.1:Nat):Int))]) (fun g=>(x.doors.l).length - g.1) ⟨0,Jey _ _⟩ ?_
  rintro ⟨k1,hk1,hp1⟩ junk
  try dsimp only
  refine Xbo ?_
  refine q_c (fun hc6=>?_) (fun hc6=>?_)
  ·
   obtain ⟨d,hd⟩:=Ja0 (l:=x.doors.l) (k:=k1) (by omega)
   refine Ja3 (Jaa (Jam (Ja1 (Jam ?_))))
   refine J4d ?_
   refine Xa0 ?_
   refine J2g ?_
   refine Xcv ?_
   refine Xd4 ?_
   refine Jbu (Je0 tb rfl rfl rfl) rfl rfl rfl ?_
   refine Jbu (Jk0 rfl rfl) rfl rfl rfl ?_
   refine qbu ?_
   refine q_c (fun hc7=>?_) (fun hc7=>?_)
   ·
    refine Xbv ?_
    refine q_i (L':=L) (R':=R) ?_
    exact ⟨by rw [hr,Jdt hp1 hd (if_pos hc7)];rfl,rfl,rfl⟩
   refine Xa1 ?_
   exact q_k ⟨k1 + 1,Jeo hp1 hd (if_neg hc7)⟩
  have hn1:=Jel hp1 (by omega)
  refine Xcu ?_
  refine q_i (L':=L) (R':=R) ?_
  exact ⟨by rw [hr,hn1];rfl,rfl,rfl⟩
def Jgy (x:Int):Option Unit:=if x < -1∨2 < x then some () else none
def Jds (l:List XDoor) (s:List Int) (i:Nat):Option Unit:=
  match s[i]?,l[i]? with
  | some y,some d=>if y < -1∨(d.rests.l.length:Int)≤y then some () else none
  | _,_=>none
def Jdq (a:XAir) (s:XSetting):Bool:=
  if s.fans.l.length≠a.fans.l.length∨s.doors.l.length≠a.doors.l.length then false
  else (s.fans.l.findSome? Jgy).isNone && ((List.range s.doors.l.length).findSome? (Jds a.doors.l s.doors.l)).isNone
def Jdn (a:XAir) (s:XSetting):Bool:=decide (Ja4 a=0) && Jdq a s
theorem Jgx {l:List XDoor} {s:List Int} {i:Nat} {y:Int} {d:XDoor} (hy:s[i]?=some y) (hd:l[i]?=some d):Jds l s i=if y < -1∨(d.rests.l.length:Int)≤y then some () else none:=by
  rw [Jds,hy,hd]
theorem Jh1 {a:XAir} {s:XSetting} (h:s.fans.l.length=a.fans.l.length) (h':s.doors.l.length=a.doors.l.length):Jdq a s=((s.fans.l.findSome? Jgy).isNone && ((List.range s.doors.l.length).findSome? (Jds a.doors.l s.doors.l)).isNone):=by
  rw [Jdq,if_neg (by omega)]
theorem Jfk (a:XAir) (s:XSetting) (L:List Blk) (R:List Sl) (hm:AirR a R) (hs:SetR s R):
    Tri Tryz.prog 42 [a.val,s.val].toArray L R (fun v L' R'=>v=.bool (Jdq a s)∧L=L'∧R=R'):=by
  have hfa:=hm.fans
  have hdo:=hm.doors
  have hsf:=hs.fans
  have hsd:=hs.doors
  refine Jb7 Tryz.call42 hsf fun hfn=>?_
  refine Jb7 Tryz.call42 hsd fun hdn=>?_
  refine Jae 61 Tryz.call42 Tryz.func42 rfl rfl rfl ?_
  refine Xai ?_
  intro b2
  refine qax ?_
  intro b3
  refine Xb2 ?_
  refine Xab ?_
  refine Xab ?_
  refine Xcp ?_
  apply Jbw (G:=[_,_,_,_,_,_,_]) (j:=7) (cj:=16) rfl rfl (by rfl) rfl (show _=Value.bool _ from rfl) rfl
  ·
   intro hg8
   replace hg8:=qb hg8
   refine Xab ?_
   refine Xab ?_
   refine qbq ?_
   exact qai
  intro junk8
  refine qaf ?_
  refine q_c (fun hc0=>?_) (fun hc0=>?_)
  ·
   refine qae ?_
   refine Xcj ?_
   refine q_b (L':=L) (R':=R) ?_
   exact ⟨by rw [Jdq,if_pos (by omega)],rfl,rfl⟩
  refine qbo ?_
  refine Xbz ?_
  refine Jai [(2,Value.pointer _),(3,Value.pointer _),(26,Value.slice _ _ _),(27,Value.int _ _),(28,Value.int _ _)] (by repeat' (first | exact trivial | refine And.intro rfl ?_)) fun tq0=>?_
  refine q_s [4,6,28,29,30,31,32,33,34,35,36,37,38] (fun g:FS (Jgy) (s.fans.l)=>[(28,.int .i64 ((g.1:Nat):Int))]) (fun g=>(s.fans.l).length - g.1) ⟨0,Jey _ _⟩ ?_
  rintro ⟨k0,hk0,hp0⟩ junk
  try dsimp only
  refine Xay ?_
  refine q_c (fun hc1=>?_) (fun hc1=>?_)
  ·
   obtain ⟨x,hx⟩:=Ja0 (l:=s.fans.l) (k:=k0) (by omega)
   refine qbb ?_
   refine Jpz ?_
   refine qa7 ?_
   refine Xav ?_
   refine Xa9 ?_
   apply Jbw (G:=[_,_]) (j:=2) (cj:=34) rfl rfl (by rfl) rfl (show _=Value.bool _ from rfl) rfl
   ·
    intro hg3
    replace hg3:=qb hg3
    refine qaa ?_
    refine qa5 ?_
    exact qai
   intro junk3
   refine qaf ?_
   refine q_c (fun hc2=>?_) (fun hc2=>?_)
   ·
    refine qae ?_
    refine Xdk ?_
    refine q_b (L':=L) (R':=R) ?_
    exact ⟨by rw [Jh1 (by omega) (by omega),Jdt hp0 hx (if_pos (by omega))];rfl,rfl,rfl⟩
   refine Xa6 ?_
   exact q_k ⟨k0 + 1,Jeo hp0 hx (if_neg (by omega))⟩
  have hn0:=Jel hp0 (by omega)
  refine qcf ?_
  refine Xbz ?_
  refine Jai [(2,Value.pointer _),(40,Value.slice _ _ _),(41,Value.int _ _),(42,Value.int _ _)] (by repeat' (first | exact trivial | refine And.intro rfl ?_)) fun tq1=>?_
  refine q_s [4,7,8,42,43,44,45,46,47,48,49,50,51,52,53,54,55,56,57,58,59,60] (fun g:FSR (Jds a.doors.l s.doors.l) (s.doors.l.length)=>[(42,.int .i64 ((g.1:Nat):Int))]) (fun g=>(s.doors.l.length) - g.1) ⟨0,Je3 _ _⟩ ?_
  rintro ⟨k1,hk1,hp1⟩ junk
  try dsimp only
  refine Xay ?_
  refine q_c (fun hc3=>?_) (fun hc3=>?_)
  ·
   obtain ⟨y,hy⟩:=Ja0 (l:=s.doors.l) (k:=k1) (by omega)
   obtain ⟨d,hd⟩:=Ja0 (l:=a.doors.l) (k:=k1) (by omega)
   have he:=Jgx hy hd
   refine Xb3 ?_
   refine Ju2 ?_
   refine qa7 ?_
   refine qad ?_
   refine Xav ?_
   refine Xa9 ?_
   apply Jbw (G:=[_,_,_,_,_,_,_,_,_]) (j:=2) (cj:=49) rfl rfl (by rfl) rfl (show _=Value.bool _ from rfl) rfl
   ·
    intro hg3
    replace hg3:=qb hg3
    refine qaa ?_
    refine Xak ?_
    refine Ju2 ?_
    refine Xba ?_
    refine qag ?_
    refine qbz ?_
    exact qai
   intro junk3
   refine qaf ?_
   refine q_c (fun hc4=>?_) (fun hc4=>?_)
   ·
    refine qae ?_
    refine Xdk ?_
    refine q_b (L':=L) (R':=R) ?_
    exact ⟨by rw [Jh1 (by omega) (by omega),Jf5 hp1 (by omega) (he.trans (if_pos (by omega)))];simp,rfl,rfl⟩
   refine Xa6 ?_
   exact q_k ⟨k1 + 1,Jdy hp1 (by omega) (he.trans (if_neg (by omega)))⟩
  have hn1:=Je8 hp1 (by omega)
  refine qbk ?_
  refine Xbb ?_
  refine q_b (L':=L) (R':=R) ?_
  exact ⟨by rw [Jh1 (by omega) (by omega),hn0,hn1];rfl,rfl,rfl⟩
theorem Jtv (a:XAir) (s:XSetting) (L:List Blk) (R:List Sl) (hm:AirR a R) (hs:SetR s R):
    Tri Tryz.prog 48 [a.val,s.val].toArray L R (fun v L' R'=>v=.bool (Jdn a s)∧L=L'∧R=R'):=by
  refine Jae 13 Tryz.call48 Tryz.func48 rfl rfl rfl ?_
  refine Xai ?_
  intro b2
  refine qax ?_
  intro b3
  refine Xbr ?_
  refine qa8 ?_
  refine q_l rfl (Jea a _ _ hm) ?_
  refine qbn ?_
  refine qah ?_
  apply Jcd (G:=[_,_,_]) (j:=3) (cj:=8) rfl rfl (by rfl) rfl (show _=Value.bool _ from rfl) rfl
  ·
   intro hg4
   replace hg4:=qb hg4
   refine Xap ?_
   refine q_l rfl (Jfk a s _ _ hm hs) ?_
   exact qai
  intro junk4
  refine Xbb ?_
  refine q_b (L':=L) (R':=R) ?_
  exact ⟨rfl,rfl,rfl⟩
theorem Jdg (a:XAir) (s:XSetting) (L:List Blk) (R:List Sl) (hm:AirR a R) (hs:SetR s R):
    Tri Tryz.prog 46 [a.val,s.val].toArray L R (fun v L' R'=>v=.bool (Jdn a s)∧L=L'∧R=R'):=by
  have hfa:=hm.fans
  have hdo:=hm.doors
  have hsf:=hs.fans
  have hsd:=hs.doors
  refine Jb7 Tryz.call46 hsf fun hfn=>?_
  refine Jb7 Tryz.call46 hsd fun hdn=>?_
  refine Jae 77 Tryz.call46 Tryz.func46 rfl rfl rfl ?_
  refine Xai ?_
  intro b2
  refine qax ?_
  intro b3
  refine Xb2 ?_
  refine qa8 ?_
  refine q_l rfl (Jes a _ _ hm) ?_
  refine Xcp ?_
  apply Jbw (G:=[_,_,_,_,_,_,_]) (j:=3) (cj:=10) rfl rfl (by rfl) rfl (show _=Value.bool _ from rfl) rfl
  ·
   intro hg4
   replace hg4:=qb hg4
   refine Xab ?_
   refine Xab ?_
   refine qbq ?_
   exact qai
  intro junk4
  refine qah ?_
  apply Jbw (G:=[_,_,_,_,_,_,_]) (j:=12) (cj:=19) rfl rfl (by rfl) rfl (show _=Value.bool _ from rfl) rfl
  ·
   intro hg13
   replace hg13:=qb hg13
   refine Xab ?_
   refine Xab ?_
   refine qbq ?_
   exact qai
  intro junk13
  refine qaf ?_
  refine q_c (fun hc0=>?_) (fun hc0=>?_)
  ·
   have hr:Jdn a s=false:=by rw [Jdn,Jdq];by_cases he:Ja4 a=0;rw [if_pos (by omega)];simp;simp [he]
   refine qae ?_
   refine Xcj ?_
   refine q_b (L':=L) (R':=R) ?_
   exact ⟨by rw [hr],rfl,rfl⟩
  have hr:Jdn a s=Jdq a s:=by rw [Jdn,decide_eq_true (by omega)];rfl
  refine Xdr ?_
  refine Jai [(2,Value.pointer _),(3,Value.pointer _),(5,Value.int _ _)] (by repeat' (first | exact trivial | refine And.intro rfl ?_)) fun tq0=>?_
  refine q_s [4,5,28,29,30,31,32,33,34,35,36,37,38,39,40,41,42,43,44,45,46,47,48] (fun g:FS (Jgy) (s.fans.l)=>[(5,.int .i64 ((g.1:Nat):Int))]) (fun g=>(s.fans.l).length - g.1) ⟨0,Jey _ _⟩ ?_
  rintro ⟨k0,hk0,hp0⟩ junk
  try dsimp only
  refine Xbo ?_
  refine q_c (fun hc1=>?_) (fun hc1=>?_)
  ·
   obtain ⟨x,hx⟩:=Ja0 (l:=s.fans.l) (k:=k0) (by omega)
   refine Xdd ?_
   refine Jpz ?_
   refine qa7 ?_
   refine Xa9 ?_
   apply Jbw (G:=[_,_,_,_,_,_]) (j:=6) (cj:=41) rfl rfl (by rfl) rfl (show _=Value.bool _ from rfl) rfl
   ·
    intro hg7
    replace hg7:=qb hg7
    refine Xak ?_
    refine Jpz ?_
    refine qa7 ?_
    refine qa5 ?_
    exact qai
   intro junk7
   refine qaf ?_
   refine q_c (fun hc2=>?_) (fun hc2=>?_)
   ·
    refine qae ?_
    refine Xdk ?_
    refine q_b (L':=L) (R':=R) ?_
    exact ⟨by rw [hr,Jh1 (by omega) (by omega),Jdt hp0 hx (if_pos (by omega))];rfl,rfl,rfl⟩
   refine Xa1 ?_
   exact q_k ⟨k0 + 1,Jeo hp0 hx (if_neg (by omega))⟩
  have hn0:=Jel hp0 (by omega)
  refine qcf ?_
  refine Xas ?_
  refine Jai [(2,Value.pointer _),(3,Value.pointer _),(6,Value.int _ _)] (by repeat' (first | exact trivial | refine And.intro rfl ?_)) fun tq1=>?_
  refine q_s [4,6,49,50,51,52,53,54,55,56,57,58,59,60,61,62,63,64,65,66,67,68,69,70,71,72,73,74,75,76] (fun g:FSR (Jds a.doors.l s.doors.l) (s.doors.l.length)=>[(6,.int .i64 ((g.1:Nat):Int))]) (fun g=>(s.doors.l.length) - g.1) ⟨0,Je3 _ _⟩ ?_
  rintro ⟨k1,hk1,hp1⟩ junk
  try dsimp only
  refine Xbo ?_
  refine q_c (fun hc3=>?_) (fun hc3=>?_)
  ·
   obtain ⟨y,hy⟩:=Ja0 (l:=s.doors.l) (k:=k1) (by omega)
   obtain ⟨d,hd⟩:=Ja0 (l:=a.doors.l) (k:=k1) (by omega)
   have he:=Jgx hy hd
   refine Ja3 (Jaa (Jam (Ja1 (Jam ?_))))
   refine Jbb tb [0,1,2,3,4,5,6,7,8,9,10,11,12,13,14,15,16,17,18,19,20] _ Jbn (by kernel_rfl) (List.Sublist.refl _) ?_
   refine Xa0 ?_
   refine J2g ?_
   refine qbl ?_
   refine Jbu (Jti rfl rfl) rfl rfl rfl ?_
   refine qb2 ?_
   refine Jcz (k:=62) (show _=Value.bool _ from rfl) (fun hg6=>?_) (fun hg6=>?_)
   ·
    replace hg6:=qb hg6
    iterate 13 refine qap ?_
    refine Xb0 ?_
    refine Jcu rfl ?_
    refine qae ?_
    refine Xdk ?_
    refine q_b (L':=L) (R':=R) ?_
    exact J8b
   replace hg6:=qb hg6
   refine Xa0 ?_
   refine J2g ?_
   refine qbl ?_
   refine Xa0 ?_
   refine J2g ?_
   refine Xcv ?_
   refine Jbu (Je0 tb rfl rfl rfl) rfl rfl rfl ?_
   refine Jbu (Jk0 rfl rfl) rfl rfl rfl ?_
   refine Xb0 ?_
   refine q_c (fun hc4=>?_) (fun hc4=>?_)
   ·
    refine qae ?_
    refine Xdk ?_
    refine q_b (L':=L) (R':=R) ?_
    exact J8b
   refine Xa1 ?_
   exact q_k ⟨k1 + 1,Jdy hp1 (by omega) (he.trans (if_neg (by omega)))⟩
  have hn1:=Je8 hp1 (by omega)
  refine qbk ?_
  refine Xbb ?_
  refine q_b (L':=L) (R':=R) ?_
  exact ⟨by rw [hr,Jh1 (by omega) (by omega),hn0,hn1];rfl,rfl,rfl⟩
end Go.Proofs.YtihompplndcdeaaGreat
end
section
namespace Go.Proofs.YtihompplndcdeaaGreat
open Go.Aw Go
set_option maxRecDepth 20000
attribute [local irreducible] CJ LJ DJ Tri YV Gives Jd5 Jbd Jbz Jd4 RV Jbf
def Jn9 (l : List Int) : Nat → Int
  | 0=>l.getD 0 0
  | k + 1=>min (Jn9 l k) (l.getD k 0)
def Jnz (l : List Int) : Nat → Int
  | 0=>l.getD 0 0
  | k + 1=>max (Jnz l k) (l.getD k 0)
def Jex (d:XDoor) (s:Int):XSpan:=
  if d.rests.l.length=0∨s < -1∨(d.rests.l.length:Int)≤s then ⟨0,0⟩
  else if s= -1 then ⟨Jn9 d.rests.l d.rests.l.length,Jnz d.rests.l d.rests.l.length⟩
  else ⟨d.rests.l.getD s.toNat 0,d.rests.l.getD s.toNat 0⟩
theorem J4y (x:Arr Int) (L:List Blk) (R:List Sl) (hm:InR (isl x) R) (h1:1≤x.l.length):
    Tri Tryz.prog 126 [x.val].toArray L R (fun v L' R'=>v=.int .i64 (Jn9 x.l x.l.length)∧L=L'∧R=R'):=by
  refine Jb7 Tryz.call126 hm fun hpn=>?_
  have h0:=Jan (l:=x.l) (k:=0) 0 (by omega)
  refine Jae 25 Tryz.call126 Tryz.func126 rfl rfl rfl ?_
  refine Xaj ?_
  refine qaw ?_
  refine Xb8 ?_
  refine Jls (show _=Value.bool _ from rfl) (by simp;omega) ?_
  refine Xdc ?_
  refine qdt ?_
  refine qa7 ?_
  refine Xa5 ?_
  refine Xas ?_
  refine Jai [(0,Value.slice _ _ _),(3,Value.int _ _),(4,Value.int _ _)] (by repeat' (first | exact trivial | refine And.intro rfl ?_)) fun tq0=>?_
  refine Jrn [3,4,12,13,14,15,16,17,18,19,20,21,22,23] (fun g:{k:Nat // 1≤k∧k≤x.l.length}=>[(4,.int .i64 ((g.1:Nat):Int)),(3,.int .i64 (Jn9 x.l g.1))]) (fun g=>x.l.length - g.1) (⟨1,by omega,by omega⟩) ⟨rfl,congrArg (Value.int .i64) (Int.min_self _).symm,trivial⟩ ?_
  rintro ⟨k,hk1,hk2⟩ junk
  try dsimp only
  refine Xcg ?_
  refine q_c (fun hc1=>?_) (fun hc1=>?_)
  ·
   have hk:=Jan (l:=x.l) (k:=k) 0 (by omega)
   refine Ja3 (Jaa (Jam (Ja1 (Jaf ?_))))
   refine qaa ?_
   refine Xad ?_
   refine qa3 ?_
   refine qa7 ?_
   refine Ja2 (Jrw rfl rfl) rfl ?_
   refine qad ?_
   refine Xa8 ?_
   exact qd0
  obtain rfl:k=x.l.length:=by omega
  refine Xds ?_
  refine q_i (L':=L) (R':=R) ?_
  exact ⟨rfl,rfl,rfl⟩
theorem J4i (x:Arr Int) (L:List Blk) (R:List Sl) (hm:InR (isl x) R) (h1:1≤x.l.length):
    Tri Tryz.prog 127 [x.val].toArray L R (fun v L' R'=>v=.int .i64 (Jnz x.l x.l.length)∧L=L'∧R=R'):=by
  refine Jb7 Tryz.call127 hm fun hpn=>?_
  have h0:=Jan (l:=x.l) (k:=0) 0 (by omega)
  refine Jae 25 Tryz.call127 Tryz.func127 rfl rfl rfl ?_
  refine Xaj ?_
  refine qaw ?_
  refine Xb8 ?_
  refine Jls (show _=Value.bool _ from rfl) (by simp;omega) ?_
  refine Xdc ?_
  refine qdt ?_
  refine qa7 ?_
  refine Xa5 ?_
  refine Xas ?_
  refine Jai [(0,Value.slice _ _ _),(3,Value.int _ _),(4,Value.int _ _)] (by repeat' (first | exact trivial | refine And.intro rfl ?_)) fun tq0=>?_
  refine Jrn [3,4,12,13,14,15,16,17,18,19,20,21,22,23] (fun g:{k:Nat // 1≤k∧k≤x.l.length}=>[(4,.int .i64 ((g.1:Nat):Int)),(3,.int .i64 (Jnz x.l g.1))]) (fun g=>x.l.length - g.1) (⟨1,by omega,by omega⟩) ⟨rfl,congrArg (Value.int .i64) (Int.max_self _).symm,trivial⟩ ?_
  rintro ⟨k,hk1,hk2⟩ junk
  try dsimp only
  refine Xcg ?_
  refine q_c (fun hc1=>?_) (fun hc1=>?_)
  ·
   have hk:=Jan (l:=x.l) (k:=k) 0 (by omega)
   refine Ja3 (Jaa (Jam (Ja1 (Jaf ?_))))
   refine qaa ?_
   refine Xad ?_
   refine qa3 ?_
   refine qa7 ?_
   refine Ja2 (Jl7 rfl rfl) rfl ?_
   refine qad ?_
   refine Xa8 ?_
   exact qd0
  obtain rfl:k=x.l.length:=by omega
  refine Xds ?_
  refine q_i (L':=L) (R':=R) ?_
  exact ⟨rfl,rfl,rfl⟩
theorem J2r (d:XDoor) (s:Int) (L:List Blk) (R:List Sl) (hm:InR d.sl R):
    Tri Tryz.prog 107 [d.val,.int .i64 s].toArray L R (fun v L' R'=>v=(Jex d s).val∧L=L'∧R=R'):=by
  refine Jb7 Tryz.call107 hm fun hpn=>?_
  refine Jae 43 Tryz.call107 Tryz.func107 rfl rfl rfl ?_
  refine Xai ?_
  intro b2
  refine qaq ?_
  intro b4
  refine Ja9 (Jaa (Jam (Ja1 (Jam (Jaf ?_)))))
  refine Xcx ?_
  refine qah ?_
  apply Jbw (G:=[_,_]) (j:=4) (cj:=10) rfl rfl (by rfl) rfl (show _=Value.bool _ from rfl) rfl
  ·
   intro hg5
   replace hg5:=qb hg5
   refine qaa ?_
   refine qaj ?_
   exact qai
  intro junk5
  refine qah ?_
  apply Jbw (G:=[_,_,_,_,_]) (j:=8) (cj:=14) rfl rfl (by rfl) rfl (show _=Value.bool _ from rfl) rfl
  ·
   intro hg9
   replace hg9:=qb hg9
   refine qaa ?_
   refine Xab ?_
   refine qbz ?_
   exact qai
  intro junk9
  refine Xbg ?_
  refine q_c (fun hc0=>?_) (fun hc0=>?_)
  ·
   refine Xcm ?_
   refine qak ?_
   refine qdb ?_
   refine q_r (L':=L) (R':=R) (Jdi rfl (Jax (row:=[_,_]) tb rfl rfl rfl (by repeat (first | exact zi0 | apply zi1 | apply zi2)) (by rfl) (by rfl))) ?_
   exact ⟨by rw [Jex,if_pos (by omega)],rfl,rfl⟩
  refine Xc1 ?_
  refine Xcc ?_
  refine q_c (fun hc1=>?_) (fun hc1=>?_)
  ·
   refine Jam ?_
   refine Ja8 tb [] [0,1,3,4,2,5,6] [7] (_) _ Jbn (by kernel_rfl) (by repeat (first | exact zs0 _ | exact zs1 _ | apply zs2 | apply zs3 | apply zs4 | apply zs5)) (by (repeat (first | apply List.Sublist.cons (a:=Blk.mk b4 _ _) | apply List.Sublist.cons_cons));exact List.Sublist.refl _) ?_
   refine Xde ?_
   refine Jbl rfl (J4y d.rests _ _ hm (by omega)) rfl rfl ?_
   rintro v L' R' ⟨rfl,rfl,rfl⟩
   refine qas ?_
   refine Jbl rfl (J4i d.rests _ _ hm (by omega)) rfl rfl ?_
   rintro v L' R' ⟨rfl,rfl,rfl⟩
   refine qas ?_
   refine qcw ?_
   refine qba ?_
   refine qbg ?_
   refine Jbt (Jaa (Jc5 (Jay (Ja7 ?_))))
   refine q_r (L':=L) (R':=R) (Jdi rfl (Jax (row:=[_,_]) tb rfl rfl rfl (by repeat (first | exact zi0 | apply zi1 | apply zi2)) (by rfl) (by rfl))) ?_
   exact ⟨by rw [Jex,if_neg (by omega),if_pos (by omega)],rfl,rfl⟩
  refine Ja3 (Jao (Jaa (Jam ?_)))
  have hk:=Jan (l:=d.rests.l) (k:=s.toNat) 0 (by omega)
  refine J8o ?_
  refine Xbk ?_
  refine J2d ?_
  refine qci ?_
  refine Xbk ?_
  refine J2d ?_
  refine qci ?_
  refine qcw ?_
  refine qba ?_
  refine qbg ?_
  refine Jbt (Jaa (Jc5 ?_))
  refine q_r (L':=L) (R':=R) (Jdi rfl (Jax (row:=[_,_]) tb rfl rfl rfl (by repeat (first | exact zi0 | apply zi1 | apply zi2)) (by rfl) (by rfl))) ?_
  exact ⟨by rw [Jex,if_neg (by omega),if_neg (by omega)],rfl,rfl⟩
theorem Jlo (d:XDoor) (s:Int) (L:List Blk) (R:List Sl) (hm:InR d.sl R):
    Tri Tryz.prog 50 [d.val,.int .i64 s].toArray L R (fun v L' R'=>v=(Jex d s).val∧L=L'∧R=R'):=by
  refine Jb7 Tryz.call50 hm fun hpn=>?_
  refine Jae 71 Tryz.call50 Tryz.func50 rfl rfl rfl ?_
  refine Xai ?_
  intro b2
  refine qaq ?_
  intro b4
  refine qaw ?_
  refine Xcx ?_
  refine qah ?_
  apply Jbw (G:=[_,_]) (j:=4) (cj:=11) rfl rfl (by rfl) rfl (show _=Value.bool _ from rfl) rfl
  ·
   intro hg5
   replace hg5:=qb hg5
   refine qaa ?_
   refine qaj ?_
   exact qai
  intro junk5
  refine qah ?_
  apply Jbw (G:=[_,_,_,_,_]) (j:=8) (cj:=15) rfl rfl (by rfl) rfl (show _=Value.bool _ from rfl) rfl
  ·
   intro hg9
   replace hg9:=qb hg9
   refine qaa ?_
   refine Xab ?_
   refine qbz ?_
   exact qai
  intro junk9
  refine qaf ?_
  refine q_c (fun hc0=>?_) (fun hc0=>?_)
  ·
   refine Xcm ?_
   refine qak ?_
   refine qbh ?_
   refine q_r (L':=L) (R':=R) (Jdi rfl (Jax (row:=[_,_]) tb rfl rfl rfl (by repeat (first | exact zi0 | apply zi1 | apply zi2)) (by rfl) (by rfl))) ?_
   exact ⟨by rw [Jex,if_pos (by omega)],rfl,rfl⟩
  refine qbo ?_
  refine qaa ?_
  refine Xdb ?_
  refine q_c (fun hc1=>?_) (fun hc1=>?_)
  ·
   refine Jam ?_
   have hk:=Jan (l:=d.rests.l) (k:=s.toNat) 0 (by omega)
   refine J8o ?_
   refine Xbk ?_
   refine J2d ?_
   refine qci ?_
   refine Xbk ?_
   refine J2d ?_
   refine qci ?_
   refine qcw ?_
   refine qba ?_
   refine qbg ?_
   refine Jbt (Jaa (Jc5 (Ja7 ?_)))
   refine q_r (L':=L) (R':=R) (Jdi rfl (Jax (row:=[_,_]) tb rfl rfl rfl (by repeat (first | exact zi0 | apply zi1 | apply zi2)) (by rfl) (by rfl))) ?_
   exact ⟨by rw [Jex,if_neg (by omega),if_neg (by omega)],rfl,rfl⟩
  refine qcl ?_
  have h0:=Jan (l:=d.rests.l) (k:=0) 0 (by omega)
  refine J4d ?_
  refine Xae ?_
  refine qdu ?_
  refine qbl ?_
  refine Xae ?_
  refine qdu ?_
  refine qbl ?_
  refine Jbu (Jbx (qs:=[(0,(Value.int _ _).cells.toList),(1,(Value.int _ _).cells.toList)]) (out:=[_,_]) tb rfl rfl rfl rfl) rfl rfl rfl ?_
  refine qbr ?_
  intro b5
  refine qbg ?_
  refine qc6 ?_
  refine Xas ?_
  refine Jai [(2,Value.pointer _),(4,Value.pointer _),(5,Value.pointer _),(6,Value.int _ _)] (by repeat' (first | exact trivial | refine And.intro rfl ?_)) fun tq0=>?_
  refine q_p [6,45,46,47,48,49,50,51,52,53,54,55,56,57,58,59,60,61,62,63,64,65,66,67,68,69] ((⟨fun g=>[(6,.int .i64 ((g.1:Nat):Int))],fun g=>⟨b5,[.int .i64 (Jn9 d.rests.l g.1),.int .i64 (Jnz d.rests.l g.1)],46⟩ :: ⟨b4,[.int .i64 0,.int .i64 0],46⟩ :: ⟨b2,d.cells,83⟩ :: L,fun _=>R,fun g=>d.rests.l.length - g.1⟩:Head {k:Nat // k≤d.rests.l.length})) (⟨0,by omega⟩) ?_
  rintro ⟨k,hk⟩ junk
  try dsimp only
  refine Xbo ?_
  refine q_c (fun hc2=>?_) (fun hc2=>?_)
  ·
   have hx:=Jan (l:=d.rests.l) (k:=k) 0 (by omega)
   refine Ja3 (Jaa (Jam (Ja1 ?_)))
   refine Ja8 tb [62,63,64,65,66,67] [0,1,2,3,4,5,6,7,8,9,10,11,12,13,14,15,16] [17,18,19] (_) _ Jbn (by kernel_rfl) (by repeat (first | exact zs0 _ | exact zs1 _ | apply zs2 | apply zs3 | apply zs4 | apply zs5)) (by (repeat (first | apply List.Sublist.cons (a:=Blk.mk b5 _ _) | apply List.Sublist.cons_cons));exact List.Sublist.refl _) ?_
   refine Xaf ?_
   refine Xbk ?_
   refine qc5 ?_
   refine qci ?_
   refine Jca (Jrw rfl rfl) rfl rfl rfl rfl ?_
   refine Xaf ?_
   refine Xch ?_
   refine Jgc (Jar (show _=Value.int _ _ from rfl)) rfl rfl rfl rfl ?_
   refine Jgc (by first | exact Jag tb rfl rfl rfl rfl (by first | assumption | exact zr (by simp)) rfl (by omega) | exact Jal tb rfl rfl rfl rfl rfl (by omega)) rfl rfl rfl rfl ?_
   refine Jgc (by first | exact Jfm tb rfl rfl rfl (by first | assumption | exact zr (by simp)) (by assumption) (by rfl) | exact Jbo tb rfl rfl rfl (by repeat (first | exact zi0 | apply zi1 | apply zi2)) (by rfl) | exact Jbo tb rfl rfl rfl (by repeat (first | exact zi0 | apply zi1 | apply zi2)) (Jgf (by assumption)) | exact Jbo tb rfl rfl rfl (by repeat (first | exact zi0 | apply zi1 | apply zi2)) (Jfu (fun _=>rfl) (by assumption) rfl)) rfl rfl rfl rfl ?_
   refine Jgc (Jl7 rfl rfl) rfl rfl rfl rfl ?_
   refine Xc7 ?_
   refine qal ?_
   refine qb6 ?_
   refine Xca ?_
   exact q_k ⟨k + 1,by omega⟩
  obtain rfl:k=d.rests.l.length:=by omega
  refine qbk ?_
  refine Xdg ?_
  refine q_r (L':=L) (R':=R) (Jdi rfl (Jax (row:=[_,_]) tb rfl rfl rfl (by repeat (first | exact zi0 | apply zi1 | apply zi2)) (by rfl) (by rfl))) ?_
  exact ⟨by rw [Jex,if_neg (by omega),if_pos (by omega)],rfl,rfl⟩
end Go.Proofs.YtihompplndcdeaaGreat
end
