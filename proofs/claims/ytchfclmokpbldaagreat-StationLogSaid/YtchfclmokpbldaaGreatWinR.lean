/-
  Texts of one chapter, merged. By an AI agent; no person has read it.
-/
import Derived.Test.YtchfclmokpbldaaGreatRuleP
import Derived.Test.YtchfclmokpbldaaGreatRule
import Derived.Test.YtchfclmokpbldaaGreatChecks
import Derived.Test.YtchfclmokpbldaaGreatLaw11b
set_option linter.unusedVariables false
set_option linter.unusedSimpArgs false
set_option maxRecDepth 20000
namespace Go.Proofs.YtchfclmokpbldaaGreat
open Go.Aw Go
section
section
variable {A9 B9:Prop}
theorem Klc (a:A9) (h:A9→B9:=by exact Jx zkb rfl):B9:=h a
theorem Z6e (a:A9) (h:A9→B9:=by exact Jx (by first | exact Jf tb rfl rfl rfl rfl zt (i:=c.target.toNat) zk za | exact Jk tb rfl rfl rfl rfl (i:=c.target.toNat) zk za) rfl):B9:=h a
theorem Uaf (a:A9) (h:A9→B9:=by exact Jx zV rfl):B9:=h a
end
theorem U1c {P : Program} {ρ : Operand → Value} {L : List Blk} {R : List Sl} {dst : Option Tmp} {ty : TypeId} {pos : String} {after : Array Edge} {guard : Option (Nat × Bool)} (tb : Tabs P) {T : TypeId} {x y : Operand} {k : IntKind} {a : Int} {e n n2 bt z bt2 z2 k2} {fl fl2 : List (Nat × Nat)} {h len cap i : Nat} {ar : Option Addr} {rows : List (List Value)} {subs : List Sl} (hT : V0 tb.tab T = some ⟨.slice e, n, fl, bt, z⟩) (hE : V0 tb.tab e = some ⟨k2, n2, fl2, bt2, z2⟩)
    (hx:ρ x=.slice ar h cap) (hy:ρ y=.int k a) (hR:InR (.mk n2 ar len cap rows subs) R) (hle:h≤len) (hi:a=(i:Int)) (hlt:i < h):
    YV P ⟨dst,.indexAddr T x y,ty,pos,after,guard⟩ ρ L R (.pointer (some ⟨adB ar,eo ar n2 i 0,none⟩)):=fun c w hst=>by
  obtain ⟨⟨G,hh,hg⟩,ho,hk⟩:=hst
  have hst2:St c L (.mk n2 ar h cap (rows.take h) subs :: R) w:=⟨⟨G,⟨hh.nd,hh.own,hh.ng,hh.gs,fun r hr=>by
    rcases List.mem_cons.1 hr with rfl | hr
    · obtain ⟨r', hr', hs⟩ := hR
      exact Knd ((hh.rep r' hr').sub hs) hle
    · exact hh.rep r hr⟩,hg⟩,ho,hk⟩
  exact Jf tb hT hE hx hy zpb hi hlt c w hst2
attribute [local irreducible] CJ LJ DJ Tri YV Gives Ui J0 Ke Uh RV J2 OwL.L
theorem Jqa (a b:Int) (L:List Blk) (R:List Sl):
    Tri Tryz.prog 178 [.int .i64 a,.int .i64 b].toArray L R (fun v L' R'=>v=.bool (decide (0≤a∧a < b))∧L=L'∧R=R'):=by
  refine Jg 12 Tryz.call178 Tryz.func178 rfl rfl rfl ?_
  refine Xbb ?_
  refine Xde ?_
  refine qbz ?_
  refine qah ?_
  apply Ur (G:=[_,_,_]) (j:=2) (cj:=7) rfl rfl zb rfl zdb rfl
  ·
   intro hg3
   replace hg3:=qb hg3
   refine Xbh ?_
   exact zyd
  intro junk3
  refine Xba ?_
  refine q_b (L':=L) (R':=R) ?_
  exact ⟨by refine congrArg Value.bool ?_;rw [Bool.eq_iff_iff];simp,rfl,rfl⟩
theorem Z4c {a:XAir} {S:List XSens} {i:Nat} {x:XSens} (hx:x=S.getD i default) (h1:Uy x=0) (h2:0≤x.target∧x.target < V0a a x) (h3:∀k:Nat,k < i→(S.getD k default).address≠x.address):Zk a S i=none:=by
  rw [Zk,← hx,if_neg za,if_neg (fun h=>h h2),if_neg]
  rintro ⟨k,k1,k2⟩
  exact h3 k k1 k2
theorem K4b (s:XSite) (L:List Blk) (R:List Sl) (hs:InR (Vyd s.sensors) R) (hn:s.sensors.l.length≤64):
    Tri Tryz.prog 145 [s.val].toArray L R (fun v L' R'=>v=.int .i64 (Ue s.air s.sensors.l)∧L=L'∧R=R'):=by
  refine V3a Tryz.call145 hs fun hcap=>?_
  refine Jg 62 Tryz.call145 Tryz.func145 rfl rfl rfl ?_
  refine Xag ?_
  intro b1
  refine Xas ?_
  refine Xaw ?_
  refine Jo [(1,Value.pointer _),(10,Value.slice _ _ _),(11,Value.int _ _),(12,Value.int _ _)] zg fun tq0=>?_
  refine q_s [2,3,4,5,6,8,12,13,14,15,16,17,18,19,20,21,22,23,24,25,26,27,28,29,30,31,32,33,34,35,36,37,38,39,40,41,42,43,44,45,46,47,48,49,50,51,52,53,54,55,56,57,58,59,60,61] (fun g:FSR (Zk s.air s.sensors.l) (s.sensors.l.length)=>[(12,.int .i64 ((g.1:Nat):Int))]) (fun g=>(s.sensors.l.length) - g.1) ⟨0,Jxa _ _⟩ ?_
  rintro ⟨k0,hk0,hp0⟩ junk
  try dsimp only
  refine Xak ?_
  refine q_c (fun hc0=>?_) (fun hc0=>?_)
  ·
   have hxg:=Jw (l:=s.sensors.l) (k:=k0) default za
   obtain ⟨x,hx⟩:∃x,x=s.sensors.l.getD k0 default:=⟨_,rfl⟩
   rw [← hx] at hxg
   refine Xa2 ?_
   refine Jx zW rfl ?_
   refine Uaf ?_
   refine qaq ?_
   intro b4
   refine qad ?_
   refine Xa9 ?_
   refine Jx zmb rfl ?_
   refine q_l rfl (Ura x _ _) ?_
   refine Xa7 ?_
   refine q_c (fun hc1=>?_) (fun hc1=>?_)
   ·
    refine Xdj ?_
    refine qch ?_
    refine q_i (L':=L) (R':=R) ?_
    have h:=Vv hp0 za (show Zk s.air s.sensors.l k0=some (Uy x) by rw [Zk,← hx,if_pos hc1])
    exact ⟨by rw [Ue,h];rfl,rfl,rfl⟩
   refine qbv ?_
   iterate 3 refine qab ?_
   refine qac ?_
   refine qag ?_
   refine Xas ?_
   refine Xaa ?_
   refine qaf ?_
   refine Yka [6,29,30,31,32,33,34,35,36,37,38,39,40] ((⟨fun g=>[(6,.int .i64 g.1)],fun _=>⟨b4,x.cells,88⟩ :: ⟨b1,s.cells,38⟩ :: L,fun _=>R,fun _=>0⟩:Head {n:Int // n=V0a s.air x})) ?_ ?_
   ·
    refine Kg (Jn (Jh ?_))
    refine Xay ?_
    refine q_c (fun hc2=>?_) (fun hc2=>?_)
    ·
     refine qay ?_
     refine Xck ?_
     refine qad ?_
     refine J6 (Ji ?_)
     refine q_j ⟨_,?_⟩
     rw [V0a];(repeat' split) <;> first | rfl | omega
    refine Xbi ?_
    refine q_c (fun hc3=>?_) (fun hc3=>?_)
    ·
     refine qay ?_
     refine Xck ?_
     refine qad ?_
     refine J6 (Ji ?_)
     refine q_j ⟨_,?_⟩
     rw [V0a];(repeat' split) <;> first | rfl | omega
    refine J5 (Ji ?_)
    refine q_j ⟨_,?_⟩
    rw [V0a];(repeat' split) <;> first | rfl | omega
   rintro ⟨of,hof⟩ junk
   try dsimp only
   refine qbi ?_
   refine Xam ?_
   refine q_l rfl (Jqa x.target of _ _) ?_
   refine Xbd ?_
   refine q_c (fun hc4=>?_) (fun hc4=>?_)
   ·
    refine Xcs ?_
    refine q_i (L':=L) (R':=R) ?_
    have h:=Vv hp0 za (show Zk s.air s.sensors.l k0=some 9 by rw [Zk,← hx,if_neg za,if_pos (by rw [← hof];simpa using hc4)])
    exact ⟨by rw [Ue,h];rfl,rfl,rfl⟩
   refine qbv ?_
   refine Xam ?_
   refine Jx (Yca tb rfl rfl rfl rfl (n:=k0) zk za) rfl ?_
   refine Xc1 ?_
   refine Y4 [2,3,4,5,6,8,12,13,14,15,16,17,18,19,20,21,22,23,24,25,26,27,28,29,30,31,32,33,34,35,36,37,38,39,40,41,42,43,44,45,46,47,48,49,50,51,52,53,54,55,56,57,58,59,60,61] zK [(4,Value.pointer _),(12,Value.int _ _),(49,Value.slice _ _ _),(50,Value.int _ _),(51,Value.int _ _)] zg fun tq1=>?_
   refine q_s [2,8,51,52,53,54,55,56,57,58,59,60] (fun g:{j:Nat // j≤k0∧∀m:Nat,m < j→(s.sensors.l.getD m default).address≠x.address}=>[(51,.int .i64 ((g.1:Nat):Int))]) (fun g=>k0 - g.1) (⟨0,by omega,fun m hm=>by omega⟩) ?_
   rintro ⟨j,hj,hal⟩ junk
   try dsimp only
   refine Xak ?_
   refine q_c (fun hc5=>?_) (fun hc5=>?_)
   ·
    have hjg:=Jw (l:=s.sensors.l) (k:=j) default za
    refine qbb ?_
    refine Jx (U1c tb rfl rfl rfl rfl hs za (i:=j) rfl za) rfl ?_
    refine Uaf ?_
    refine qaq ?_
    intro b8
    refine Xa0 ?_
    refine Xbe ?_
    refine Xcd ?_
    refine q_c (fun hc6=>?_) (fun hc6=>?_)
    ·
     refine Xab ?_
     refine J6 (Jb (Uo (J3 (J7 (Va (J3 (J3 (J7 (Va (J3 (J7 ?_)))))))))))
     refine q_i (L':=L) (R':=R) ?_
     have h:=Vv hp0 za (show Zk s.air s.sensors.l k0=some 9 by rw [Zk,← hx,if_neg za,if_neg (fun h=>h (by rw [← hof];simpa using hc4)),if_pos ⟨j,by omega,hc6⟩])
     exact ⟨by rw [Ue,h];rfl,rfl,rfl⟩
    refine Xax ?_
    exact Kf (⟨j + 1,by omega,fun m hm=>by
    rcases Nat.lt_or_ge m j with h | h
    · exact hal m h
    · obtain rfl : m = j := by omega
      exact hc6⟩) zm zg zi zqb zx
   refine K8 (Kq (Uf (Kc (Ji (Jb (Jh ?_))))))
   refine Xae ?_
   exact q_k ⟨k0 + 1,Yz hp0 za (Z4c hx za (by rw [← hof];simpa using hc4) (fun m hm=>hal m za))⟩
  have hn0:=Jba hp0 za
  refine Xb7 ?_
  refine q_i (L':=L) (R':=R) ?_
  exact ⟨by rw [Ue,hn0];rfl,rfl,rfl⟩
theorem Kic (s:XSite) (c:XCond) (L:List Blk) (R:List Sl) (hs:InR (Vyd s.sensors) R) (hn:s.sensors.l.length≤64):
    Tri Tryz.prog 146 [s.val,c.val].toArray L R (fun v L' R'=>v=.int .i64 (Ko s.sensors.l s.air.mine.roads.l.length c)∧L=L'∧R=R'):=by
  refine Jg 62 Tryz.call146 Tryz.func146 rfl rfl rfl ?_
  refine Xag ?_
  intro b2
  refine qax ?_
  intro b3
  refine Xas ?_
  refine Xaa ?_
  refine J6 (Jb (Kg (Jn (Jn (Jh ?_)))))
  refine Xay ?_
  refine q_c (fun hc0=>?_) (fun hc0=>?_)
  ·
   refine J5 (Jb ?_)
   refine q_c (fun hc2=>?_) (fun hc2=>?_)
   ·
    refine Xb8 ?_
    refine Xac ?_
    refine q_l rfl zBb ?_
    refine Xbd ?_
    refine q_c (fun hc3=>?_) (fun hc3=>?_)
    ·
     refine Xa6 ?_
     refine q_i (L':=L) (R':=R) ?_
     exact ⟨by refine congrArg (Value.int .i64) ?_;rw [Ko,Ki];(repeat' split) <;> omega,rfl,rfl⟩
    refine J5 (Ji (Jb (Jn (Jn (Jh ?_)))))
    refine Xbg ?_
    apply J9 (G:=[_,_,_]) (j:=3) (cj:=51) rfl rfl zb rfl zdb rfl
    ·
     exact zZc
    intro junk4
    refine qaf ?_
    refine q_c (fun hc8=>?_) (fun hc8=>?_)
    ·
     refine Xa5 ?_
     refine q_i (L':=L) (R':=R) ?_
     exact ⟨by refine congrArg (Value.int .i64) ?_;rw [Ko,Ki];(repeat' split) <;> omega,rfl,rfl⟩
    refine Xdk ?_
    refine q_c (fun hc9=>?_) (fun hc9=>?_)
    ·
     refine Xc5 ?_
     refine Klc ?_
     refine q_l rfl zWb ?_
     refine Xai ?_
     refine q_i (L':=L) (R':=R) ?_
     exact ⟨by refine congrArg (Value.int .i64) ?_;rw [Ko,Ki];(repeat' split) <;> omega,rfl,rfl⟩
    refine Xcf ?_
    refine q_i (L':=L) (R':=R) ?_
    exact ⟨by refine congrArg (Value.int .i64) ?_;rw [Ko,Ki];(repeat' split) <;> omega,rfl,rfl⟩
   refine Xbi ?_
   refine q_c (fun hc4=>?_) (fun hc4=>?_)
   ·
    refine Xb8 ?_
    refine Xac ?_
    refine q_l rfl zBb ?_
    refine Xcc ?_
    apply J9 (G:=[_,_,_,_,_,_,_,_]) (j:=7) (cj:=27) rfl rfl zb rfl zdb rfl
    ·
     exact zcd
    intro junk8
    refine qaf ?_
    refine q_c (fun hc5=>?_) (fun hc5=>?_)
    ·
     refine Xa6 ?_
     refine q_i (L':=L) (R':=R) ?_
     exact ⟨by refine congrArg (Value.int .i64) ?_;rw [Ko,Ki];(repeat' split) <;> omega,rfl,rfl⟩
    refine J5 (Ji (Jb (Jn (Jn (Jh ?_)))))
    refine Xbg ?_
    apply J9 (G:=[_,_,_]) (j:=3) (cj:=51) rfl rfl zb rfl zdb rfl
    ·
     exact zZc
    intro junk4
    refine qaf ?_
    refine q_c (fun hc8=>?_) (fun hc8=>?_)
    ·
     refine Xa5 ?_
     refine q_i (L':=L) (R':=R) ?_
     exact ⟨by refine congrArg (Value.int .i64) ?_;rw [Ko,Ki];(repeat' split) <;> omega,rfl,rfl⟩
    refine Xdk ?_
    refine q_c (fun hc9=>?_) (fun hc9=>?_)
    ·
     refine Xc5 ?_
     refine Klc ?_
     refine q_l rfl zWb ?_
     refine Xai ?_
     refine q_i (L':=L) (R':=R) ?_
     exact ⟨by refine congrArg (Value.int .i64) ?_;rw [Ko,Ki];(repeat' split) <;> omega,rfl,rfl⟩
    refine Xcf ?_
    refine q_i (L':=L) (R':=R) ?_
    exact ⟨by refine congrArg (Value.int .i64) ?_;rw [Ko,Ki];(repeat' split) <;> omega,rfl,rfl⟩
   refine Xbi ?_
   refine q_c (fun hc6=>?_) (fun hc6=>?_)
   ·
    refine Xb8 ?_
    iterate 3 refine qab ?_
    refine qac ?_
    refine qag ?_
    refine q_l rfl zYb ?_
    refine Xbd ?_
    refine q_c (fun hc7=>?_) (fun hc7=>?_)
    ·
     refine Xa6 ?_
     refine q_i (L':=L) (R':=R) ?_
     exact ⟨by refine congrArg (Value.int .i64) ?_;rw [Ko,Ki];(repeat' split) <;> omega,rfl,rfl⟩
    refine J5 (Ji (Jb (Jn (Jn (Jh ?_)))))
    refine Xbg ?_
    apply J9 (G:=[_,_,_]) (j:=3) (cj:=51) rfl rfl zb rfl zdb rfl
    ·
     exact zZc
    intro junk4
    refine qaf ?_
    refine q_c (fun hc8=>?_) (fun hc8=>?_)
    ·
     refine Xa5 ?_
     refine q_i (L':=L) (R':=R) ?_
     exact ⟨by refine congrArg (Value.int .i64) ?_;rw [Ko,Ki];(repeat' split) <;> omega,rfl,rfl⟩
    refine Xdk ?_
    refine q_c (fun hc9=>?_) (fun hc9=>?_)
    ·
     refine Xc5 ?_
     refine Klc ?_
     refine q_l rfl zWb ?_
     refine Xai ?_
     refine q_i (L':=L) (R':=R) ?_
     exact ⟨by refine congrArg (Value.int .i64) ?_;rw [Ko,Ki];(repeat' split) <;> omega,rfl,rfl⟩
    refine Xcf ?_
    refine q_i (L':=L) (R':=R) ?_
    exact ⟨by refine congrArg (Value.int .i64) ?_;rw [Ko,Ki];(repeat' split) <;> omega,rfl,rfl⟩
   refine Xa6 ?_
   refine q_i (L':=L) (R':=R) ?_
   exact ⟨by refine congrArg (Value.int .i64) ?_;rw [Ko,Ki];(repeat' split) <;> omega,rfl,rfl⟩
  refine Xbi ?_
  refine q_c (fun hc1=>?_) (fun hc1=>?_)
  ·
   refine J5 (Jb ?_)
   refine q_c (fun hc2=>?_) (fun hc2=>?_)
   ·
    refine Xb8 ?_
    refine Xac ?_
    refine q_l rfl zBb ?_
    refine Xbd ?_
    refine q_c (fun hc3=>?_) (fun hc3=>?_)
    ·
     refine Xa6 ?_
     refine q_i (L':=L) (R':=R) ?_
     exact ⟨by refine congrArg (Value.int .i64) ?_;rw [Ko,Ki];(repeat' split) <;> omega,rfl,rfl⟩
    refine J5 (Ji (Jb (Jn (Jn (Jh ?_)))))
    refine Xbg ?_
    apply J9 (G:=[_,_,_]) (j:=3) (cj:=51) rfl rfl zb rfl zdb rfl
    ·
     exact zZc
    intro junk4
    refine qaf ?_
    refine q_c (fun hc8=>?_) (fun hc8=>?_)
    ·
     refine Xa5 ?_
     refine q_i (L':=L) (R':=R) ?_
     exact ⟨by refine congrArg (Value.int .i64) ?_;rw [Ko,Ki];(repeat' split) <;> omega,rfl,rfl⟩
    refine Xdk ?_
    refine q_c (fun hc9=>?_) (fun hc9=>?_)
    ·
     refine Xc5 ?_
     refine Klc ?_
     refine q_l rfl zWb ?_
     refine Xai ?_
     refine q_i (L':=L) (R':=R) ?_
     exact ⟨by refine congrArg (Value.int .i64) ?_;rw [Ko,Ki];(repeat' split) <;> omega,rfl,rfl⟩
    refine Xcf ?_
    refine q_i (L':=L) (R':=R) ?_
    exact ⟨by refine congrArg (Value.int .i64) ?_;rw [Ko,Ki];(repeat' split) <;> omega,rfl,rfl⟩
   refine Xbi ?_
   refine q_c (fun hc4=>?_) (fun hc4=>?_)
   ·
    refine Xb8 ?_
    refine Xac ?_
    refine q_l rfl zBb ?_
    refine Xcc ?_
    apply J9 (G:=[_,_,_,_,_,_,_,_]) (j:=7) (cj:=27) rfl rfl zb rfl zdb rfl
    ·
     exact zcd
    intro junk8
    refine qaf ?_
    refine q_c (fun hc5=>?_) (fun hc5=>?_)
    ·
     refine Xa6 ?_
     refine q_i (L':=L) (R':=R) ?_
     exact ⟨by refine congrArg (Value.int .i64) ?_;rw [Ko,Ki];(repeat' split) <;> omega,rfl,rfl⟩
    refine J5 (Ji (Jb (Jn (Jn (Jh ?_)))))
    refine Xbg ?_
    apply J9 (G:=[_,_,_]) (j:=3) (cj:=51) rfl rfl zb rfl zdb rfl
    ·
     exact zZc
    intro junk4
    refine qaf ?_
    refine q_c (fun hc8=>?_) (fun hc8=>?_)
    ·
     refine Xa5 ?_
     refine q_i (L':=L) (R':=R) ?_
     exact ⟨by refine congrArg (Value.int .i64) ?_;rw [Ko,Ki];(repeat' split) <;> omega,rfl,rfl⟩
    refine Xdk ?_
    refine q_c (fun hc9=>?_) (fun hc9=>?_)
    ·
     refine Xc5 ?_
     refine Klc ?_
     refine q_l rfl zWb ?_
     refine Xai ?_
     refine q_i (L':=L) (R':=R) ?_
     exact ⟨by refine congrArg (Value.int .i64) ?_;rw [Ko,Ki];(repeat' split) <;> omega,rfl,rfl⟩
    refine Xcf ?_
    refine q_i (L':=L) (R':=R) ?_
    exact ⟨by refine congrArg (Value.int .i64) ?_;rw [Ko,Ki];(repeat' split) <;> omega,rfl,rfl⟩
   refine Xbi ?_
   refine q_c (fun hc6=>?_) (fun hc6=>?_)
   ·
    refine Xb8 ?_
    iterate 3 refine qab ?_
    refine qac ?_
    refine qag ?_
    refine q_l rfl zYb ?_
    refine Xbd ?_
    refine q_c (fun hc7=>?_) (fun hc7=>?_)
    ·
     refine Xa6 ?_
     refine q_i (L':=L) (R':=R) ?_
     exact ⟨by refine congrArg (Value.int .i64) ?_;rw [Ko,Ki];(repeat' split) <;> omega,rfl,rfl⟩
    refine J5 (Ji (Jb (Jn (Jn (Jh ?_)))))
    refine Xbg ?_
    apply J9 (G:=[_,_,_]) (j:=3) (cj:=51) rfl rfl zb rfl zdb rfl
    ·
     exact zZc
    intro junk4
    refine qaf ?_
    refine q_c (fun hc8=>?_) (fun hc8=>?_)
    ·
     refine Xa5 ?_
     refine q_i (L':=L) (R':=R) ?_
     exact ⟨by refine congrArg (Value.int .i64) ?_;rw [Ko,Ki];(repeat' split) <;> omega,rfl,rfl⟩
    refine Xdk ?_
    refine q_c (fun hc9=>?_) (fun hc9=>?_)
    ·
     refine Xc5 ?_
     refine Klc ?_
     refine q_l rfl zWb ?_
     refine Xai ?_
     refine q_i (L':=L) (R':=R) ?_
     exact ⟨by refine congrArg (Value.int .i64) ?_;rw [Ko,Ki];(repeat' split) <;> omega,rfl,rfl⟩
    refine Xcf ?_
    refine q_i (L':=L) (R':=R) ?_
    exact ⟨by refine congrArg (Value.int .i64) ?_;rw [Ko,Ki];(repeat' split) <;> omega,rfl,rfl⟩
   refine Xa6 ?_
   refine q_i (L':=L) (R':=R) ?_
   exact ⟨by refine congrArg (Value.int .i64) ?_;rw [Ko,Ki];(repeat' split) <;> omega,rfl,rfl⟩
  refine qay ?_
  refine Xay ?_
  refine q_c (fun hc2=>?_) (fun hc2=>?_)
  ·
   refine Xb8 ?_
   refine Xac ?_
   refine q_l rfl zBb ?_
   refine Xbd ?_
   refine q_c (fun hc3=>?_) (fun hc3=>?_)
   ·
    refine Xa6 ?_
    refine q_i (L':=L) (R':=R) ?_
    exact ⟨by refine congrArg (Value.int .i64) ?_;rw [Ko,Ki];(repeat' split) <;> omega,rfl,rfl⟩
   refine J5 (Ji (Jb (Jn (Jn (Jh ?_)))))
   refine Xbg ?_
   apply J9 (G:=[_,_,_]) (j:=3) (cj:=51) rfl rfl zb rfl zdb rfl
   ·
    exact zZc
   intro junk4
   refine qaf ?_
   refine q_c (fun hc8=>?_) (fun hc8=>?_)
   ·
    refine Xa5 ?_
    refine q_i (L':=L) (R':=R) ?_
    exact ⟨by refine congrArg (Value.int .i64) ?_;rw [Ko,Ki];(repeat' split) <;> omega,rfl,rfl⟩
   refine Xdk ?_
   refine q_c (fun hc9=>?_) (fun hc9=>?_)
   ·
    refine Xc5 ?_
    refine Klc ?_
    refine q_l rfl zWb ?_
    refine Xai ?_
    refine q_i (L':=L) (R':=R) ?_
    exact ⟨by refine congrArg (Value.int .i64) ?_;rw [Ko,Ki];(repeat' split) <;> omega,rfl,rfl⟩
   refine Xcf ?_
   refine q_i (L':=L) (R':=R) ?_
   exact ⟨by refine congrArg (Value.int .i64) ?_;rw [Ko,Ki];(repeat' split) <;> omega,rfl,rfl⟩
  refine Xbi ?_
  refine q_c (fun hc4=>?_) (fun hc4=>?_)
  ·
   refine Xb8 ?_
   refine Xac ?_
   refine q_l rfl zBb ?_
   refine Xcc ?_
   apply J9 (G:=[_,_,_,_,_,_,_,_]) (j:=7) (cj:=27) rfl rfl zb rfl zdb rfl
   ·
    exact zcd
   intro junk8
   refine qaf ?_
   refine q_c (fun hc5=>?_) (fun hc5=>?_)
   ·
    refine Xa6 ?_
    refine q_i (L':=L) (R':=R) ?_
    exact ⟨by refine congrArg (Value.int .i64) ?_;rw [Ko,Ki];(repeat' split) <;> omega,rfl,rfl⟩
   refine J5 (Ji (Jb (Jn (Jn (Jh ?_)))))
   refine Xbg ?_
   apply J9 (G:=[_,_,_]) (j:=3) (cj:=51) rfl rfl zb rfl zdb rfl
   ·
    exact zZc
   intro junk4
   refine qaf ?_
   refine q_c (fun hc8=>?_) (fun hc8=>?_)
   ·
    refine Xa5 ?_
    refine q_i (L':=L) (R':=R) ?_
    exact ⟨by refine congrArg (Value.int .i64) ?_;rw [Ko,Ki];(repeat' split) <;> omega,rfl,rfl⟩
   refine Xdk ?_
   refine q_c (fun hc9=>?_) (fun hc9=>?_)
   ·
    refine Xc5 ?_
    refine Klc ?_
    refine q_l rfl zWb ?_
    refine Xai ?_
    refine q_i (L':=L) (R':=R) ?_
    exact ⟨by refine congrArg (Value.int .i64) ?_;rw [Ko,Ki];(repeat' split) <;> omega,rfl,rfl⟩
   refine Xcf ?_
   refine q_i (L':=L) (R':=R) ?_
   exact ⟨by refine congrArg (Value.int .i64) ?_;rw [Ko,Ki];(repeat' split) <;> omega,rfl,rfl⟩
  refine Xbi ?_
  refine q_c (fun hc6=>?_) (fun hc6=>?_)
  ·
   refine Xb8 ?_
   iterate 3 refine qab ?_
   refine qac ?_
   refine qag ?_
   refine q_l rfl zYb ?_
   refine Xbd ?_
   refine q_c (fun hc7=>?_) (fun hc7=>?_)
   ·
    refine Xa6 ?_
    refine q_i (L':=L) (R':=R) ?_
    exact ⟨by refine congrArg (Value.int .i64) ?_;rw [Ko,Ki];(repeat' split) <;> omega,rfl,rfl⟩
   refine J5 (Ji (Jb (Jn (Jn (Jh ?_)))))
   refine Xbg ?_
   apply J9 (G:=[_,_,_]) (j:=3) (cj:=51) rfl rfl zb rfl zdb rfl
   ·
    exact zZc
   intro junk4
   refine qaf ?_
   refine q_c (fun hc8=>?_) (fun hc8=>?_)
   ·
    refine Xa5 ?_
    refine q_i (L':=L) (R':=R) ?_
    exact ⟨by refine congrArg (Value.int .i64) ?_;rw [Ko,Ki];(repeat' split) <;> omega,rfl,rfl⟩
   refine Xdk ?_
   refine q_c (fun hc9=>?_) (fun hc9=>?_)
   ·
    refine Xc5 ?_
    refine Klc ?_
    refine q_l rfl zWb ?_
    refine Xai ?_
    refine q_i (L':=L) (R':=R) ?_
    exact ⟨by refine congrArg (Value.int .i64) ?_;rw [Ko,Ki];(repeat' split) <;> omega,rfl,rfl⟩
   refine Xcf ?_
   refine q_i (L':=L) (R':=R) ?_
   exact ⟨by refine congrArg (Value.int .i64) ?_;rw [Ko,Ki];(repeat' split) <;> omega,rfl,rfl⟩
  refine Xa6 ?_
  refine q_i (L':=L) (R':=R) ?_
  exact ⟨by refine congrArg (Value.int .i64) ?_;rw [Ko,Ki];(repeat' split) <;> omega,rfl,rfl⟩
theorem Uhd {conds n:Nat} {z:XZone} (h1:Z2 z.rule.l conds=0) (h2:¬ (z.hold < 0∨100000 < z.hold∨z.fresh < 0∨100 < z.fresh)) (k:Nat) (hk:k < z.roads.l.length) (h:V4 n z.roads.l k):Yj conds n z=4:=by
  rw [Yj,if_neg za,if_neg h2,if_pos ⟨k,hk,h⟩]
theorem Usc {conds n:Nat} {z:XZone} (h1:Z2 z.rule.l conds=0) (h2:¬ (z.hold < 0∨100000 < z.hold∨z.fresh < 0∨100 < z.fresh)) (h:∀k:Nat,k < z.roads.l.length→¬ V4 n z.roads.l k):Yj conds n z=0:=by
  rw [Yj,if_neg za,if_neg h2,if_neg]
  rintro ⟨k,k1,k2⟩
  exact h k k1 k2
theorem Kqc (s:XSite) (z:XZone) (L:List Blk) (R:List Sl) (hr:InR (J1e z.rule) R) (hz:InR (isl z.roads) R):
    Tri Tryz.prog 147 [s.val,z.val].toArray L R (fun v L' R'=>v=.int .i64 (Yj s.conds.l.length s.air.mine.roads.l.length z)∧L=L'∧R=R'):=by
  refine U8 Tryz.call147 hz fun hzn=>?_
  refine Jg 66 Tryz.call147 Tryz.func147 rfl rfl rfl ?_
  refine Xag ?_
  intro b2
  refine qax ?_
  intro b3
  refine Xas ?_
  refine Xaa ?_
  refine Xac ?_
  refine q_l rfl (Yuc z.rule s.conds.l.length _ _ hr) ?_
  refine Xa7 ?_
  refine q_c (fun hc0=>?_) (fun hc0=>?_)
  ·
   refine Xdl ?_
   refine q_i (L':=L) (R':=R) ?_
   exact ⟨by rw [Yj,if_pos hc0],rfl,rfl⟩
  refine qbo ?_
  refine Xbg ?_
  apply J9 (G:=[_,_,_]) (j:=3) (cj:=20) rfl rfl zb rfl zdb rfl
  ·
   exact zZc
  intro junk4
  refine qah ?_
  apply J9 (G:=[_,_,_]) (j:=8) (cj:=25) rfl rfl zb rfl zdb rfl
  ·
   exact zUd
  intro junk9
  refine qah ?_
  apply J9 (G:=[_,_,_]) (j:=13) (cj:=30) rfl rfl zb rfl zdb rfl
  ·
   exact zWd
  intro junk14
  refine qaf ?_
  refine q_c (fun hc1=>?_) (fun hc1=>?_)
  ·
   refine Xa5 ?_
   refine q_i (L':=L) (R':=R) ?_
   exact ⟨by rw [Yj,if_neg za,if_pos za],rfl,rfl⟩
  refine Xcl ?_
  refine Jo [(2,Value.pointer _),(3,Value.pointer _),(36,Value.slice _ _ _),(37,Value.int _ _),(38,Value.int _ _)] zg fun tq0=>?_
  refine q_s [4,6,7,38,39,40,41,42,43,44,45,46,47,48,49,50,51,52,53,54,55,56,57,58,59,60,61,62,63,64,65] (fun g:{k:Nat // k≤z.roads.l.length∧∀j:Nat,j < k→¬ V4 s.air.mine.roads.l.length z.roads.l j}=>[(38,.int .i64 ((g.1:Nat):Int))]) (fun g=>z.roads.l.length - g.1) (⟨0,by omega,fun j hj=>by omega⟩) ?_
  rintro ⟨k,hk,hal⟩ junk
  try dsimp only
  refine Xak ?_
  refine q_c (fun hc2=>?_) (fun hc2=>?_)
  ·
   have hzg:=Jw (l:=z.roads.l) (k:=k) 0 za
   refine Xa2 ?_
   refine Jx zB rfl ?_
   refine qa7 ?_
   refine qad ?_
   refine Xat ?_
   iterate 3 refine qab ?_
   refine qac ?_
   refine qag ?_
   refine q_l rfl (Jqa (z.roads.l.getD k 0) (s.air.mine.roads.l.length:Int) _ _) ?_
   refine Xcc ?_
   apply J9 (G:=[_,_,_,_,_,_,_,_,_,_,_,_]) (j:=8) (cj:=51) rfl rfl zb rfl zdb rfl
   ·
    intro hg9
    replace hg9:=qb hg9
    refine Xbz ?_
    refine qah ?_
    apply Ur (G:=[_,_,_,_,_,_,_,_]) (j:=11) (cj:=54) rfl rfl zb rfl zdb rfl
    ·
     intro hg12
     replace hg12:=qb hg12
     have hzg2:=Jw (l:=z.roads.l) (k:=k - 1) 0 (by simp at hg12;omega)
     refine qaa ?_
     refine Xam ?_
     refine qa9 ?_
     refine Jx zbb rfl ?_
     refine qa7 ?_
     refine qbx ?_
     exact qai
    intro junk12
    exact qai
   intro junk9
   refine qaf ?_
   refine q_c (fun hc3=>?_) (fun hc3=>?_)
   ·
    refine Xbw ?_
    refine q_i (L':=L) (R':=R) ?_
    exact ⟨by rw [Uhd (n:=s.air.mine.roads.l.length) za za k za (by rw [V4];omega)],rfl,rfl⟩
   refine Xax ?_
   exact Kf (⟨k + 1,by omega,fun j hj=>by
   rcases Nat.lt_or_ge j k with h | h
   · exact hal j h
   · obtain rfl : j = k := by omega
     rw [V4];omega⟩) zm zg zi zqb zx
  refine Xb7 ?_
  refine q_i (L':=L) (R':=R) ?_
  exact ⟨by rw [Usc za za (fun j hj=>hal j za)],rfl,rfl⟩
end
section
attribute [local irreducible] CJ LJ DJ Tri YV Gives Ui J0 Ke Uh RV J2 OwL.L
end
section
attribute [local irreducible] CJ LJ DJ Tri YV Gives Ui J0 Ke Uh RV J2 OwL.L
end
end Go.Proofs.YtchfclmokpbldaaGreat
