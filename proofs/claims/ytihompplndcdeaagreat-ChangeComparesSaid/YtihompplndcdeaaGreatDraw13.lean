import Derived.Test.YtihompplndcdeaaGreatCopyR
import Derived.Test.YtihompplndcdeaaGreatChecks
import Derived.Test.YtihompplndcdeaaGreatNarrow
section
/-
  Drawn edits, what they make of a mine, double doors. By an AI agent; no person has read it.
-/
namespace Go.Proofs.YtihompplndcdeaaGreat
open Go.Aw Go
set_option maxRecDepth 20000
attribute [local irreducible] CJ LJ DJ Tri YV Gives Jd5 Jbd Jbz Jd4 RV Jbf OwL.L
section
variable {A9 B9:Prop}
theorem Jys (a:A9) (h:A9→B9:=by exact Ja2 (Jbh (row:=[_,_,_,_,_,_,_,_,_,_,_,_,_,_,_,_]) tb rfl rfl rfl (by repeat (first | exact zi0 | apply zi1 | apply zi2)) (by rfl) (by rfl)) rfl):B9:=h a
theorem Jyv (a:A9) (h:A9→B9:=by exact Ja2 (Jak tb (q) _ rfl rfl rfl rfl (by assumption) (i:=e.road.toNat) (by first | rfl | omega | (simp;omega)) (by first | omega | (dsimp only;omega) | (dsimp only;rw [List.length_set];omega) | (dsimp only;simp only [List.length_set];omega))) rfl):B9:=h a
theorem J1p (a:A9) (h:A9→B9:=by exact Jaq rfl (Jgo (by repeat (first | apply USeg.here | apply USeg.cons | apply USeg.app)) hx hk1 (by omega)) rfl):B9:=h a
theorem J57 (a:A9) (h:A9→B9:=by exact Jaq rfl (Jif (by repeat (first | apply USeg.here | apply USeg.cons | apply USeg.app)) hx hk2 (by omega)) rfl):B9:=h a
theorem J64 (a:A9) (h:A9→B9:=by exact Ja8 tb [] [0,1,2,3,4,5,6,7] [8] ([Blk.mk b5 _ _]) _ Jbn (by kernel_rfl) (by repeat (first | exact zs0 _ | exact zs1 _ | apply zs2 | apply zs3 | apply zs4 | apply zs5)) (by (repeat (first | apply List.Sublist.cons (a:=Blk.mk b5 _ _) | apply List.Sublist.cons_cons));exact List.Sublist.refl _)):B9:=h a
theorem J6b (a:A9) (h:A9→B9:=by exact Jbl rfl (Jif (by repeat (first | apply USeg.here | apply USeg.cons | apply USeg.app)) hx hk3 (by omega)) rfl rfl):B9:=h a
theorem J6l (a:A9) (h:A9→B9:=by exact Jbb tb [0,1,2,3,4,5,6,7,8,9,10] ([Blk.mk b7 _ _] ++ (q.L 48 XRoad.cells ++ ([Blk.mk b3 _ _] ++ []))) Jbn (by kernel_rfl) (by repeat (first | exact zs0 _ | exact zs1 _ | apply zs2 | apply zs3 | apply zs4 | apply zs5))):B9:=h a
theorem J82 (a:A9) (h:A9→B9:=by exact Jbu (Jak tb (q) _ rfl rfl rfl rfl (by assumption) (i:=e.road.toNat) (by first | rfl | omega | (simp;omega)) (by first | omega | (dsimp only;omega) | (dsimp only;rw [List.length_set];omega) | (dsimp only;simp only [List.length_set];omega))) rfl rfl rfl):B9:=h a
theorem J5s (a:A9) (h:A9→B9:=by exact Jbu (Jaz tb (q) rfl rfl rfl (by repeat (first | apply OSeg.cons | exact OSeg.here | exact OSeg.last | exact OSeg.at (by assumption) | apply OSeg.app)) (by assumption) (fun _=>rfl) (by assumption) (by rfl)) rfl rfl rfl):B9:=h a
theorem J53 (a:A9) (h:A9→B9:=by exact Jfa (Jas tb (q) (⟨(q.l.getD e.road.toNat default).fr,(q.l.getD e.road.toNat default).to,(q.l.getD e.road.toNat default).len,(q.l.getD e.road.toNat default).area,(q.l.getD e.road.toNat default).walk,decide (e.kind=3),(q.l.getD e.road.toNat default).rest,(q.l.getD e.road.toNat default).lift⟩) rfl rfl rfl rfl (by repeat (first | apply OSeg.cons | exact OSeg.here | exact OSeg.last | exact OSeg.at (by assumption) | apply OSeg.app)) (by assumption) (fun _=>rfl) (by assumption) (by decide) (by rfl) (by rfl))):B9:=h a
theorem J7k (a:A9) (h:A9→B9:=by exact Jfa (Jdv tb (q) (⟨(q.l.getD e.road.toNat default).fr,(q.l.getD e.road.toNat default).to,(q.l.getD e.road.toNat default).len,(q.l.getD e.road.toNat default).area,(q.l.getD e.road.toNat default).walk,(q.l.getD e.road.toNat default).closed,e.span,(q.l.getD e.road.toNat default).lift⟩) rfl rfl rfl rfl (by repeat (first | apply OSeg.cons | exact OSeg.here | exact OSeg.last | exact OSeg.at (by assumption) | apply OSeg.app)) (by assumption) (fun _=>rfl) (by assumption) (Nat.le_of_ble_eq_true rfl) (by rfl) (by rfl))):B9:=h a
theorem J66 (a:A9) (h:A9→B9:=by exact Jfa (Jdv tb (q) (⟨(q.l.getD e.road.toNat default).fr,(q.l.getD e.road.toNat default).to,(q.l.getD e.road.toNat default).len,(q.l.getD e.road.toNat default).area,(q.l.getD e.road.toNat default).walk,(q.l.getD e.road.toNat default).closed,(q.l.getD e.road.toNat default).rest,e.span⟩) rfl rfl rfl rfl (by repeat (first | apply OSeg.cons | exact OSeg.here | exact OSeg.last | exact OSeg.at (by assumption) | apply OSeg.app)) (by assumption) (fun _=>rfl) (by assumption) (Nat.le_of_ble_eq_true rfl) (by rfl) (by rfl))):B9:=h a
theorem J61 (a:A9) (h:A9→B9:=by exact Ja2 (Jbh (row:=[_,_,_]) tb rfl rfl rfl (by repeat (first | exact zi0 | apply zi1 | apply zi2)) (by rfl) (by rfl)) rfl):B9:=h a
end
structure XEdit where
  kind:Int
  place:XPlace
  new:XRoad
  road:Int
  span:XSpan
  deriving DecidableEq,Inhabited
def XEdit.cells (e:XEdit):List Value:=[.int .i64 e.kind,.int .i64 e.place.height,.bool e.place.surface,.int .i64 e.new.fr,.int .i64 e.new.to,.int .i64 e.new.len,.int .i64 e.new.area,.bool e.new.walk,.bool e.new.closed,.int .i64 e.new.rest.low,.int .i64 e.new.rest.high,.int .i64 e.new.lift.low,.int .i64 e.new.lift.high,.int .i64 e.road,.int .i64 e.span.low,.int .i64 e.span.high]
abbrev XEdit.val (e:XEdit):Value:=.agg #[.int .i64 e.kind,.int .i64 e.place.height,.bool e.place.surface,.int .i64 e.new.fr,.int .i64 e.new.to,.int .i64 e.new.len,.int .i64 e.new.area,.bool e.new.walk,.bool e.new.closed,.int .i64 e.new.rest.low,.int .i64 e.new.rest.high,.int .i64 e.new.lift.low,.int .i64 e.new.lift.high,.int .i64 e.road,.int .i64 e.span.low,.int .i64 e.span.high]
def Jth:XRoad:=⟨0,0,0,0,false,false,⟨0,0⟩,⟨0,0⟩⟩
structure EditD (e:XEdit):Prop where
  kind:1≤e.kind∧e.kind≤6
theorem Jtp (c:Nat) (x:Arr Int) (k:Nat) (m:XMine) (R:List Sl) (hx:CodesR x R) (hk:k≤x.l.length) (hn:m.places.l.length≤1000∧m.roads.l.length≤1000):
    Tri Tryz.prog 8 [.pointer (some ⟨c, 0, none⟩), m.val].toArray [cblk c x k] R
      (fun v L' R'=>∃(e:XEdit) (k':Nat),v=e.val∧EditD e∧k'≤x.l.length∧[cblk c x k']=L'∧R=R'):=by
  refine Jae 65 Tryz.call8 Tryz.func8 rfl rfl rfl ?_
  refine Xai ?_
  intro b3
  refine qaq ?_
  intro b4
  refine qam ?_
  refine qa6 ?_
  refine Jaq rfl (Jif (by repeat (first | apply USeg.here | apply USeg.cons | apply USeg.app)) hx hk (by omega)) rfl ?_
  rintro v L' R' ⟨kd,k1,rfl,g1,g1',hk1,rfl,rfl⟩
  refine Ja2 (Jbx (qs:=[(0,(Value.int _ _).cells.toList)]) (out:=[_,_,_,_,_,_,_,_,_,_,_,_,_,_,_,_]) tb rfl rfl rfl rfl) rfl ?_
  refine qaq ?_
  intro b5
  refine Xct ?_
  refine Ja9 (Jaa (Ja1 (Jam (Jaf ?_))))
  refine Xcc ?_
  refine q_c (fun hc0=>?_) (fun hc0=>?_)
  ·
   refine Xdm ?_
   refine Jaq rfl (Jif (by repeat (first | apply USeg.here | apply USeg.cons | apply USeg.app)) hx hk1 (by omega)) rfl ?_
   rintro v L' R' ⟨r1,k2,rfl,g2,g2',hk2,rfl,rfl⟩
   refine qa6 ?_
   refine Jaq rfl (J3k (by repeat (first | apply USeg.here | apply USeg.cons | apply USeg.app)) hx hk2 (by omega)) rfl ?_
   rintro v L' R' ⟨bo,k3,rfl,hk3,rfl,rfl⟩
   refine Ja2 (Jbx (qs:=[(0,(Value.int _ _).cells.toList),(1,(Value.bool _).cells.toList)]) (out:=[_,_]) tb rfl rfl rfl rfl) rfl ?_
   refine qab ?_
   refine Jos tb rfl rfl rfl rfl (by repeat (first | apply zu0 | apply zu1 | apply zu2)) (by rfl) (by rfl) (by rfl) ?_
   refine Ja9 (Jao (Jaa (Jam (Jaf ?_))))
   refine Jys ?_
   refine Xbh ?_
   refine q_r (L':=[cblk c x k3]) (R':=R) (Jdi rfl (Jax (row:=[_,_,_,_,_,_,_,_,_,_,_,_,_,_,_,_]) tb rfl rfl rfl (by repeat (first | exact zi0 | apply zi1 | apply zi2)) (by rfl) (by rfl))) ?_
   exact ⟨⟨kd,⟨r1,bo⟩,Jth,0,⟨0,0⟩⟩,k3,rfl,⟨g1,g1'⟩,hk3,rfl,rfl⟩
  refine qae ?_
  refine Xcc ?_
  refine q_c (fun hc1=>?_) (fun hc1=>?_)
  ·
   refine Ja8 tb [] [0,1,2,3,4,5,7,8,9,10,6,11,12,13] [14] ([Blk.mk b3 _ _]) _ Jbn (by kernel_rfl) (by repeat (first | exact zs0 _ | exact zs1 _ | apply zs2 | apply zs3 | apply zs4 | apply zs5)) (by (repeat (first | apply List.Sublist.cons (a:=Blk.mk b5 _ _) | apply List.Sublist.cons_cons));exact List.Sublist.refl _) ?_
   refine qb3 ?_
   refine qb3 ?_
   refine Xaf ?_
   refine Jca (Je0 tb rfl rfl rfl) rfl rfl rfl rfl ?_
   refine qcj ?_
   refine qb3 ?_
   refine Xaf ?_
   refine Jca (Je0 tb rfl rfl rfl) rfl rfl rfl rfl ?_
   refine Jbl rfl (Jgo (by repeat (first | apply USeg.here | apply USeg.cons | apply USeg.app)) hx hk1 (by omega)) rfl rfl ?_
   rintro v L' R' ⟨r1,k2,rfl,g2,g2',g2'',hk2,rfl,rfl⟩
   refine qas ?_
   refine Jbl rfl (Jgo (by repeat (first | apply USeg.here | apply USeg.cons | apply USeg.app)) hx hk2 (by omega)) rfl rfl ?_
   rintro v L' R' ⟨r2,k3,rfl,g3,g3',g3'',hk3,rfl,rfl⟩
   refine qas ?_
   refine Jbl rfl (J4o (by repeat (first | apply USeg.here | apply USeg.cons | apply USeg.app)) hx hk3) rfl rfl ?_
   rintro v L' R' ⟨rd,k4,rfl,hrd,hk4,rfl,rfl⟩
   refine qas ?_
   refine Xcb ?_
   refine Jss rfl rfl rfl rfl (by repeat (first | apply zu0 | apply zu1 | apply zu2)) (by rfl) (by rfl) (by rfl) (by repeat (first | exact zs0 _ | exact zs1 _ | apply zs2 | apply zs3 | apply zs4 | apply zs5)) ?_
   refine Jbt (Jao (Jaa (Jam (Jaf ?_))))
   refine Jys ?_
   refine Xbh ?_
   refine q_r (L':=[cblk c x k4]) (R':=R) (Jdi rfl (Jax (row:=[_,_,_,_,_,_,_,_,_,_,_,_,_,_,_,_]) tb rfl rfl rfl (by repeat (first | exact zi0 | apply zi1 | apply zi2)) (by rfl) (by rfl))) ?_
   exact ⟨⟨kd,⟨0,false⟩,rd,0,⟨0,0⟩⟩,k4,rfl,⟨g1,g1'⟩,hk4,rfl,rfl⟩
  refine qbi ?_
  refine Xcc ?_
  refine q_c (fun hc2=>?_) (fun hc2=>?_)
  ·
   refine Ja3 (Jaa ?_)
   refine q_c (fun hc3=>?_) (fun hc3=>?_)
   ·
    refine Xdm ?_
    refine Xab ?_
    refine qar ?_
    refine J1p ?_
    rintro v L' R' ⟨r1,k2,rfl,g2,g2',g2'',hk2,rfl,rfl⟩
    refine Xbw ?_
    refine Ja9 (Jao (Jaa (Jam (Jaf ?_))))
    refine Jys ?_
    refine Xbh ?_
    refine q_r (L':=[cblk c x k2]) (R':=R) (Jdi rfl (Jax (row:=[_,_,_,_,_,_,_,_,_,_,_,_,_,_,_,_]) tb rfl rfl rfl (by repeat (first | exact zi0 | apply zi1 | apply zi2)) (by rfl) (by rfl))) ?_
    exact ⟨⟨kd,⟨0,false⟩,Jth,r1,⟨0,0⟩⟩,k2,rfl,⟨g1,g1'⟩,hk2,rfl,rfl⟩
   refine qae ?_
   refine qa6 ?_
   refine Xab ?_
   refine qar ?_
   refine J1p ?_
   rintro v L' R' ⟨r1,k2,rfl,g2,g2',g2'',hk2,rfl,rfl⟩
   refine Xbw ?_
   refine qam ?_
   refine qa6 ?_
   refine J57 ?_
   rintro v L' R' ⟨r2,k3,rfl,g3,g3',hk3,rfl,rfl⟩
   refine qab ?_
   refine Xbw ?_
   refine qaf ?_
   refine J64 ?_
   refine Xcz ?_
   refine qb3 ?_
   refine J6b ?_
   rintro v L' R' ⟨r3,k4,rfl,g4,g4',hk4,rfl,rfl⟩
   refine qas ?_
   refine qcj ?_
   refine qan ?_
   refine Xc7 ?_
   refine Jbt (Jao (Jaa (Jam (Jaf ?_))))
   refine Jys ?_
   refine Xbh ?_
   refine q_r (L':=[cblk c x k4]) (R':=R) (Jdi rfl (Jax (row:=[_,_,_,_,_,_,_,_,_,_,_,_,_,_,_,_]) tb rfl rfl rfl (by repeat (first | exact zi0 | apply zi1 | apply zi2)) (by rfl) (by rfl))) ?_
   exact ⟨⟨kd,⟨0,false⟩,Jth,r1,⟨r2,r2 + r3⟩⟩,k4,rfl,⟨g1,g1'⟩,hk4,rfl,rfl⟩
  refine qay ?_
  refine Xcc ?_
  refine q_c (fun hc3=>?_) (fun hc3=>?_)
  ·
   refine Xdm ?_
   refine Xab ?_
   refine qar ?_
   refine J1p ?_
   rintro v L' R' ⟨r1,k2,rfl,g2,g2',g2'',hk2,rfl,rfl⟩
   refine Xbw ?_
   refine Ja9 (Jao (Jaa (Jam (Jaf ?_))))
   refine Jys ?_
   refine Xbh ?_
   refine q_r (L':=[cblk c x k2]) (R':=R) (Jdi rfl (Jax (row:=[_,_,_,_,_,_,_,_,_,_,_,_,_,_,_,_]) tb rfl rfl rfl (by repeat (first | exact zi0 | apply zi1 | apply zi2)) (by rfl) (by rfl))) ?_
   exact ⟨⟨kd,⟨0,false⟩,Jth,r1,⟨0,0⟩⟩,k2,rfl,⟨g1,g1'⟩,hk2,rfl,rfl⟩
  refine qae ?_
  refine qa6 ?_
  refine Xab ?_
  refine qar ?_
  refine J1p ?_
  rintro v L' R' ⟨r1,k2,rfl,g2,g2',g2'',hk2,rfl,rfl⟩
  refine Xbw ?_
  refine qam ?_
  refine qa6 ?_
  refine J57 ?_
  rintro v L' R' ⟨r2,k3,rfl,g3,g3',hk3,rfl,rfl⟩
  refine qab ?_
  refine Xbw ?_
  refine qaf ?_
  refine J64 ?_
  refine Xcz ?_
  refine qb3 ?_
  refine J6b ?_
  rintro v L' R' ⟨r3,k4,rfl,g4,g4',hk4,rfl,rfl⟩
  refine qas ?_
  refine qcj ?_
  refine qan ?_
  refine Xc7 ?_
  refine Jbt (Jao (Jaa (Jam (Jaf ?_))))
  refine Jys ?_
  refine Xbh ?_
  refine q_r (L':=[cblk c x k4]) (R':=R) (Jdi rfl (Jax (row:=[_,_,_,_,_,_,_,_,_,_,_,_,_,_,_,_]) tb rfl rfl rfl (by repeat (first | exact zi0 | apply zi1 | apply zi2)) (by rfl) (by rfl))) ?_
  exact ⟨⟨kd,⟨0,false⟩,Jth,r1,⟨r2,r2 + r3⟩⟩,k4,rfl,⟨g1,g1'⟩,hk4,rfl,rfl⟩
theorem Jsw (m:XMine) (e:XEdit) (L:List Blk) (R:List Sl) (hm:MineR m R):
    Tri Tryz.prog 7 [m.val,e.val].toArray L R (fun w L' R'=>∃(m':XMine) (er:Int) (S:List Sl),w=.tuple #[m'.val,.int .i64 er]∧(er=0→MineR m' (S ++ R)∧Jbv m'=0)∧L=L'∧S ++ R=R'):=by
  refine Jae 112 Tryz.call7 Tryz.func7 rfl rfl rfl ?_
  refine Xai ?_
  intro b2
  refine qax ?_
  intro b3
  refine qaq ?_
  intro b4
  refine Xa5 ?_
  refine qbe ?_
  refine q_l rfl (Jep m _ _ hm) ?_
  refine Xbt ?_
  refine q_c (fun hc0=>?_) (fun hc0=>?_)
  ·
   refine Xcm ?_
   refine Xc4 ?_
   refine q_r (L':=L) (R':=R) (Jc8 rfl (Jax (row:=[_,_]) tb rfl rfl rfl (by repeat (first | exact zi0 | apply zi1 | apply zi2)) (by rfl) (by rfl)) (Jah (show _=Value.int _ _ from rfl))) ?_
   exact ⟨⟨⟨none,0,[]⟩,⟨none,0,[]⟩⟩,Jbv m,[],rfl,fun h=>absurd h hc0,rfl,rfl⟩
  have hv:Jbv m=0:=Decidable.not_not.1 hc0
  have hok:=Jd1 hv
  have hnp:=hok.places
  have hnr:=hok.roads
  refine qbo ?_
  refine Xaa ?_
  refine Xa9 ?_
  apply Jbw (G:=[_,_,_]) (j:=3) (cj:=18) rfl rfl (by rfl) rfl (show _=Value.bool _ from rfl) rfl
  ·
   intro hg4
   replace hg4:=qb hg4
   refine Xdf ?_
   exact qai
  intro junk4
  refine qaf ?_
  refine q_c (fun hc1=>?_) (fun hc1=>?_)
  ·
   refine Xcm ?_
   refine Xcf ?_
   refine q_r (L':=L) (R':=R) (Jc8 rfl (Jax (row:=[_,_]) tb rfl rfl rfl (by repeat (first | exact zi0 | apply zi1 | apply zi2)) (by rfl) (by rfl)) (Jah (show _=Value.int _ _ from rfl))) ?_
   exact ⟨⟨⟨none,0,[]⟩,⟨none,0,[]⟩⟩,5,[],rfl,fun h=>absurd h (by decide),rfl,rfl⟩
  refine qbo ?_
  refine Xaa ?_
  refine qbz ?_
  refine qah ?_
  apply Jcd (G:=[_,_,_,_,_,_,_,_,_,_,_]) (j:=3) (cj:=27) rfl rfl (by rfl) rfl (show _=Value.bool _ from rfl) rfl
  ·
   intro hg4
   replace hg4:=qb hg4
   refine Xaa ?_
   refine Xa9 ?_
   apply Jbw (G:=[_,_,_,_,_,_]) (j:=7) (cj:=31) rfl rfl (by rfl) rfl (show _=Value.bool _ from rfl) rfl
   ·
    intro hg8
    replace hg8:=qb hg8
    refine Xaa ?_
    refine Xab ?_
    refine qbz ?_
    exact qai
   intro junk8
   exact qai
  intro junk4
  refine qaf ?_
  refine q_c (fun hc2=>?_) (fun hc2=>?_)
  ·
   refine Xcm ?_
   refine Xcf ?_
   refine q_r (L':=L) (R':=R) (Jc8 rfl (Jax (row:=[_,_]) tb rfl rfl rfl (by repeat (first | exact zi0 | apply zi1 | apply zi2)) (by rfl) (by rfl)) (Jah (show _=Value.int _ _ from rfl))) ?_
   exact ⟨⟨⟨none,0,[]⟩,⟨none,0,[]⟩⟩,4,[],rfl,fun h=>absurd h (by decide),rfl,rfl⟩
  refine qbv ?_
  refine qbe ?_
  refine Jaq rfl (Jur m _ _ hm hok) rfl ?_
  rintro v L' R' ⟨p,q,rfl,⟨hpk,hqk⟩,hpl,hql,rfl,rfl⟩
  have hpn:p.l.length≤64:=by rw [hpl];exact hnp
  have hqn:q.l.length=m.roads.l.length:=by rw [hql]
  refine qaq ?_
  intro b7
  refine Xct ?_
  refine qaf ?_
  refine Jd8 [5,45,46,47,48,49,50,51,52,53,54,55,56,57,58,59,60,61,62,63,64,65,66,67,68,69,70,71,72,73,74,75,76,77,78,79,80,81,82,83,84,85,86,87,88,89,90,91,92,93,94,95,96,97,98,99,100,101,102,103,104] ((⟨fun _=>[],fun g=>⟨b7,[g.1.1.val,g.1.2.val],31⟩ :: (g.1.2.L 48 XRoad.cells ++ (g.1.1.L 44 XPlace.cells ++ (⟨b4,[.slice none 0 0,.slice none 0 0],31⟩ :: ⟨b3,e.cells,50⟩ :: ⟨b2,m.cells,31⟩ :: L))),fun _=>R,fun _=>0⟩:Head {g:OwL XPlace×OwL XRoad // g.1.ok 2 XPlace.cells∧g.2.ok 10 XRoad.cells})) ?_ ?_
  ·
   refine Ja1 (Jam (Jaf ?_))
   refine Xcc ?_
   refine q_c (fun hc3=>?_) (fun hc3=>?_)
   ·
    refine qay ?_
    refine Xaa ?_
    refine Xbu ?_
    refine Jfo (Jav (qs:=[(0,(Value.agg _).cells.toList)]) (out:=[_,_]) tb rfl rfl rfl rfl rfl rfl rfl) rfl ?_
    rintro v L' R' ⟨b59,rfl,rfl,hR59⟩
    replace hR59:=hR59.symm;subst hR59
    refine Jfo (Jap (f:=XPlace.cells) (p:=p) (a:=e.place) tb rfl rfl rfl rfl (hpk) (by repeat (first | apply OSeg.cons | exact OSeg.here | exact OSeg.last | exact OSeg.at (by assumption) | apply OSeg.app)) (Ja5 (by repeat (first | exact zi0 | apply zi1 | apply zi2)) rfl rfl) rfl (by first | omega | (simp only [List.length_cons,List.length_nil,List.length_append];omega))) rfl ?_
    rintro v L' R' ⟨o60,rfl,hok60,rfl,rfl⟩
    refine Xcy ?_
    refine Ja9 (Jao ?_)
    exact q_j ⟨((⟨o60,_⟩:OwL XPlace),q),hok60,hqk⟩
   refine qae ?_
   refine Xcc ?_
   refine q_c (fun hc4=>?_) (fun hc4=>?_)
   ·
    refine qay ?_
    refine Xaa ?_
    refine qab ?_
    refine Ja2 (Jbh (row:=[_,_,_,_,_,_,_,_,_,_]) tb rfl rfl rfl (by repeat (first | exact zi0 | apply zi1 | apply zi2)) (by rfl) (by rfl)) rfl ?_
    refine Jfo (Jav (qs:=[(0,(Value.agg _).cells.toList)]) (out:=[_,_,_,_,_,_,_,_,_,_]) tb rfl rfl rfl rfl rfl rfl rfl) rfl ?_
    rintro v L' R' ⟨b68,rfl,rfl,hR68⟩
    replace hR68:=hR68.symm;subst hR68
    refine Jfo (Jap (f:=XRoad.cells) (p:=q) (a:=e.new) tb rfl rfl rfl rfl (hqk) (by repeat (first | apply OSeg.cons | exact OSeg.here | exact OSeg.last | exact OSeg.at (by assumption) | apply OSeg.app)) (Ja5 (by repeat (first | exact zi0 | apply zi1 | apply zi2)) rfl rfl) rfl (by first | omega | (simp only [List.length_cons,List.length_nil,List.length_append];omega))) rfl ?_
    rintro v L' R' ⟨o69,rfl,hok69,rfl,rfl⟩
    refine Xcy ?_
    refine Ja9 (Jao ?_)
    exact q_j ⟨(p,(⟨o69,_⟩:OwL XRoad)),hpk,hok69⟩
   have hrg:=Jan (l:=q.l) (k:=e.road.toNat) default (by omega)
   refine qbi ?_
   refine Xcc ?_
   refine q_c (fun hc5=>?_) (fun hc5=>?_)
   ·
    refine Ja3 (Jaa ?_)
    refine q_c (fun hc6=>?_) (fun hc6=>?_)
    ·
     refine Jam (Jam ?_)
     refine J6l ?_
     refine Xae ?_
     refine Xae ?_
     refine J82 ?_
     refine qce ?_
     refine J5s ?_
     refine Xae ?_
     refine Jbu (Jjw rfl rfl) rfl rfl rfl ?_
     refine Jbu (Jkj tb rfl rfl rfl) rfl rfl rfl ?_
     refine qbu ?_
     refine q_c (fun hc7=>?_) (fun hc7=>?_)
     ·
      refine Xcm ?_
      refine Xb1 ?_
      refine Ja9 (Jaa (Jc5 (Ja7 (Jay (Jhb ?_)))))
      refine q_r (L':=L) (R':=R) (Jc8 rfl (Jax (row:=[_,_]) tb rfl rfl rfl (by repeat (first | exact zi0 | apply zi1 | apply zi2)) (by rfl) (by rfl)) (Jah (show _=Value.int _ _ from rfl))) ?_
      exact ⟨⟨⟨none,0,[]⟩,⟨none,0,[]⟩⟩,10,[],rfl,fun h=>absurd h (by decide),rfl,rfl⟩
     refine Ja3 (Jaa (Jaf ?_))
     refine Xa3 ?_
     refine Xaa ?_
     refine qbn ?_
     refine Jyv ?_
     refine qb0 ?_
     refine J53 ?_
     rintro v L' R' ⟨rfl,rfl⟩
     refine Ja9 (Jao ?_)
     exact Jeh ⟨(p,(⟨q.o,q.l.set e.road.toNat ⟨(q.l.getD e.road.toNat default).fr,(q.l.getD e.road.toNat default).to,(q.l.getD e.road.toNat default).len,(q.l.getD e.road.toNat default).area,(q.l.getD e.road.toNat default).walk,decide (e.kind=3),(q.l.getD e.road.toNat default).rest,(q.l.getD e.road.toNat default).lift⟩⟩:OwL XRoad)),hpk,OwL.set_ok (fun _=>rfl) hqk⟩ (by repeat (first | exact Off.refl | apply Off.upd rfl | apply Off.havoc rfl | apply Off.updL rfl | apply Off.left rfl)) (by repeat' (first | exact trivial | refine And.intro rfl ?_)) (by dsimp only;rw [OwL.set_val];exact (by repeat (first | exact zs0 _ | exact zs1 _ | apply zs2 | apply zs3 | apply zs4 | apply zs5))) (Jac _)
    refine qae ?_
    refine Xcc ?_
    refine q_c (fun hc8=>?_) (fun hc8=>?_)
    ·
     refine qay ?_
     refine Xa3 ?_
     refine Xbu ?_
     refine Jyv ?_
     refine qb0 ?_
     refine J7k ?_
     rintro v L' R' ⟨rfl,rfl⟩
     refine Ja9 (Jao ?_)
     exact Jeh ⟨(p,(⟨q.o,q.l.set e.road.toNat ⟨(q.l.getD e.road.toNat default).fr,(q.l.getD e.road.toNat default).to,(q.l.getD e.road.toNat default).len,(q.l.getD e.road.toNat default).area,(q.l.getD e.road.toNat default).walk,(q.l.getD e.road.toNat default).closed,e.span,(q.l.getD e.road.toNat default).lift⟩⟩:OwL XRoad)),hpk,OwL.set_ok (fun _=>rfl) hqk⟩ (by repeat (first | exact Off.refl | apply Off.upd rfl | apply Off.havoc rfl | apply Off.updL rfl | apply Off.left rfl)) (by repeat' (first | exact trivial | refine And.intro rfl ?_)) (by dsimp only;rw [OwL.set_val];exact (by repeat (first | exact zs0 _ | exact zs1 _ | apply zs2 | apply zs3 | apply zs4 | apply zs5))) (Jac _)
    refine qay ?_
    refine Xa3 ?_
    refine Xbu ?_
    refine Jyv ?_
    refine qb0 ?_
    refine J66 ?_
    rintro v L' R' ⟨rfl,rfl⟩
    refine Ja9 (Jao ?_)
    exact Jeh ⟨(p,(⟨q.o,q.l.set e.road.toNat ⟨(q.l.getD e.road.toNat default).fr,(q.l.getD e.road.toNat default).to,(q.l.getD e.road.toNat default).len,(q.l.getD e.road.toNat default).area,(q.l.getD e.road.toNat default).walk,(q.l.getD e.road.toNat default).closed,(q.l.getD e.road.toNat default).rest,e.span⟩⟩:OwL XRoad)),hpk,OwL.set_ok (fun _=>rfl) hqk⟩ (by repeat (first | exact Off.refl | apply Off.upd rfl | apply Off.havoc rfl | apply Off.updL rfl | apply Off.left rfl)) (by repeat' (first | exact trivial | refine And.intro rfl ?_)) (by dsimp only;rw [OwL.set_val];exact (by repeat (first | exact zs0 _ | exact zs1 _ | apply zs2 | apply zs3 | apply zs4 | apply zs5))) (Jac _)
   refine qay ?_
   refine Xcc ?_
   refine q_c (fun hc6=>?_) (fun hc6=>?_)
   ·
    refine Jam (Jam ?_)
    refine J6l ?_
    refine Xae ?_
    refine Xae ?_
    refine J82 ?_
    refine qce ?_
    refine J5s ?_
    refine Xae ?_
    refine Jbu (Jjw rfl rfl) rfl rfl rfl ?_
    refine Jbu (Jkj tb rfl rfl rfl) rfl rfl rfl ?_
    refine qbu ?_
    refine q_c (fun hc7=>?_) (fun hc7=>?_)
    ·
     refine Xcm ?_
     refine Xb1 ?_
     refine Ja9 (Jaa (Jc5 (Ja7 (Jay (Jhb ?_)))))
     refine q_r (L':=L) (R':=R) (Jc8 rfl (Jax (row:=[_,_]) tb rfl rfl rfl (by repeat (first | exact zi0 | apply zi1 | apply zi2)) (by rfl) (by rfl)) (Jah (show _=Value.int _ _ from rfl))) ?_
     exact ⟨⟨⟨none,0,[]⟩,⟨none,0,[]⟩⟩,10,[],rfl,fun h=>absurd h (by decide),rfl,rfl⟩
    refine Ja3 (Jaa (Jaf ?_))
    refine Xa3 ?_
    refine Xaa ?_
    refine qbn ?_
    refine Jyv ?_
    refine qb0 ?_
    refine J53 ?_
    rintro v L' R' ⟨rfl,rfl⟩
    refine Ja9 (Jao ?_)
    exact Jeh ⟨(p,(⟨q.o,q.l.set e.road.toNat ⟨(q.l.getD e.road.toNat default).fr,(q.l.getD e.road.toNat default).to,(q.l.getD e.road.toNat default).len,(q.l.getD e.road.toNat default).area,(q.l.getD e.road.toNat default).walk,decide (e.kind=3),(q.l.getD e.road.toNat default).rest,(q.l.getD e.road.toNat default).lift⟩⟩:OwL XRoad)),hpk,OwL.set_ok (fun _=>rfl) hqk⟩ (by repeat (first | exact Off.refl | apply Off.upd rfl | apply Off.havoc rfl | apply Off.updL rfl | apply Off.left rfl)) (by repeat' (first | exact trivial | refine And.intro rfl ?_)) (by dsimp only;rw [OwL.set_val];exact (by repeat (first | exact zs0 _ | exact zs1 _ | apply zs2 | apply zs3 | apply zs4 | apply zs5))) (Jac _)
   refine qae ?_
   refine Xcc ?_
   refine q_c (fun hc8=>?_) (fun hc8=>?_)
   ·
    refine qay ?_
    refine Xa3 ?_
    refine Xbu ?_
    refine Jyv ?_
    refine qb0 ?_
    refine J7k ?_
    rintro v L' R' ⟨rfl,rfl⟩
    refine Ja9 (Jao ?_)
    exact Jeh ⟨(p,(⟨q.o,q.l.set e.road.toNat ⟨(q.l.getD e.road.toNat default).fr,(q.l.getD e.road.toNat default).to,(q.l.getD e.road.toNat default).len,(q.l.getD e.road.toNat default).area,(q.l.getD e.road.toNat default).walk,(q.l.getD e.road.toNat default).closed,e.span,(q.l.getD e.road.toNat default).lift⟩⟩:OwL XRoad)),hpk,OwL.set_ok (fun _=>rfl) hqk⟩ (by repeat (first | exact Off.refl | apply Off.upd rfl | apply Off.havoc rfl | apply Off.updL rfl | apply Off.left rfl)) (by repeat' (first | exact trivial | refine And.intro rfl ?_)) (by dsimp only;rw [OwL.set_val];exact (by repeat (first | exact zs0 _ | exact zs1 _ | apply zs2 | apply zs3 | apply zs4 | apply zs5))) (Jac _)
   refine qay ?_
   refine Xa3 ?_
   refine Xbu ?_
   refine Jyv ?_
   refine qb0 ?_
   refine J66 ?_
   rintro v L' R' ⟨rfl,rfl⟩
   refine Ja9 (Jao ?_)
   exact Jeh ⟨(p,(⟨q.o,q.l.set e.road.toNat ⟨(q.l.getD e.road.toNat default).fr,(q.l.getD e.road.toNat default).to,(q.l.getD e.road.toNat default).len,(q.l.getD e.road.toNat default).area,(q.l.getD e.road.toNat default).walk,(q.l.getD e.road.toNat default).closed,(q.l.getD e.road.toNat default).rest,e.span⟩⟩:OwL XRoad)),hpk,OwL.set_ok (fun _=>rfl) hqk⟩ (by repeat (first | exact Off.refl | apply Off.upd rfl | apply Off.havoc rfl | apply Off.updL rfl | apply Off.left rfl)) (by repeat' (first | exact trivial | refine And.intro rfl ?_)) (by dsimp only;rw [OwL.set_val];exact (by repeat (first | exact zs0 _ | exact zs1 _ | apply zs2 | apply zs3 | apply zs4 | apply zs5))) (Jac _)
  rintro ⟨⟨u,v⟩,huk,hvk⟩ junk
  try dsimp only
  dsimp only at huk hvk
  refine Jby (A:=[_]) (wd:=10) [] (fun _=>rfl) (by decide) hvk (fun s hs=>by cases hs) ?_
  refine qb1 ?_
  refine Jby (A:=[_]) (wd:=2) [] (fun _=>rfl) (by decide) huk (fun s hs=>by cases hs) ?_
  refine qb1 ?_
  obtain ⟨m1,hm1⟩:∃m1:XMine,m1=⟨u.arr,v.arr⟩:=⟨_,rfl⟩
  have hmR:MineR m1 (psl u.arr :: rsl v.arr :: R):=by rw [hm1];exact ⟨Jab (.head _),Jab (.tail _ (.head _))⟩
  refine Jg5 (show _=⟨b7,m1.cells,31⟩ :: (⟨b4,[.slice none 0 0,.slice none 0 0],31⟩ :: ⟨b3,e.cells,50⟩ :: ⟨b2,m.cells,31⟩ :: L) by rw [hm1];rfl) ?_
  refine qbi ?_
  refine qbe ?_
  refine q_l rfl (Jep m1 _ _ hmR) ?_
  refine Xbt ?_
  refine q_c (fun hc9=>?_) (fun hc9=>?_)
  ·
   refine Xcm ?_
   refine Xc4 ?_
   refine q_r (L':=L) (R':=psl u.arr :: rsl v.arr :: R) (Jc8 rfl (Jax (row:=[_,_]) tb rfl rfl rfl (by repeat (first | exact zi0 | apply zi1 | apply zi2)) (by rfl) (by rfl)) (Jah (show _=Value.int _ _ from rfl))) ?_
   exact ⟨⟨⟨none,0,[]⟩,⟨none,0,[]⟩⟩,Jbv m1,[psl u.arr,rsl v.arr],rfl,fun h=>absurd h hc9,rfl,rfl⟩
  refine qbv ?_
  refine Xd2 ?_
  refine Xbe ?_
  refine q_r (L':=L) (R':=psl u.arr :: rsl v.arr :: R) (Jc8 rfl (Jax (row:=[_,_]) tb rfl rfl rfl (by repeat (first | exact zi0 | apply zi1 | apply zi2)) (by rfl) (by rfl)) (Jah (show _=Value.int _ _ from rfl))) ?_
  exact ⟨m1,0,[psl u.arr,rsl v.arr],rfl,fun _=>⟨hmR,Decidable.not_not.1 hc9⟩,rfl,rfl⟩
structure PairD (r1 r2:Int) (l:List XDoor):Prop where
  ex:∃d1 d2:XDoor,MadeDoor r1 d1∧MadeDoor r2 d2∧l=[⟨d1.road,1,d1.rests⟩,⟨d2.road,0,d2.rests⟩]
theorem Jpp (c:Nat) (x:Arr Int) (k:Nat) (r1 r2:Int) (R:List Sl) (hx:CodesR x R) (hk:k≤x.l.length):
    Tri Tryz.prog 17 [.pointer (some ⟨c, 0, none⟩), .int .i64 0, .int .i64 r1, .int .i64 r2].toArray [cblk c x k] R
      (fun v L' R'=>∃(D:Arr XDoor) (k':Nat) (S:List Sl),v=D.val∧PairD r1 r2 D.l∧InR (dsl D) (S ++ R)∧k'≤x.l.length∧[cblk c x k']=L'∧S ++ R=R'):=by
  refine Jae 25 Tryz.call17 Tryz.func17 rfl rfl rfl ?_
  refine qae ?_
  refine Xbn ?_
  refine qa6 ?_
  refine qaa ?_
  refine Jaq rfl (J5g (by repeat (first | apply USeg.here | apply USeg.cons | apply USeg.app)) hx hk) rfl ?_
  rintro v L' R' ⟨d1,k1,rfl,hd1,hk1,rfl,rfl⟩
  have hx1:=hx.mono (R':=d1.sl :: R) (fun r hr=>Jab (.tail _ hr))
  refine qa6 ?_
  refine qaa ?_
  refine Jaq rfl (J5g (by repeat (first | apply USeg.here | apply USeg.cons | apply USeg.app)) hx1 hk1) rfl ?_
  rintro v L' R' ⟨d2,k2,rfl,hd2,hk2,rfl,rfl⟩
  refine qaq ?_
  intro b9
  refine qaq ?_
  intro b10
  refine qak ?_
  refine Xbf ?_
  refine qaa ?_
  refine Xam ?_
  refine Xbw ?_
  refine Xbw ?_
  refine qam ?_
  refine J61 ?_
  refine J61 ?_
  refine Jfo (Jav (qs:=[(0,(Value.agg _).cells.toList),(1,(Value.agg _).cells.toList)]) (out:=[_,_,_,_,_,_]) tb rfl rfl rfl rfl rfl rfl rfl) rfl ?_
  rintro v L' R' ⟨b24,rfl,rfl,hR24⟩
  replace hR24:=hR24.symm;subst hR24
  refine Jnq (wd:=3) (len:=2) (cap:=2) (rows:=[XDoor.cells ⟨d1.road,1,d1.rests⟩,XDoor.cells ⟨d2.road,0,d2.rests⟩]) (subs:=[XDoor.sl ⟨d1.road,1,d1.rests⟩,XDoor.sl ⟨d2.road,0,d2.rests⟩]) rfl (by decide) (by decide) (fun r hr=>by simp only [List.mem_cons,List.not_mem_nil,or_false] at hr;rcases hr with rfl | rfl <;> rfl) (by decide) rfl (fun s hs=>by
    simp only [List.mem_cons,List.not_mem_nil,or_false] at hs
    rcases hs with rfl | rfl
    · exact Jab (.tail _ (.head _))
    · exact Jab (.head _)) ?_
  refine Xbi ?_
  refine q_r (L':=[cblk c x k2]) (R':=dsl ⟨some ⟨b24,0,none⟩,2,[⟨d1.road,1,d1.rests⟩,⟨d2.road,0,d2.rests⟩]⟩ :: d2.sl :: d1.sl :: R) (Jdi rfl (Jah (show _=Value.slice _ _ _ from rfl))) ?_
  exact ⟨⟨some ⟨b24,0,none⟩,2,[⟨d1.road,1,d1.rests⟩,⟨d2.road,0,d2.rests⟩]⟩,k2,[dsl ⟨some ⟨b24,0,none⟩,2,[⟨d1.road,1,d1.rests⟩,⟨d2.road,0,d2.rests⟩]⟩,d2.sl,d1.sl],rfl,⟨d1,d2,hd1,hd2,rfl⟩,Jab (.head _),hk2,rfl,rfl⟩
end Go.Proofs.YtihompplndcdeaaGreat
end
section
/-
  The draws of chapter 13: spans near flows, faces, sensors. By an AI agent; no person has read it.
-/
namespace Go.Proofs.YtihompplndcdeaaGreat
open Go.Aw Go
set_option maxRecDepth 20000
attribute [local irreducible] CJ LJ DJ Tri YV Gives Jd5 Jbd Jbz Jd4 RV Jbf OwL.L
structure FacesD (n:Nat) (l:List XFace):Prop where
  at_:∀f∈l,(0≤f.road∧f.road≤n)∧-2≤f.need∧f.need≤40
  len:l.length≤3
theorem Jk8 (c:Nat) (x:Arr Int) (k:Nat) (a:XAir) (R:List Sl) (hx:CodesR x R) (hk:k≤x.l.length) (hn:a.mine.roads.l.length≤1000):
    Tri Tryz.prog 9 [.pointer (some ⟨c, 0, none⟩), a.val].toArray [cblk c x k] R
      (fun v L' R'=>∃(p:OwL XFace) (k':Nat),v=p.val∧p.ok 2 XFace.cells∧FacesD a.mine.roads.l.length p.l∧k'≤x.l.length∧p.L 81 XFace.cells ++ (cblk c x k' :: [])=L'∧R=R'):=by
  refine Jae 27 Tryz.call9 Tryz.func9 rfl rfl rfl ?_
  refine Xai ?_
  intro b3
  refine Xbn ?_
  refine Xa4 ?_
  refine qa6 ?_
  refine Jaq rfl (Jgo (by repeat (first | apply USeg.here | apply USeg.cons | apply USeg.app)) hx hk (by omega)) rfl ?_
  rintro v L' R' ⟨n0,k0,rfl,g0,g0',g0'',hk0,rfl,rfl⟩
  have g0q:=g0' (by omega)
  refine Xas ?_
  refine Jai [(0,Value.pointer _),(3,Value.pointer _),(5,Value.slice _ _ _),(6,Value.int _ _)] (by repeat' (first | exact trivial | refine And.intro rfl ?_)) fun tq0=>?_
  refine Jb0 [5,6,9,10,11,12,13,14,15,16,17,18,19,20,21,22,23,24,25] ((⟨fun g=>[(5,g.1.2.2.val),(6,.int .i64 g.1.2.1)],fun g=>g.1.2.2.L 81 XFace.cells ++ (⟨b3,a.cells,35⟩ :: cblk c x g.1.1 :: []),fun _=>R,fun g=>g.1.2.1.toNat⟩:Head {g:Nat×Int×OwL XFace // g.1≤x.l.length∧(0≤g.2.1∧g.2.2.l.length + g.2.1≤3)∧g.2.2.ok 2 XFace.cells∧FacesD a.mine.roads.l.length g.2.2.l})) (⟨(k0,n0,OwL.nil),hk0,by dsimp only [List.length_nil];omega,OwL.nil_ok,⟨fun f hf=>(by cases hf),show 0≤3 by decide⟩⟩) (by repeat' (first | exact trivial | refine And.intro rfl ?_)) (by dsimp only;rw [Jcl,List.nil_append];exact List.Sublist.refl _) (Jac _) ?_
  rintro ⟨⟨kk,n,p⟩,hkk,hi,hpk,hN⟩ junk
  try dsimp only
  dsimp only at hkk hi hpk hN
  refine Xaq ?_
  refine Xb9 ?_
  refine q_c (fun hc0=>?_) (fun hc0=>?_)
  ·
   refine Ja3 (Jaa (Jam (Ja1 (Jaf ?_))))
   refine qbm ?_
   refine qa6 ?_
   refine Xa7 ?_
   refine qar ?_
   refine Jaq rfl (Jgo (by repeat (first | apply USeg.here | apply USeg.cons | apply USeg.app)) hx hkk (by omega)) rfl ?_
   rintro v L' R' ⟨r1,k1,rfl,g1,g1',g1'',hk1,rfl,rfl⟩
   have g1q:=g1' (by omega)
   refine qa6 ?_
   refine Jaq rfl (Jif (by repeat (first | apply USeg.here | apply USeg.cons | apply USeg.app)) hx hk1 (by omega)) rfl ?_
   rintro v L' R' ⟨r2,k2,rfl,g2,g2',hk2,rfl,rfl⟩
   refine qcd ?_
   refine Jfo (Jav (qs:=[(0,(Value.agg _).cells.toList)]) (out:=[_,_]) tb rfl rfl rfl rfl rfl rfl rfl) rfl ?_
   rintro v L' R' ⟨b24,rfl,rfl,hR24⟩
   replace hR24:=hR24.symm;subst hR24
   refine Jfo (Jap (f:=XFace.cells) (p:=p) (a:=⟨r1,r2⟩) tb rfl rfl rfl rfl (hpk) (by repeat (first | apply OSeg.cons | exact OSeg.here | exact OSeg.last | exact OSeg.at (by assumption) | apply OSeg.app)) (Ja5 (by repeat (first | exact zi0 | apply zi1 | apply zi2)) rfl rfl) rfl (by first | omega | (simp only [List.length_cons,List.length_nil,List.length_append];omega))) rfl ?_
   rintro v L' R' ⟨o25,rfl,hok25,rfl,rfl⟩
   refine qc4 ?_
   refine qcs ?_
   refine qaa ?_
   refine Xc8 ?_
   refine qav ?_
   exact Jat ⟨(k2,n - 1,_),hk2,by dsimp only;simp only [List.length_append,List.length_cons,List.length_nil];omega,hok25,⟨fun f hf=>by
   rcases List.mem_append.1 hf with h | h
   · exact hN.at_ f h
   · rw [List.mem_singleton.1 h];dsimp only;omega,by dsimp only;simp only [List.length_append,List.length_cons,List.length_nil];omega⟩⟩ (by repeat (first | exact Off.refl | apply Off.upd rfl | apply Off.havoc rfl | apply Off.updL rfl | apply Off.left rfl)) (by repeat' (first | exact trivial | refine And.intro rfl ?_)) (by repeat (first | exact zs0 _ | exact zs1 _ | apply zs2 | apply zs3 | apply zs4 | apply zs5)) (Jac _) (by dsimp only;omega)
  refine Xb5 ?_
  refine q_r (L':=p.L 81 XFace.cells ++ (cblk c x kk :: [])) (R':=R) (Jdi rfl (Jah (show _=Value.slice _ _ _ from rfl))) ?_
  exact ⟨p,kk,rfl,hpk,hN,hkk,rfl,rfl⟩
end Go.Proofs.YtihompplndcdeaaGreat
end
