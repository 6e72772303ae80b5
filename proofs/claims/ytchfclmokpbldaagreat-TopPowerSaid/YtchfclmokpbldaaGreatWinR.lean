/-
  Merged texts. By an AI agent.
-/
import Derived.Test.YtchfclmokpbldaaGreatRuleP
import Derived.Test.YtchfclmokpbldaaGreatRule
import Derived.Test.YtchfclmokpbldaaGreatChecks
import Derived.Test.YtchfclmokpbldaaGreatWin
import Derived.Test.YtchfclmokpbldaaGreatMadeB
set_option linter.all false
set_option maxHeartbeats 4000000
set_option maxRecDepth 20000
namespace Go.Proofs.YtchfclmokpbldaaGreat
open Go.Aw Go
section
section
variable {A B:Prop}
def Umc(h:A→B:=by exact Jx zkb rfl):=h
def Uff(h:A→B:=by exact Jx (by first | exact Jf tb rfl rfl rfl rfl zt (i:=c.target.toNat) zk za | exact Jl tb rfl rfl rfl rfl (i:=c.target.toNat) zk za) rfl):=h
def J0g(h:A→B:=by exact Jx zZ rfl):=h
end
def Ylc {P : Program} {ρ : Operand → Value} {L : LB} {R : LS} {dst : Option Tmp} {ty : TypeId} {pos : String} {after : Array Edge} {guard : Option (Nat × Bool)} (tb : Tabs P) {T : TypeId} {x y : Operand} {k : IntKind} {a : Int} {e n n2 bt z bt2 z2 k2} {fl fl2 : List (Nat × Nat)} {h len cap i : Nat} {ar : Option Addr} {rows : List (List Value)} {subs : LS} (hT : Y4 tb.tab T = some ⟨.slice e, n, fl, bt, z⟩) (hE : Y4 tb.tab e = some ⟨k2, n2, fl2, bt2, z2⟩)
 (hx:ρ x=.slice ar h cap) (hy:ρ y=.int k a) (hR:InR (.mk n2 ar len cap rows subs) R) (hle:h≤len) (hi:a=(i:Int)) (hlt:i < h):
 YV P ⟨dst,.indexAddr T x y,ty,pos,after,guard⟩ ρ L R (.pointer (some ⟨adB ar,eo ar n2 i 0,none⟩)):=fun c w hst=>by
 obtain ⟨⟨G,hh,hg⟩,ho,hk⟩:=hst
 have hst2:St c L (.mk n2 ar h cap (rows.take h) subs :: R) w:=⟨⟨G,⟨hh.nd,hh.own,hh.ng,hh.gs,fun r hr=>by
  rcases List.mem_cons.1 hr with rfl | hr
  ·obtain ⟨r', hr', hs⟩ := hR
   exact Vpd ((hh.rep r' hr').sub hs) hle
  ·exact hh.rep r hr⟩,hg⟩,ho,hk⟩
 exact Jf tb hT hE hx hy zsb hi hlt c w hst2
attribute [local irreducible] CJ LJ DJ Tri YV Gives U0 J3 Kj Uz RV J5 OwL.L
def Kca (a b:Int) (L:LB) (R:LS):
 Tri Tryz.prog 178 [.int .i64 a,.int .i64 b].toArray L R (fun v M U=>v=.bool (decide (0≤a∧a < b))∧L=M∧R=U):=by
 refine Jj 12 Tryz.call178 Tryz.func178 rfl rfl rfl ?_;apply Xbe∘Xdh∘qbz∘qah;apply Ui (G:=[_,_,_]) (j:=2) (cj:=7) rfl rfl zb rfl zfb rfl;·intro hg3;replace hg3:=qb hg3;exact (Xbg) zyd
 intro junk3;apply (Xa2);refine q_b L R ?_;exact ya
def Ucd {a:XAir} {S:List XSens} {i:Nat} {x:XSens} (hx:x=S.getD i default) (h1:Vc x=0) (h2:0≤x.target∧x.target < Y5a a x) (h3:∀k:Nat,k < i→(S.getD k default).address≠x.address):Z1 a S i=none:=by rw [Z1,← hx,if_neg za,if_neg (fun h=>h h2),if_neg];rintro ⟨k,k1,k2⟩;exact h3 k k1 k2
def Veb (s:XSite) (L:LB) (R:LS) (hs:InR (Jme s.sensors) R) (hn:s.sensors.l.length≤64):
 Tri Tryz.prog 145 [s.val].toArray L R (fun v M U=>v=.int .i64 (Ur s.air s.sensors.l)∧L=M∧R=U):=by
 refine Zba Tryz.call145 hs fun hcap=>?_;refine Jj 62 Tryz.call145 Tryz.func145 rfl rfl rfl ?_;apply (Xaf);intro b1;apply Xap∘Xaw;refine Jp [(1,.pointer _),(10,.slice _ _ _),(11,.int _ _),(12,.int _ _)] zh fun tq0=>?_;refine q_s ([2,3,4,5,6,8]++rg 12 50) (fun g:FSR (Z1 s.air s.sensors.l) (s.sensors.l.length)=>[(12,.int .i64 ((g.1:Nat):Int))]) (fun g=>(s.sensors.l.length) - g.1) ⟨0,Kna _ _⟩ ?_;rintro ⟨k0,hk0,hp0⟩ junk;try dsimp only
 apply (Xak);refine q_c ?_ ?_<;>intro hc0;·
  have hxg:=Jw (l:=s.sensors.l) (k:=k0) default za;obtain ⟨x,hx⟩:∃x,x=s.sensors.l.getD k0 default:=⟨_,rfl⟩;rw [← hx] at hxg;apply (Xa0);refine Jx zaa rfl ?_;apply J0g∘qaq;intro b4;apply qad∘Xa8;refine Jx zob rfl ?_;refine q_l rfl (V3a x _ _) ?_;apply (Xba);refine q_c ?_ ?_<;>intro hc1;·apply Xdj∘qch;refine q_i L R ?_;have h:=Yb hp0 za (show Z1 s.air s.sensors.l k0=some (Vc x) by rw [Z1,← hx,if_pos hc1]);exact ⟨by rw [Ur,h];rfl,rfl,rfl⟩
  apply (qbv);iterate 3 apply (qab)
  apply Xcz∘Xap∘Xaa∘qaf;refine Kha ([6]++rg 29 12) ((⟨fun g=>[(6,.int .i64 g.1)],fun _=>⟨b4,x.cells,88⟩ :: ⟨b1,s.cells,38⟩ :: L,fun _=>R,fun _=>0⟩:Head {n:Int // n=Y5a s.air x})) ?_ ?_;·
   refine Km (Jr (Jh ?_));apply (Xa4);refine q_c ?_ ?_<;>intro hc2;·apply qay∘Xb6∘qad;refine J6 (Jk ?_);exact uaU
   apply (Xbp);refine q_c ?_ ?_<;>intro hc3;·apply qay∘Xb6∘qad;refine J6 (Jk ?_);exact uaU
   refine Ka (Jk ?_);exact uaU
  rintro ⟨of,hof⟩ junk;try dsimp only
  apply qbi∘Xam;refine q_l rfl (Kca x.target of _ _) ?_;apply (Xbb);refine q_c ?_ ?_<;>intro hc4;·apply (Xcu);refine q_i L R ?_;have h:=Yb hp0 za (show Z1 s.air s.sensors.l k0=some 9 by rw [Z1,← hx,if_neg za,if_pos (by rw [← hof];simpa using hc4)]);exact ⟨by rw [Ur,h];rfl,rfl,rfl⟩
  apply qbv∘Xam;refine Jx (Ufb tb rfl rfl rfl rfl (n:=k0) zk za) rfl ?_;apply qag∘Xal;refine Y6 ([2,3,4,5,6,8]++rg 12 50) zI [(4,.pointer _),(12,.int _ _),(49,.slice _ _ _),(50,.int _ _),(51,.int _ _)] zh fun tq1=>?_;refine q_s ([2,8]++rg 51 10) (fun g:{j:Nat // j≤k0∧∀m:Nat,m < j→(s.sensors.l.getD m default).address≠x.address}=>[(51,.int .i64 ((g.1:Nat):Int))]) (fun g=>k0 - g.1) (⟨0,by omega,fun m hm=>by omega⟩) ?_;rintro ⟨j,hj,hal⟩ junk;try dsimp only
  apply (Xak);refine q_c ?_ ?_<;>intro hc5;·
   have hjg:=Jw (l:=s.sensors.l) (k:=j) default za;apply (qbb);refine Jx (Ylc tb rfl rfl rfl rfl hs za (i:=j) rfl za) rfl ?_;apply J0g∘qaq;intro b8;apply Xbx∘Xbj∘qaf;refine q_c ?_ ?_<;>intro hc6;·apply (Xac);refine J6 (Jc (U4 (J8 (Ke (Yg (J8 (J8 (Ke (Yg (J8 (Ke ?_)))))))))));refine q_i L R ?_;have h:=Yb hp0 za (show Z1 s.air s.sensors.l k0=some 9 by rw [Z1,← hx,if_neg za,if_neg (fun h=>h (by rw [← hof];simpa using hc4)),if_pos ⟨j,by omega,hc6⟩]);exact ⟨by rw [Ur,h];rfl,rfl,rfl⟩
   apply (Xax);exact Kr (⟨j + 1,by omega,fun m hm=>by
   rcases yk m j with h | h;·exact hal m h
   ·(obtain rfl : m = j := by omega);exact hc6⟩) zm zh zi ztb zx
  refine Ug (Kw (Ux (Kd (Jk (Jc (Jh ?_))))));apply (Xae);exact q_k ⟨k0 + 1,Zk hp0 za (Ucd hx za (by rw [← hof];simpa using hc4) (fun m hm=>hal m za))⟩
 have hn0:=J0a hp0 za;apply (Xca);refine q_i L R ?_;exact ⟨by rw [Ur,hn0];rfl,rfl,rfl⟩
def Vpc (s:XSite) (c:XCond) (L:LB) (R:LS) (hs:InR (Jme s.sensors) R) (hn:s.sensors.l.length≤64):
 Tri Tryz.prog 146 [s.val,c.val].toArray L R (fun v M U=>v=.int .i64 (Ks s.sensors.l s.air.mine.roads.l.length c)∧L=M∧R=U):=by
 refine Jj 62 Tryz.call146 Tryz.func146 rfl rfl rfl ?_;apply (Xaf);intro b2;apply (qax);intro b3;apply Xap∘Xaa;refine J6 (Jc (Km (Jr (Jr (Jh ?_)))));apply (Xa4);refine q_c ?_ ?_<;>intro hc0;·refine Ka (Jc ?_);exact uaa
 apply (Xbp);refine q_c ?_ ?_<;>intro hc1;·refine Ka (Jc ?_);exact uaa
 apply qay∘Xa4;exact uaa
def Zad {conds n:Nat} {z:XZone} (h1:Jna z.rule.l conds=0) (h2:¬ (z.hold < 0∨100000 < z.hold∨z.fresh < 0∨100 < z.fresh)) (k:Nat) (hk:k < z.roads.l.length) (h:Yi n z.roads.l k):Yx conds n z=4:=by rw [Yx,if_neg za,if_neg h2,if_pos ⟨k,hk,h⟩]
def Vzc {conds n:Nat} {z:XZone} (h1:Jna z.rule.l conds=0) (h2:¬ (z.hold < 0∨100000 < z.hold∨z.fresh < 0∨100 < z.fresh)) (h:∀k:Nat,k < z.roads.l.length→¬ Yi n z.roads.l k):Yx conds n z=0:=by rw [Yx,if_neg za,if_neg h2,if_neg];rintro ⟨k,k1,k2⟩;exact h k k1 k2
def U4c (s:XSite) (z:XZone) (L:LB) (R:LS) (hr:InR (V1e z.rule) R) (hz:InR (isl z.roads) R):
 Tri Tryz.prog 147 [s.val,z.val].toArray L R (fun v M U=>v=.int .i64 (Yx s.conds.l.length s.air.mine.roads.l.length z)∧L=M∧R=U):=by
 refine Vo Tryz.call147 hz fun hzn=>?_;refine Jj 66 Tryz.call147 Tryz.func147 rfl rfl rfl ?_;apply (Xaf);intro b2;apply (qax);intro b3;apply Xap∘Xaa∘Xab;refine q_l rfl (Jkd z.rule s.conds.l.length _ _ hr) ?_;apply (Xba);refine q_c ?_ ?_<;>intro hc0;·apply (Xdl);refine q_i L R ?_;exact ⟨by rw [Yx,if_pos hc0],rfl,rfl⟩
 apply qbo∘Xbc;apply J9 (G:=[_,_,_]) (j:=3) (cj:=20) rfl rfl zb rfl zfb rfl;·exact zcd
 intro junk4;apply (qah);apply J9 (G:=[_,_,_]) (j:=8) (cj:=25) rfl rfl zb rfl zfb rfl;·exact zee
 intro junk9;apply (qah);apply J9 (G:=[_,_,_]) (j:=13) (cj:=30) rfl rfl zb rfl zfb rfl;·exact zDd
 intro junk14;apply (qaf);refine q_c ?_ ?_<;>intro hc1;·apply (Xa6);refine q_i L R ?_;exact ⟨by rw [Yx,if_neg za,if_pos za],rfl,rfl⟩
 apply (Xco);refine Jp [(2,.pointer _),(3,.pointer _),(36,.slice _ _ _),(37,.int _ _),(38,.int _ _)] zh fun tq0=>?_;refine q_s ([4,6,7]++rg 38 28) (fun g:{k:Nat // k≤z.roads.l.length∧∀j:Nat,j < k→¬ Yi s.air.mine.roads.l.length z.roads.l j}=>[(38,.int .i64 ((g.1:Nat):Int))]) (fun g=>z.roads.l.length - g.1) (⟨0,by omega,fun j hj=>by omega⟩) ?_;rintro ⟨k,hk,hal⟩ junk;try dsimp only
 apply (Xak);refine q_c ?_ ?_<;>intro hc2;·
  have hzg:=Jw (l:=z.roads.l) (k:=k) 0 za;apply (Xa0);refine Jx zB rfl ?_;apply qa7∘qad∘Xau;iterate 3 apply (qab)
  apply (Xcz);refine q_l rfl (Kca (z.roads.l.getD k 0) (s.air.mine.roads.l.length:Int) _ _) ?_;apply (Xce);apply J9 (G:=[_,_,_,_,_,_,_,_,_,_,_,_]) (j:=8) (cj:=51) rfl rfl zb rfl zfb rfl;·
   intro hg9;replace hg9:=qb hg9;apply Xb8∘qah;apply Ui (G:=[_,_,_,_,_,_,_,_]) (j:=11) (cj:=54) rfl rfl zb rfl zfb rfl;·intro hg12;replace hg12:=qb hg12;have hzg2:=Jw (l:=z.roads.l) (k:=k - 1) 0 (by simp at hg12;omega);apply qaa∘Xam∘qa9;refine Jx zdb rfl ?_;exact (qa7∘qbx) qai
   intro junk12;exact qai
  intro junk9;apply (qaf);refine q_c ?_ ?_<;>intro hc3;·apply (Xby);refine q_i L R ?_;exact ⟨by rw [Zad (n:=s.air.mine.roads.l.length) za za k za (by rw [Yi];omega)],rfl,rfl⟩
  apply (Xax);exact Kr (⟨k + 1,by omega,fun j hj=>by
  rcases yk j k with h | h;·exact hal j h
  ·(obtain rfl : j = k := by omega);rw [Yi];omega⟩) zm zh zi ztb zx
 apply (Xca);refine q_i L R ?_;exact ⟨by rw [Vzc za za (fun j hj=>hal j za)],rfl,rfl⟩
end
section
attribute [local irreducible] CJ LJ DJ Tri YV Gives U0 J3 Kj Uz RV J5 OwL.L
end
end Go.Proofs.YtchfclmokpbldaaGreat
