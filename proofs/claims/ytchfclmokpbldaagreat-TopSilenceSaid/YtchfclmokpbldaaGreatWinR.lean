/-
  Merged texts. By an AI agent.
-/
import Derived.Test.YtchfclmokpbldaaGreatRuleP
import Derived.Test.YtchfclmokpbldaaGreatRule
import Derived.Test.YtchfclmokpbldaaGreatChecks
import Derived.Test.YtchfclmokpbldaaGreatWin
import Derived.Test.YtchfclmokpbldaaGreatMadeB
set_option linter.all false
set_option maxHeartbeats 4000000
set_option maxRecDepth 20000
namespace Go.Proofs.YtchfclmokpbldaaGreat
open Go.Aw Go
section
section
variable {A B:Prop}
def Uvc(h:A→B:=by exact Jy zrb rfl):=h
def Yuf(h:A→B:=by exact Jy (by first | exact Je tb rfl rfl rfl rfl zy (i:=c.target.toNat) zk za | exact Jn tb rfl rfl rfl rfl (i:=c.target.toNat) zk za) rfl):=h
def Jlg(h:A→B:=by exact Jy zba rfl):=h
end
def Y5c {P : Program} {ρ : Operand → Value} {L : LB} {R : LS} {dst : Option Tmp} {ty : TypeId} {pos : String} {after : Array Edge} {guard : Option (Nat × Bool)} (tb : Tabs P) {T : TypeId} {x y : Operand} {k : IntKind} {a : Int} {e n n2 bt z bt2 z2 k2} {fl fl2 : List (Nat × Nat)} {h len cap i : Nat} {ar : Option Addr} {rows : List (List Value)} {subs : LS} (hT : Yv tb.tab T = some ⟨.slice e, n, fl, bt, z⟩) (hE : Yv tb.tab e = some ⟨k2, n2, fl2, bt2, z2⟩)
 (hx:ρ x=.slice ar h cap) (hy:ρ y=.int k a) (hR:InR (.mk n2 ar len cap rows subs) R) (hle:h≤len) (hi:a=(i:Int)) (hlt:i < h):
 YV P ⟨dst,.indexAddr T x y,ty,pos,after,guard⟩ ρ L R (.pointer (some ⟨adB ar,eo ar n2 i 0,none⟩)):=fun c w hst=>by
 obtain ⟨⟨G,hh,hg⟩,ho,hk⟩:=hst
 have hst2:St c L (.mk n2 ar h cap (rows.take h) subs :: R) w:=⟨⟨G,⟨hh.nd,hh.own,hh.ng,hh.gs,fun r hr=>by
  rcases List.mem_cons.1 hr with rfl | hr
  ·obtain ⟨r', hr', hs⟩ := hR
   exact Zkd ((hh.rep r' hr').sub hs) hle
  ·exact hh.rep r hr⟩,hg⟩,ho,hk⟩
 exact Je tb hT hE hx hy zCb hi hlt c w hst2
attribute [local irreducible] CJ LJ DJ Tri YV Gives Uq J2 Km Ur RV J4 OwL.L
def Kka (a b:Int) (L:LB) (R:LS):
 Tri Tryz.prog 178 [.int .i64 a,.int .i64 b].toArray L R (fun v M U=>v=.bool (decide (0≤a∧a < b))∧L=M∧R=U):=by
 refine Jd 12 Tryz.call178 Tryz.func178 rfl rfl rfl ?_;apply Xbh∘Xc9∘qbz∘qah;apply Uy (G:=[_,_,_]) (j:=2) (cj:=7) rfl rfl zb rfl zmb rfl;·intro hg3;replace hg3:=qb hg3;exact (Xcd) zJd
 intro junk3;apply (Xbk);refine q_b L R ?_;exact ya
def Yvb {a:XAir} {S:List XSens} {i:Nat} {x:XSens} (hx:x=S.getD i default) (h1:U1 x=0) (h2:0≤x.target∧x.target < Uba a x) (h3:∀k:Nat,k < i→(S.getD k default).address≠x.address):Zy a S i=none:=by rw [Zy,← hx,if_neg za,if_neg (fun h=>h h2),if_neg];rintro ⟨k,k1,k2⟩;exact h3 k k1 k2
def Vub (s:XSite) (L:LB) (R:LS) (hs:InR (Kcd s.sensors) R) (hn:s.sensors.l.length≤64):
 Tri Tryz.prog 145 [s.val].toArray L R (fun v M U=>v=.int .i64 (Ux s.air s.sensors.l)∧L=M∧R=U):=by
 refine Jpb Tryz.call145 hs fun hcap=>?_;refine Jd 62 Tryz.call145 Tryz.func145 rfl rfl rfl ?_;apply (Xaf);intro b1;apply Xap∘Xaz;refine Jl [(1,.pointer _),(10,.slice _ _ _),(11,.int _ _),(12,.int _ _)] zh fun tq0=>?_;refine q_s ([2,3,4,5,6,8]++rg 12 50) (fun g:FSR (Zy s.air s.sensors.l) (s.sensors.l.length)=>[(12,.int .i64 ((g.1:Nat):Int))]) (fun g=>(s.sensors.l.length) - g.1) ⟨0,Kya _ _⟩ ?_;rintro ⟨k0,hk0,hp0⟩ junk;try dsimp only
 apply (Xan);refine q_c ?_ ?_<;>intro hc0;·
  have hxg:=Jt (l:=s.sensors.l) (k:=k0) default za;obtain ⟨x,hx⟩:∃x,x=s.sensors.l.getD k0 default:=⟨_,rfl⟩;rw [← hx] at hxg;apply (Xa4);refine Jy zca rfl ?_;apply Jlg∘qaq;intro b4;apply qad∘Xbc;refine Jy zvb rfl ?_;refine q_l rfl (Vna x _ _) ?_;apply (Xbi);refine q_c ?_ ?_<;>intro hc1;·apply Xd4∘qch;refine q_i L R ?_;have h:=Yk hp0 za (show Zy s.air s.sensors.l k0=some (U1 x) by rw [Zy,← hx,if_pos hc1]);exact ⟨by rw [Ux,h];rfl,rfl,rfl⟩
  apply (qbv);iterate 3 apply (qab)
  apply Xdb∘Xap∘Xaa∘qaf;refine Yj ([6]++rg 29 12) ((⟨fun g=>[(6,.int .i64 g.1)],fun _=>⟨b4,x.cells,88⟩ :: ⟨b1,s.cells,38⟩ :: L,fun _=>R,fun _=>0⟩:Head {n:Int // n=Uba s.air x})) ?_ ?_;·
   refine Kc (Jp (Jh ?_));apply (Xax);refine q_c ?_ ?_<;>intro hc2;·apply qay∘Xce∘qad;refine J7 (Jf ?_);exact uaZ
   apply (Xbj);refine q_c ?_ ?_<;>intro hc3;·apply qay∘Xce∘qad;refine J7 (Jf ?_);exact uaZ
   refine J3 (Jf ?_);exact uaZ
  rintro ⟨of,hof⟩ junk;try dsimp only
  apply qbi∘Xah;refine q_l rfl (Kka x.target of _ _) ?_;apply (Xbl);refine q_c ?_ ?_<;>intro hc4;·apply (Xdg);refine q_i L R ?_;have h:=Yk hp0 za (show Zy s.air s.sensors.l k0=some 9 by rw [Zy,← hx,if_neg za,if_pos (by rw [← hof];simpa using hc4)]);exact ⟨by rw [Ux,h];rfl,rfl,rfl⟩
  apply qbv∘Xah;refine Jy (Vca tb rfl rfl rfl rfl (n:=k0) zk za) rfl ?_;apply qag∘Xao;refine Vd ([2,3,4,5,6,8]++rg 12 50) zJ [(4,.pointer _),(12,.int _ _),(49,.slice _ _ _),(50,.int _ _),(51,.int _ _)] zh fun tq1=>?_;refine q_s ([2,8]++rg 51 10) (fun g:{j:Nat // j≤k0∧∀m:Nat,m < j→(s.sensors.l.getD m default).address≠x.address}=>[(51,.int .i64 ((g.1:Nat):Int))]) (fun g=>k0 - g.1) (⟨0,by omega,fun m hm=>by omega⟩) ?_;rintro ⟨j,hj,hal⟩ junk;try dsimp only
  apply (Xan);refine q_c ?_ ?_<;>intro hc5;·
   have hjg:=Jt (l:=s.sensors.l) (k:=j) default za;apply (qbb);refine Jy (Y5c tb rfl rfl rfl rfl hs za (i:=j) rfl za) rfl ?_;apply Jlg∘qaq;intro b8;apply Xa0∘Xbe∘Xbm;refine q_c ?_ ?_<;>intro hc6;·apply (Xac);refine J7 (Jb (K6 (J9 (J6 (Yb (J9 (J9 (J6 (Yb (J9 (J6 ?_)))))))))));refine q_i L R ?_;have h:=Yk hp0 za (show Zy s.air s.sensors.l k0=some 9 by rw [Zy,← hx,if_neg za,if_neg (fun h=>h (by rw [← hof];simpa using hc4)),if_pos ⟨j,by omega,hc6⟩]);exact ⟨by rw [Ux,h];rfl,rfl,rfl⟩
   apply (Xay);exact Ki (⟨j + 1,by omega,fun m hm=>by
   rcases yl m j with h | h;·exact hal m h
   ·(obtain rfl : m = j := by omega);exact hc6⟩) zm zh zg zBb zu
  refine K7 (Kq (K4 (Kb (Jf (Jb (Jh ?_))))));apply (Xae);exact q_k ⟨k0 + 1,Z0 hp0 za (Yvb hx za (by rw [← hof];simpa using hc4) (fun m hm=>hal m za))⟩
 have hn0:=J9a hp0 za;apply (Xcx);refine q_i L R ?_;exact ⟨by rw [Ux,hn0];rfl,rfl,rfl⟩
def Uuc (s:XSite) (c:XCond) (L:LB) (R:LS) (hs:InR (Kcd s.sensors) R) (hn:s.sensors.l.length≤64):
 Tri Tryz.prog 146 [s.val,c.val].toArray L R (fun v M U=>v=.int .i64 (Kt s.sensors.l s.air.mine.roads.l.length c)∧L=M∧R=U):=by
 refine Jd 62 Tryz.call146 Tryz.func146 rfl rfl rfl ?_;apply (Xaf);intro b2;apply (qax);intro b3;apply Xap∘Xaa;refine J7 (Jb (Kc (Jp (Jp (Jh ?_)))));apply (Xax);refine q_c ?_ ?_<;>intro hc0;·refine J3 (Jb ?_);exact uaa
 apply (Xbj);refine q_c ?_ ?_<;>intro hc1;·refine J3 (Jb ?_);exact uaa
 apply qay∘Xax;exact uaa
def Jfe {conds n:Nat} {z:XZone} (h1:Yz z.rule.l conds=0) (h2:¬ (z.hold < 0∨100000 < z.hold∨z.fresh < 0∨100 < z.fresh)) (k:Nat) (hk:k < z.roads.l.length) (h:V8 n z.roads.l k):V4 conds n z=4:=by rw [V4,if_neg za,if_neg h2,if_pos ⟨k,hk,h⟩]
def Zcc {conds n:Nat} {z:XZone} (h1:Yz z.rule.l conds=0) (h2:¬ (z.hold < 0∨100000 < z.hold∨z.fresh < 0∨100 < z.fresh)) (h:∀k:Nat,k < z.roads.l.length→¬ V8 n z.roads.l k):V4 conds n z=0:=by rw [V4,if_neg za,if_neg h2,if_neg];rintro ⟨k,k1,k2⟩;exact h k k1 k2
def V9c (s:XSite) (z:XZone) (L:LB) (R:LS) (hr:InR (Yfc z.rule) R) (hz:InR (isl z.roads) R):
 Tri Tryz.prog 147 [s.val,z.val].toArray L R (fun v M U=>v=.int .i64 (V4 s.conds.l.length s.air.mine.roads.l.length z)∧L=M∧R=U):=by
 refine Vq Tryz.call147 hz fun hzn=>?_;refine Jd 66 Tryz.call147 Tryz.func147 rfl rfl rfl ?_;apply (Xaf);intro b2;apply (qax);intro b3;apply Xap∘Xaa∘Xab;refine q_l rfl (Vvd z.rule s.conds.l.length _ _ hr) ?_;apply (Xbi);refine q_c ?_ ?_<;>intro hc0;·apply (Xd6);refine q_i L R ?_;exact ⟨by rw [V4,if_pos hc0],rfl,rfl⟩
 apply qbo∘Xbt;apply Kd (G:=[_,_,_]) (j:=3) (cj:=20) rfl rfl zb rfl zmb rfl;·exact ztd
 intro junk4;apply (qah);apply Kd (G:=[_,_,_]) (j:=8) (cj:=25) rfl rfl zb rfl zmb rfl;·exact zte
 intro junk9;apply (qah);apply Kd (G:=[_,_,_]) (j:=13) (cj:=30) rfl rfl zb rfl zmb rfl;·exact zSd
 intro junk14;apply (qaf);refine q_c ?_ ?_<;>intro hc1;·apply (Xa7);refine q_i L R ?_;exact ⟨by rw [V4,if_neg za,if_pos za],rfl,rfl⟩
 apply (Xc4);refine Jl [(2,.pointer _),(3,.pointer _),(36,.slice _ _ _),(37,.int _ _),(38,.int _ _)] zh fun tq0=>?_;refine q_s ([4,6,7]++rg 38 28) (fun g:{k:Nat // k≤z.roads.l.length∧∀j:Nat,j < k→¬ V8 s.air.mine.roads.l.length z.roads.l j}=>[(38,.int .i64 ((g.1:Nat):Int))]) (fun g=>z.roads.l.length - g.1) (⟨0,by omega,fun j hj=>by omega⟩) ?_;rintro ⟨k,hk,hal⟩ junk;try dsimp only
 apply (Xan);refine q_c ?_ ?_<;>intro hc2;·
  have hzg:=Jt (l:=z.roads.l) (k:=k) 0 za;apply (Xa4);refine Jy zC rfl ?_;apply qa7∘qad∘Xav;iterate 3 apply (qab)
  apply (Xdb);refine q_l rfl (Kka (z.roads.l.getD k 0) (s.air.mine.roads.l.length:Int) _ _) ?_;apply (Xda);apply Kd (G:=[_,_,_,_,_,_,_,_,_,_,_,_]) (j:=8) (cj:=51) rfl rfl zb rfl zmb rfl;·
   intro hg9;replace hg9:=qb hg9;apply Xcp∘qah;apply Uy (G:=[_,_,_,_,_,_,_,_]) (j:=11) (cj:=54) rfl rfl zb rfl zmb rfl;·intro hg12;replace hg12:=qb hg12;have hzg2:=Jt (l:=z.roads.l) (k:=k - 1) 0 (by simp at hg12;omega);apply qaa∘Xct;refine Jy zjb rfl ?_;exact (qa7∘qbx) qai
   intro junk12;exact qai
  intro junk9;apply (qaf);refine q_c ?_ ?_<;>intro hc3;·apply (Xch);refine q_i L R ?_;exact ⟨by rw [Jfe (n:=s.air.mine.roads.l.length) za za k za (by rw [V8];omega)],rfl,rfl⟩
  apply (Xay);exact Ki (⟨k + 1,by omega,fun j hj=>by
  rcases yl j k with h | h;·exact hal j h
  ·(obtain rfl : j = k := by omega);rw [V8];omega⟩) zm zh zg zBb zu
 apply (Xcx);refine q_i L R ?_;exact ⟨by rw [Zcc za za (fun j hj=>hal j za)],rfl,rfl⟩
end
section
attribute [local irreducible] CJ LJ DJ Tri YV Gives Uq J2 Km Ur RV J4 OwL.L
section
variable {A B:Prop}
def Vyg(h:A→B:=by exact Jy zvb rfl):=h
end
def K5d (k:Int) (L:LB) (R:LS):
 Tri Tryz.prog 172 [.int .i64 k].toArray L R (fun v M U=>v=.bool (decide (4≤k))∧L=M∧R=U):=by refine Jd 5 Tryz.call172 Tryz.func172 rfl rfl rfl ?_;apply Xbh∘Xc9∘qbz∘Xbk;refine q_b L R ?_;exact zDd
structure SensD (kind address target:Int) (s:XSens):Prop where
 kind:s.kind=kind
 address:s.address=address
 target:s.target=target
 offset:-50≤s.offset∧s.offset≤20
 scale:300≤s.scale∧s.scale≤2000
 error:0≤s.error∧s.error≤5
 drift:0≤s.drift∧s.drift≤699
 life:1≤s.life∧s.life≤200
def J8c (c:Nat) (x:Arr Int) (k:Nat) (kind address target:Int) (R:LS) (hx:CodesR x R) (hk:k≤x.l.length):
 Tri Tryz.prog 91 [.pointer (some ⟨c, 0, none⟩), .int .i64 kind, .int .i64 address, .int .i64 target].toArray [cblk c x k] R
  (fun v M U=>∃(s:XSens) (k':Nat),v=s.val∧SensD kind address target s∧k'≤x.l.length∧cblk c x k' :: []=M∧R=U):=by
 refine Jd 32 Tryz.call91 Tryz.func91 rfl rfl rfl ?_;apply (Xco);intro b8;apply (qam);iterate 3 apply (qaa)
 apply (qa6);refine Jo rfl (Jta zp hx hk za) rfl ?_;rintro v M U ⟨r1,k1,rfl,g1,g1',hk1,rfl,rfl⟩;refine Jy (J8 (qs:=[(1,(Value.int _ _).cells.toList),(0,(Value.int _ _).cells.toList),(2,(Value.int _ _).cells.toList),(4,(Value.int _ _).cells.toList),(7,(Value.int _ _).cells.toList)]) (out:=[_,_,_,_,_,_,_,_]) tb rfl rfl rfl rfl) rfl ?_;apply (qaq);intro b9;apply Xbc∘qaa;refine q_l rfl (K5d _ _ _) ?_;apply (Xbl);refine q_c ?_ ?_<;>intro hc0;·apply qae∘qa6;refine Jo rfl (Jta zp hx hk1 za) rfl ?_;rintro v M U ⟨r2,k2,rfl,g2,g2',hk2,rfl,rfl⟩;apply (qa6);refine Jo rfl (Jta zp hx hk2 za) rfl ?_;rintro v M U ⟨r3,k3,rfl,g3,g3',hk3,rfl,rfl⟩;apply Xa5∘Xa5;refine J7 (Jb (Jh ?_));apply (qa6);refine Jo rfl (Yg zp hx hk3 za) rfl ?_;rintro v M U ⟨r4,k4,rfl,g4,g4',g4'',hk4,rfl,rfl⟩;have g4q:=g4' za;apply (qa6);refine Jo rfl (Yg zp hx hk4 za) rfl ?_;rintro v M U ⟨r5,k5,rfl,g5,g5',g5'',hk5,rfl,rfl⟩;have g5q:=g5' za;apply Xa5∘Xd7∘Vyg∘Xbd;refine q_r [cblk c x k5] R (Va rfl zUb) ?_;exact ⟨⟨address,kind,target,r2,r3,r4,r5,r1⟩,k5,rfl,⟨rfl,rfl,rfl,by dsimp only;omega,by dsimp only;omega,by dsimp only;omega,by dsimp only;omega,by dsimp only;omega⟩,hk5,rfl,rfl⟩
 apply qbv∘Vyg∘Xbd;refine q_r [cblk c x k1] R (Va rfl zUb) ?_;exact ⟨⟨address,kind,target,0,1000,0,0,r1⟩,k1,rfl,⟨rfl,rfl,rfl,by dsimp only;omega,by dsimp only;omega,by dsimp only;omega,by dsimp only;omega,by dsimp only;omega⟩,hk1,rfl,rfl⟩
end
section
attribute [local irreducible] CJ LJ DJ Tri YV Gives Uq J2 Km Ur RV J4 OwL.L
end
end Go.Proofs.YtchfclmokpbldaaGreat
