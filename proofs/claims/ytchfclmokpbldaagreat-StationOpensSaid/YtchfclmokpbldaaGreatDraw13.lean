/-
  Merged texts. By an AI agent.
-/
import Derived.Test.YtchfclmokpbldaaGreatRuleP
import Derived.Test.YtchfclmokpbldaaGreatRule
import Derived.Test.YtchfclmokpbldaaGreatChecks
import Derived.Test.YtchfclmokpbldaaGreatLaw11b
set_option linter.all false
set_option maxHeartbeats 4000000
set_option maxRecDepth 20000
namespace Go.Proofs.YtchfclmokpbldaaGreat
open Go.Aw Go
section
section
variable {A B:Prop}
def U2c(h:A→B:=by exact J0 zzb rfl):=h
def Uyf(h:A→B:=by exact J0 zlb rfl):=h
def Y1f(h:A→B:=by exact J0 zia rfl):=h
end
def Yic {P : Program} {ρ : Operand → Value} {L : LB} {R : LS} {dst : Option Tmp} {ty : TypeId} {pos : String} {after : Array Edge} {guard : Option (Nat × Bool)} (tb : Tabs P) {T : TypeId} {x y : Operand} {k : IntKind} {a : Int} {e n n2 bt z bt2 z2 k2} {fl fl2 : List (Nat × Nat)} {h len cap i : Nat} {ar : Option Addr} {rows : List (List Value)} {subs : LS} (hT : Zd tb.tab T = some ⟨.slice e, n, fl, bt, z⟩) (hE : Zd tb.tab e = some ⟨k2, n2, fl2, bt2, z2⟩)
 (hx:ρ x=.slice ar h cap) (hy:ρ y=.int k a) (hR:InR (.mk n2 ar len cap rows subs) R) (hle:h≤len) (hi:a=(i:Int)) (hlt:i < h):
 YV P ⟨dst,.indexAddr T x y,ty,pos,after,guard⟩ ρ L R (.pointer (some ⟨adB ar,eo ar n2 i 0,none⟩)):=fun c w hst=>by
 obtain ⟨⟨G,hh,hg⟩,ho,hk⟩:=hst
 have hst2:St c L (.mk n2 ar h cap (rows.take h) subs :: R) w:=⟨⟨G,⟨hh.nd,hh.own,hh.ng,hh.gs,fun r hr=>by
  rcases List.mem_cons.1 hr with rfl | hr
  ·obtain ⟨r', hr', hs⟩ := hR
   exact Uxd ((hh.rep r' hr').sub hs) hle
  ·exact hh.rep r hr⟩,hg⟩,ho,hk⟩
 exact Jf tb hT hE hx hy zRb hi hlt c w hst2
attribute [local irreducible] CJ LJ DJ Tri YV Gives U7 Kb Kp U8 RV Ke OwL.L
def Kca (a b:Int) (L:LB) (R:LS):
 Tri Tryz.prog 178 [.int .i64 a,.int .i64 b].toArray L R (fun v M U=>v=.bool (decide (0≤a∧a < b))∧L=M∧R=U):=by
 refine Jd 12 Tryz.call178 Tryz.func178 rfl rfl rfl ?_;apply Xa3∘Xdr∘qbz∘qah;apply Ue (G:=[_,_,_]) (j:=2) (cj:=7) rfl rfl ze rfl ztb rfl;·intro hg3;replace hg3:=qb hg3;exact (Xbu) zJe
 intro junk3;exact ubt
def Zqb {a:XAir} {S:List XSens} {i:Nat} {x:XSens} (hx:x=S.getD i default) (h1:Vx x=0) (h2:0≤x.target∧x.target < Jqa a x) (h3:∀k:Nat,k < i→(S.getD k default).address≠x.address):Yx a S i=none:=by rw [Yx,← hx,if_neg zc,if_neg (fun h=>h h2),if_neg];rintro ⟨k,k1,k2⟩;exact h3 k k1 k2
def Vbb (s:XSite) (L:LB) (R:LS) (hs:InR (Urc s.sensors) R) (hn:s.sensors.l.length≤64):
 Tri Tryz.prog 145 [s.val].toArray L R (fun v M U=>v=.int .i64 (Uf s.air s.sensors.l)∧L=M∧R=U):=by
 refine Kba Tryz.call145 hs fun hcap=>?_;refine Jd 62 Tryz.call145 Tryz.func145 rfl rfl rfl ?_;apply (Xag);intro b1;apply Xau∘Xbh;refine Jh [(1,.pointer _),(10,.slice _ _ _),(11,.int _ _),(12,.int _ _)] zg fun tq0=>?_;refine q_s ([2,3,4,5,6,8]++rg 12 50) (fun g:FSR (Yx s.air s.sensors.l) (s.sensors.l.length)=>[(12,.int .i64 ((g.1:Nat):Int))]) (fun g=>(s.sensors.l.length) - g.1) ⟨0,Yh _ _⟩ ?_;rintro ⟨k0,hk0,hp0⟩ junk;try dsimp only
 apply (Xay);refine q_c ?_ ?_<;>intro hc0;·
  have hxg:=Js (l:=s.sensors.l) (k:=k0) default zc;obtain ⟨x,hx⟩:∃x,x=s.sensors.l.getD k0 default:=⟨_,rfl⟩;rw [← hx] at hxg;apply (Xbv);refine J0 zP rfl ?_;apply Y1f∘qaq;intro b4;apply qad∘Xbi;refine J0 zxb rfl ?_;refine q_l rfl (Kob x _ _) ?_;apply (Xbj);refine q_c ?_ ?_<;>intro hc1;·exact zbg
  apply (qbv);iterate 3 apply (qab)
  apply Xcc∘Xeh∘qaf;refine Vu ([6]++rg 29 12) ((⟨fun g=>[(6,.int .i64 g.1)],fun _=>⟨b4,x.cells,88⟩ :: ⟨b1,s.cells,38⟩ :: L,fun _=>R,fun _=>0⟩:Head {n:Int // n=Jqa s.air x})) ?_ ?_;·
   refine Jy (Ji (Je ?_));apply (Xba);refine q_c ?_ ?_<;>intro hc2;·apply qay∘Xcg∘qad;refine J6 (Jg ?_);exact ubh
   apply (Xbx);refine q_c ?_ ?_<;>intro hc3;·apply qay∘Xcg∘qad;refine J6 (Jg ?_);exact ubh
   refine Jt (Jg ?_);exact ubh
  rintro ⟨of,hof⟩ junk;try dsimp only
  apply qbi∘Xaf;refine q_l rfl (Kca x.target of _ _) ?_;apply (Xbg);refine q_c ?_ ?_<;>intro hc4;·apply (Xco);refine q_i L R ?_;have h:=Ul hp0 zc (show Yx s.air s.sensors.l k0=some 9 by rw [Yx,← hx,if_neg zc,if_pos (by rw [← hof];simpa using hc4)]);exact zMe
  apply qbv∘Xaf;refine J0 (Uab tb rfl rfl rfl rfl (n:=k0) zo zc) rfl ?_;apply qag∘Xa0;refine Uh ([2,3,4,5,6,8]++rg 12 50) zG [(4,.pointer _),(12,.int _ _),(49,.slice _ _ _),(50,.int _ _),(51,.int _ _)] zg fun tq1=>?_;refine q_s ([2,8]++rg 51 10) (fun g:{j:Nat // j≤k0∧∀m:Nat,m < j→(s.sensors.l.getD m default).address≠x.address}=>[(51,.int .i64 ((g.1:Nat):Int))]) (fun g=>k0 - g.1) (⟨0,by omega,fun m hm=>by omega⟩) ?_;rintro ⟨j,hj,hal⟩ junk;try dsimp only
  apply (Xay);refine q_c ?_ ?_<;>intro hc5;·
   have hjg:=Js (l:=s.sensors.l) (k:=j) default zc;apply (qbb);refine J0 (Yic tb rfl rfl rfl rfl hs zc (i:=j) rfl zc) rfl ?_;apply Y1f∘qaq;intro b8;apply Xbe∘Xbl∘Xa6;refine q_c ?_ ?_<;>intro hc6;·apply (Xac);refine J6 (Ja (Ud (Jv (J1 (K9 (Jv (Jv (J1 (K9 (Jv (J1 ?_)))))))))));refine q_i L R ?_;have h:=Ul hp0 zc (show Yx s.air s.sensors.l k0=some 9 by rw [Yx,← hx,if_neg zc,if_neg (fun h=>h (by rw [← hof];simpa using hc4)),if_pos ⟨j,by omega,hc6⟩]);exact zMe
   apply (Xbk);exact ua8
  refine K5 (Kk (K1 (J8 (Jg (Ja (Je ?_))))));apply (Xan);exact q_k ⟨k0 + 1,Va hp0 zc (Zqb hx zc (by rw [← hof];simpa using hc4) (fun m hm=>hal m zc))⟩
 exact zBf
def K5c (s:XSite) (c:XCond) (L:LB) (R:LS) (hs:InR (Urc s.sensors) R) (hn:s.sensors.l.length≤64):
 Tri Tryz.prog 146 [s.val,c.val].toArray L R (fun v M U=>v=.int .i64 (J7 s.sensors.l s.air.mine.roads.l.length c)∧L=M∧R=U):=by
 refine Jd 62 Tryz.call146 Tryz.func146 rfl rfl rfl ?_;apply (Xag);intro b2;apply (qax);intro b3;apply (Xeh);refine J6 (Ja (Jy (Ji (Ji (Je ?_)))));apply (Xba);refine q_c ?_ ?_<;>intro hc0;·refine Jt (Ja ?_);exact uab
 apply (Xbx);refine q_c ?_ ?_<;>intro hc1;·refine Jt (Ja ?_);exact uab
 apply qay∘Xba;exact uab
def Koc {conds n:Nat} {z:XZone} (h1:Z8 z.rule.l conds=0) (h2:¬ (z.hold < 0∨100000 < z.hold∨z.fresh < 0∨100 < z.fresh)) (k:Nat) (hk:k < z.roads.l.length) (h:V8 n z.roads.l k):Yi conds n z=4:=by rw [Yi,if_neg zc,if_neg h2,if_pos ⟨k,hk,h⟩]
def U6b {conds n:Nat} {z:XZone} (h1:Z8 z.rule.l conds=0) (h2:¬ (z.hold < 0∨100000 < z.hold∨z.fresh < 0∨100 < z.fresh)) (h:∀k:Nat,k < z.roads.l.length→¬ V8 n z.roads.l k):Yi conds n z=0:=by rw [Yi,if_neg zc,if_neg h2,if_neg];rintro ⟨k,k1,k2⟩;exact h k k1 k2
def Uvc (s:XSite) (z:XZone) (L:LB) (R:LS) (hr:InR (Ykc z.rule) R) (hz:InR (isl z.roads) R):
 Tri Tryz.prog 147 [s.val,z.val].toArray L R (fun v M U=>v=.int .i64 (Yi s.conds.l.length s.air.mine.roads.l.length z)∧L=M∧R=U):=by
 refine Ua Tryz.call147 hz fun hzn=>?_;refine Jd 66 Tryz.call147 Tryz.func147 rfl rfl rfl ?_;apply (Xag);intro b2;apply (qax);intro b3;apply Xeh∘Xab;refine q_l rfl (J0d z.rule s.conds.l.length _ _ hr) ?_;apply (Xbj);refine q_c ?_ ?_<;>intro hc0;·apply (Xcx);refine q_i L R ?_;exact ⟨by rw [Yi,if_pos hc0],rfl,rfl⟩
 apply qbo∘Xa7;apply J3 (G:=[_,_,_]) (j:=3) (cj:=20) rfl rfl ze rfl ztb rfl;·exact zJd
 intro junk4;apply (qah);apply J3 (G:=[_,_,_]) (j:=8) (cj:=25) rfl rfl ze rfl ztb rfl;·exact zde
 intro junk9;apply (qah);apply J3 (G:=[_,_,_]) (j:=13) (cj:=30) rfl rfl ze rfl ztb rfl;·exact zQf
 intro junk14;apply (qaf);refine q_c ?_ ?_<;>intro hc1;·exact ubN
 apply (Xd8);refine Jh [(2,.pointer _),(3,.pointer _),(36,.slice _ _ _),(37,.int _ _),(38,.int _ _)] zg fun tq0=>?_;refine q_s ([4,6,7]++rg 38 28) (fun g:{k:Nat // k≤z.roads.l.length∧∀j:Nat,j < k→¬ V8 s.air.mine.roads.l.length z.roads.l j}=>[(38,.int .i64 ((g.1:Nat):Int))]) (fun g=>z.roads.l.length - g.1) (⟨0,by omega,fun j hj=>by omega⟩) ?_;rintro ⟨k,hk,hal⟩ junk;try dsimp only
 apply (Xay);refine q_c ?_ ?_<;>intro hc2;·
  have hzg:=Js (l:=z.roads.l) (k:=k) 0 zc;apply (Xbv);refine J0 zC rfl ?_;apply qa7∘qad∘Xa2;iterate 3 apply (qab)
  apply (Xcc);refine q_l rfl (Kca (z.roads.l.getD k 0) (s.air.mine.roads.l.length:Int) _ _) ?_;apply (Xdd);apply J3 (G:=[_,_,_,_,_,_,_,_,_,_,_,_]) (j:=8) (cj:=51) rfl rfl ze rfl ztb rfl;·
   intro hg9;replace hg9:=qb hg9;apply Xcu∘qah;apply Ue (G:=[_,_,_,_,_,_,_,_]) (j:=11) (cj:=54) rfl rfl ze rfl ztb rfl;·intro hg12;replace hg12:=qb hg12;have hzg2:=Js (l:=z.roads.l) (k:=k - 1) 0 (by simp at hg12;omega);apply qaa∘Xd5;refine J0 zUa rfl ?_;exact (qa7) zSe
   intro junk12;exact qai
  intro junk9;apply (qaf);refine q_c ?_ ?_<;>intro hc3;·apply (Xbr);refine q_i L R ?_;exact ⟨by rw [Koc (n:=s.air.mine.roads.l.length) zc zc k zc (by rw [V8];omega)],rfl,rfl⟩
  apply (Xbk);exact uaF
 exact zCf
end
section
attribute [local irreducible] CJ LJ DJ Tri YV Gives U7 Kb Kp U8 RV Ke OwL.L
section
variable {A B:Prop}
def Znf(h:A→B:=by exact J0 zxb rfl):=h
end
def V2b (k:Int) (L:LB) (R:LS):
 Tri Tryz.prog 172 [.int .i64 k].toArray L R (fun v M U=>v=.bool (decide (4≤k))∧L=M∧R=U):=by refine Jd 5 Tryz.call172 Tryz.func172 rfl rfl rfl ?_;apply Xa3∘Xdr∘qbz∘Xbb;refine q_b L R ?_;exact zRd
structure SensD (kind address target:Int) (s:XSens):Prop where
 kind:s.kind=kind
 address:s.address=address
 target:s.target=target
 offset:-50≤s.offset∧s.offset≤20
 scale:300≤s.scale∧s.scale≤2000
 error:0≤s.error∧s.error≤5
 drift:0≤s.drift∧s.drift≤699
 life:1≤s.life∧s.life≤200
def Jmc (c:Nat) (x:Arr Int) (k:Nat) (kind address target:Int) (R:LS) (hx:CodesR x R) (hk:k≤x.l.length):
 Tri Tryz.prog 91 [.pointer (some ⟨c, 0, none⟩), .int .i64 kind, .int .i64 address, .int .i64 target].toArray [cblk c x k] R
  (fun v M U=>∃(s:XSens) (k':Nat),v=s.val∧SensD kind address target s∧k'≤x.l.length∧cblk c x k' :: []=M∧R=U):=by
 refine Jd 32 Tryz.call91 Tryz.func91 rfl rfl rfl ?_;apply (Xct);intro b8;apply (qam);iterate 3 apply (qaa)
 apply (qa6);refine Ju rfl (Jra zx hx hk zc) rfl ?_;rintro v M U ⟨r1,k1,rfl,g1,g1',hk1,rfl,rfl⟩;refine J0 (Kf (qs:=[(1,(Value.int _ _).cells.toList),(0,(Value.int _ _).cells.toList),(2,(Value.int _ _).cells.toList),(4,(Value.int _ _).cells.toList),(7,(Value.int _ _).cells.toList)]) (out:=[_,_,_,_,_,_,_,_]) tb rfl rfl rfl rfl) rfl ?_;apply (qaq);intro b9;apply Xbi∘qaa;refine q_l rfl (V2b _ _ _) ?_;apply (Xbg);refine q_c ?_ ?_<;>intro hc0;·apply qae∘qa6;refine Ju rfl (Jra zx hx hk1 zc) rfl ?_;rintro v M U ⟨r2,k2,rfl,g2,g2',hk2,rfl,rfl⟩;apply (qa6);refine Ju rfl (Jra zx hx hk2 zc) rfl ?_;rintro v M U ⟨r3,k3,rfl,g3,g3',hk3,rfl,rfl⟩;apply Xbs∘Xbs;refine J6 (Ja (Je ?_));apply (qa6);refine Ju rfl (Zx zx hx hk3 zc) rfl ?_;rintro v M U ⟨r4,k4,rfl,g4,g4',g4'',hk4,rfl,rfl⟩;have g4q:=g4' zc;apply (qa6);refine Ju rfl (Zx zx hx hk4 zc) rfl ?_;rintro v M U ⟨r5,k5,rfl,g5,g5',g5'',hk5,rfl,rfl⟩;have g5q:=g5' zc;apply Xbs∘Xbs∘qam∘Znf∘Xbf;refine q_r [cblk c x k5] R (U3 rfl zdc) ?_;exact ⟨⟨address,kind,target,r2,r3,r4,r5,r1⟩,k5,rfl,⟨rfl,rfl,rfl,by dsimp only;omega,by dsimp only;omega,by dsimp only;omega,by dsimp only;omega,by dsimp only;omega⟩,hk5,rfl,rfl⟩
 apply qbv∘Znf∘Xbf;refine q_r [cblk c x k1] R (U3 rfl zdc) ?_;exact ⟨⟨address,kind,target,0,1000,0,0,r1⟩,k1,rfl,⟨rfl,rfl,rfl,by dsimp only;omega,by dsimp only;omega,by dsimp only;omega,by dsimp only;omega,by dsimp only;omega⟩,hk1,rfl,rfl⟩
end
end Go.Proofs.YtchfclmokpbldaaGreat
