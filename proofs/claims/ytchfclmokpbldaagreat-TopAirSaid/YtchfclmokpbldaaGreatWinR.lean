/-
  Merged texts. By an AI agent.
-/
import Derived.Test.YtchfclmokpbldaaGreatRuleP
import Derived.Test.YtchfclmokpbldaaGreatRule
import Derived.Test.YtchfclmokpbldaaGreatChecks
import Derived.Test.YtchfclmokpbldaaGreatWin
import Derived.Test.YtchfclmokpbldaaGreatLaw12a
set_option linter.all false
set_option maxHeartbeats 4000000
set_option maxRecDepth 20000
namespace Go.Proofs.YtchfclmokpbldaaGreat
open Go.Aw Go
section
section
variable {A B:Prop}
def Yyc(h:A→B:=by exact Jy zxb rfl):=h
def U6f(h:A→B:=by exact Jy (by first | exact Jd tb rfl rfl rfl rfl zu (i:=c.target.toNat) zk za | exact Jl tb rfl rfl rfl rfl (i:=c.target.toNat) zk za) rfl):=h
def Kig(h:A→B:=by exact Jy zga rfl):=h
end
def Ztc {P : Program} {ρ : Operand → Value} {L : LB} {R : LS} {dst : Option Tmp} {ty : TypeId} {pos : String} {after : Array Edge} {guard : Option (Nat × Bool)} (tb : Tabs P) {T : TypeId} {x y : Operand} {k : IntKind} {a : Int} {e n n2 bt z bt2 z2 k2} {fl fl2 : List (Nat × Nat)} {h len cap i : Nat} {ar : Option Addr} {rows : List (List Value)} {subs : LS} (hT : Zg tb.tab T = some ⟨.slice e, n, fl, bt, z⟩) (hE : Zg tb.tab e = some ⟨k2, n2, fl2, bt2, z2⟩)
 (hx:ρ x=.slice ar h cap) (hy:ρ y=.int k a) (hR:InR (.mk n2 ar len cap rows subs) R) (hle:h≤len) (hi:a=(i:Int)) (hlt:i < h):
 YV P ⟨dst,.indexAddr T x y,ty,pos,after,guard⟩ ρ L R (.pointer (some ⟨adB ar,eo ar n2 i 0,none⟩)):=fun c w hst=>by
 obtain ⟨⟨G,hh,hg⟩,ho,hk⟩:=hst
 have hst2:St c L (.mk n2 ar h cap (rows.take h) subs :: R) w:=⟨⟨G,⟨hh.nd,hh.own,hh.ng,hh.gs,fun r hr=>by
  rcases List.mem_cons.1 hr with rfl | hr
  ·obtain ⟨r', hr', hs⟩ := hR
   exact Zfd ((hh.rep r' hr').sub hs) hle
  ·exact hh.rep r hr⟩,hg⟩,ho,hk⟩
 exact Jd tb hT hE hx hy zJb hi hlt c w hst2
attribute [local irreducible] CJ LJ DJ Tri YV Gives U5 J2 Kn U6 RV J4 OwL.L
def Kja (a b:Int) (L:LB) (R:LS):
 Tri Tryz.prog 178 [.int .i64 a,.int .i64 b].toArray L R (fun v U J=>v=.bool (decide (0≤a∧a < b))∧L=U∧R=J):=by
 refine Je 12 Tryz.call178 Tryz.func178 rfl rfl rfl ?_;apply Xdz∘qaa∘qbz∘qah;apply K9 (G:=[_,_,_]) (j:=2) (cj:=7) rfl rfl zb rfl zsb rfl;·intro hg3;replace hg3:=qb hg3;exact (Xbw) zme
 intro junk3;apply (Xbb);refine q_b L R ?_;exact ya
def Usd {a:XAir} {S:List XSens} {i:Nat} {x:XSens} (hx:x=S.getD i default) (h1:Uv x=0) (h2:0≤x.target∧x.target < Zaa a x) (h3:∀k:Nat,k < i→(S.getD k default).address≠x.address):Jda a S i=none:=by rw [Jda,← hx,if_neg za,if_neg (fun h=>h h2),if_neg];rintro ⟨k,k1,k2⟩;exact h3 k k1 k2
def Yab (s:XSite) (L:LB) (R:LS) (hs:InR (Zbd s.sensors) R) (hn:s.sensors.l.length≤64):
 Tri Tryz.prog 145 [s.val].toArray L R (fun v U J=>v=.int .i64 (U0 s.air s.sensors.l)∧L=U∧R=J):=by
 refine J0b Tryz.call145 hs fun hcap=>?_;refine Je 62 Tryz.call145 Tryz.func145 rfl rfl rfl ?_;apply (Xaf);intro b1;apply Xar∘Xay;refine Jm [(1,.pointer _),(10,.slice _ _ _),(11,.int _ _),(12,.int _ _)] zh fun tq0=>?_;refine q_s ([2,3,4,5,6,8]++rg 12 50) (fun g:FSR (Jda s.air s.sensors.l) (s.sensors.l.length)=>[(12,.int .i64 ((g.1:Nat):Int))]) (fun g=>(s.sensors.l.length) - g.1) ⟨0,Kra _ _⟩ ?_;rintro ⟨k0,hk0,hp0⟩ junk;try dsimp only
 apply (Xam);refine q_c ?_ ?_<;>intro hc0;·
  have hxg:=Jn (l:=s.sensors.l) (k:=k0) default za;obtain ⟨x,hx⟩:∃x,x=s.sensors.l.getD k0 default:=⟨_,rfl⟩;rw [← hx] at hxg;apply (Xa1);refine Jy zX rfl ?_;apply Kig∘qaq;intro b4;apply (Xd0);refine Jy zAb rfl ?_;refine q_l rfl (Kza x _ _) ?_;apply (Xbh);refine q_c ?_ ?_<;>intro hc1;·apply Xd1∘qch;refine q_i L R ?_;have h:=Yn hp0 za (show Jda s.air s.sensors.l k0=some (Uv x) by rw [Jda,← hx,if_pos hc1]);exact ⟨by rw [U0,h];rfl,rfl,rfl⟩
  apply (qbv);iterate 3 apply (qab)
  apply qac∘qag∘Xar∘Xaa∘qaf;refine Kaa ([6]++rg 29 12) ((⟨fun g=>[(6,.int .i64 g.1)],fun _=>⟨b4,x.cells,88⟩ :: ⟨b1,s.cells,38⟩ :: L,fun _=>R,fun _=>0⟩:Head {n:Int // n=Zaa s.air x})) ?_ ?_;·
   refine Kk (Jq (Jh ?_));apply (Xa6);refine q_c ?_ ?_<;>intro hc2;·apply qay∘Xb9∘qad;refine Kc (Ji ?_);exact ua5
   apply (Xbx);refine q_c ?_ ?_<;>intro hc3;·apply qay∘Xb9∘qad;refine Kc (Ji ?_);exact ua5
   refine J5 (Ji ?_);exact ua5
  rintro ⟨of,hof⟩ junk;try dsimp only
  apply qbi∘Xah;refine q_l rfl (Kja x.target of _ _) ?_;apply (Xbl);refine q_c ?_ ?_<;>intro hc4;·apply (Xc0);refine q_i L R ?_;have h:=Yn hp0 za (show Jda s.air s.sensors.l k0=some 9 by rw [Jda,← hx,if_neg za,if_pos (by rw [← hof];simpa using hc4)]);exact ⟨by rw [U0,h];rfl,rfl,rfl⟩
  apply qbv∘Xah;refine Jy (Uqb tb rfl rfl rfl rfl (n:=k0) zk za) rfl ?_;apply (Xdg);refine Ve ([2,3,4,5,6,8]++rg 12 50) zJ [(4,.pointer _),(12,.int _ _),(49,.slice _ _ _),(50,.int _ _),(51,.int _ _)] zh fun tq1=>?_;refine q_s ([2,8]++rg 51 10) (fun g:{j:Nat // j≤k0∧∀m:Nat,m < j→(s.sensors.l.getD m default).address≠x.address}=>[(51,.int .i64 ((g.1:Nat):Int))]) (fun g=>k0 - g.1) (⟨0,by omega,fun m hm=>by omega⟩) ?_;rintro ⟨j,hj,hal⟩ junk;try dsimp only
  apply (Xam);refine q_c ?_ ?_<;>intro hc5;·
   have hjg:=Jn (l:=s.sensors.l) (k:=j) default za;apply (qbb);refine Jy (Ztc tb rfl rfl rfl rfl hs za (i:=j) rfl za) rfl ?_;apply Kig∘qaq;intro b8;apply Xaz∘Xa2∘Xbu;refine q_c ?_ ?_<;>intro hc6;·apply (Xae);refine Kc (Jb (Uq (Kf (Kg (Yt (Kf (Kf (Kg (Yt (Kf (Kg ?_)))))))))));refine q_i L R ?_;have h:=Yn hp0 za (show Jda s.air s.sensors.l k0=some 9 by rw [Jda,← hx,if_neg za,if_neg (fun h=>h (by rw [← hof];simpa using hc4)),if_pos ⟨j,by omega,hc6⟩]);exact ⟨by rw [U0,h];rfl,rfl,rfl⟩
   apply (Xaw);exact Kd (⟨j + 1,by omega,fun m hm=>by
   rcases yk m j with h | h;·exact hal m h
   ·(obtain rfl : m = j := by omega);exact hc6⟩) zm zh zi zLb zx
  refine K5 (Kj (K7 (J3 (Ji (Jb (Jh ?_))))));apply (Xad);exact q_k ⟨k0 + 1,Zu hp0 za (Usd hx za (by rw [← hof];simpa using hc4) (fun m hm=>hal m za))⟩
 have hn0:=J9a hp0 za;apply (Xco);refine q_i L R ?_;exact ⟨by rw [U0,hn0];rfl,rfl,rfl⟩
def Y5c (s:XSite) (c:XCond) (L:LB) (R:LS) (hs:InR (Zbd s.sensors) R) (hn:s.sensors.l.length≤64):
 Tri Tryz.prog 146 [s.val,c.val].toArray L R (fun v U J=>v=.int .i64 (Kv s.sensors.l s.air.mine.roads.l.length c)∧L=U∧R=J):=by
 refine Je 62 Tryz.call146 Tryz.func146 rfl rfl rfl ?_;apply (Xaf);intro b2;apply (qax);intro b3;apply Xar∘Xaa;refine Kc (Jb (Kk (Jq (Jq (Jh ?_)))));apply (Xa6);refine q_c ?_ ?_<;>intro hc0;·refine J5 (Jb ?_);exact uaa
 apply (Xbx);refine q_c ?_ ?_<;>intro hc1;·refine J5 (Jb ?_);exact uaa
 apply qay∘Xa6;exact uaa
def Jpe {conds n:Nat} {z:XZone} (h1:Jsa z.rule.l conds=0) (h2:¬ (z.hold < 0∨100000 < z.hold∨z.fresh < 0∨100 < z.fresh)) (k:Nat) (hk:k < z.roads.l.length) (h:Y2 n z.roads.l k):Y8 conds n z=4:=by rw [Y8,if_neg za,if_neg h2,if_pos ⟨k,hk,h⟩]
def Zyc {conds n:Nat} {z:XZone} (h1:Jsa z.rule.l conds=0) (h2:¬ (z.hold < 0∨100000 < z.hold∨z.fresh < 0∨100 < z.fresh)) (h:∀k:Nat,k < z.roads.l.length→¬ Y2 n z.roads.l k):Y8 conds n z=0:=by rw [Y8,if_neg za,if_neg h2,if_neg];rintro ⟨k,k1,k2⟩;exact h k k1 k2
def Vrc (s:XSite) (z:XZone) (L:LB) (R:LS) (hr:InR (Zbe z.rule) R) (hz:InR (isl z.roads) R):
 Tri Tryz.prog 147 [s.val,z.val].toArray L R (fun v U J=>v=.int .i64 (Y8 s.conds.l.length s.air.mine.roads.l.length z)∧L=U∧R=J):=by
 refine U3 Tryz.call147 hz fun hzn=>?_;refine Je 66 Tryz.call147 Tryz.func147 rfl rfl rfl ?_;apply (Xaf);intro b2;apply (qax);intro b3;apply Xar∘Xaa∘Xab;refine q_l rfl (Kxd z.rule s.conds.l.length _ _ hr) ?_;apply (Xbh);refine q_c ?_ ?_<;>intro hc0;·apply (Xdm);refine q_i L R ?_;exact ⟨by rw [Y8,if_pos hc0],rfl,rfl⟩
 apply qbo∘Xbj;apply J6 (G:=[_,_,_]) (j:=3) (cj:=20) rfl rfl zb rfl zsb rfl;·exact zHd
 intro junk4;apply (qah);apply J6 (G:=[_,_,_]) (j:=8) (cj:=25) rfl rfl zb rfl zsb rfl;·exact zTd
 intro junk9;apply (qah);apply J6 (G:=[_,_,_]) (j:=13) (cj:=30) rfl rfl zb rfl zsb rfl;·exact zMe
 intro junk14;apply (qaf);refine q_c ?_ ?_<;>intro hc1;·apply (Xba);refine q_i L R ?_;exact ⟨by rw [Y8,if_neg za,if_pos za],rfl,rfl⟩
 apply (Xc3);refine Jm [(2,.pointer _),(3,.pointer _),(36,.slice _ _ _),(37,.int _ _),(38,.int _ _)] zh fun tq0=>?_;refine q_s ([4,6,7]++rg 38 28) (fun g:{k:Nat // k≤z.roads.l.length∧∀j:Nat,j < k→¬ Y2 s.air.mine.roads.l.length z.roads.l j}=>[(38,.int .i64 ((g.1:Nat):Int))]) (fun g=>z.roads.l.length - g.1) (⟨0,by omega,fun j hj=>by omega⟩) ?_;rintro ⟨k,hk,hal⟩ junk;try dsimp only
 apply (Xam);refine q_c ?_ ?_<;>intro hc2;·
  have hzg:=Jn (l:=z.roads.l) (k:=k) 0 za;apply (Xa1);refine Jy zC rfl ?_;apply Xdn∘Xas;iterate 3 apply (qab)
  apply qac∘qag;refine q_l rfl (Kja (z.roads.l.getD k 0) (s.air.mine.roads.l.length:Int) _ _) ?_;apply (Xcq);apply J6 (G:=[_,_,_,_,_,_,_,_,_,_,_,_]) (j:=8) (cj:=51) rfl rfl zb rfl zsb rfl;·
   intro hg9;replace hg9:=qb hg9;apply Xb8∘qah;apply K9 (G:=[_,_,_,_,_,_,_,_]) (j:=11) (cj:=54) rfl rfl zb rfl zsb rfl;·intro hg12;replace hg12:=qb hg12;have hzg2:=Jn (l:=z.roads.l) (k:=k - 1) 0 (by simp at hg12;omega);apply qaa∘Xd4;refine Jy zpb rfl ?_;exact (qa7) zye
   intro junk12;exact qai
  intro junk9;apply (qaf);refine q_c ?_ ?_<;>intro hc3;·apply (Xby);refine q_i L R ?_;exact ⟨by rw [Jpe (n:=s.air.mine.roads.l.length) za za k za (by rw [Y2];omega)],rfl,rfl⟩
  apply (Xaw);exact Kd (⟨k + 1,by omega,fun j hj=>by
  rcases yk j k with h | h;·exact hal j h
  ·(obtain rfl : j = k := by omega);rw [Y2];omega⟩) zm zh zi zLb zx
 apply (Xco);refine q_i L R ?_;exact ⟨by rw [Zyc za za (fun j hj=>hal j za)],rfl,rfl⟩
end
section
attribute [local irreducible] CJ LJ DJ Tri YV Gives U5 J2 Kn U6 RV J4 OwL.L
end
end Go.Proofs.YtchfclmokpbldaaGreat
