/-
  Merged texts. By an AI agent.
-/
import Derived.Test.YtchfclmokpbldaaGreatRuleP
import Derived.Test.YtchfclmokpbldaaGreatRule
import Derived.Test.YtchfclmokpbldaaGreatChecks
import Derived.Test.YtchfclmokpbldaaGreatWin
import Derived.Test.YtchfclmokpbldaaGreatCircS
set_option linter.all false
set_option maxHeartbeats 4000000
set_option maxRecDepth 20000
namespace Go.Proofs.YtchfclmokpbldaaGreat
open Go.Aw Go
section
section
variable {A B:Prop}
def Uoc(h:A→B:=by exact Jw zrb rfl):=h
def Ucf(h:A→B:=by exact Jw (by first | exact Jd tb rfl rfl rfl rfl zu (i:=c.target.toNat) zk za | exact Jl tb rfl rfl rfl rfl (i:=c.target.toNat) zk za) rfl):=h
def Jeg(h:A→B:=by exact Jw zda rfl):=h
end
def Zxc {P : Program} {ρ : Operand → Value} {L : LB} {R : LS} {dst : Option Tmp} {ty : TypeId} {pos : String} {after : Array Edge} {guard : Option (Nat × Bool)} (tb : Tabs P) {T : TypeId} {x y : Operand} {k : IntKind} {a : Int} {e n n2 bt z bt2 z2 k2} {fl fl2 : List (Nat × Nat)} {h len cap i : Nat} {ar : Option Addr} {rows : List (List Value)} {subs : LS} (hT : Yy tb.tab T = some ⟨.slice e, n, fl, bt, z⟩) (hE : Yy tb.tab e = some ⟨k2, n2, fl2, bt2, z2⟩)
 (hx:ρ x=.slice ar h cap) (hy:ρ y=.int k a) (hR:InR (.mk n2 ar len cap rows subs) R) (hle:h≤len) (hi:a=(i:Int)) (hlt:i < h):
 YV P ⟨dst,.indexAddr T x y,ty,pos,after,guard⟩ ρ L R (.pointer (some ⟨adB ar,eo ar n2 i 0,none⟩)):=fun c w hst=>by
 obtain ⟨⟨G,hh,hg⟩,ho,hk⟩:=hst
 have hst2:St c L (.mk n2 ar h cap (rows.take h) subs :: R) w:=⟨⟨G,⟨hh.nd,hh.own,hh.ng,hh.gs,fun r hr=>by
  rcases List.mem_cons.1 hr with rfl | hr
  ·obtain ⟨r', hr', hs⟩ := hR
   exact Vwd ((hh.rep r' hr').sub hs) hle
  ·exact hh.rep r hr⟩,hg⟩,ho,hk⟩
 exact Jd tb hT hE hx hy zFb hi hlt c w hst2
attribute [local irreducible] CJ LJ DJ Tri YV Gives Uq J2 Kj Ut RV J3 OwL.L
def J9a (a b:Int) (L:LB) (R:LS):
 Tri Tryz.prog 178 [.int .i64 a,.int .i64 b].toArray L R (fun v U J=>v=.bool (decide (0≤a∧a < b))∧L=U∧R=J):=by
 refine Je 12 Tryz.call178 Tryz.func178 rfl rfl rfl ?_;apply Xbt∘Xc8∘qbz∘qah;apply Ui (G:=[_,_,_]) (j:=2) (cj:=7) rfl rfl zb rfl zmb rfl;·intro hg3;replace hg3:=qb hg3;exact (Xb4) zOd
 intro junk3;apply (Xbs);refine q_b L R ?_;exact ya
def Kld {a:XAir} {S:List XSens} {i:Nat} {x:XSens} (hx:x=S.getD i default) (h1:Uo x=0) (h2:0≤x.target∧x.target < Zda a x) (h3:∀k:Nat,k < i→(S.getD k default).address≠x.address):Z6 a S i=none:=by rw [Z6,← hx,if_neg za,if_neg (fun h=>h h2),if_neg];rintro ⟨k,k1,k2⟩;exact h3 k k1 k2
def Vnb (s:XSite) (L:LB) (R:LS) (hs:InR (Jbe s.sensors) R) (hn:s.sensors.l.length≤64):
 Tri Tryz.prog 145 [s.val].toArray L R (fun v U J=>v=.int .i64 (Uz s.air s.sensors.l)∧L=U∧R=J):=by
 refine Jgb Tryz.call145 hs fun hcap=>?_;refine Je 62 Tryz.call145 Tryz.func145 rfl rfl rfl ?_;apply (Xaf);intro b1;apply Xar∘Xay;refine Jm [(1,.pointer _),(10,.slice _ _ _),(11,.int _ _),(12,.int _ _)] zh fun tq0=>?_;refine q_s ([2,3,4,5,6,8]++rg 12 50) (fun g:FSR (Z6 s.air s.sensors.l) (s.sensors.l.length)=>[(12,.int .i64 ((g.1:Nat):Int))]) (fun g=>(s.sensors.l.length) - g.1) ⟨0,Kga _ _⟩ ?_;rintro ⟨k0,hk0,hp0⟩ junk;try dsimp only
 apply (Xaj);refine q_c ?_ ?_<;>intro hc0;·
  have hxg:=Jp (l:=s.sensors.l) (k:=k0) default za;obtain ⟨x,hx⟩:∃x,x=s.sensors.l.getD k0 default:=⟨_,rfl⟩;rw [← hx] at hxg;apply (Xa1);refine Jw zea rfl ?_;apply Jeg∘qaq;intro b4;apply qad∘Xa9;refine Jw zvb rfl ?_;refine q_l rfl (Z0 x _ _) ?_;apply (Xbb);refine q_c ?_ ?_<;>intro hc1;·apply Xdv∘qch;refine q_i L R ?_;have h:=Yi hp0 za (show Z6 s.air s.sensors.l k0=some (Uo x) by rw [Z6,← hx,if_pos hc1]);exact ⟨by rw [Uz,h];rfl,rfl,rfl⟩
  apply (qbv);iterate 3 apply (qab)
  apply qac∘qag∘Xar∘Xaa∘qaf;refine Vq ([6]++rg 29 12) ((⟨fun g=>[(6,.int .i64 g.1)],fun _=>⟨b4,x.cells,88⟩ :: ⟨b1,s.cells,38⟩ :: L,fun _=>R,fun _=>0⟩:Head {n:Int // n=Zda s.air x})) ?_ ?_;·
   refine Ki (Jq (Jg ?_));apply (Xa2);refine q_c ?_ ?_<;>intro hc2;·apply qay∘Xce∘qad;refine J9 (Jh ?_);exact ua3
   apply (Xbv);refine q_c ?_ ?_<;>intro hc3;·apply qay∘Xce∘qad;refine J9 (Jh ?_);exact ua3
   refine J5 (Jh ?_);exact ua3
  rintro ⟨of,hof⟩ junk;try dsimp only
  apply qbi∘Xah;refine q_l rfl (J9a x.target of _ _) ?_;apply (Xbj);refine q_c ?_ ?_<;>intro hc4;·apply (Xda);refine q_i L R ?_;have h:=Yi hp0 za (show Z6 s.air s.sensors.l k0=some 9 by rw [Z6,← hx,if_neg za,if_pos (by rw [← hof];simpa using hc4)]);exact ⟨by rw [Uz,h];rfl,rfl,rfl⟩
  apply qbv∘Xah;refine Jw (Ubb tb rfl rfl rfl rfl (n:=k0) zk za) rfl ?_;apply (Xc1);refine Vw ([2,3,4,5,6,8]++rg 12 50) zJ [(4,.pointer _),(12,.int _ _),(49,.slice _ _ _),(50,.int _ _),(51,.int _ _)] zh fun tq1=>?_;refine q_s ([2,8]++rg 51 10) (fun g:{j:Nat // j≤k0∧∀m:Nat,m < j→(s.sensors.l.getD m default).address≠x.address}=>[(51,.int .i64 ((g.1:Nat):Int))]) (fun g=>k0 - g.1) (⟨0,by omega,fun m hm=>by omega⟩) ?_;rintro ⟨j,hj,hal⟩ junk;try dsimp only
  apply (Xaj);refine q_c ?_ ?_<;>intro hc5;·
   have hjg:=Jp (l:=s.sensors.l) (k:=j) default za;apply (qbb);refine Jw (Zxc tb rfl rfl rfl rfl hs za (i:=j) rfl za) rfl ?_;apply Jeg∘qaq;intro b8;apply Xaz∘Xa0∘Xbu;refine q_c ?_ ?_<;>intro hc6;·apply (Xae);refine J9 (Jb (Uk (Kd (Kh (Ym (Kd (Kd (Kh (Ym (Kd (Kh ?_)))))))))));refine q_i L R ?_;have h:=Yi hp0 za (show Z6 s.air s.sensors.l k0=some 9 by rw [Z6,← hx,if_neg za,if_neg (fun h=>h (by rw [← hof];simpa using hc4)),if_pos ⟨j,by omega,hc6⟩]);exact ⟨by rw [Uz,h];rfl,rfl,rfl⟩
   apply (Xaw);exact Ka (⟨j + 1,by omega,fun m hm=>by
   rcases yk m j with h | h;·exact hal m h
   ·(obtain rfl : m = j := by omega);exact hc6⟩) zm zh zi zAb zx
  refine K9 (Km (Uc (J6 (Jh (Jb (Jg ?_))))));apply (Xad);exact q_k ⟨k0 + 1,Zk hp0 za (Kld hx za (by rw [← hof];simpa using hc4) (fun m hm=>hal m za))⟩
 have hn0:=Jta hp0 za;apply (Xcq);refine q_i L R ?_;exact ⟨by rw [Uz,hn0];rfl,rfl,rfl⟩
def Uwc (s:XSite) (c:XCond) (L:LB) (R:LS) (hs:InR (Jbe s.sensors) R) (hn:s.sensors.l.length≤64):
 Tri Tryz.prog 146 [s.val,c.val].toArray L R (fun v U J=>v=.int .i64 (Kv s.sensors.l s.air.mine.roads.l.length c)∧L=U∧R=J):=by
 refine Je 62 Tryz.call146 Tryz.func146 rfl rfl rfl ?_;apply (Xaf);intro b2;apply (qax);intro b3;apply Xar∘Xaa;refine J9 (Jb (Ki (Jq (Jq (Jg ?_)))));apply (Xa2);refine q_c ?_ ?_<;>intro hc0;·refine J5 (Jb ?_);exact uaa
 apply (Xbv);refine q_c ?_ ?_<;>intro hc1;·refine J5 (Jb ?_);exact uaa
 apply qay∘Xa2;exact uaa
def Jie {conds n:Nat} {z:XZone} (h1:Jfa z.rule.l conds=0) (h2:¬ (z.hold < 0∨100000 < z.hold∨z.fresh < 0∨100 < z.fresh)) (k:Nat) (hk:k < z.roads.l.length) (h:Yp n z.roads.l k):Y5 conds n z=4:=by rw [Y5,if_neg za,if_neg h2,if_pos ⟨k,hk,h⟩]
def Jld {conds n:Nat} {z:XZone} (h1:Jfa z.rule.l conds=0) (h2:¬ (z.hold < 0∨100000 < z.hold∨z.fresh < 0∨100 < z.fresh)) (h:∀k:Nat,k < z.roads.l.length→¬ Yp n z.roads.l k):Y5 conds n z=0:=by rw [Y5,if_neg za,if_neg h2,if_neg];rintro ⟨k,k1,k2⟩;exact h k k1 k2
def Vwc (s:XSite) (z:XZone) (L:LB) (R:LS) (hr:InR (Yne z.rule) R) (hz:InR (isl z.roads) R):
 Tri Tryz.prog 147 [s.val,z.val].toArray L R (fun v U J=>v=.int .i64 (Y5 s.conds.l.length s.air.mine.roads.l.length z)∧L=U∧R=J):=by
 refine Vm Tryz.call147 hz fun hzn=>?_;refine Je 66 Tryz.call147 Tryz.func147 rfl rfl rfl ?_;apply (Xaf);intro b2;apply (qax);intro b3;apply Xar∘Xaa∘Xab;refine q_l rfl (Kgd z.rule s.conds.l.length _ _ hr) ?_;apply (Xbb);refine q_c ?_ ?_<;>intro hc0;·apply (Xdx);refine q_i L R ?_;exact ⟨by rw [Y5,if_pos hc0],rfl,rfl⟩
 apply qbo∘Xbm;apply Kf (G:=[_,_,_]) (j:=3) (cj:=20) rfl rfl zb rfl zmb rfl;·exact zpd
 intro junk4;apply (qah);apply Kf (G:=[_,_,_]) (j:=8) (cj:=25) rfl rfl zb rfl zmb rfl;·exact zre
 intro junk9;apply (qah);apply Kf (G:=[_,_,_]) (j:=13) (cj:=30) rfl rfl zb rfl zmb rfl;·exact zte
 intro junk14;apply (qaf);refine q_c ?_ ?_<;>intro hc1;·apply (Xa8);refine q_i L R ?_;exact ⟨by rw [Y5,if_neg za,if_pos za],rfl,rfl⟩
 apply (Xc2);refine Jm [(2,.pointer _),(3,.pointer _),(36,.slice _ _ _),(37,.int _ _),(38,.int _ _)] zh fun tq0=>?_;refine q_s ([4,6,7]++rg 38 28) (fun g:{k:Nat // k≤z.roads.l.length∧∀j:Nat,j < k→¬ Yp s.air.mine.roads.l.length z.roads.l j}=>[(38,.int .i64 ((g.1:Nat):Int))]) (fun g=>z.roads.l.length - g.1) (⟨0,by omega,fun j hj=>by omega⟩) ?_;rintro ⟨k,hk,hal⟩ junk;try dsimp only
 apply (Xaj);refine q_c ?_ ?_<;>intro hc2;·
  have hzg:=Jp (l:=z.roads.l) (k:=k) 0 za;apply (Xa1);refine Jw zD rfl ?_;apply qa7∘qad∘Xau;iterate 3 apply (qab)
  apply qac∘qag;refine q_l rfl (J9a (z.roads.l.getD k 0) (s.air.mine.roads.l.length:Int) _ _) ?_;apply (Xcm);apply Kf (G:=[_,_,_,_,_,_,_,_,_,_,_,_]) (j:=8) (cj:=51) rfl rfl zb rfl zmb rfl;·
   intro hg9;replace hg9:=qb hg9;apply Xcn∘qah;apply Ui (G:=[_,_,_,_,_,_,_,_]) (j:=11) (cj:=54) rfl rfl zb rfl zmb rfl;·intro hg12;replace hg12:=qb hg12;have hzg2:=Jp (l:=z.roads.l) (k:=k - 1) 0 (by simp at hg12;omega);apply qaa∘Xdy;refine Jw zjb rfl ?_;exact (qa7∘qbx) qai
   intro junk12;exact qai
  intro junk9;apply (qaf);refine q_c ?_ ?_<;>intro hc3;·apply (Xcf);refine q_i L R ?_;exact ⟨by rw [Jie (n:=s.air.mine.roads.l.length) za za k za (by rw [Yp];omega)],rfl,rfl⟩
  apply (Xaw);exact Ka (⟨k + 1,by omega,fun j hj=>by
  rcases yk j k with h | h;·exact hal j h
  ·(obtain rfl : j = k := by omega);rw [Yp];omega⟩) zm zh zi zAb zx
 apply (Xcq);refine q_i L R ?_;exact ⟨by rw [Jld za za (fun j hj=>hal j za)],rfl,rfl⟩
end
section
attribute [local irreducible] CJ LJ DJ Tri YV Gives Uq J2 Kj Ut RV J3 OwL.L
end
end Go.Proofs.YtchfclmokpbldaaGreat
