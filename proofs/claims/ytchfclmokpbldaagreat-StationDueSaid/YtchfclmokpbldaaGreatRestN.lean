/-
  Merged texts. By an AI agent.
-/
import Derived.Test.YtchfclmokpbldaaGreatStrEq
import Derived.Test.YtchfclmokpbldaaGreatRestA
import Derived.Test.YtchfclmokpbldaaGreatLaw11b
set_option linter.all false
set_option maxHeartbeats 4000000
set_option maxRecDepth 20000
namespace Go.Proofs.YtchfclmokpbldaaGreat
open Go.Aw Go
section
section
variable {A B:Prop}
def Jfe(h:A→B:=by exact Jx zrb rfl):=h
def Kdg(h:B:=by exact ⟨.nil,.nil,0,by rw [he];rfl,⟨OwL.nil_ok,OwL.nil_ok⟩,fun h=>by omega,by rw [Kj,Kj];rfl,rfl⟩):=h
end
def Y7e:StrEq Tryz.prog 76 [.i,.i,.i,.b,.b]:=
 Vxb [(3,[.i]),(3,[.i]),(3,[.i]),(4,[.b]),(4,[.b])] zc zc zc zc rfl (by
  intro p hp
  simp only [yU,yR,or_false] at hp
  rcases hp with rfl | rfl | rfl | rfl | rfl
  ·exact Yma zc
  ·exact Yma zc
  ·exact Yma zc
  ·exact Ukd zc
  ·exact Ukd zc)
def Vsd:StrEq Tryz.prog 51 [.i,.i,.i,.i,.i]:=
 Vxb [(3,[.i]),(3,[.i]),(3,[.i]),(3,[.i]),(3,[.i])] zc zc zc zc rfl (by
  intro p hp
  simp only [yU,yR,or_false] at hp
  rcases hp with rfl | rfl | rfl | rfl | rfl
  ·exact Yma zc
  ·exact Yma zc
  ·exact Yma zc
  ·exact Yma zc
  ·exact Yma zc)
attribute [local irreducible] CJ LJ DJ Tri YV Gives Ur J3 Ko Uq RV J5 OwL.L
def Yha (sw:List XSwitch) (t:Int):Prop:=(0≤t∧t≤2147483648)∧∀x∈sw,x.since≤t
instance (sw:List XSwitch) (t:Int):Decidable (Yha sw t):=by unfold Yha;infer_instance
def U1c (sw:List XSwitch) (zn:List Int) (rp s t:Int):Int:=if feedE sw zn rp≠0 then feedE sw zn rp else if s < 0∨(sw.length:Int)≤s then 16 else if Yha sw t then 0 else 8
def Kjc (f:XFeeder) (t:Int) (L:LB) (R:LS) (hf:FeederR f R):
 Tri Tryz.prog 227 [f.val,.int .i64 t].toArray L R (fun v M U=>v=.bool (decide (Yha f.switches.l t))∧L=M∧R=U):=by
 have hsR:=hf.sw;refine Uza Tryz.call227 hsR fun hcap=>?_;refine Jd 25 Tryz.call227 Tryz.func227 rfl rfl rfl ?_;apply (Xaf);intro b2;apply qaz∘qaw∘Xca;apply Kf (G:=[_,_]) (j:=2) (cj:=9) rfl rfl zb rfl zmb rfl;·exact zyd
 intro junk3;apply (qaf);refine q_c ?_ ?_<;>intro hc0;·apply (Xc8);refine q_b L R ?_;exact ⟨by rw [decide_eq_false (fun h=>by have:=h.1;omega)],rfl,rfl⟩
 apply (Xc0);refine Jl [(1,.int _ _),(14,.slice _ _ _),(15,.int _ _),(16,.int _ _)] zh fun tq0=>?_;refine q_s ([4,6]++rg 16 9) (fun g:{k:Nat // k≤f.switches.l.length∧∀j:Nat,j < k→(f.switches.l.getD j default).since≤t}=>[(16,.int .i64 ((g.1:Nat):Int))]) (fun g=>f.switches.l.length - g.1) (⟨0,by omega,fun j hj=>by omega⟩) ?_;rintro ⟨k,hk,hal⟩ junk;try dsimp only
 apply (Xan);refine q_c ?_ ?_<;>intro hc1;·
  have hg:=Ju (l:=f.switches.l) (k:=k) default za;apply (qbb);refine Jx zC rfl ?_;apply (Xdy);intro b6;apply Xa2∘Xd8∘Xa5;refine q_c ?_ ?_<;>intro hc2;·apply (Xdl);refine q_b L R ?_;exact ⟨by rw [decide_eq_false (fun h=>by have:=h.2 _ (yi hg);omega)],rfl,rfl⟩
  exact uaP
 apply qbk∘Xbf;refine q_b L R ?_;refine ⟨by rw [decide_eq_true (p:=Yha f.switches.l t)];refine ⟨by omega,fun x hx=>?_⟩;obtain ⟨j,hj,rfl⟩:=yCa hx;have:=hal j za;rwa [yh,yA hj] at this,rfl,rfl⟩
def Ydb (f:XFeeder) (s t:Int) (L:LB) (R:LS) (hf:FeederR f R):
 Tri Tryz.prog 150 [f.val,.int .i64 s,.int .i64 t].toArray L R (fun v M U=>v=.int .i64 (U1c f.switches.l f.zones.l f.reply s t)∧L=M∧R=U):=by
 refine Jd 26 Tryz.call150 Tryz.func150 rfl rfl rfl ?_;apply (Xaf);intro b3;apply Xar∘Jfe;refine q_l rfl (Vt f _ _ hf) ?_;apply (Xbm);refine q_c ?_ ?_<;>intro hc0;·apply (Xd4);refine q_i L R ?_;exact ⟨by rw [U1c,if_pos hc0],rfl,rfl⟩
 apply qbo∘Xca;apply Kf (G:=[_,_,_,_,_]) (j:=2) (cj:=15) rfl rfl zb rfl zmb rfl;·exact zue
 intro junk3;apply (qaf);refine q_c ?_ ?_<;>intro hc1;·apply (Xbc);refine q_i L R ?_;exact ⟨by rw [U1c,if_neg za,if_pos za],rfl,rfl⟩
 apply qbo∘Jfe∘qaa;refine q_l rfl (Kjc f t _ _ hf) ?_;apply (Xbr);refine q_c ?_ ?_<;>intro hc2;·apply (Xbc);refine q_i L R ?_;exact ⟨by rw [U1c,if_neg za,if_neg za,if_neg zO],rfl,rfl⟩
 apply (Xcz);refine q_i L R ?_;exact ⟨by rw [U1c,if_neg za,if_neg za,if_pos zO],rfl,rfl⟩
def J1b (f:XFeeder) (L:LB) (R:LS) (hf:FeederR f R) (hn:f.switches.l.length≤1000∧f.zones.l.length≤1000):
 Tri Tryz.prog 151 [f.val].toArray L R (fun v M U=>∃(p:OwL XSwitch) (q:OwL Int),v=.agg #[p.val,q.val,.int .i64 f.reply]∧(p.ok 5 XSwitch.cells∧q.ok 1 Jk)∧p.l=f.switches.l∧q.l=f.zones.l∧q.L 3 Jk ++ (p.L 76 XSwitch.cells ++ L)=M∧R=U):=by have hsR:=hf.sw;have hzR:=hf.zn;refine Jd 12 Tryz.call151 Tryz.func151 rfl rfl rfl ?_;apply (Xaf);intro b1;apply (qaq);intro b2;apply (Xd7);refine Yu zxc rfl ?_;rintro v M U ⟨o5,rfl,hok5,rfl,rfl⟩;apply Xbd∘Xd7;refine Yu zKc rfl ?_;rintro v M U ⟨o9,rfl,hok9,rfl,rfl⟩;apply Xbd∘qam∘Jfe∘Xbe;refine q_r ((⟨o9,f.zones.l⟩:OwL Int).L 3 Jk ++ ((⟨o5,f.switches.l⟩:OwL XSwitch).L 76 XSwitch.cells ++ L)) R (U8 rfl zsb) ?_;exact ⟨⟨o5,f.switches.l⟩,⟨o9,f.zones.l⟩,rfl,⟨hok5,hok9⟩,rfl,rfl,rfl,rfl⟩
def Yoa (sw:List XSwitch) (zn:List Int) (rp s t:Int):Int:=
 if U1c sw zn rp s t≠0 then U1c sw zn rp s t
 else if (sw.getD s.toNat default).shown≠-1∨(0≤(sw.getD s.toNat default).above∧(sw.getD (sw.getD s.toNat default).above.toNat default).shown≠1) then 10 else 0
def Vyc (sw:List XSwitch) (s t:Int):List XSwitch:=sw.set s.toNat ⟨(sw.getD s.toNat default).above,t,0,true,false⟩
def Vhc (f:XFeeder) (s t:Int) (L:LB) (R:LS) (hf:FeederR f R):
 Tri Tryz.prog 166 [f.val,.int .i64 s,.int .i64 t].toArray L R (fun v M U=>∃(p:OwL XSwitch) (q:OwL Int) (r:Int),v=.tuple #[.agg #[p.val,q.val,.int .i64 r],.int .i64 (Yoa f.switches.l f.zones.l f.reply s t)]∧(p.ok 5 XSwitch.cells∧q.ok 1 Jk)∧
  (Yoa f.switches.l f.zones.l f.reply s t=0→p.l=Vyc f.switches.l s t∧q.l=f.zones.l∧r=f.reply)∧q.L 3 Jk ++ (p.L 76 XSwitch.cells ++ L)=M∧R=U):=by
 have hsR:=hf.sw;refine Jd 54 Tryz.call166 Tryz.func166 rfl rfl rfl ?_;apply (Xaf);intro b3;apply (qaq);intro b6;apply Xar∘Jfe∘Xb6;refine q_l rfl (Ydb f s t _ _ hf) ?_;apply (Xbm);refine q_c ?_ ?_<;>intro hc0;·
  apply (qae);refine Jx zYb rfl ?_;apply (Xcg);refine q_r L R zhd ?_;have he:Yoa f.switches.l f.zones.l f.reply s t=U1c f.switches.l f.zones.l f.reply s t:=by rw [Yoa,if_pos hc0]
  exact Kdg
 have hcan:U1c f.switches.l f.zones.l f.reply s t=0:=by omega
 have hfe:feedE f.switches.l f.zones.l f.reply=0:=by rw [U1c] at hcan;split at hcan <;> omega
 have hok:=Vi hfe;have hsn:=hok.sn;have hzl:=hok.zl;have hsr:0≤s∧s < f.switches.l.length:=by rw [U1c,if_neg za] at hcan;split at hcan <;> omega
 have hg:=Ju (l:=f.switches.l) (k:=s.toNat) default za;have hup:=hok.up s.toNat za;obtain ⟨x,hx⟩:∃x,x=f.switches.l.getD s.toNat default:=⟨_,rfl⟩;rw [← hx] at hg hup;apply qbv∘Xai;refine Jx zOa rfl ?_;apply (Xdy);intro b9;apply Xbg∘Xaa∘Xb5;apply Kf (G:=[_,_,_,_,_,_,_,_,_,_,_,_,_]) (j:=3) (cj:=27) rfl rfl zb rfl zmb rfl;·
  intro hg4;replace hg4:=qb hg4;apply Xaa∘qbz∘qah;apply Us (G:=[_,_,_,_,_,_,_,_]) (j:=7) (cj:=31) rfl rfl zb rfl zmb rfl;·intro hg8;replace hg8:=qb hg8;have hga:=Ju (l:=f.switches.l) (k:=x.above.toNat) default za;apply (Xa6);refine Jx (by first | exact Jf tb rfl rfl rfl rfl zy (i:=x.above.toNat) zk za | exact Jq tb rfl rfl rfl rfl (i:=x.above.toNat) zk za) rfl ?_;exact (Xb1) zAd
  intro junk8;exact qai
 intro junk4;apply (qaf);refine q_c ?_ ?_<;>intro hc1;·
  apply (qae);refine Jx zYb rfl ?_;apply (Xa3);refine q_r L R zhd ?_;have he:Yoa f.switches.l f.zones.l f.reply s t=10:=by rw [Yoa,if_neg za,← hx,if_pos za]
  exact Kdg
 have he:Yoa f.switches.l f.zones.l f.reply s t=0:=by rw [Yoa,if_neg za,← hx,if_neg za]
 apply qbv∘Jfe;refine Jm rfl (J1b f _ _ hf za) rfl ?_;rintro v M U ⟨p,q,rfl,⟨hpk,hqk⟩,hpl,hql,rfl,rfl⟩;apply (qaq);intro b10;apply (Xcx);have hpg:p.l[s.toNat]?=some x:=by rw [hpl];exact hg
 have hpn:p.l.length=f.switches.l.length:=by rw [hpl]
 apply qay∘Xai∘Xai;refine Jx (J4 (qs:=[(0,(Value.int _ _).cells.toList),(1,(Value.int _ _).cells.toList),(3,(Value.bool _).cells.toList)]) (out:=[_,_,_,_,_]) tb rfl rfl rfl rfl) rfl ?_;refine Jx zpc rfl ?_;refine V8 (Uo tb (p) (⟨x.above,t,0,true,false⟩) rfl rfl rfl rfl zj zi yf zi (yV rfl) zb zb) ?_;rintro v M U ⟨rfl,rfl⟩;apply (qa4);have hpk2:=OwL.set_ok (f:=XSwitch.cells) (wd:=5) (p:=p) (i:=s.toNat) (x:=⟨x.above,t,0,true,false⟩) yf hpk;apply qay∘Jfe∘Xbw;refine q_r (q.L 3 Jk ++ ((⟨p.o,p.l.set s.toNat ⟨x.above,t,0,true,false⟩⟩:OwL XSwitch).L 76 XSwitch.cells ++ L)) R zhd ?_;exact ⟨⟨p.o,p.l.set s.toNat ⟨x.above,t,0,true,false⟩⟩,q,f.reply,by simp only [he,OwL.val,yE],⟨hpk2,hqk⟩,fun _=>⟨by rw [Vyc,← hx,hpl],hql,rfl⟩,rfl,rfl⟩
end
section
attribute [local irreducible] CJ LJ DJ Tri YV Gives Ur J3 Ko Uq RV J5 OwL.L
section
variable {A B:Prop}
def Kxg(h:A→B:=by exact K1 zdb rfl rfl rfl):=h
end
def Ys (sw:List XSwitch) (zn:List Int) (rp s t:Int):Int:=
 if feedE sw zn rp≠0 then feedE sw zn rp else if s < 0∨(sw.length:Int)≤s then 16 else if t≠1∧t≠-1 then 10 else 0
def Jga (sw:List XSwitch) (s t:Int):List XSwitch:=
 sw.set s.toNat ⟨(sw.getD s.toNat default).above,(sw.getD s.toNat default).since,t,(sw.getD s.toNat default).closed,if t= -1 then false else (sw.getD s.toNat default).late⟩
def Jxd {sw:List XSwitch} (h:Uve sw):∀(n:Nat) (s:Int),s < sw.length→(s + 1).toNat≤n→∀x∈Kxa sw s,0≤x∧x≤s:=by
 intro n;induction n with
 | zero=>intro s _ hn;rw [Y7 za];intro x hx;cases hx
 | succ n ih=>
  intro s hs hn x hx;by_cases h0:s < 0;·rw [Y7 h0] at hx;cases hx
  ·
   have ha := h s.toNat za;rw [Z4 h za hs,yU] at hx;rcases hx with rfl | hx;·omega
   ·have := ih _ za za x hx;omega
def Zrb {sw:List XSwitch} {zn:List Int} {rp s:Int} {x:Int} (hx:x∈Uka sw zn rp s):0≤x∧x≤s∧s < sw.length:=by
 rw [Uka] at hx;split at hx;·cases hx
 ·have hok := Vi (sw := sw) (zn := zn) (rp := rp) za;have:=Jxd hok.up _ s za (ym _) x hx;omega
def Znc {sw:List XSwitch} {zn:List Int} {rp s:Int}:(Uka sw zn rp s).length≤32:=by
 rw [Uka];split;·simp
 ·have hok := Vi (sw := sw) (zn := zn) (rp := rp) za;have h1:=hok.sn;have:=Y0c hok.up _ s za (ym _);omega
def Jzc (f g:XFeeder) (L:LB) (R:LS) (hf:FeederR f R) (hg:FeederR g R) (h1:f.switches.l=g.switches.l) (h2:f.zones.l=g.zones.l) (h3:f.reply=g.reply):
 Tri Tryz.prog 68 [f.val,g.val].toArray L R (fun v M U=>v=.bool true∧L=M∧R=U):=by
 have hsR:=hf.sw;have hzR:=hf.zn;have hsR2:=hg.sw;have hzR2:=hg.zn;have hl1:f.switches.l.length=g.switches.l.length:=by rw [h1]
 have hl2:f.zones.l.length=g.zones.l.length:=by rw [h2]
 refine Uza Tryz.call68 hsR fun hcap=>?_;refine Uza Tryz.call68 hzR fun hcap2=>?_;refine Jd 66 Tryz.call68 Tryz.func68 rfl rfl rfl ?_;apply (Xaf);intro b2;apply (qax);intro b3;apply qaz∘qaw∘Xa6∘Xb5;apply Kf (G:=[_,_,_,_,_,_,_]) (j:=5) (cj:=12) rfl rfl zb rfl zmb rfl;·intro hg6;replace hg6:=qb hg6;exact (Xab∘Xab) zAd
 intro junk6;apply (qah);apply Kf (G:=[_,_,_,_,_,_,_]) (j:=14) (cj:=21) rfl rfl zb rfl zmb rfl;·intro hg15;replace hg15:=qb hg15;exact (Xab∘Xab) zAd
 intro junk15;apply (qaf);refine q_c ?_ ?_<;>intro hc0;·apply (Xc8);refine q_b L R ?_;exact absurd h3 za
 apply qbo∘Xa4;refine Jl [(2,.pointer _),(3,.pointer _),(5,.int _ _)] zh fun tq0=>?_;refine q_s ([4,5]++rg 30 18) (fun g:{k:Nat // k≤f.switches.l.length}=>[(5,.int .i64 ((g.1:Nat):Int))]) (fun g=>f.switches.l.length - g.1) (⟨0,by omega⟩) ?_;rintro ⟨k,hk⟩ junk;try dsimp only
 apply (Xd9);refine q_c ?_ ?_<;>intro hc1;·
  have hxg:=Ju (l:=f.switches.l) (k:=k) default za;have hyg:g.switches.l[k]?=some (f.switches.l.getD k default):=by rw [← h1];exact hxg
  refine J1 (Jb (Jp (Ka (Jp ?_))));refine Kh tb [0,1,2,3,4,5,6,7,8,9,10] _ Kq zc ye ?_;apply Xbn∘qds∘Kxg∘Xbn∘qds∘Kxg;refine K1 (K7b Y7e rfl rfl zP zP rfl) rfl rfl rfl ?_;exact ua3
 apply qcf∘Xa4;refine Jl [(2,.pointer _),(3,.pointer _),(6,.int _ _)] zh fun tq1=>?_;refine q_s ([4,6]++rg 48 18) (fun g:{k:Nat // k≤f.zones.l.length}=>[(6,.int .i64 ((g.1:Nat):Int))]) (fun g=>f.zones.l.length - g.1) (⟨0,by omega⟩) ?_;rintro ⟨k,hk⟩ junk;try dsimp only
 apply (Xd9);refine q_c ?_ ?_<;>intro hc3;·
  have hxg:=Ju (l:=f.zones.l) (k:=k) 0 za;have hyg:g.zones.l[k]?=some (f.zones.l.getD k 0):=by rw [← h2];exact hxg
  refine J1 (Jb (Jp (Ka (Jp ?_))));refine Kh tb [0,1,2,3,4,5,6,7,8,9,10] _ Kq zc ye ?_;apply Xbn∘qds∘qbl∘Xbn∘qds∘qbl;refine K1 (Vcb rfl rfl) rfl rfl rfl ?_;apply (qbu);refine q_c ?_ ?_<;>intro hc4;·apply (Xdl);refine q_b L R ?_;exact absurd hc4 zo
  exact zce
 exact (qbk) zpe
end
section
attribute [local irreducible] CJ LJ DJ Tri YV Gives Ur J3 Ko Uq RV J5 OwL.L
section
variable {A B:Prop}
def J3g(h:A→B:=by exact Jx zC rfl):=h
def Z2f(h:A→B:=by exact Jx zRa rfl):=h
end
def Vgc (x:Arr Int) (g:Int→Bool) (fid:FuncId) (cap:Array Value) (L:LB) (R:LS) (hx:InR (isl x) R) (hc:∀y∈x.l,Tri Tryz.prog fid (.int .i64 y :: cap.toList).toArray L R (fun v M U=>v=.bool (g y)∧L=M∧R=U)):
 Tri Tryz.prog 234 [x.val,.func (.func fid) #[] cap].toArray L R (fun v M U=>∃r:Int,v=.int .i64 r∧(0≤r↔∃y∈x.l,g y=true)∧L=M∧R=U):=by
 refine Uza Tryz.call234 hx fun hcap=>?_;refine Jd 19 Tryz.call234 Tryz.func234 rfl rfl rfl ?_;apply Xac∘qaw∘Xb7;refine Jl [(0,.slice _ _ _),(1,_),(7,.int _ _),(8,.int _ _)] zh fun tq0=>?_;refine q_s ([4,5]++rg 8 11) (fun g:{k:Nat // k≤x.l.length∧∀j:Nat,j < k→g (x.l.getD j 0)=false}=>[(8,.int .i64 ((g.1:Nat):Int))]) (fun g=>x.l.length - g.1) (⟨0,by omega,fun j hj=>by omega⟩) ?_;rintro ⟨k,hk,hal⟩ junk;try dsimp only
 apply (Xan);refine q_c ?_ ?_<;>intro hc0;·
  have hg:=Ju (l:=x.l) (k:=k) 0 za;apply Xa9∘Xag;refine Jx zXb rfl ?_;apply Xas∘J3g∘qa7;refine Vqc (J5a rfl rfl (hc (x.l.getD k 0) (yi hg))) rfl rfl ?_;rintro v M U ⟨rfl,rfl,rfl⟩;apply (qaf);refine q_c ?_ ?_<;>intro hc1;·apply Xd2∘qbt;refine q_i L R ?_;exact ⟨k,rfl,⟨fun _=>⟨_,yi hg,hc1⟩,fun _=>by omega⟩,rfl,rfl⟩
  apply (Xa0);exact Ki (⟨k + 1,by omega,fun j hj=>by
  rcases yl j k with h | h;·exact hal j h
  ·(obtain rfl : j = k := by omega);simpa using hc1⟩) zm zh zg zCb zu
 apply (Xcr);refine q_i L R ?_;refine ⟨-1,rfl,⟨fun h=>by omega,fun ⟨y,hy,hgy⟩=>?_⟩,rfl,rfl⟩;obtain ⟨j,hj,rfl⟩:=yCa hy;have:=hal j za;rw [yh,yA hj] at this;rw [show (some x.l[j]).getD 0=x.l[j] from rfl,hgy] at this;cases this
def Vlb (x:Arr Int) (g:Int→Bool) (fid:FuncId) (cap:Array Value) (L:LB) (R:LS) (hx:InR (isl x) R) (hc:∀y∈x.l,Tri Tryz.prog fid (.int .i64 y :: cap.toList).toArray L R (fun v M U=>v=.bool (g y)∧L=M∧R=U)):
 Tri Tryz.prog 167 [x.val,.func (.func fid) #[] cap].toArray L R (fun v M U=>v=.bool (decide (∃y∈x.l,g y=true))∧L=M∧R=U):=by refine Jd 9 Tryz.call167 Tryz.func167 rfl rfl rfl ?_;apply Xba∘Xd1;refine Jx zXb rfl ?_;refine Jm rfl (Vgc x g fid cap _ _ hx hc) rfl ?_;exact zTd
def Yyd (sw:List XSwitch) (a y:Int):Bool:=decide (y≠a∧(sw.getD y.toNat default).shown= -1)
def Jme (f:XFeeder) (a y:Int) (b9 b4:Nat) (L:LB) (R:LS) (hf:FeederR f R) (hy:0≤y∧y < f.switches.l.length):
 Tri Tryz.prog 168 [.int .i64 y,.pointer (some ⟨b9,0,none⟩),.pointer (some ⟨b4,0,none⟩)].toArray (⟨b9,[.int .i64 a],3⟩ :: ⟨b4,f.cells,42⟩ :: L) R (fun v M U=>v=.bool (Yyd f.switches.l a y)∧(⟨b9,[.int .i64 a],3⟩ :: ⟨b4,f.cells,42⟩ :: L)=M∧R=U):=by
 have hsR:=hf.sw;have hg:=Ju (l:=f.switches.l) (k:=y.toNat) default za;refine Jd 17 Tryz.call168 Tryz.func168 rfl rfl rfl ?_;apply Xba∘Xc3∘qac∘Xb5;apply Us (G:=[_,_,_,_,_,_,_]) (j:=3) (cj:=8) rfl rfl zb rfl zmb rfl;·intro hg4;replace hg4:=qb hg4;apply (Xai);refine Jx (by first | exact Jf tb rfl rfl rfl rfl zy (i:=y.toNat) zk za | exact Jq tb rfl rfl rfl rfl (i:=y.toNat) zk za) rfl ?_;exact (Xb1) zRd
 intro junk4;apply (Xbf);refine q_b (⟨b9,[.int .i64 a],3⟩ :: ⟨b4,f.cells,42⟩ :: L) R ?_;exact ⟨by refine congrArg Value.bool ?_;rw [yxb,Yyd,decide_eq_true_iff];simp,rfl,rfl⟩
def Jvf (sw:List XSwitch) (l:List Int):Int:=l.foldl (fun a x=>if (sw.getD x.toNat default).shown≠1 then x else a) (l.getD 0 0)
def Vpe (sw:List XSwitch) (l:List Int) (k:Nat):Int:=(l.take k).foldl (fun a x=>if (sw.getD x.toNat default).shown≠1 then x else a) (l.getD 0 0)
def Kfc {sw:List XSwitch} {l:List Int} {k:Nat} (h:k < l.length):Vpe sw l (k + 1)=if (sw.getD (l.getD k 0).toNat default).shown≠1 then l.getD k 0 else Vpe sw l k:=by have hg:=Ju (l:=l) (k:=k) 0 h;rw [Vpe,yha,hg,Option.toList_some,yDa];rfl
def Kvb (c:List XCut) (sw:List XSwitch) (zn:List Int) (rp zone a:Int) (k:Nat):Prop:=
 ((k:Int)≠zone∧(c.getD k default).off=true)∧a∈Uka sw zn rp (zn.getD k 0)∧¬∃y∈Uka sw zn rp (zn.getD k 0),Yyd sw a y=true
instance (c:List XCut) (sw:List XSwitch) (zn:List Int) (rp zone a:Int) (k:Nat):Decidable (Kvb c sw zn rp zone a k):=by unfold Kvb;infer_instance
def Khc (c:List XCut) (sw:List XSwitch) (zn:List Int) (rp zone a:Int):Prop:=∃k:Nat,k < zn.length∧Kvb c sw zn rp zone a k
instance (c:List XCut) (sw:List XSwitch) (zn:List Int) (rp zone a:Int):Decidable (Khc c sw zn rp zone a):=by unfold Khc;infer_instance
def Yed (c:Arr XCut) (f:XFeeder) (zone:Int) (L:LB) (R:LS) (hcR:InR (Joc c) R) (hf:FeederR f R) (hfe:feedE f.switches.l f.zones.l f.reply=0) (hz:0≤zone∧zone < f.zones.l.length) (hcl:c.l.length=f.zones.l.length):
 Tri Tryz.prog 88 [c.val,f.val,.int .i64 zone].toArray L R (fun v M U=>v=.tuple #[.int .i64 (Jvf f.switches.l (Uka f.switches.l f.zones.l f.reply (f.zones.l.getD zone.toNat 0))),.bool (decide (Khc c.l f.switches.l f.zones.l f.reply zone (Jvf f.switches.l (Uka f.switches.l f.zones.l f.reply (f.zones.l.getD zone.toNat 0)))))]∧L=M∧∀r∈R,InR r U):=by
 have hsR:=hf.sw;have hzR:=hf.zn;have hok:=Vi hfe;have hsn:=hok.sn;have hzl:=hok.zl;have hzg:=Ju (l:=f.zones.l) (k:=zone.toNat) 0 za;have hzr:=hok.zr zone.toNat za;refine Jd 76 Tryz.call88 Tryz.func88 rfl rfl rfl ?_;apply (Xaf);intro b4;apply Xbx∘qa4;refine Kh tb [0,1,2,3,4,5,6,7] _ Kq zc ye ?_;refine K1 zrb rfl rfl rfl ?_;apply (Xbn);refine K1 (by first | exact Jf tb rfl rfl rfl rfl zy (i:=zone.toNat) zk za | exact Jq tb rfl rfl rfl rfl (i:=zone.toNat) zk za) rfl rfl rfl ?_;apply (qbl);refine Ym rfl (U3c f (f.zones.l.getD zone.toNat 0) _ _ hf) rfl rfl ?_;rintro v M U ⟨q,rfl,hqk,hql,rfl,rfl⟩;refine ⟨zg,zq,?_⟩;refine K1 (Uh zob) rfl rfl rfl ?_;apply (qb9);have hqn:=Znc (sw:=f.switches.l) (zn:=f.zones.l) (rp:=f.reply) (s:=f.zones.l.getD zone.toNat 0);rw [← hql] at hqn;have hq0:0 < q.l.length:=by rw [hql,Uka,if_neg za,Z4 hok.up za za,yw];omega
 have hqm:∀x∈q.l,0≤x∧x < f.switches.l.length:=fun x hx=>by have:=Zrb (sw:=f.switches.l) (zn:=f.zones.l) (rp:=f.reply) (s:=f.zones.l.getD zone.toNat 0) (x:=x) (by rw [← hql];exact hx);omega
 have hqg0:=Ju (l:=q.l) (k:=0) 0 hq0;refine V2 (A:=[]) (wd:=1) [] yf ze hqk yg ?_;refine Uu zCa ?_;obtain ⟨R2,hR2e⟩:∃R2,R2=isl q.arr :: R:=⟨_,rfl⟩;have hR2:∀r∈R,InR r R2:=fun r hr=>Ja (by rw [hR2e];exact .tail _ hr);have hqR:InR (isl q.arr) R2:=Ja zga;have hcR2:=hcR.mono hR2;have hf2:=hf.mono hR2;have hsR2:=hf2.sw;have hzR2:=hf2.zn;refine Ujb zSc ?_;apply Xcm∘qdt∘qa7∘qaq;intro b9;apply qcn∘qaw∘Xb7;refine Jl [(0,.slice _ _ _),(2,.int _ _),(4,.pointer _),(9,.pointer _),(26,.slice _ _ _),(27,.int _ _),(28,.int _ _)] zh fun tq0=>?_;refine q_p ([11]++rg 28 13) ((⟨fun g=>[(28,.int .i64 ((g.1.1:Nat):Int))],fun g=>⟨b9,[.int .i64 g.1.2],3⟩ :: ⟨b4,f.cells,42⟩ :: L,fun _=>R2,fun g=>q.l.length - g.1.1⟩:Head {g:Nat×Int // g.1≤q.l.length∧g.2=Vpe f.switches.l q.l g.1})) (⟨(0,q.l.getD 0 0),by dsimp only;omega,rfl⟩) ?_;rintro ⟨⟨k,a⟩,hk,ha⟩ junk;try dsimp only
 dsimp only at hk ha;apply (Xan);refine q_c ?_ ?_<;>intro hc0;·
  have hqg:=Ju (l:=q.l) (k:=k) 0 za;have hqr:=hqm _ (yi hqg);have hsg:=Ju (l:=f.switches.l) (k:=(q.l.getD k 0).toNat) default za;apply qbb∘J3g∘qa7∘Xag∘Xai;refine Jx zcb rfl ?_;apply Xb1∘Xat;refine q_c ?_ ?_<;>intro hc1;·apply Xa7∘qcn∘Xbl;exact q_k ⟨(k + 1,q.l.getD k 0),by dsimp only;omega,by dsimp only;rw [Kfc za,if_pos hc1]⟩
  apply (Xa0);exact q_k ⟨(k + 1,a),by dsimp only;omega,by dsimp only;rw [Kfc za,if_neg hc1];exact ha⟩
 obtain rfl:k=q.l.length:=by omega
 have hat:(Jvf f.switches.l (Uka f.switches.l f.zones.l f.reply (f.zones.l.getD zone.toNat 0)))=a:=by rw [ha,Vpe,yJb,← hql];rfl
 apply qcf∘Xaz;refine Jl [(0,.slice _ _ _),(2,.int _ _),(4,.pointer _),(9,.pointer _),(42,.slice _ _ _),(43,.int _ _),(44,.int _ _)] zh fun tq1=>?_;refine q_p ([6,7,12,13,14,15]++rg 44 31) ((⟨fun g=>[(44,.int .i64 ((g.1:Nat):Int))],fun g=>⟨b9,[.int .i64 a],3⟩ :: ⟨b4,f.cells,42⟩ :: L,fun _=>R2,fun g=>f.zones.l.length - g.1⟩:Head {i:Nat // i≤f.zones.l.length∧∀j:Nat,j < i→¬ Kvb c.l f.switches.l f.zones.l f.reply zone a j})) (⟨0,by omega,fun j hj=>by omega⟩) ?_;rintro ⟨i,hi,hal⟩ junk;try dsimp only
 apply (Xan);refine q_c ?_ ?_<;>intro hc2;·
  have hig:=Ju (l:=f.zones.l) (k:=i) 0 za;have hcg:=Ju (l:=c.l) (k:=i) default za;apply Xa9∘Z2f∘qa7∘qad∘Xar∘Xb6∘Xcc;apply Kf (G:=[_,_,_,_,_,_]) (j:=3) (cj:=52) rfl rfl zb rfl zmb rfl;·intro hg4;replace hg4:=qb hg4;exact (Xas∘Z2f∘Xb1∘qb4) qai
  intro junk4;apply (qaf);refine q_c ?_ ?_<;>intro hc3;·
   refine K4 (Kp (J8 (Jb (Jg ?_))));apply (Xae);exact Ki ⟨i + 1,by omega,fun j hj=>by
   rcases yl j i with h | h;·exact hal j h
   ·
    (obtain rfl : j = i := by omega);rintro ⟨⟨h1,h2⟩,_⟩;rcases hc3 with h3 | h3;·exact h1 h3
    ·rw [h2] at h3;cases h3⟩ zm zh zg zCb zu
  apply (qbv);refine Jx zrb rfl ?_;apply (qaa);refine Jm rfl (U3c f (f.zones.l.getD i 0) _ _ hf2) rfl ?_;rintro v M U ⟨q2,rfl,hq2k,hq2l,rfl,rfl⟩;apply (Xde);have hq2m:∀x∈q2.l,0≤x∧x < f.switches.l.length:=fun x hx=>by have:=Zrb (sw:=f.switches.l) (zn:=f.zones.l) (rp:=f.reply) (s:=f.zones.l.getD i 0) (x:=x) (by rw [← hq2l];exact hx);omega
  refine V2 (A:=[]) (wd:=1) [] yf ze hq2k yg ?_;refine Uu zCa ?_;obtain ⟨R3,hR3e⟩:∃R3,R3=isl q2.arr :: R2:=⟨_,rfl⟩;have hR3:∀r∈R2,InR r R3:=fun r hr=>Ja (by rw [hR3e];exact .tail _ hr);have hq2R:InR (isl q2.arr) R3:=Ja zva;have hf3:=hf2.mono hR3;refine Ujb (show _=R3 by rw [hR3e]) ?_;apply (Xcm);refine Jx (U2c rfl) rfl ?_;refine q_l rfl (Vlb q2.arr (Yyd f.switches.l a) 168 #[.pointer (some ⟨b9,0,none⟩),.pointer (some ⟨b4,0,none⟩)] _ _ hq2R (fun y hy=>Jme f a y b9 b4 L _ hf3 (hq2m y hy))) ?_;apply qaz∘Xd1∘qac;refine q_l rfl (Y2c q2.arr a _ _ hq2R) ?_;apply (qah);apply Us (G:=[_,_]) (j:=3) (cj:=69) rfl rfl zb rfl zmb rfl;·intro hg4;replace hg4:=qb hg4;exact (qah∘qb4) qai
  intro junk4;apply (qaf);refine q_c ?_ ?_<;>intro hc4;·have hpa:Kvb c.l f.switches.l f.zones.l f.reply zone a i:=⟨hc3,by rw [← hq2l];exact hc4⟩;apply qae∘qac∘Xbx∘qbt;refine q_r L R3 znd ?_;exact ⟨by rw [hat,decide_eq_true (p:=Khc c.l f.switches.l f.zones.l f.reply zone a) ⟨i,by omega,hpa⟩],rfl,fun r hr=>(hR2 r hr).mono hR3⟩
  apply (Xa0);exact Ki ⟨i + 1,by omega,fun j hj=>by
  rcases yl j i with h | h;·exact hal j h
  ·
   (obtain rfl : j = i := by omega);rintro ⟨_,h2⟩;rw [← hq2l] at h2;rcases hc4 with h4 | h4;·exact h4 h2.1
   ·exact h2.2 h4⟩ zm zh zg hR3 zu
 apply qbk∘qac∘qad∘Xbf;refine q_r L R2 znd ?_;exact ⟨by rw [hat,decide_eq_false (p:=Khc c.l f.switches.l f.zones.l f.reply zone a)];rintro ⟨j,hj,hpa⟩;exact hal j za hpa,rfl,hR2⟩
end
end Go.Proofs.YtchfclmokpbldaaGreat
