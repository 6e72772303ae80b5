/-
  The draws: a power network, and that it is right. By an AI agent; no person has read it.
-/
import Derived.Test.YtchfclmokpbldaaGreatFeedW
import Derived.Test.YtchfclmokpbldaaGreatStaD
set_option linter.all false
set_option maxHeartbeats 4000000
namespace Go.Proofs.YtchfclmokpbldaaGreat
open Go.Aw Go
section
variable {A B:Prop}
def Jqg(h:A→B:=by exact J0 (Jo tb ((⟨.own b42 p.l.length [],fr⟩:OwL Bool)) _ rfl rfl ((show _=Value.slice _ _ _ from rfl).trans (Uq hfl)) rfl zi (i:=m.toNat) zo zw) rfl):=h
end
structure SwD (l:List XSwitch):Prop where
 at_:∀(i:Nat) (x:XSwitch),l[i]?=some x→(-1≤x.above∧x.above < i)∧x.since=0∧(-1≤x.shown∧x.shown≤1)∧x.late=false
def SwD.nil:SwD []:=⟨fun i x h=>by simp at h⟩
def SwD.next {l:List XSwitch} (h:SwD l) {x:XSwitch} (h1:-1≤x.above∧x.above < l.length) (h2:x.since=0) (h3:-1≤x.shown∧x.shown≤1) (h4:x.late=false):SwD (l ++ [x]):=⟨fun i y hy=>by
 rw [yia] at hy
 split at hy
 ·exact h.at_ i y hy
 ·rename_i hi
  have:i - l.length=0:=by
   have:=(List.getElem?_eq_some_iff.1 hy).1
   simp only [ym] at this
   omega
  rw [this] at hy
  obtain rfl:x=y:=by simpa using hy
  exact ⟨by omega,h2,h3,h4⟩⟩
def SwD.since {l:List XSwitch} (h:SwD l):∀x∈l,x.since=0:=fun x hx=>by
 obtain ⟨i,hi⟩:=List.mem_iff_getElem?.1 hx
 exact (h.at_ i x hi).2.1
structure ZnD (q:List Int) (fr:List Bool):Prop where
 rng:∀x∈q,0≤x∧fr[x.toNat]?=some true
 nd:∀i j:Nat,j < i→i < q.length→q.getD j 0≠q.getD i 0
def ZnD.nil {fr:List Bool}:ZnD [] fr:=⟨fun x h=>zL,fun i j _ h=>absurd h (Nat.not_lt_zero _)⟩
def ZnD.next {q:List Int} {fr:List Bool} (h:ZnD q fr) {m:Int} (hm:0≤m) (hf:fr[m.toNat]?=some false):ZnD (q ++ [m]) (fr.set m.toNat true):=by
 have hl:=(List.getElem?_eq_some_iff.1 hf).1;have hne:∀x∈q,x≠m:=fun x hx e=>by subst e;rw [(h.rng x hx).2] at hf;cases hf
 refine ⟨fun x hx=>?_,fun i j hj hi=>?_⟩;·
  rcases List.mem_append.1 hx with hx | hx;·have := h.rng x hx;have:=hne x hx;refine ⟨by omega,?_⟩;rw [yE,if_neg zc];exact (h.rng x hx).2
  ·rw [List.mem_singleton.1 hx];refine ⟨hm,?_⟩;rw [yE,if_pos rfl,if_pos hl]
 ·
  rw [yj, ym] at hi;rw [yh,yh,yy zc];rcases yk i q.length with h1 | h1;·rw [yy h1, ← yh, ← yh];exact h.nd i j hj h1
  ·(obtain rfl : i = q.length := by omega);rw [yF (yn _),yxb];rw [← yh];exact hne _ (yi (Js (l:=q) (k:=j) 0 zc))
def K7g {l:List XSwitch} {q:List Int} {fr:List Bool} {rp:Int} (h:SwD l) (k:ZnD q fr) (hf:fr.length=l.length) (hl:l.length≤18) (hq:q.length≤16) (hr:1≤rp∧rp≤9):feedE l q rp=0:=by
 rw [Vea zc,if_neg zc];·
  rw [yG];intro i hi;rw [yKa] at hi;have:=h.at_ i _ (Js default hi);exact Vlc rfl zc zc (fun h9=>by
   rcases h9 with h9 | h9;·omega
   ·rw [this.2.2.2] at h9;exact absurd h9.1 zj)
 ·rw [yG];intro i hi;rw [yKa] at hi;have h1:=k.rng _ (yi (Js 0 hi));have h2:=(List.getElem?_eq_some_iff.1 h1.2).1;exact Uic zc (fun ⟨j,hj,e⟩=>k.nd i j hj hi e)
set_option maxRecDepth 20000
attribute [local irreducible] CJ LJ DJ Tri YV Gives U7 Kb Kp U8 RV Ke OwL.L
def Znb (c:Nat) (x:Arr Int) (k:Nat) (n:Nat) (R:LS) (hx:CodesR x R) (hk:k≤x.l.length) (hn:n≤16):
 Tri Tryz.prog 31 [.pointer (some ⟨c, 0, none⟩), .int .i64 n].toArray [cblk c x k] R
  (fun v M U=>∃(p:OwL XSwitch) (q:OwL Int) (rp:Int) (k':Nat),v=.agg #[p.val,q.val,.int .i64 rp]∧(p.ok 5 XSwitch.cells∧q.ok 1 Jj)∧(p.l.length≤18∧1≤p.l.length)∧q.l.length=n∧feedE p.l q.l rp=0∧(∀x∈p.l,x.since=0)∧k'≤x.l.length∧q.L 3 Jj ++ (p.L 76 XSwitch.cells ++ (cblk c x k' :: []))=M∧R=U):=by
 refine Jd 72 Tryz.call31 Tryz.func31 rfl rfl rfl ?_;apply (Xct);intro b4;apply (Xd9);refine Ju rfl (Jra zx hx hk zc) rfl ?_;rintro v M U ⟨rp,k1,rfl,g1,g1',hk1,rfl,rfl⟩;refine J0 (Kf (qs:=[(2,(Value.int _ _).cells.toList)]) (out:=[_,_,_]) tb rfl rfl rfl rfl) rfl ?_;apply (qaq);intro b5;apply Xbe∘qaa∘qa6;refine Ju rfl (Zx zx hx hk1 zc) rfl ?_;rintro v M U ⟨n0,k2,rfl,g2,g2',g2'',hk2,rfl,rfl⟩;have g2q:=g2' zc;apply Xad∘qaw∘Xat;refine Jh [(0,.pointer _),(1,.int _ _),(4,.pointer _),(5,.pointer _),(6,.int _ _),(7,.int _ _)] zg fun tq0=>?_;refine K8 ([7]++rg 18 21) ((⟨fun g=>[(7,.int .i64 ((g.1.1:Nat):Int))],fun g=>⟨b5,[g.1.2.1.val,.slice none 0 0,.int .i64 rp],42⟩ :: (g.1.2.1.L 76 XSwitch.cells ++ (⟨b4,[.slice none 0 0,.slice none 0 0,.int .i64 0],42⟩ :: cblk c x g.1.2.2 :: [])),fun _=>R,fun g=>18 - g.1.1⟩:Head {g:Nat×OwL XSwitch×Nat // ((g.1:Int)≤max ((n:Int) + n0) 1∧g.2.1.l.length=g.1)∧g.2.1.ok 5 XSwitch.cells∧SwD g.2.1.l∧g.2.2≤x.l.length})) (⟨(0,OwL.nil,k2),⟨by dsimp only;omega,rfl⟩,OwL.nil_ok,SwD.nil,hk2⟩) zg zK zJb ?_;rintro ⟨⟨i,p,k3⟩,⟨hi,hpn⟩,hpk,hpd,hk3⟩ junk;try dsimp only
 dsimp only at hi hpn hpk hpd hk3;apply Xap∘qaa;refine J0 zsc rfl ?_;apply (Xao);refine q_c ?_ ?_<;>intro hc0;·refine Jt (Ja (Ji (Jy ?_)));refine Kh tb [] [0,1,2,3,4,7,9,5,6,8,10,11,12] [13,14,15] ([Blk.mk b5 _ _]) _ Kn zf zk yd ?_;apply Xda∘qbf∘qcj∘qb3∘qb3;refine Kv rfl (Zx zx hx hk3 zc) rfl rfl ?_;rintro v M U ⟨r1,k4,rfl,f1,f1',f1'',hk4,rfl,rfl⟩;refine ⟨zk,zu,?_⟩;have f1q:=f1' zc;apply (qcc);refine Kv rfl (Kte zx hx hk4 zc) rfl rfl ?_;rintro v M U ⟨bo,k5,rfl,hk5,rfl,rfl⟩;refine ⟨zk,zu,?_⟩;refine Kv rfl (Z8f zx hx hk5) rfl rfl ?_;rintro v M U ⟨r2,k6,rfl,f2,hk6,rfl,rfl⟩;refine ⟨zk,zu,?_⟩;refine Kz (Kf (qs:=[(0,(Value.int _ _).cells.toList),(3,(Value.bool _).cells.toList),(2,(Value.int _ _).cells.toList),(1,(Value.int _ _).cells.toList)]) (out:=[_,_,_,_,_]) tb rfl rfl rfl rfl) rfl rfl rfl rfl ?_;refine Keb zhc rfl rfl rfl ?_;rintro v M U ⟨b36,rfl,rfl,hR36⟩;replace hR36:=hR36.symm;subst hR36;apply (Xb3);refine V7a (Jq (f:=XSwitch.cells) (p:=p) (a:=⟨r1 - 1,0,r2,bo,false⟩) tb rfl rfl rfl rfl (hpk) zm zCb rfl zz) rfl rfl rfl ?_;rintro v M U ⟨o37,rfl,hok37,rfl,rfl⟩;apply Xdb∘Xcd;exact q_k ⟨(i + 1,(⟨o37,p.l ++ [⟨r1 - 1,0,r2,bo,false⟩]⟩:OwL XSwitch),k6),⟨by dsimp only;omega,by dsimp only;rw [yj,ym];omega⟩,hok37,hpd.next (by rw [hpn];dsimp only;omega) rfl zt rfl,hk6⟩
 have hpl:1≤p.l.length∧n≤p.l.length∧p.l.length≤18:=by omega
 apply qbk∘Xab∘qc7;rintro v M U ⟨b42,rfl,rfl,hR42⟩;replace hR42:=hR42.symm;subst hR42;apply Xbz∘Xat;refine Jh [(0,.pointer _),(1,.int _ _),(4,.pointer _),(5,.pointer _),(8,.slice _ _ _),(9,.int _ _)] zg fun tq1=>?_;refine V4 zgc ?_;refine K8 ([9,10]++rg 43 28) ((⟨fun g=>[(9,.int .i64 ((g.1.1:Nat):Int))],fun g=>(⟨.own b42 p.l.length [],g.1.2.2.1⟩:OwL Bool).L 4 blc ++ (⟨b5,[p.val,g.1.2.1.val,.int .i64 rp],42⟩ :: (g.1.2.1.L 3 Jj ++ (p.L 76 XSwitch.cells ++ (⟨b4,[.slice none 0 0,.slice none 0 0,.int .i64 0],42⟩ :: cblk c x g.1.2.2.2 :: [])))),fun _=>R,fun g=>n - g.1.1⟩:Head {g:Nat×OwL Int×List Bool×Nat // (g.1≤n∧g.2.1.l.length=g.1)∧g.2.1.ok 1 Jj∧(g.2.2.1.length=p.l.length∧g.2.2.1.count true=g.1)∧ZnD g.2.1.l g.2.2.1∧g.2.2.2≤x.l.length})) (⟨(0,OwL.nil,List.replicate p.l.length false,k3),⟨by dsimp only;omega,rfl⟩,OwL.nil_ok,⟨by dsimp only;rw [yaa],by simp [List.count_replicate]⟩,ZnD.nil,hk3⟩) zg zK zJb ?_;rintro ⟨⟨j,q,fr,k4⟩,⟨hj,hqn⟩,hqk,⟨hfl,hfc⟩,hqd,hk4⟩ junk;try dsimp only
 dsimp only at hj hqn hqk hfl hfc hqd hk4;have hfk:(⟨.own b42 p.l.length [],fr⟩:OwL Bool).ok 1 blc:=by have:=Yj (f:=blc) (wd:=1) (b:=b42) (n:=p.l.length) (x:=false) V1 zF;exact OwL.len_ok V1 this zsa
 apply (Xea);refine q_c ?_ ?_<;>intro hc1;·
  obtain ⟨jf,hjf⟩:=Y3d (l:=fr) zc;apply qbb∘qa6∘Xab;refine Ju rfl (Zx zx hx hk4 zc) rfl ?_;rintro v M U ⟨m0,k5,rfl,e1,e1',e1'',hk5,rfl,rfl⟩;have e1q:=e1' zc;apply (qad);refine J6 (Ja (Ji (Jy ?_)));refine Uh ([9,10]++rg 43 28) zG [(9,.int _ _),(10,.int _ _)] zg fun tq2=>?_;refine q_p ([10]++rg 53 9) ((⟨fun g=>[(10,.int .i64 g.1)],fun _=>(⟨.own b42 p.l.length [],fr⟩:OwL Bool).L 4 blc ++ (⟨b5,[p.val,q.val,.int .i64 rp],42⟩ :: (q.L 3 Jj ++ (p.L 76 XSwitch.cells ++ (⟨b4,[.slice none 0 0,.slice none 0 0,.int .i64 0],42⟩ :: cblk c x k5 :: [])))),fun _=>R,fun g=>(if g.1≤jf then (jf:Int) - g.1 else (jf:Int) - g.1 + p.l.length).toNat⟩:Head {m:Int // 0≤m∧m < p.l.length})) (⟨m0,by omega⟩) ?_;rintro ⟨m,hm⟩ junk;try dsimp only
  have hmg:=Js (l:=fr) (k:=m.toNat) false zc;have htm:(m + 1).tmod (p.l.length:Int)=if m + 1=p.l.length then 0 else m + 1:=by
   rw [ygb zc];split;·rename_i h;rw [h,Int.emod_self]
   ·exact yUb zc zc
  apply qbi∘Xaj∘Jqg;refine J0 (Kc tb ((⟨.own b42 p.l.length [],fr⟩:OwL Bool)) rfl rfl rfl zm zi yf zi ze) rfl ?_;apply (qaf);refine q_c ?_ ?_<;>intro hc2;·(have hne:m≠jf:=fun h=>by subst h;rw [yz] at hmg hc2;rw [hjf,hc2] at hmg;cases hmg);refine Jt (Ja (Jy (Je ?_)));apply qaa∘qar∘Xaq∘qda∘qad;refine J6 (Jg ?_);exact Ka ⟨(m + 1).tmod (p.l.length:Int),by rw [htm];split <;> omega⟩ zp zg zk zJb (by have hjl:=(List.getElem?_eq_some_iff.1 hjf).1;exact Z1d hm ⟨by omega,by omega⟩ hne htm)
  apply qbk∘Xaj∘Jqg;refine V5 (Jp tb ((⟨.own b42 p.l.length [],fr⟩:OwL Bool)) (true) rfl rfl rfl rfl zm zi yf zi zj ze ze) ?_;rintro v M U ⟨rfl,rfl⟩;refine J6 (Ja (Je ?_));apply Xaf∘qcx;rintro v M U ⟨b68,rfl,rfl,hR68⟩;replace hR68:=hR68.symm;subst hR68;refine Y6 (Jq (f:=Jj) (a:=m) tb rfl rfl rfl rfl (hqk) zm zCb rfl zz) rfl ?_;rintro v M U ⟨o69,rfl,hok69,rfl,rfl⟩;apply Xbo∘Xb6;exact q_k ⟨(j + 1,(⟨o69,q.l ++ [m]⟩:OwL Int),fr.set m.toNat true,k5),⟨by dsimp only;omega,by dsimp only;rw [yj,ym];omega⟩,hok69,⟨by dsimp only;rw [yN];exact hfl,by dsimp only;rw [Ube (by rw [hmg,hc2]),hfc]⟩,hqd.next hm.1 (by rw [hmg,hc2]),hk5⟩
 obtain rfl:j=n:=by omega
 apply (qbk);refine J0 zzb rfl ?_;apply (Xbf);refine q_r (q.L 3 Jj ++ (p.L 76 XSwitch.cells ++ (cblk c x k4 :: []))) R (U3 rfl zAb) ?_;exact ⟨p,q,rp,k4,rfl,⟨hpk,hqk⟩,by omega,hqn,K7g hpd hqd hfl zc zc zc,hpd.since,hk4,rfl,rfl⟩
end Go.Proofs.YtchfclmokpbldaaGreat
