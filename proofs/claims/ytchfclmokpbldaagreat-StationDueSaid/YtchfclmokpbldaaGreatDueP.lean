/-
  Merged texts. By an AI agent.
-/
import Derived.Test.YtchfclmokpbldaaGreatFeedW
import Derived.Test.YtchfclmokpbldaaGreatEasyR
import Derived.Test.YtchfclmokpbldaaGreatStaG
import Derived.Test.YtchfclmokpbldaaGreatDone22
set_option linter.all false
set_option maxHeartbeats 4000000
set_option maxRecDepth 20000
namespace Go.Proofs.YtchfclmokpbldaaGreat
open Go.Aw Go
section
attribute [local irreducible] CJ LJ DJ Tri YV Gives Ur J3 Ko Uq RV J5 OwL.L
def Jjc (c:Nat) (x:Arr Int) (k:Nat) (most:Int) (R:LS) (hx:CodesR x R) (hk:k≤x.l.length) (hm:0≤most∧most≤100):
 Tri Tryz.prog 32 [.pointer (some ⟨c, 0, none⟩), .int .i64 most].toArray [cblk c x k] R
  (fun v M U=>∃(b:Arr Int) (k':Nat),v=b.val∧BytesOk b.l∧(b.l.length:Int)≤80 * most∧InR (bsl b) U∧k'≤x.l.length∧(∀r∈R,InR r U)∧cblk c x k' :: []=M):=by refine Tri.postW (Uyc c x k most R hx hk hm) ?_;rintro v M U c' w ⟨q,k',rfl,hqk,hqb,hql,hk',hR,rfl⟩ hst;have h1:=hst.frzO (subs:=[]) hqk yf ze yg;exact ⟨_,_,h1,q.arr,k',rfl,hqb,hql,Ja (.head _),hk',fun r hr=>(hR r hr).mono fun r hr=>Ja (.tail _ hr),rfl⟩
def Kif (c:Nat) (x:Arr Int) (k:Nat) (most:Int) (R:LS) (hx:CodesR x R) (hk:k≤x.l.length) (hm:0≤most∧most≤100):
 Tri Tryz.prog 65 [.pointer (some ⟨c, 0, none⟩), .int .i64 most].toArray [cblk c x k] R
  (fun v M U=>∃(q:OwL XAct) (k':Nat),v=q.val∧ActsQ q U∧(∀a∈q.l,0≤a.wait∧a.wait≤4)∧(q.l.length:Int)≤most∧k'≤x.l.length∧(∀r∈R,InR r U)∧q.L 144 XAct.cells ++ (cblk c x k' :: [])=M):=by
 refine Jd 36 Tryz.call65 Tryz.func65 rfl rfl rfl ?_
 apply qae∘Xcv∘qc4∘qco
 refine Y8c 1 ?_
 have hnb:InR (bsl (⟨none,0,[]⟩:Arr Int)) (bsl (⟨none,0,[]⟩:Arr Int) :: R):=Ja (.head _)
 have hx1:CodesR x (bsl (⟨none,0,[]⟩:Arr Int) :: R):=⟨hx.1.mono fun r hr=>Ja (.tail _ hr),hx.2⟩
 apply Xb3∘Xa1
 refine Jm rfl (Vo zp hx1 hk za) rfl ?_
 rintro v M U ⟨n0,k1,rfl,g1,g1',g1'',hk1,rfl,rfl⟩
 have g1q:=g1' za
 apply (Xa4)
 refine Jl [(0,.pointer _),(5,.slice _ _ _),(6,.int _ _)] zh fun tq0=>?_
 refine K9 ([5,6,7]++rg 12 23) ((⟨fun g=>[(6,.int .i64 g.1.1),(5,g.1.2.1.val)],fun g=>g.1.2.1.L 144 XAct.cells ++ (cblk c x g.1.2.2.1 :: []),fun g=>g.1.2.2.2,fun g=>g.1.1.toNat⟩:Head {g:Int×OwL XAct×Nat×LS // (0≤g.1∧g.1≤n0)∧ActsQ g.2.1 g.2.2.2∧(∀a∈g.2.1.l,0≤a.wait∧a.wait≤4)∧(g.2.1.l.length:Int)=n0 - g.1∧g.2.2.1≤x.l.length∧∀r∈bsl (⟨none,0,[]⟩:Arr Int) :: R,InR r g.2.2.2})) (⟨(n0,OwL.nil,k1,bsl (⟨none,0,[]⟩:Arr Int) :: R),⟨by dsimp only;omega,by dsimp only;omega⟩,⟨OwL.nil_ok,fun a ha=>(by cases ha)⟩,fun a ha=>(by cases ha),by simp,hk1,fun r hr=>Ja hr⟩) zh zK zCb ?_
 rintro ⟨⟨n,q,k2,S⟩,⟨hn0,hn1⟩,hq,hqw,hqn,hk2,hS⟩ junk
 try dsimp only
 dsimp only at hn0 hn1 hq hqw hqn hk2 hS
 have hqk:=hq.ok
 have hxS:CodesR x S:=⟨hx1.1.mono hS,hx1.2⟩
 have hnbS:=hS _ (.head _)
 apply (Xec)
 refine q_c ?_ ?_<;>intro hc0
 ·
  apply (Xdj)
  refine Jm rfl (Vo zp hxS hk2 za) rfl ?_
  rintro v M U ⟨r1,k3,rfl,a1,a1',a1'',hk3,rfl,rfl⟩
  apply (qa6)
  refine Jm rfl (Vo zp hxS hk3 za) rfl ?_
  rintro v M U ⟨r2,k4,rfl,a2,a2',a2'',hk4,rfl,rfl⟩
  apply (qa6)
  refine Jm rfl (Vo zp hxS hk4 za) rfl ?_
  rintro v M U ⟨r3,k5,rfl,a3,a3',a3'',hk5,rfl,rfl⟩
  apply (qa6)
  refine Jm rfl (Vo zp hxS hk5 za) rfl ?_
  rintro v M U ⟨r4,k6,rfl,a4,a4',a4'',hk6,rfl,rfl⟩
  refine Jx (J4 (qs:=[(0,(Value.int _ _).cells.toList),(1,(Value.int _ _).cells.toList),(2,(Value.int _ _).cells.toList),(3,(Value.int _ _).cells.toList)]) (out:=[_,_,_,_,_]) tb rfl rfl rfl rfl) rfl ?_
  apply (qaq)
  intro b7
  apply qak∘qco
  have b1:=a1' za
  have b2:=a2' za
  have b3:=a3' za
  have b4:=a4' za
  apply qay∘Xaa∘Xa5
  refine Vy [28,29,30] ((⟨fun _=>[],fun g=>⟨b7,XAct.cells ⟨r1,r2,r3,r4,g.1.1⟩,144⟩ :: (q.L 144 XAct.cells ++ (cblk c x g.1.2.1 :: [])),fun g=>g.1.2.2,fun _=>0⟩:Head {g:Arr Int×Nat×LS // BytesOk g.1.l∧g.1.l.length≤300∧InR (bsl g.1) g.2.2∧g.2.1≤x.l.length∧∀r∈S,InR r g.2.2})) ?_ ?_
  ·
   skip
   refine q_c ?_ ?_<;>intro hc1
   ·
    apply (Xb3)
    refine Jm rfl (Tri.spl (.consB (.appB (.consL .nil))) (Jjc c x k6 3 S hxS hk6 za)) rfl ?_
    rintro v M U ⟨_,rfl,b,k7,rfl,hbb,hbn,hbR,hk7,hbS,rfl⟩
    simp only [yo,yr,yx,yea]
    apply Xbd∘qav
    exact q_j ⟨(b,k7,_),hbb,by dsimp only;omega,hbR,hk7,hbS⟩
   refine J1 ?_
   exact q_j ⟨((⟨none,0,[]⟩:Arr Int),k6,S),fun y hy=>(by cases hy),yga _,hnbS,hk6,fun r hr=>Ja hr⟩
  rintro ⟨⟨bb,k8,S2⟩,hbb,hbn,hbR,hk8,hS2⟩ junk
  try dsimp only
  dsimp only at hbb hbn hbR hk8 hS2
  apply (Xcm)
  refine Jx zzb rfl ?_
  refine Yu zJb rfl ?_
  rintro v M U ⟨b33,rfl,rfl,hR33⟩
  replace hR33:=hR33.symm;subst hR33
  refine Yu (Jv (f:=XAct.cells) (p:=q) (a:=⟨r1,r2,r3,r4,bb⟩) tb rfl rfl rfl rfl (hqk) zj zwb rfl zA) rfl ?_
  rintro v M U ⟨o34,rfl,hok34,rfl,rfl⟩
  apply qc4∘Xed
  exact Ki ⟨(n - 1,⟨o34,q.l ++ [⟨r1,r2,r3,r4,bb⟩]⟩,k8,S2),⟨by dsimp only;omega,by dsimp only;omega⟩,(hq.mono hS2).app hok34 (fun a ha=>by
  rw [List.mem_singleton.1 ha]
  exact ⟨⟨by show _≤r2∧r2≤_;omega,by show _≤r3∧r3≤_;omega,by show _≤r4∧r4≤_;omega,hbb,by show bb.l.length≤_;omega⟩,hbR⟩),fun a ha=>by
  rcases List.mem_append.1 ha with ha | ha
  ·exact hqw a ha
  ·rw [List.mem_singleton.1 ha];dsimp only;omega,by dsimp only;rw [yj,yn];omega,hk8,fun r hr=>(hS r hr).mono hS2⟩ zm zh zg zCb zu
 apply Xc7∘Xcw
 refine q_r (q.L 144 XAct.cells ++ (cblk c x k2 :: [])) S zkd ?_
 exact ⟨q,k2,rfl,hq,hqw,by omega,hk2,fun r hr=>hS r (.tail _ hr),rfl⟩
end
section
def Ucc {α β : Type} {f h : β → α → β} : ∀ (l : List α), (∀ x ∈ l, ∀ b, f b x = h b x) → ∀ b, l.foldl f b = l.foldl h b
 | [],_,b=>rfl
 | x :: l,hs,b=>by
  rw [yUb,yUb,hs x (yta ..)]
  exact Ucc l (fun y hy=>hs y (yK _ hy)) _
def MeasI (T:Int) (m:List XMeas):Prop:=∀i:Nat,i < m.length→(m.getD i default).time≤T∧((m.getD i default).sensor < 0∨((m.getD i default).sensor=(i:Int)∧((m.getD i default).span=nothingS∨-549755813888≤(m.getD i default).span.low)))
def Jxf {s:XSens} {x:XMeas} {T t:Int} (h1:x.time≤T) (h2:x.span=nothingS∨-549755813888≤x.span.low) (ht:T≤t) (hk:atS s x T=nothingS):atS s x t=nothingS:=by
 have hg:Jvb s x T:=by
  rcases yaa (Jvb s x T) with h | hg;·exact h
  ·
   exfalso;have hm:=(Yfb hg).2;have hsp:x.span≠nothingS:=fun e=>hg (by rw [Jvb];exact .inr (.inr (.inl e)));have hlo:-549755813888≤x.span.low:=h2.resolve_left hsp;rw [atS,if_neg hg] at hk;split at hk;·exact hsp hk
   split at hk;·have := congrArg XSpan.low hk;simp only [nothingS] at this;omega
   ·have := congrArg XSpan.low hk;simp only [nothingS,Zme] at this;omega
 have h3:Jvb s x t:=by
  rw [Jvb] at hg ⊢;rcases hg with h | h | h | h | h;·exact .inl h
  ·exact .inr (.inl h)
  ·exact .inr (.inr (.inl h))
  ·omega
  ·exact .inr (.inr (.inr (.inr za)))
 rw [atS,if_pos h3]
def Vfd {S:List XSens} {m:List XMeas} {n T t:Int} (h:MeasI T m) (ht:T≤t) (hk:U4 S m n T=nothingS):U4 S m n t=nothingS:=by
 rw [U4] at hk ⊢;split;·
  rename_i hc;rw [if_pos hc] at hk;have hi:=h n.toNat za;refine Jxf hi.1 ?_ ht hk;rcases hi.2 with h2 | h2;·omega
  ·exact h2.2
 ·rfl
section
variable {g:PSite} {p:PSta}
def Blind (g:PSite) (m:List XMeas) (t:Int):Prop:=∀i:Nat,i < g.site.sensors.l.length→U4 g.site.sensors.l m (i:Int) t=nothingS
def Blind.any {m:List XMeas} {t:Int} (h:Blind g m t) (n:Int):U4 g.site.sensors.l m n t=nothingS:=by
 rcases yaa (0≤n∧n < g.site.sensors.l.length) with hn | hn;·have := h n.toNat za;rwa [show ((n.toNat:Nat):Int)=n from by omega] at this
 ·rw [U4,if_neg (fun h=>hn h.1)]
def Blind.later {m:List XMeas} {T t:Int} (h:Blind g m T) (hm:MeasI T m) (ht:T≤t):Blind g m t:=fun i hi=>Vfd hm ht (h i hi)
def Blind.state {m:List XMeas} {t:Int} (h:Blind g m t) (kind target n:Int):Jta g.site.sensors.l m t kind target n= -1:=by
 rw [Jta];split;·rfl
 ·rw [h.any, if_neg];intro hh;have:=hh.1;simp [nothingS] at this
def Blind.set {m:List XMeas} {T t:Int} (h:Blind g m T) (k:Blind g m t):Z7d g.site m T=Z7d g.site m t:=by rw [Z7d,Z7d,Ypa,Ypa,K5a,K5a];simp only [h.state,k.state]
def Blind.flows {m:List XMeas} {T t:Int} (h:Blind g m T) (k:Blind g m t) (hm:MeasI T m) (hl:m.length=g.site.sensors.l.length):Z6 g.site g.air m T=Z6 g.site g.air m t:=by
 rw [Z6,Z6,h.set k,Kxe,Kxe,Vib,Vib,Ucc];intro x hx st;rw [yM (ym _)] at hx;obtain ⟨i,hi,rfl⟩:=yCa hx;have hi2:=hm i hi;rw [yh,yA hi] at hi2;have hi2:m[i].time≤T∧(m[i].sensor < 0∨(m[i].sensor=(i:Int)∧(m[i].span=nothingS∨-549755813888≤m[i].span.low))):=hi2;rw [J4a,J4a];rcases hi2.2 with h0 | h0;·rw [if_pos (fun hh=>by have:=hh.1.1;omega),if_pos (fun hh=>by have:=hh.1.1;omega)]
 ·
  have e:atS (g.site.sensors.l.getD m[i].sensor.toNat default) m[i] T=atS (g.site.sensors.l.getD m[i].sensor.toNat default) m[i] t:=by have h1:=h.any (i:Int);have h2:=k.any (i:Int);(have hc:(0≤(i:Int)∧(i:Int) < g.site.sensors.l.length)∧(i:Int) < m.length∧(m.getD (i:Int).toNat default).sensor=(i:Int):=by refine ⟨by omega,by omega,?_⟩;rw [yy,yh,yA hi];exact h0.1);rw [U4,if_pos hc,yy,yh (l:=m),yA hi] at h1 h2;have h1:atS (g.site.sensors.l.getD i default) m[i] T=nothingS:=h1;have h2:atS (g.site.sensors.l.getD i default) m[i] t=nothingS:=h2;rw [h0.1,yy,h1,h2]
  have e2:∀st,Z5c st g.site.sensors.l T m[i]=Z5c st g.site.sensors.l t m[i]:=fun st=>by rw [Z5c,Z5c,e]
  rw [e2]
def J4e (l:XLevel) (w:XWatch) (t:Int) (hl:Vz l):Zi l w nothingS t=⟨true,-1,t⟩:=by rw [Zi,if_pos];rw [Vz] at hl;rw [Jha,if_neg (by simp [nothingS]),if_neg (by simp only [nothingS];omega),if_neg (by simp only [nothingS];omega)];decide
def J7f {S:List XSens} {n:Nat} {c:XCond} (h:Ks S n c=0):1≤c.kind∧c.kind≤5:=by
 rcases yaa (1≤c.kind∧c.kind≤5) with h1 | h1;·exact h1
 ·
  have : Km S n c = 5 := by rw [Km, if_neg za, if_neg za, if_neg za]
  rw [Ks,this,if_pos ze] at h;cases h
def Vnd {m:List XMeas} {T t:Int} (h:Blind g m T) (k:Blind g m t) (fl:List XSpan) (c:XCond) (w:XWatch) (hc:1≤c.kind∧c.kind≤5) (hl:c.kind=1→Vz c.level):
 U1a g.site.sensors.l m fl c (Zg g.site.sensors.l m c w T) t=U1a g.site.sensors.l m fl c w T∧(Zg g.site.sensors.l m c (Zg g.site.sensors.l m c w T) t).over=(Zg g.site.sensors.l m c w T).over∧(Zg g.site.sensors.l m c (Zg g.site.sensors.l m c w T) t).since=(Zg g.site.sensors.l m c w T).since:=by
 rcases yaa (c.kind=1) with h1 | h1;·have hlv := hl h1;rw [U1a,U1a];simp only [Zg,if_pos h1,h.any,k.any,J4e _ _ _ hlv,if_neg (show ¬ c.kind=5 by omega),if_neg (show ¬ c.kind=2 by omega),if_neg (show ¬ c.kind=3 by omega),if_neg (show ¬ c.kind=4 by omega),and_self]
 ·
  have h2 : c.kind = 5 ∨ c.kind = 2 ∨ c.kind = 3 ∨ c.kind = 4 := by omega
  rcases h2 with h2 | h2 | h2 | h2 <;> simp [U1a,Zg,h2,h.any,k.any]
def Yfd {α:Type} {f:Nat→α} {n i:Nat} (d:α) (h:i < n):((List.range n).map f).getD i d=f i:=by rw [yh,yu,yX h];rfl
structure SameW (a b:List XWatch):Prop where
 len:a.length=b.length
 at_:∀i:Nat,i < b.length→(a.getD i default).over=(b.getD i default).over∧(a.getD i default).since=(b.getD i default).since
def Jed {m:List XMeas} {W:List XWatch} {fl:List XSpan} {T t:Int} (hs:SiteOk g.site) (h:Blind g m T) (k:Blind g m t) (hE:valuesErr g.site m W fl T=0) (hE1:valuesErr g.site m (valuesW g.site m W fl T) fl t=0) (hW:W.length=g.site.conds.l.length):
 valuesV g.site m (valuesW g.site m W fl T) fl t=valuesV g.site m W fl T∧SameW (valuesW g.site m (valuesW g.site m W fl T) fl t) (valuesW g.site m W fl T):=by
 have e1:valuesW g.site m W fl T=(List.range W.length).map fun i=>Zg g.site.sensors.l m (g.site.conds.l.getD i default) (W.getD i default) T:=by rw [valuesW,if_neg (by rw [hE];decide)]
 have e2:(valuesW g.site m W fl T).length=W.length:=by rw [e1];simp
 have hv:∀i,i < W.length→_:=fun i hi=>by have hc:=hs.cond _ (yi (Ju (l:=g.site.conds.l) (k:=i) default za));exact Vnd h k fl (g.site.conds.l.getD i default) (W.getD i default) (J7f hc) (fun h1=>Vic hc h1)
 refine ⟨?_,?_,fun i hi=>?_⟩;·rw [valuesV, if_neg (by rw [hE1]; decide), valuesV, if_neg (by rw [hE]; decide), e2];refine List.map_congr_left fun i hi=>?_;rw [yva] at hi;rw [e1,Yfd default hi];exact (hv i hi).1
 ·rw [valuesW,if_neg (by rw [hE1];decide),yG,yEb]
 ·rw [e2] at hi;rw [valuesW,if_neg (by rw [hE1];decide),e2,Yfd default hi];rw [e1,Yfd default hi];exact (hv i hi).2
def Vse {sw:List XSwitch} (h:Uve sw):∀(n:Nat) {s:Int},(s + 1).toNat≤n→s < sw.length→∀e∈Kxa sw s,∀x∈Kxa sw e,x∈Kxa sw s:=by
 intro n;induction n with
 | zero=>intro s hn _ e he;rw [Y7 za] at he;cases he
 | succ n ih=>
  intro s hn hs e he x hx;rcases yqa s 0 with h0 | h0;·rw [Y7 h0] at he;cases he
  ·
   have ha := h s.toNat za;rw [Z4 h h0 hs] at he ⊢;rcases List.mem_cons.1 he with rfl | he;·rw [Z4 h h0 hs] at hx;exact hx
   ·exact yK _ (ih za za e he x hx)
def Kaf {a b:List XSwitch} (ha:Uve a) (hb:Uve b) (hl:b.length=a.length) (h:∀i:Nat,i < a.length→(b.getD i default).above=(a.getD i default).above):∀(n:Nat) {s:Int},(s + 1).toNat≤n→s < a.length→Kxa b s=Kxa a s:=by
 intro n;induction n with
 | zero=>intro s hn _;rw [Y7 za,Y7 za]
 | succ n ih=>
  intro s hn hs;rcases yqa s 0 with h0 | h0;·rw [Y7 h0,Y7 h0]
  ·have h1 := ha s.toNat za;rw [Z4 ha h0 hs,Z4 hb h0 za,h s.toNat za,ih za za]
def Use {sw:List XSwitch} {t:Int} (hfe:feedE sw g.zn g.rp=0) (ht:0≤t∧t≤2147483648) {i k:Nat} (hi:i < g.zn.length) (hk:k < g.zn.length) (h1:Jkc g sw i=false) (h2:Jkc g sw k=true):Jkc g (Vj sw (g.zn.getD k 0) t) i=false:=by
 have hok:=Vi hfe;have hkeep:=(SwKeep.refl hfe t).openS (g.zn.getD k 0);have hfe2:=hkeep.feedE hfe ht;have hok2:=Vi hfe2;have hzi:=hok.zr i hi;have hzk:=hok.zr k hk;have e1:Uka sw g.zn g.rp (g.zn.getD i 0)=Kxa sw (g.zn.getD i 0):=by rw [Uka,if_neg (by rw [hfe];omega)]
 have e2:Uka sw g.zn g.rp (g.zn.getD k 0)=Kxa sw (g.zn.getD k 0):=by rw [Uka,if_neg (by rw [hfe];omega)]
 have e3:Uka (Vj sw (g.zn.getD k 0) t) g.zn g.rp (g.zn.getD i 0)=Kxa sw (g.zn.getD i 0):=by rw [Uka,if_neg (by rw [hfe2,hkeep.len];omega)];exact Kaf hok.up hok2.up hkeep.len (fun j hj=>(hkeep.at_ j hj).1) _ (ym _) za
 rw [Jkc,e1,yDb] at h1;rw [Jkc,e2,List.any_eq_true] at h2;obtain ⟨d,hd,hdark⟩:=h2;rw [Jkc,e3,yDb];intro x hx;have hxr:=Jxd hok.up _ (g.zn.getD i 0) za (ym _) x hx;have hne:x≠g.zn.getD k 0:=fun e=>by subst e;exact h1 d (Vse hok.up _ (ym _) za _ hx d hd) hdark
 have h3:=h1 x hx;have e4:(Vj sw (g.zn.getD k 0) t).getD x.toNat default=sw.getD x.toNat default:=by
  rw [Vj];split;·rw [yh,yD,if_neg za,← yh]
  ·rfl
 rw [e4];exact h3
def V4f {z:Int}:(Jsc g p z).sw=Vj p.sw (g.zn.getD z.toNat 0) p.time:=by rw [Jsc];split <;> rfl
def Jdd (hI : Inv g p) (vals : List Int) : ∀ k, k ≤ p.cuts.length → (darkTo g vals p k).cuts.length = p.cuts.length ∧ ∀ i : Nat, i < k → ((darkTo g vals p k).cuts.getD i default).off = true ∨ Jkc g (darkTo g vals p k).sw i = false
 | 0,_=>⟨rfl,fun i hi=>absurd hi (Nat.not_lt_zero _)⟩
 | k + 1,hk=>by
  obtain ⟨h1,h2⟩:=Jdd hI vals k za
  have hq:=hI.darkTo vals k
  obtain ⟨q,hqe⟩:∃q,q=darkTo g vals p k:=⟨_,rfl⟩
  rw [← hqe] at h1 h2 hq
  rw [darkTo,← hqe,Uma]
  split
  ·rename_i hc
   refine ⟨h1,fun i hi=>?_⟩
   rcases yl i k with h3 | h3
   ·exact h2 i h3
   ·obtain rfl : i = k := by omega
    exact hc
  ·rename_i hc
   rw [not_or,Bool.not_eq_false] at hc
   refine ⟨by rw [U9a];exact (yE).trans h1,fun i hi=>?_⟩
   rw [U9a,V4f,yy]
   have hz:=hq.zlen
   have hcl:=hq.clen
   rcases yl i k with h3 | h3
   ·rcases h2 i h3 with h4 | h4
    ·refine .inl ?_
     show ((q.cuts.set k _).getD i default).off=true
     rw [yh,yD,if_neg za,← yh]
     exact h4
    ·exact .inr (Use hq.fe hq.time za za h4 hc.2)
   ·obtain rfl : i = k := by omega
    refine .inl ?_
    show ((q.cuts.set i _).getD i default).off=true
    rw [yh,yD,if_pos rfl,if_pos za]
    rfl
end
end
section
section
variable {g:PSite} {p:PSta}
structure KeepW (p q:PSta):Prop where
 watches:q.watches=p.watches
 rest:q.rest=p.rest
def KeepW.trans {p q r:PSta} (h:KeepW p q) (k:KeepW q r):KeepW p r:=⟨k.watches.trans h.watches,k.rest.trans h.rest⟩
def Khe (z:Int):KeepW p (Jsc g p z):=by rw [Jsc];split <;> exact ⟨rfl,rfl⟩
def K6d : ∀ (l : List Int) {p : PSta}, KeepW p (Y6a g p l)
 | [],p=>⟨rfl,rfl⟩
 | z :: l,p=>(Khe z).trans (K6d l)
def Kgb (k : Int) : ∀ (l : List Int) {p : PSta}, KeepW p (Zn k p l)
 | [],p=>⟨rfl,rfl⟩
 | z :: l,p=>KeepW.trans (q:=Y0 p k z 0) ⟨rfl,rfl⟩ (Kgb k l)
def Kcd (vals : List Int) : ∀ k, KeepW p (darkTo g vals p k)
 | 0=>⟨rfl,rfl⟩
 | k + 1=>by
  refine (Kcd vals k).trans ?_
  rw [darkTo,Uma]
  split
  ·exact ⟨rfl,rfl⟩
  ·exact KeepW.trans (q:={ darkTo g vals p k with cuts:=(darkTo g vals p k).cuts.set k ⟨true,((darkTo g vals p k).cuts.getD k default).clear,Jla (g.site.zones.l.getD k default).rule.l vals⟩ }) ⟨rfl,rfl⟩ (Khe _)
def Jtg (a b:XCut):Prop:=b=a∨(a.off=false∧b.off=true∧b.clear=a.clear)
def Zcd (vals : List Int) : ∀ k, (darkTo g vals p k).cuts.length = p.cuts.length ∧ ∀ i : Nat, Jtg (p.cuts.getD i default) ((darkTo g vals p k).cuts.getD i default) ∧ (k ≤ i → (darkTo g vals p k).cuts.getD i default = p.cuts.getD i default)
 | 0=>⟨rfl,fun i=>⟨.inl rfl,fun _=>rfl⟩⟩
 | k + 1=>by
  obtain ⟨h1,h2⟩:=Zcd vals k
  rw [darkTo,Uma]
  split
  ·exact ⟨h1,fun i=>⟨(h2 i).1,fun h=>(h2 i).2 za⟩⟩
  ·rename_i hc
   rw [not_or,Bool.not_eq_true] at hc
   rw [U9a]
   refine ⟨(yE).trans h1,fun i=>?_⟩
   show Jtg (p.cuts.getD i default) (((darkTo g vals p k).cuts.set k _).getD i default)∧(k + 1≤i→((darkTo g vals p k).cuts.set k _).getD i default=p.cuts.getD i default)
   rw [yh (l:=(darkTo g vals p k).cuts.set k _),yD]
   rcases Nat.decEq k i with h3 | h3
   ·rw [if_neg h3, ← yh]
    exact ⟨(h2 i).1,fun h=>(h2 i).2 za⟩
   ·subst h3
    rw [if_pos rfl]
    have h4:=(h2 k).2 (ym _)
    split
    ·exact ⟨.inr ⟨by rw [← h4];exact hc.1,rfl,by rw [← h4];rfl⟩,fun h=>absurd h za⟩
    ·rename_i h5
     have h6:p.cuts.getD k default=default:=by rw [yh,yq za];rfl
     rw [h4,h6] at hc
     rw [h6]
     exact ⟨.inl rfl,fun _=>rfl⟩
def Ysd {rp : Int} : ∀ (l : List XSwitch) (v : Int), l.foldl (Jsb rp) v ≤ v ∧ ∀ x ∈ l, Ynb x = true → l.foldl (Jsb rp) v ≤ x.since + rp
 | [],v=>⟨yF _,fun x hx=>by cases hx⟩
 | y :: l,v=>by
  obtain ⟨h1,h2⟩:=Ysd l (Jsb rp v y)
  have h3:Jsb rp v y≤v∧(Ynb y=true→Jsb rp v y≤y.since + rp):=by
   rw [Jsb]
   split
   ·exact ⟨by omega,fun _=>by omega⟩
   ·rename_i h;exact ⟨yF _,fun h9=>absurd h9 h⟩
  refine ⟨ypc h1 h3.1,fun x hx hw=>?_⟩
  rcases List.mem_cons.1 hx with rfl | hx
  ·exact ypc h1 (h3.2 hw)
  ·exact h2 x hx hw
def K9e {sw:List XSwitch} {rp t:Int} (h:t < Ycc sw rp):J1a sw rp t=⟨sw,[],[]⟩:=by
 have hd:=(Ysd (rp:=rp) sw 1099511627776).2;have:∀k,k≤sw.length→Upa sw rp t k=⟨sw,[],[]⟩:=by
  intro k;induction k with
  | zero=>intro _;rfl
  | succ k ih=>intro hk;rw [Upa,ih za,Jzb,if_neg];rintro ⟨h1,h2⟩;have:=hd _ (yi (Ju (l:=sw) (k:=sw.length - 1 - k) default za)) h1;rw [Ycc] at h;dsimp only at h2;omega
 exact this _ (ym _)
def Vef (hI:Inv g p) {T t:Int} (hT:p.time≤T∧T≤2147483648) (hm:MeasI T p.meas) (hb:Blind g p.meas T) (ht:T≤t∧t≤2147483648) (hd:t < Ycc (Jh g p T).sw g.rp):
 ∃W,Jh g (Jh g p T) t={ Jh g p T with time:=t,watches:=W }∧SameW W (Jh g p T).watches:=by
 have hI1:=hI.at hT.1 hT.2;have hIs:=hI.settle hT.1 hT.2;have hIt:=hIs.at (t:=t) (by rw [Yn];exact ht.1) ht.2;have kp:=K3a (g:=g) (p:=p) T;have hst:=Yn (g:=g) (p:=p) T;obtain ⟨p1,hp1⟩:∃p1:PSta,p1={ p with time:=T }:=⟨_,rfl⟩;obtain ⟨v,hv⟩:∃v,v=Kyb g p1:=⟨_,rfl⟩;obtain ⟨q,hq⟩:∃q,q=settleB g (settleA g p1):=⟨_,rfl⟩;obtain ⟨r,hr⟩:∃r,r=Jh g p T:=⟨_,rfl⟩;have hrq:r=darkTo g v q q.cuts.length:=by rw [hr,Jh,← hp1,← hq,← hv]
 rw [← hp1] at hI1;rw [← hr] at kp hst hIs hIt hd ⊢;have hIA:=hI1.settleA;have hIB:=hIA.settleB;rw [← hq] at hIB;have e1:p1.meas=p.meas:=by rw [hp1]
 have e2:p1.watches=p.watches:=by rw [hp1]
 have e3:p1.time=T:=by rw [hp1]
 have e4:p1.cuts=p.cuts:=by rw [hp1]
 have e5:p1.rest=p.rest:=by rw [hp1]
 have hT0:0≤T:=by have:=hI1.time;omega
 -- what is known of the air
 have hbt:=hb.later hm ht.1;have hfl:flP g p1=Z6 g.site g.air p.meas T:=by rw [flP,e1,e3]
 have hfl2:Z6 g.site g.air p.meas T=Z6 g.site g.air p.meas t:=hb.flows hbt hm hI.meas
 -- watches
 have hA1:(settleA g p1).watches=valuesW g.site p.meas p.watches (flP g p1) T:=by rw [settleA];refine (K6d _).watches.trans ?_;rw [e1,e2,e3]
 have hqw:q.watches=valuesW g.site p.meas p.watches (flP g p1) T:=by rw [hq,settleB];refine (Kgb _ _).watches.trans ((Kgb _ _).watches.trans ?_);exact hA1
 have hrw:r.watches=valuesW g.site p.meas p.watches (flP g p1) T:=by rw [hrq];exact (Kcd v _).watches.trans hqw
 have hE0:=hI1.valErr;rw [e1,e2,e3] at hE0;obtain ⟨r1,hr1⟩:∃r1:PSta,r1={ r with time:=t }:=⟨_,rfl⟩;rw [← hr1] at hIt;have f1:r1.meas=p.meas:=by rw [hr1];exact kp.meas
 have f2:r1.watches=r.watches:=by rw [hr1]
 have f3:r1.time=t:=by rw [hr1]
 have f4:r1.cuts=r.cuts:=by rw [hr1]
 have f5:r1.rest=r.rest:=by rw [hr1]
 have f6:r1.sw=r.sw:=by rw [hr1]
 have hflt:flP g r1=flP g p1:=by rw [flP,f1,f3,hfl,hfl2]
 have hE1:=hIt.valErr;rw [f1,f2,f3,hflt,hrw] at hE1;have hVB:=Jed (fl:=flP g p1) hI.sok hb hbt hE0 hE1 hI.wlen;have hvt:Kyb g r1=v:=by rw [hv,Kyb,Kyb,f1,f2,f3,hflt,hrw,e1,e2,e3];exact hVB.1
 -- zones
 have hce:=hI1.cutErr;rw [← hv,e3,e4] at hce;have hcet:=hIt.cutErr;rw [hvt,f3,f4] at hcet;have hq0:q.cuts=cutsC g.site v p.cuts T:=by rw [hq,Urb,settleA,Zdc,← hv,e3,e4]
 have hqC:q.cuts=(List.range p.cuts.length).map (cutAt g.site v p.cuts T):=by rw [hq0,cutsC,if_neg (by rw [hce];decide)]
 have hqn:q.cuts.length=p.cuts.length:=by rw [hqC];simp
 have hDC:=Zcd (g:=g) (p:=q) v q.cuts.length;rw [← hrq] at hDC;have hrn:r.cuts.length=p.cuts.length:=hDC.1.trans hqn;have hzone:∀i:Nat,i < p.cuts.length→Upc (Jla (g.site.zones.l.getD i default).rule.l v) (r.cuts.getD i default) t=r.cuts.getD i default∧(Jla (g.site.zones.l.getD i default).rule.l v≠-1→(r.cuts.getD i default).off=true):=fun i hi=>by
  have hqi:q.cuts.getD i default=Upc (Jla (g.site.zones.l.getD i default).rule.l v) (p.cuts.getD i default) T:=by rw [hqC,Yfd default hi,cutAt]
  have hto:=(hDC.2 i).1;rw [hqi] at hto;rcases yaa (Jla (g.site.zones.l.getD i default).rule.l v= -1) with h1 | h1;·
   rw [h1] at hto ⊢;have hcl:(Upc (-1) (p.cuts.getD i default) T).clear≠-1:=by
    rw [Upc,if_pos rfl];split;·show T≠-1;omega
    ·assumption
   have hcl2:(r.cuts.getD i default).clear≠-1:=by
    rcases hto with h | h;·rw [h];exact hcl
    ·rw [h.2.2];exact hcl
   exact ⟨by rw [Upc,if_pos rfl,if_neg hcl2],fun h=>absurd rfl h⟩
  ·
   (have hoff:(Upc (Jla (g.site.zones.l.getD i default).rule.l v) (p.cuts.getD i default) T).off=true∧(Upc (Jla (g.site.zones.l.getD i default).rule.l v) (p.cuts.getD i default) T).clear= -1:=by rw [Upc,if_neg h1];split <;> exact ⟨rfl,rfl⟩);have hre:r.cuts.getD i default=Upc (Jla (g.site.zones.l.getD i default).rule.l v) (p.cuts.getD i default) T:=by
    rcases hto with h | h;·exact h
    ·rw [hoff.1] at h;cases h.1
   rw [hre];obtain ⟨c,hc⟩:∃c,c=Upc (Jla (g.site.zones.l.getD i default).rule.l v) (p.cuts.getD i default) T:=⟨_,rfl⟩;rw [← hc] at hoff ⊢;refine ⟨?_,fun _=>hoff.1⟩;rw [Upc,if_neg h1,if_pos hoff.1];obtain ⟨o,cl,re⟩:=c;obtain ⟨rfl,rfl⟩:=hoff;rfl
 have hcC:cutsC g.site v r.cuts t=r.cuts:=by
  rw [cutsC,if_neg (by rw [hcet];decide)];refine yka fun i=>?_;rw [yu];rcases yl i r.cuts.length with hi | hi;·rw [yX hi, Ju (l := r.cuts) (k := i) default hi];show some (cutAt g.site v r.cuts t i)=_;rw [cutAt,(hzone i za).1]
  ·rw [yq (by simpa using hi),yq hi];rfl
 have hcN:cutsN g.site v r.cuts t=[]:=by rw [cutsN,if_neg (by rw [hcet];decide)];refine List.eq_nil_iff_forall_not_mem.2 fun x hx=>?_;obtain ⟨k,hk,_,h1,h2⟩:=(Y3c _).1 hx;rw [(hzone k za).2 h1] at h2;cases h2
 -- the restoration
 have hqr:q.rest=Zo q.cuts p.rest:=by
  have h1:(settleA g p1).rest=p.rest:=by rw [settleA];exact (K6d _).rest.trans e5
  have h2:q.cuts=(settleA g p1).cuts:=by rw [hq,Urb]
  rw [h2,hq,settleB];refine (Kgb _ _).rest.trans ((Kgb _ _).rest.trans ?_);show Zo (settleA g p1).cuts (settleA g p1).rest=_;rw [h1]
 have hrr:r.rest=Zo q.cuts p.rest:=by rw [hrq];exact (Kcd v _).rest.trans hqr
 have hkeep:Zo r.cuts r.rest=r.rest:=by
  rw [Zo,if_pos];rw [hrr];unfold Zo;split;·
   rename_i hk;rcases hk with hk | ⟨hk1,hk2,hk3⟩;·exact .inl hk
   ·
    refine .inr ⟨by rw [hDC.1]; exact hk1, ?_⟩;rcases (hDC.2 p.rest.zone.toNat).1 with h | h;·rw [h];exact ⟨hk2,hk3⟩
    ·rw [h.2.2];exact ⟨h.2.1,hk3⟩
  ·exact .inl rfl
 -- darkness
 have hdk:=(Jdd hIB v q.cuts.length (ym _)).2;rw [← hrq] at hdk;have htick:=K9e hd;refine ⟨valuesW g.site p.meas r.watches (flP g p1) t,?_,?_⟩;·
  obtain ⟨R, hR⟩ : ∃ R : PSta, R = { r with time := t, watches := valuesW g.site p.meas r.watches (flP g p1) t } := ⟨_, rfl⟩;have hSA:settleA g r1=R:=by rw [settleA,hvt,f1,f2,f3,f4,hflt,hcN,hcC,hR,hr1];simp only [Y6a,List.foldl_nil];rw [← kp.meas]
  have hSB:settleB g R=R:=by (have h1:R.cuts=r.cuts:=by rw [hR]);(have h2:R.rest=r.rest:=by rw [hR]);(have h3:R.sw=r.sw:=by rw [hR]);(have h4:R.time=t:=by rw [hR]);rw [settleB,h1,h2,h3,h4,htick,hkeep];simp only [Zn,List.foldl_nil];rw [hR]
  rw [Jh,← hr1,hSA,hSB,hvt,← hR];have h1:R.cuts=r.cuts:=by rw [hR]
  have h3:R.sw=r.sw:=by rw [hR]
  have:∀k,k≤r.cuts.length→darkTo g v R k=R:=by
   intro k;induction k with
   | zero=>intro _;rfl
   | succ k ih=>intro hk;rw [darkTo,ih za,Uma,if_pos];rw [h1,h3];exact hdk k za
  rw [h1];exact this _ (ym _)
 ·rw [hrw];exact hVB.2
end
end
section
def MeasI.mono {T t:Int} {m:List XMeas} (h:MeasI T m) (ht:T≤t):MeasI t m:=fun i hi=>⟨by have:=(h i hi).1;omega,(h i hi).2⟩
def Jpe (s:XSens) (r:Int):Jva s r=nothingS∨-549755813888≤(Jva s r).low:=by
 rw [Jva];split;·exact .inl rfl
 rename_i h;have hm:=Kzd (s:=s) (r:=r) za za;have hs:=J5b (s:=s) za;rw [Zk] at hs;split;·
  split;·exact .inl rfl
  ·exact .inr zu
 split;·exact .inr (by simp only [J0f];omega)
 ·exact .inr (by simp only [J0f];omega)
def Vjf {S:List XSens} {T t:Int} {m:List XMeas} (f:XTele) (h:MeasI T m) (ht:T≤t) (hl:m.length=S.length):MeasI t (Zqa S t m f):=by
 rw [Zqa];split;·
  rename_i he;have ha:=Yqb he;intro i hi;rw [yE] at hi;rw [yh,yD];split;·
   rename_i e;rw [if_pos za];show (Vla S f t).time≤t∧((Vla S f t).sensor < 0∨((Vla S f t).sensor=(i:Int)∧((Vla S f t).span=nothingS∨_)));refine ⟨yF _,.inr ⟨by show Jsa S f.address=_;omega,?_⟩⟩;show (if f.kind=1 then Jva _ _ else nothingS)=nothingS∨-549755813888≤(if f.kind=1 then Jva _ _ else nothingS).low;split;·exact Jpe _ _
   ·exact .inl rfl
  ·rw [← yh];exact (h.mono ht) i hi
 ·exact h.mono ht
def Vde {S : List XSens} {T t : Int} (ht : T ≤ t) : ∀ (l : List XTele) {m : List XMeas}, MeasI T m → m.length = S.length → MeasI t (l.foldl (Zqa S t) m)
 | [],m,h,_=>h.mono ht
 | f :: l,m,h,hl=>Vde (T:=t) (yF _) l (Vjf f h ht hl) ((Ygc ..).trans hl)
section
variable {g:PSite} {p:PSta}
def Vpb {t:Int} (h:MeasI t p.meas):MeasI (Jh g p t).time (Jh g p t).meas:=by rw [Yn,(K3a t).meas];exact h
def Z0f (hI:Inv g p) (h:MeasI p.time p.meas) (a:PAct) (hw:0≤a.wait):MeasI (Kva g p a).1.time (Kva g p a).1.meas∧p.time≤(Kva g p a).1.time∧(Kva g p a).1.time≤p.time + a.wait:=by
 have ht:p.time≤p.time + a.wait:=by omega
 have hs:=Vpb (g:=g) (p:=p) (h.mono ht);have hst:=Yn (g:=g) (p:=p) (p.time + a.wait);have h0:MeasI p.time p.meas∧p.time≤p.time∧p.time≤p.time + a.wait:=⟨h,yF _,ht⟩;rw [Kva];split;·
  rw [Yzb]; split;·exact h0
  ·have h1 := Vpb (g := g) (p := feedR g p a.bytes (p.time + a.wait)) (Vde (S := g.site.sensors.l) (t := p.time + a.wait) ht (Ve (p.held ++ a.bytes) p.dropped).out h hI.meas);have h2:=Yn (g:=g) (p:=feedR g p a.bytes (p.time + a.wait)) (p.time + a.wait);dsimp only;exact ⟨h1,by omega,by omega⟩
 split;·
  rw [J6a]; split;·exact h0
  split;·exact h0
  ·have h1 := Vpb (g := g) (p := { p with sw := Jga p.sw a.n (a.m - 1) }) (h.mono ht);have h2:=Yn (g:=g) (p:={ p with sw:=Jga p.sw a.n (a.m - 1) }) (p.time + a.wait);dsimp only at h1 h2 ⊢;exact ⟨h1,by omega,by omega⟩
 split;·
  rw [Vtd]; split;·exact h0
  exact uav
 split;·
  rw [Za]; split;·exact h0
  exact uav
 split;·
  rw [Vfa]; split;·exact h0
  exact uav
 ·
  rw [Yxa]; split;·exact h0
  ·dsimp only;exact ⟨hs,by omega,by omega⟩
def Une (hI : Inv g p) : ∀ (k : Nat) (v : Int), k ≤ g.site.conds.l.length → Ufd g p k v ≤ v ∧ (v = 1099511627776 ∨ v ≤ p.time + 100000 → Ufd g p k v = 1099511627776 ∨ Ufd g p k v ≤ p.time + 100000)
 | 0,v,_=>⟨yF _,id⟩
 | k + 1,v,hk=>by
  obtain ⟨h1,h2⟩:=Une hI k v za
  rw [Ufd]
  split
  ·rename_i hc
   refine ⟨by omega,fun h=>?_⟩
   have h3:=h2 h
   have h4:Zoc (g.site.conds.l.getD k default).level (p.watches.getD k default)=1099511627776∨Zoc (g.site.conds.l.getD k default).level (p.watches.getD k default)≤p.time + 100000:=by
    rw [Zoc]
    split
    ·exact .inl rfl
    ·rename_i hn
     have hlv:=Vic (hI.sok.cond _ (yi (Ju (l:=g.site.conds.l) (k:=k) default za))) hc
     have hw:=hI.wok _ (yi (Ju (l:=p.watches) (k:=k) default (by rw [hI.wlen];omega)))
     rw [Vz] at hlv
     have:=hw.1.2.2.1
     have:=hw.2
     exact .inr za
   omega
  ·exact ⟨h1,h2⟩
def Yof (hI:Inv g p):Ycc p.sw g.rp=1099511627776∨Ycc p.sw g.rp≤p.time + 100000:=by
 have hok:=hI.fok;have:∀(l:List XSwitch) (v:Int),(∀x∈l,x.since≤p.time)→(v=1099511627776∨v≤p.time + 100000)→l.foldl (Jsb g.rp) v=1099511627776∨l.foldl (Jsb g.rp) v≤p.time + 100000:=by
  intro l;induction l with
  | nil=>exact fun v _ h=>h
  | cons x l ih=>
   intro v hx hv;refine ih _ (fun y hy=>hx y (yK _ hy)) ?_;have:=hx x (yta ..);have:=hok.rp;rw [Jsb];split;·omega
   ·exact hv
 exact this _ _ hI.since (.inl rfl)
def U8e (hI:Inv g p) (h1:Jle g p≠p.time + 1) (h2:Jle g p≠1099511627776):Blind g p.meas p.time∧Jle g p≤Ycc p.sw g.rp∧p.time + 1 < Jle g p∧Jle g p≤p.time + 100000:=by
 have hF:=Yof hI;have hC:=Une hI g.site.conds.l.length (Ycc p.sw g.rp) (ym _);have hC2:=hC.2 hF;have hq:¬ Zse g p≤p.time:=fun h=>h1 (by rw [Jle,if_pos h]);have hd:Jle g p=Zse g p:=by rw [Jle,if_neg hq]
 have hk:¬ Kmb g p=true:=fun h=>by rw [Zse,if_pos h] at hq;omega
 have hQ:Zse g p=Ufd g p g.site.conds.l.length (Ycc p.sw g.rp):=by rw [Zse,if_neg hk]
 refine ⟨fun i hi=>?_,by rw [hd,hQ];exact hC.1,by omega,by omega⟩;rw [Kmb,Bool.not_eq_true,yDb] at hk;have:=hk i (List.mem_range.2 hi);simpa using this
end
end
end Go.Proofs.YtchfclmokpbldaaGreat
