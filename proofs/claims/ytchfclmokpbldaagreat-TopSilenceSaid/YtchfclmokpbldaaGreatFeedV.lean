/-
  Merged texts. By an AI agent.
-/
import Derived.Test.YtchfclmokpbldaaGreatSiteP
import Derived.Test.YtchfclmokpbldaaGreatEval
import Derived.Test.YtchfclmokpbldaaGreatFeedD
import Derived.Test.YtchfclmokpbldaaGreatSiteD
import Derived.Test.YtchfclmokpbldaaGreatCloneS
set_option linter.all false
set_option maxHeartbeats 4000000
set_option maxRecDepth 20000
namespace Go.Proofs.YtchfclmokpbldaaGreat
open Go.Aw Go
section
section
variable {P:Program} {ρ:Operand→Value} {L:LB} {R:LS} {T ty:TypeId} {x y:Operand} {dst:Option Tmp} {pos:String} {after:Array Edge} {guard:Option (Nat×Bool)} (tb:Tabs P)
def Uqe {k : IntKind} {a : Int} {e n sz n2 bt z bt2 z2 k2} {fl fl2 : List (Nat × Nat)} {i : Nat} {b o : Nat} (hT : Yv tb.tab T = some ⟨.array n e, sz, fl, bt, z⟩) (hE : Yv tb.tab e = some ⟨k2, n2, fl2, bt2, z2⟩)
 (hx:ρ x=.pointer (some ⟨b,o,none⟩)) (hy:ρ y=.int k a) (hi:a=(i:Int)) (hlt:i < n):
 YV P ⟨dst,.indexAddr T x y,ty,pos,after,guard⟩ ρ L R (.pointer (some ⟨b,o + i * n2,none⟩)):=fun _ w _=>by
 have hu:=Z6b (tb.ok _ _ hT) rfl
 have hs:=Go.Aw.run_sizeOf (tb.ok _ _ hE)
 simp only at hs
 subst hi
 simp [execOp,hx,hy,Instr.indexAt,Instr.sureAddr,asIntOf,run_underlying hu,hs,hlt,Kda]
def Ywe {k : IntKind} {a : Int} {e n sz bt z bt2 z2 k2} {fl fl2 : List (Nat × Nat)} {i : Nat} {cs : Array Value} {v : Value} (hT : Yv tb.tab T = some ⟨.array n e, sz, fl, bt, z⟩) (hE : Yv tb.tab e = some ⟨k2, 1, fl2, bt2, z2⟩) (hk : k2.isAgg = false)
 (hx:ρ x=.agg cs) (hy:ρ y=.int k a) (hi:a=(i:Int)) (hlt:i < n) (hv:cs[i]?=some v):
 YV P ⟨dst,.index T x y,ty,pos,after,guard⟩ ρ L R v:=fun _ w _=>by
 have hu:=Z6b (tb.ok _ _ hT) rfl
 have hs:=Go.Aw.run_sizeOf (tb.ok _ _ hE)
 simp only at hs
 subst hi
 have ha:=Go.Aw.run_isAgg (tb.ok _ _ hE) w
 simp only at ha
 simp [execOp,hx,hy,Instr.index,asIntOf,run_underlying hu,hs,hlt,part,ha,hk,hv]
end
attribute [local irreducible] CJ LJ DJ Tri YV Gives Uq J2 Km Ur RV J4 OwL.L
def Uses (l:List XNode) (k:Nat) (bs:List Bool):Prop:=bs.length=64∧∀i:Nat,i < 64→(bs.getD i false=true↔∃j:Nat,j < k∧j < l.length∧(l.getD j default).kind=1∧(l.getD j default).cond=(i:Int))
def Uses.zero (l:List XNode):Uses l 0 (List.replicate 64 false):=⟨by simp,fun i hi=>by
 rw [yh,yK,if_pos hi]
 exact ⟨fun h=>zI,fun ⟨j,h,_⟩=>absurd h (Nat.not_lt_zero _)⟩⟩
def Uses.skip {l:List XNode} {k:Nat} {bs:List Bool} (h:Uses l k bs) (hk:(l.getD k default).kind≠1):Uses l (k + 1) bs:=⟨h.1,fun i hi=>(h.2 i hi).trans ⟨fun ⟨j,h1,h2⟩=>⟨j,by omega,h2⟩,fun ⟨j,h1,h2⟩=>⟨j,by
 rcases yl j k with h3 | h3
 ·exact h3
 ·obtain rfl : j = k := by omega
  exact absurd h2.2.1 hk,h2⟩⟩⟩
def Uses.take {l:List XNode} {k c:Nat} {bs:List Bool} (h:Uses l k bs) (hl:k < l.length) (hk:(l.getD k default).kind=1) (hc:(l.getD k default).cond=(c:Int)):Uses l (k + 1) (bs.set c true):=⟨by rw [yE];exact h.1,fun i hi=>by
 rw [yh,yG]
 split
 ·rename_i e
  subst e
  rw [if_pos (by rw [h.1];exact hi)]
  exact ⟨fun _=>⟨k,by omega,hl,hk,hc⟩,fun _=>rfl⟩
 ·rename_i e
  rw [← yh]
  exact (h.2 i hi).trans ⟨fun ⟨j,h1,h2⟩=>⟨j,by omega,h2⟩,fun ⟨j,h1,h2⟩=>⟨j,by
   rcases yl j k with h3 | h3
   ·exact h3
   ·obtain rfl : j = k := by omega
    exfalso
    have:=h2.2.2
    rw [hc] at this
    exact e za,h2⟩⟩⟩
def Zne (l:Arr XNode) (L:LB) (R:LS) (hl:InR (Yfc l) R) (hr:Y6 l.l=true) (hc:∀x∈l.l,x.kind=1→0≤x.cond∧x.cond < 64):
 Tri Tryz.prog 35 [l.val].toArray L R (fun v M U=>∃q:OwL Int,v=q.val∧q.ok 1 Jk∧q.l.length≤64∧(∀c∈q.l,0≤c∧∃x∈l.l,x.kind=1∧x.cond=c)∧(∀x∈l.l,x.kind=1→x.cond∈q.l)∧q.L 3 Jk ++ L=M∧R=U):=by
 have hln:l.l.length≤64:=by
  have h:=hr
  rw [Y6,yq,decide_eq_true_iff] at h
  exact h.1.2
 refine Jd 37 Tryz.call35 Tryz.func35 rfl rfl rfl ?_
 apply qae∘Xbz∘qbm
 refine q_l rfl (Jvb l _ _ hl) ?_
 apply (Xbl)
 refine q_c ?_ ?_<;>intro hc0
 ·
  apply Xcu∘qbh
  refine q_r L R zkd ?_
  exact absurd hr zE
 apply qbv∘qaq
 intro b3
 apply (qco)
 refine U0 (M:=⟨b3,(List.replicate 64 false).map Value.bool,201⟩ :: L) rfl ?_
 apply qay∘Xb5
 refine Jl [(3,.pointer _),(12,.slice _ _ _),(13,.int _ _),(14,.int _ _)] zh fun tq0=>?_
 refine q_p ([5]++rg 14 11) ((⟨fun g=>[(14,.int .i64 ((g.1.1:Nat):Int))],fun g=>⟨b3,g.1.2.map Value.bool,201⟩ :: L,fun _=>R,fun g=>l.l.length - g.1.1⟩:Head {g:Nat×List Bool // g.1≤l.l.length∧Uses l.l g.1 g.2})) (⟨(0,List.replicate 64 false),by dsimp only;omega,.zero _⟩) ?_
 rintro ⟨⟨k,bs⟩,hk,hu⟩ junk
 try dsimp only
 dsimp only at hk hu
 apply (Xan)
 refine q_c ?_ ?_<;>intro hc1
 ·
  have hg:=Jt (l:=l.l) (k:=k) default za
  obtain ⟨x,hx⟩:∃x,x=l.l.getD k default:=⟨_,rfl⟩
  rw [← hx] at hg
  have hxm:=yi hg
  apply (qbb)
  refine Jy zC rfl ?_
  apply (Xcs)
  intro b5
  apply Xb9∘Xbm
  refine q_c ?_ ?_<;>intro hc2
  ·
   have hcr:=hc x hxm hc2
   obtain ⟨c,hce⟩:∃c:Nat,x.cond=(c:Int):=⟨x.cond.toNat,by omega⟩
   have hk1:(l.l.getD k default).kind=1:=by rw [← hx];exact hc2
   have hk2:(l.l.getD k default).cond=(c:Int):=by rw [← hx];exact hce
   have hb:0 + c * 1 < (bs.map Value.bool).length:=by rw [yA,hu.1];omega
   apply qay∘Xaa
   refine Jy (Uqe tb rfl rfl rfl rfl (i:=c) hce za) rfl ?_
   refine Uha (v:=.bool true) (cs':=(bs.set c true).map Value.bool) tb rfl rfl rfl rfl zB (by rw [Nat.blt_eq];exact hb) (by rw [List.map_set,show 0 + c * 1=c by omega]) rfl ?_
   apply (Xa8)
   exact q_k ⟨(k + 1,bs.set c true),by dsimp only;omega,hu.take za hk1 hk2⟩
  apply (Xay)
  exact q_k ⟨(k + 1,bs),by dsimp only;omega,hu.skip (by rw [← hx];exact hc2)⟩
 obtain rfl:k=l.l.length:=by omega
 apply qbk∘Xbz
 refine Jy (Jm (row:=bs.map Value.bool) tb rfl rfl rfl zf (by rw [sub,ygb,yN];rw [yA,hu.1];exact ym _) (by rw [yA,hu.1])) rfl ?_
 apply (Xao)
 refine Jl [(6,.slice _ _ _),(25,.agg _),(26,.int _ _)] zh fun tq1=>?_
 refine Ub ([6,7,8]++rg 26 10) ((⟨fun g=>[(26,.int .i64 ((g.1.1:Nat):Int)),(6,g.1.2.val)],fun g=>g.1.2.L 3 Jk ++ (⟨b3,bs.map Value.bool,201⟩ :: L),fun _=>R,fun g=>64 - g.1.1⟩:Head {g:Nat×OwL Int // g.1≤64∧g.2.ok 1 Jk∧g.2.l=((List.range g.1).filter fun i=>bs.getD i false).map Int.ofNat})) (⟨(0,OwL.nil),by dsimp only;omega,OwL.nil_ok,rfl⟩) zh zK zBb ?_
 rintro ⟨⟨i,q⟩,hi,hqk,hql⟩ junk
 try dsimp only
 dsimp only at hi hqk hql
 have hqn:q.l.length≤i:=by
  rw [hql,yA]
  exact yna (List.length_filter_le _ _) (by rw [ypb];exact ym _)
 apply (Xan)
 refine q_c ?_ ?_<;>intro hc3
 ·
  have hbg:(bs.map Value.bool).toArray[i]?=some (.bool (bs.getD i false)):=by
   rw [List.getElem?_toArray,yr,Jt (l:=bs) (k:=i) false (by rw [hu.1];omega)];rfl
  have hsu:((List.range (i + 1)).filter fun i=>bs.getD i false).map Int.ofNat=if bs.getD i false=true then q.l ++ [(i:Int)] else q.l:=by
   rw [ykb,List.filter_append,yV,← hql]
   by_cases h:bs.getD i false=true
   ·rw [if_pos h,show List.filter (fun i=>bs.getD i false) [i]=[i] from by simp only [List.filter,h]];rfl
   ·rw [if_neg h,show List.filter (fun i=>bs.getD i false) [i]=[] from by simp only [List.filter,Bool.eq_false_iff.2 h]];simp
  apply (Xa4)
  refine Jy (Ywe tb rfl rfl rfl rfl rfl (i:=i) rfl za hbg) rfl ?_
  apply Xbw∘qam∘qah∘qaf
  refine q_c ?_ ?_<;>intro hc4
  ·
   apply Xcg∘qcx
   rintro v M U ⟨b33,rfl,rfl,hR33⟩
   replace hR33:=hR33.symm;subst hR33
   refine Y3 (Jv (f:=Jk) (p:=q) (a:=(i:Int)) tb rfl rfl rfl rfl (hqk) zj zwb rfl zA) rfl ?_
   rintro v M U ⟨o34,rfl,hok34,rfl,rfl⟩
   apply qc4∘Xa8
   exact q_k ⟨(i + 1,⟨o34,q.l ++ [(i:Int)]⟩),by dsimp only;omega,hok34,by dsimp only;rw [hsu,if_pos hc4]⟩
  apply (Xay)
  exact q_k ⟨(i + 1,q),by dsimp only;omega,hqk,by dsimp only;rw [hsu,if_neg (by rw [hc4];decide)]⟩
 obtain rfl:i=64:=by omega
 apply Xc7∘Xcn
 refine q_r (q.L 3 Jk ++ L) R zkd ?_
 exact ⟨q,rfl,hqk,hqn,fun c h=>by
 rw [hql] at h
 obtain ⟨j,hj,rfl⟩:=List.mem_map.1 h
 rw [List.mem_filter,yqa] at hj
 obtain ⟨k,_,hkl,h1,h2⟩:=(hu.2 j hj.1).1 hj.2
 exact ⟨yWb j,_,yi (Jt (l:=l.l) (k:=k) default hkl),h1,h2⟩,fun x hx h1=>by
 have hcr:=hc x hx h1
 obtain ⟨k,hkl,rfl⟩:=yAa hx
 rw [hql]
 refine List.mem_map.2 ⟨l.l[k].cond.toNat,?_,by show ((l.l[k].cond.toNat:Nat):Int)=_;omega⟩
 rw [List.mem_filter,yqa]
 have e:l.l.getD k default=l.l[k]:=by rw [yh,yC hkl];rfl
 exact ⟨by omega,(hu.2 _ za).2 ⟨k,hkl,hkl,by rw [e];exact h1,by rw [e];omega⟩⟩,rfl,rfl⟩
end
section
attribute [local irreducible] CJ LJ DJ Tri YV Gives Uq J2 Km Ur RV J4 OwL.L
def Yhe {l:List Bool}:∀{k:Nat},l[k]?=some false→(l.set k true).count true=l.count true + 1:=by
 induction l with
 | nil=>intro k h;simp at h
 | cons b l ih=>
  intro k h;cases k with
  | zero=>simp only [ybb,yNa] at h;subst h;simp
  | succ k=>simp only [List.getElem?_cons_succ] at h;simp only [yXb,List.count_cons,ih h];omega
def Jqe {l:List Bool} (h:l.count true < l.length):∃j:Nat,l[j]?=some false:=by
 induction l with
 | nil=>simp at h
 | cons b l ih=>
  cases b with
  | false=>exact ⟨0,rfl⟩
  | true=>simp only [List.count_cons_self,yw] at h;obtain ⟨j,hj⟩:=ih za;exact ⟨j + 1,hj⟩
def Y4e {m m2 jf n:Int} (hm:0≤m∧m < n) (hj:0≤jf∧jf < n) (hne:m≠jf) (h:m2=if m + 1=n then 0 else m + 1):(if m2≤jf then jf - m2 else jf - m2 + n).toNat < (if m≤jf then jf - m else jf - m + n).toNat:=by split at h <;> (repeat' split) <;> omega
end
section
section
variable {A B:Prop}
def U3g(h:A→B:=by exact Jy (Jw tb ((⟨.own b42 p.l.length [],fr⟩:OwL Bool)) _ rfl rfl ((show _=Value.slice _ _ _ from rfl).trans (Uu hfl)) rfl zi (i:=m.toNat) zk zw) rfl):=h
end
structure SwD (l:List XSwitch):Prop where
 at_:∀(i:Nat) (x:XSwitch),l[i]?=some x→(-1≤x.above∧x.above < i)∧x.since=0∧(-1≤x.shown∧x.shown≤1)∧x.late=false
def SwD.nil:SwD []:=⟨fun i x h=>by simp at h⟩
def SwD.next {l:List XSwitch} (h:SwD l) {x:XSwitch} (h1:-1≤x.above∧x.above < l.length) (h2:x.since=0) (h3:-1≤x.shown∧x.shown≤1) (h4:x.late=false):SwD (l ++ [x]):=⟨fun i y hy=>by
 rw [yea] at hy
 split at hy
 ·exact h.at_ i y hy
 ·rename_i hi
  have:i - l.length=0:=by
   have:=(List.getElem?_eq_some_iff.1 hy).1
   simp only [yn] at this
   omega
  rw [this] at hy
  obtain rfl:x=y:=by simpa using hy
  exact ⟨by omega,h2,h3,h4⟩⟩
def SwD.since {l:List XSwitch} (h:SwD l):∀x∈l,x.since=0:=fun x hx=>by
 obtain ⟨i,hi⟩:=List.mem_iff_getElem?.1 hx
 exact (h.at_ i x hi).2.1
structure ZnD (q:List Int) (fr:List Bool):Prop where
 rng:∀x∈q,0≤x∧fr[x.toNat]?=some true
 nd:∀i j:Nat,j < i→i < q.length→q.getD j 0≠q.getD i 0
def ZnD.nil {fr:List Bool}:ZnD [] fr:=⟨fun x h=>zI,fun i j _ h=>absurd h (Nat.not_lt_zero _)⟩
def ZnD.next {q:List Int} {fr:List Bool} (h:ZnD q fr) {m:Int} (hm:0≤m) (hf:fr[m.toNat]?=some false):ZnD (q ++ [m]) (fr.set m.toNat true):=by
 have hl:=(List.getElem?_eq_some_iff.1 hf).1;have hne:∀x∈q,x≠m:=fun x hx e=>by subst e;rw [(h.rng x hx).2] at hf;cases hf
 refine ⟨fun x hx=>?_,fun i j hj hi=>?_⟩;·
  rcases List.mem_append.1 hx with hx | hx;·have := h.rng x hx;have:=hne x hx;refine ⟨by omega,?_⟩;rw [yG,if_neg za];exact (h.rng x hx).2
  ·rw [List.mem_singleton.1 hx];refine ⟨hm,?_⟩;rw [yG,if_pos rfl,if_pos hl]
 ·
  rw [yj, yn] at hi;rw [yh,yh,yz za];rcases yl i q.length with h1 | h1;·rw [yz h1, ← yh, ← yh];exact h.nd i j hj h1
  ·(obtain rfl : i = q.length := by omega);rw [yB (ym _),yzb];rw [← yh];exact hne _ (yi (Jt (l:=q) (k:=j) 0 za))
def Ycg {l:List XSwitch} {q:List Int} {fr:List Bool} {rp:Int} (h:SwD l) (k:ZnD q fr) (hf:fr.length=l.length) (hl:l.length≤18) (hq:q.length≤16) (hr:1≤rp∧rp≤9):feedE l q rp=0:=by
 rw [Klb za,if_neg za];·
  rw [yH];intro i hi;rw [yqa] at hi;have:=h.at_ i _ (Jt default hi);exact Kxd rfl za za (fun h9=>by
   rcases h9 with h9 | h9;·omega
   ·rw [this.2.2.2] at h9;exact absurd h9.1 ze)
 ·rw [yH];intro i hi;rw [yqa] at hi;have h1:=k.rng _ (yi (Jt 0 hi));have h2:=(List.getElem?_eq_some_iff.1 h1.2).1;exact Ktd za (fun ⟨j,hj,e⟩=>k.nd i j hj hi e)
attribute [local irreducible] CJ LJ DJ Tri YV Gives Uq J2 Km Ur RV J4 OwL.L
def Zxb (c:Nat) (x:Arr Int) (k:Nat) (n:Nat) (R:LS) (hx:CodesR x R) (hk:k≤x.l.length) (hn:n≤16):
 Tri Tryz.prog 31 [.pointer (some ⟨c, 0, none⟩), .int .i64 n].toArray [cblk c x k] R
  (fun v M U=>∃(p:OwL XSwitch) (q:OwL Int) (rp:Int) (k':Nat),v=.agg #[p.val,q.val,.int .i64 rp]∧(p.ok 5 XSwitch.cells∧q.ok 1 Jk)∧(p.l.length≤18∧1≤p.l.length)∧q.l.length=n∧feedE p.l q.l rp=0∧(∀x∈p.l,x.since=0)∧k'≤x.l.length∧q.L 3 Jk ++ (p.L 76 XSwitch.cells ++ (cblk c x k' :: []))=M∧R=U):=by
 refine Jd 72 Tryz.call31 Tryz.func31 rfl rfl rfl ?_;apply (Xco);intro b4;apply (Xdd);refine Jo rfl (Jta zp hx hk za) rfl ?_;rintro v M U ⟨rp,k1,rfl,g1,g1',hk1,rfl,rfl⟩;refine Jy (J8 (qs:=[(2,(Value.int _ _).cells.toList)]) (out:=[_,_,_]) tb rfl rfl rfl rfl) rfl ?_;apply (qaq);intro b5;apply Xa0∘qaa∘qa6;refine Jo rfl (Yg zp hx hk1 za) rfl ?_;rintro v M U ⟨n0,k2,rfl,g2,g2',g2'',hk2,rfl,rfl⟩;have g2q:=g2' za;apply qar∘Xap∘Xba;refine Jl [(0,.pointer _),(1,.int _ _),(4,.pointer _),(5,.pointer _),(6,.int _ _),(7,.int _ _)] zh fun tq0=>?_;refine Ub ([7]++rg 18 21) ((⟨fun g=>[(7,.int .i64 ((g.1.1:Nat):Int))],fun g=>⟨b5,[g.1.2.1.val,.slice none 0 0,.int .i64 rp],42⟩ :: (g.1.2.1.L 76 XSwitch.cells ++ (⟨b4,[.slice none 0 0,.slice none 0 0,.int .i64 0],42⟩ :: cblk c x g.1.2.2 :: [])),fun _=>R,fun g=>18 - g.1.1⟩:Head {g:Nat×OwL XSwitch×Nat // ((g.1:Int)≤max ((n:Int) + n0) 1∧g.2.1.l.length=g.1)∧g.2.1.ok 5 XSwitch.cells∧SwD g.2.1.l∧g.2.2≤x.l.length})) (⟨(0,OwL.nil,k2),⟨by dsimp only;omega,rfl⟩,OwL.nil_ok,SwD.nil,hk2⟩) zh zK zBb ?_;rintro ⟨⟨i,p,k3⟩,⟨hi,hpn⟩,hpk,hpd,hk3⟩ junk;try dsimp only
 dsimp only at hi hpn hpk hpd hk3;apply (Xd0);refine Jy zgc rfl ?_;apply (Xbb);refine q_c ?_ ?_<;>intro hc0;·refine J3 (Jb (Jp (Kc ?_)));refine J5 tb [] [0,1,2,3,4,7,9,5,6,8,10,11,12] [13,14,15] ([Blk.mk b5 _ _]) _ Kr zc zg yd ?_;apply Xcj∘qbf∘qcj∘qb3∘qb3;refine Ks rfl (Yg zp hx hk3 za) rfl rfl ?_;rintro v M U ⟨r1,k4,rfl,f1,f1',f1'',hk4,rfl,rfl⟩;refine ⟨zg,zq,?_⟩;have f1q:=f1' za;apply (qcc);refine Ks rfl (Zbe zp hx hk4 za) rfl rfl ?_;rintro v M U ⟨bo,k5,rfl,hk5,rfl,rfl⟩;refine ⟨zg,zq,?_⟩;refine Ks rfl (Z2f zp hx hk5) rfl rfl ?_;rintro v M U ⟨r2,k6,rfl,f2,hk6,rfl,rfl⟩;refine ⟨zg,zq,?_⟩;refine Kp (J8 (qs:=[(0,(Value.int _ _).cells.toList),(3,(Value.bool _).cells.toList),(2,(Value.int _ _).cells.toList),(1,(Value.int _ _).cells.toList)]) (out:=[_,_,_,_,_]) tb rfl rfl rfl rfl) rfl rfl rfl rfl ?_;refine Umb zXb rfl rfl rfl ?_;rintro v M U ⟨b36,rfl,rfl,hR36⟩;replace hR36:=hR36.symm;subst hR36;apply (Xb1);refine Yua (Jv (f:=XSwitch.cells) (p:=p) (a:=⟨r1 - 1,0,r2,bo,false⟩) tb rfl rfl rfl rfl (hpk) zj zwb rfl zA) rfl rfl rfl ?_;rintro v M U ⟨o37,rfl,hok37,rfl,rfl⟩;apply Xc8∘Xbo;exact q_k ⟨(i + 1,(⟨o37,p.l ++ [⟨r1 - 1,0,r2,bo,false⟩]⟩:OwL XSwitch),k6),⟨by dsimp only;omega,by dsimp only;rw [yj,yn];omega⟩,hok37,hpd.next (by rw [hpn];dsimp only;omega) rfl zu rfl,hk6⟩
 have hpl:1≤p.l.length∧n≤p.l.length∧p.l.length≤18:=by omega
 apply qbk∘Xab∘qc7;rintro v M U ⟨b42,rfl,rfl,hR42⟩;replace hR42:=hR42.symm;subst hR42;apply Xbz∘Xba;refine Jl [(0,.pointer _),(1,.int _ _),(4,.pointer _),(5,.pointer _),(8,.slice _ _ _),(9,.int _ _)] zh fun tq1=>?_;refine U0 zec ?_;refine Ub ([9,10]++rg 43 28) ((⟨fun g=>[(9,.int .i64 ((g.1.1:Nat):Int))],fun g=>(⟨.own b42 p.l.length [],g.1.2.2.1⟩:OwL Bool).L 4 blc ++ (⟨b5,[p.val,g.1.2.1.val,.int .i64 rp],42⟩ :: (g.1.2.1.L 3 Jk ++ (p.L 76 XSwitch.cells ++ (⟨b4,[.slice none 0 0,.slice none 0 0,.int .i64 0],42⟩ :: cblk c x g.1.2.2.2 :: [])))),fun _=>R,fun g=>n - g.1.1⟩:Head {g:Nat×OwL Int×List Bool×Nat // (g.1≤n∧g.2.1.l.length=g.1)∧g.2.1.ok 1 Jk∧(g.2.2.1.length=p.l.length∧g.2.2.1.count true=g.1)∧ZnD g.2.1.l g.2.2.1∧g.2.2.2≤x.l.length})) (⟨(0,OwL.nil,List.replicate p.l.length false,k3),⟨by dsimp only;omega,rfl⟩,OwL.nil_ok,⟨by dsimp only;rw [yoa],by simp [List.count_replicate]⟩,ZnD.nil,hk3⟩) zh zK zBb ?_;rintro ⟨⟨j,q,fr,k4⟩,⟨hj,hqn⟩,hqk,⟨hfl,hfc⟩,hqd,hk4⟩ junk;try dsimp only
 dsimp only at hj hqn hqk hfl hfc hqd hk4;have hfk:(⟨.own b42 p.l.length [],fr⟩:OwL Bool).ok 1 blc:=by have:=Yl (f:=blc) (wd:=1) (b:=b42) (n:=p.l.length) (x:=false) Kra zF;exact OwL.len_ok Kra this zha
 apply Xd0∘Xbb;refine q_c ?_ ?_<;>intro hc1;·
  obtain ⟨jf,hjf⟩:=Jqe (l:=fr) za;apply Xd1∘Xab;refine Jo rfl (Yg zp hx hk4 za) rfl ?_;rintro v M U ⟨m0,k5,rfl,e1,e1',e1'',hk5,rfl,rfl⟩;have e1q:=e1' za;apply (qad);refine J7 (Jb (Jp (Kc ?_)));refine Vd ([9,10]++rg 43 28) zJ [(9,.int _ _),(10,.int _ _)] zh fun tq2=>?_;refine q_p ([10]++rg 53 9) ((⟨fun g=>[(10,.int .i64 g.1)],fun _=>(⟨.own b42 p.l.length [],fr⟩:OwL Bool).L 4 blc ++ (⟨b5,[p.val,q.val,.int .i64 rp],42⟩ :: (q.L 3 Jk ++ (p.L 76 XSwitch.cells ++ (⟨b4,[.slice none 0 0,.slice none 0 0,.int .i64 0],42⟩ :: cblk c x k5 :: [])))),fun _=>R,fun g=>(if g.1≤jf then (jf:Int) - g.1 else (jf:Int) - g.1 + p.l.length).toNat⟩:Head {m:Int // 0≤m∧m < p.l.length})) (⟨m0,by omega⟩) ?_;rintro ⟨m,hm⟩ junk;try dsimp only
  have hmg:=Jt (l:=fr) (k:=m.toNat) false za;have htm:(m + 1).tmod (p.l.length:Int)=if m + 1=p.l.length then 0 else m + 1:=by
   rw [yrb za];split;·rename_i h;rw [h,Int.emod_self]
   ·exact yfc za za
  apply qbi∘Xas∘U3g;refine Jy (Ke tb ((⟨.own b42 p.l.length [],fr⟩:OwL Bool)) rfl rfl rfl zj zi yf zi zb) rfl ?_;apply (qaf);refine q_c ?_ ?_<;>intro hc2;·(have hne:m≠jf:=fun h=>by subst h;rw [yD] at hmg hc2;rw [hjf,hc2] at hmg;cases hmg);refine J3 (Jb (Kc (Jh ?_)));apply Xa2∘Xaq∘qda∘qad;refine J7 (Jf ?_);exact Ki ⟨(m + 1).tmod (p.l.length:Int),by rw [htm];split <;> omega⟩ zm zh zg zBb (by have hjl:=(List.getElem?_eq_some_iff.1 hjf).1;exact Y4e hm ⟨by omega,by omega⟩ hne htm)
  apply qbk∘Xas∘U3g;refine Ye (Ju tb ((⟨.own b42 p.l.length [],fr⟩:OwL Bool)) (true) rfl rfl rfl rfl zj zi yf zi ze zb zb) ?_;rintro v M U ⟨rfl,rfl⟩;refine J7 (Jb (Jh ?_));apply Xah∘qcx;rintro v M U ⟨b68,rfl,rfl,hR68⟩;replace hR68:=hR68.symm;subst hR68;refine Y3 (Jv (f:=Jk) (a:=m) tb rfl rfl rfl rfl (hqk) zj zwb rfl zA) rfl ?_;rintro v M U ⟨o69,rfl,hok69,rfl,rfl⟩;apply Xbf∘Xdo;exact q_k ⟨(j + 1,(⟨o69,q.l ++ [m]⟩:OwL Int),fr.set m.toNat true,k5),⟨by dsimp only;omega,by dsimp only;rw [yj,yn];omega⟩,hok69,⟨by dsimp only;rw [yE];exact hfl,by dsimp only;rw [Yhe (by rw [hmg,hc2]),hfc]⟩,hqd.next hm.1 (by rw [hmg,hc2]),hk5⟩
 obtain rfl:j=n:=by omega
 apply (qbk);refine Jy zrb rfl ?_;apply (Xbd);refine q_r (q.L 3 Jk ++ (p.L 76 XSwitch.cells ++ (cblk c x k4 :: []))) R (Va rfl zsb) ?_;exact ⟨p,q,rp,k4,rfl,⟨hpk,hqk⟩,by omega,hqn,Ycg hpd hqd hfl za za za,hpd.since,hk4,rfl,rfl⟩
def U7d (c:Nat) (x:Arr Int) (k:Nat) (n:Nat) (R:LS) (hx:CodesR x R) (hk:k≤x.l.length) (hn:n≤16):
 Tri Tryz.prog 31 [.pointer (some ⟨c, 0, none⟩), .int .i64 n].toArray [cblk c x k] R
  (fun v M U=>∃(f:XFeeder) (k':Nat),v=f.val∧(f.switches.l.length≤18∧1≤f.switches.l.length)∧f.zones.l.length=n∧feedE f.switches.l f.zones.l f.reply=0∧(∀x∈f.switches.l,x.since=0)∧k'≤x.l.length∧(FeederR f U∧∀r∈R,InR r U)∧cblk c x k' :: []=M):=by refine Tri.postW (Zxb c x k n R hx hk hn) ?_;rintro v M U c w ⟨sw,zn,rp,k',rfl,⟨hsk,hzk⟩,h1,h2,h3,h4,hk',rfl,rfl⟩ hst;have h5:=hst.frzO (subs:=[]) hzk yf ze yg;have h6:=h5.frzO (subs:=[]) hsk yf ze yg;exact ⟨_,_,h6,⟨sw.arr,zn.arr,rp⟩,k',rfl,h1,h2,h3,h4,hk',⟨⟨Ja (.head _),Ja (.tail _ (.head _))⟩,fun r hr=>Ja (.tail _ (.tail _ hr))⟩,rfl⟩
end
end Go.Proofs.YtchfclmokpbldaaGreat
