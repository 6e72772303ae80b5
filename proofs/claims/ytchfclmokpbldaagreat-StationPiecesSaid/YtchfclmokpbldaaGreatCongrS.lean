/-
  Merged texts. By an AI agent.
-/
import Derived.Test.YtchfclmokpbldaaGreatRel
import Derived.Test.YtchfclmokpbldaaGreatAnal
import Derived.Test.YtchfclmokpbldaaGreatCflowR
import Derived.Test.YtchfclmokpbldaaGreatFits
set_option linter.all false
set_option maxHeartbeats 4000000
set_option maxRecDepth 20000
namespace Go.Proofs.YtchfclmokpbldaaGreat
open Go.Aw Go
section
section
variable {a:XAir} {s:XSetting} {A:List Bool} {l m:List Int} {k:Nat} {v:Int}
def Y7d (h0:PresOk l) (h:Kda a s true l k=some v):l.getD k 0≤v∧0≤Uic a s (l.set k v) (k:Int)∧∀w,l.getD k 0≤w→w < v→Uic a s (l.set k w) (k:Int) < 0:=by
 obtain ⟨d,d0,d1,dv,dg,dj⟩:=(Zea (Ycb (h0.get k)).1 h).yes rfl;have e:∀x,Krc a s true l (k:Int) x=Jsf a s l (k:Int) x:=fun x=>by rw [Krc,if_pos rfl]
 rw [e,decide_eq_true_eq,yB] at dg;have es:sgn true=1:=rfl;rw [es] at dv dj;refine ⟨by omega,dg,fun w w1 w2=>?_⟩;have:=dj (w - l.getD k 0) za za;rw [show l.getD k 0 + 1 * (w - l.getD k 0)=w by omega,e,decide_eq_false_iff_not,yB] at this;omega
def Vgc (h0:PresOk l) (h:Kda a s false l k=some v):v≤l.getD k 0∧Vua a s (l.set k v) (k:Int)≤0∧∀w,w≤l.getD k 0→v < w→0 < Vua a s (l.set k w) (k:Int):=by
 obtain ⟨d,d0,d1,dv,dg,dj⟩:=(Zea (Ycb (h0.get k)).1 h).yes rfl;have e:∀x,Krc a s false l (k:Int) x=Z2c a s l (k:Int) x:=fun x=>by rw [Krc,if_neg ze]
 rw [e,decide_eq_true_eq,yB] at dg;have es:sgn false= -1:=rfl;rw [es] at dv dj;refine ⟨by omega,dg,fun w w1 w2=>?_⟩;have:=dj (l.getD k 0 - w) za za;rw [show l.getD k 0 + -1 * (l.getD k 0 - w)=w by omega,e,decide_eq_false_iff_not,yB] at this;omega
end
def Zoa {a : XAir} {s : XSetting} {A : List Bool} {up : Bool} {l : List Int} : ∀ {n : Nat} {m : List Int}, Uw a s A up l n = some m → ∀ k, k ≤ n → ∃ mk, Uw a s A up l k = some mk ∧ ∀ j : Nat, j < k → m[j]? = mk[j]?
 | 0,m,h,k,hk=>by
  obtain rfl:k=0:=by omega
  exact ⟨m,h,fun j hj=>by omega⟩
 | n + 1,m,h,k,hk=>by
  rcases yl n k with h1 | h1
  ·obtain rfl : k = n + 1 := by omega
   exact ⟨m,h,fun _ _=>rfl⟩
  ·have h' := h
   rw [Uw,yIa] at h'
   obtain ⟨m1,e1,e2⟩:=h'
   obtain ⟨mk,f1,f2⟩:=Zoa e1 k h1
   refine ⟨mk,f1,fun j hj=>?_⟩
   rw [← f2 j hj]
   split at e2
   ·cases e2;rfl
   ·obtain ⟨v, _, rfl⟩ := Option.map_eq_some_iff.1 e2
    rw [yaa za]
def Joe {a:XAir} {s:XSetting} {A:List Bool} {up:Bool} {l:List Int} (hl:PresOk l) (hn:l.length=a.mine.places.l.length) (h:Uw a s A up l a.mine.places.l.length=some l) {k:Nat} (hk:k < a.mine.places.l.length) (hf:¬ Yyb a A k=true):Kda a s up l k=some (l.getD k 0):=by
 obtain ⟨m1,e1,e2⟩:=Zoa h (k + 1) za;have e1':=e1;rw [Uw,yIa] at e1';obtain ⟨m0,f1,f2⟩:=e1';obtain ⟨m0',g1,g2⟩:=Zoa h k za;rw [f1] at g1;cases g1;have hS:=Zz hl f1;have em:m0=l:=yoa fun j=>by
  rcases yl j k with h1 | h1;·exact (g2 j h1).symm
  ·exact hS.rest j h1
 subst em;rw [if_neg hf] at f2;obtain ⟨v,hv,rfl⟩:=Option.map_eq_some_iff.1 f2;have:=e2 k za;rw [yO za,Ju (l:=m0) (k:=k) 0 za] at this;rw [hv,yI this]
structure Moved (a:XAir) (A:List Bool) (up:Bool) (l m:List Int):Prop where
 len:m.length=l.length
 le:∀j:Nat,if up=true then l.getD j 0≤m.getD j 0 else m.getD j 0≤l.getD j 0
 fix:∀j:Nat,Yyb a A j=true→m.getD j 0=l.getD j 0
def Moved.refl {a:XAir} {A:List Bool} {up:Bool} {l:List Int}:Moved a A up l l:=⟨rfl,fun j=>by split <;> exact yG _,fun _ _=>rfl⟩
def Moved.trans {a:XAir} {A:List Bool} {up:Bool} {l m n:List Int} (h:Moved a A up l m) (k:Moved a A up m n):Moved a A up l n:=by
 refine ⟨k.len.trans h.len,fun j=>?_,fun j hj=>(k.fix j hj).trans (h.fix j hj)⟩;have h1:=h.le j;have h2:=k.le j;split at h1;·rename_i e;rw [if_pos e] at h2;rw [if_pos e];omega
 ·rename_i e;rw [if_neg e] at h2;rw [if_neg e];omega
def Yxb {a : XAir} {s : XSetting} {A : List Bool} {up : Bool} {l : List Int} (hl : PresOk l) : ∀ {n : Nat} {m : List Int}, n ≤ l.length → Uw a s A up l n = some m → Moved a A up l m
 | 0,m,_,h=>by cases h;exact .refl
 | n + 1,m,hn,h=>by
  have h':=h
  rw [Uw,yIa] at h'
  obtain ⟨m0,e1,e2⟩:=h'
  have ih:=Yxb hl za e1
  have hS:=Zz hl e1
  have hlen:=hS.len
  split at e2
  ·cases e2;exact ih
  ·rename_i hf
   obtain ⟨v,hv,rfl⟩:=Option.map_eq_some_iff.1 e2
   refine ih.trans ⟨by simp,fun j=>?_,fun j hj=>?_⟩
   ·rw [Uea za]
    cases up with
    | true=>
     have:=(Y7d hS.pres hv).1
     simp only [if_true]
     split
     ·rename_i e;subst e;exact this
     ·exact yG _
    | false=>
     have:=(Vgc hS.pres hv).1
     simp only [Bool.false_eq_true,if_false]
     split
     ·rename_i e;subst e;exact this
     ·exact yG _
   ·rw [Uea za,if_neg (fun e=>hf (by rw [← e];exact hj))]
def V5a {a : XAir} {s : XSetting} {A : List Bool} {up : Bool} : ∀ {n : Nat} {l m : List Int}, PresOk l → l.length = a.mine.places.l.length → Vb a s A up n l = some m → Moved a A up l m
 | 0,l,m,_,_,h=>by cases h
 | n + 1,l,m,hl,hn,h=>by
  rw [Vb] at h
  split at h
  ·cases h
  ·rename_i m1 h1
   have hs:=Zz hl h1
   have hm:=Yxb hl za h1
   split at h
   ·cases h;exact hm
   ·exact hm.trans (V5a hs.pres (hs.len.trans hn) h)
def Jkc {a:XAir} {s:XSetting} {A:List Bool} {n:Nat} {l m:List Int} {up:Bool} (hl:PresOk l) (hn:l.length=a.mine.places.l.length) (h:Vb a s A up n l=some m) {k:Nat} (hk:k < a.mine.places.l.length) (hf:¬ Yyb a A k=true):
 if up=true then 0≤Uic a s m (k:Int) else Vua a s m (k:Int)≤0:=by
 obtain ⟨h1,h2,h3⟩:=V1a hl h;have hx:=Joe h2 (h1.trans hn) h3 hk hf;cases up with
 | true=>have:=(Y7d h2 hx).2.1;rw [Yja] at this;simpa using this
 | false=>have:=(Vgc h2 hx).2.1;rw [Yja] at this;simpa using this
def Vxa {a:XAir} {s:XSetting} {A:List Bool} {up:Bool} {ps:List Int} (h:StartOk a s ps A):(K9 a s A up ps).1=0∨(K9 a s A up ps).1=2:=by
 rw [K9,if_neg (by rw [Yba.2 h];decide)];split;·exact .inr rfl
 ·exact .inl rfl
def StartOk.moved {a:XAir} {s:XSetting} {A:List Bool} {up:Bool} {l:List Int} (h:StartOk a s l A) {n:Nat} {m:List Int} (hm:Vb a s A up n l=some m):StartOk a s m A:=by obtain ⟨h1,h2,_⟩:=V1a h.hp hm;have h3:=V5a h.hp h.hl hm;exact ⟨h.h0,h.hf,h1.trans h.hl,h2,fun i hi hf=>(h3.fix i hf).trans (h.fix i hi hf)⟩
def Vkd {a:XAir} {s:XSetting} {A:List Bool} (h0:Kv a=0) (hf:K6a a s=true):StartOk a s (List.replicate a.mine.places.l.length 0) A:=by
 refine ⟨h0,hf,by simp,fun p hp=>?_,fun i hi _=>?_⟩;·rw [(List.mem_replicate.1 hp).2];decide
 ·rw [yh, yK];split <;> rfl
structure Solved (a:XAir) (s:XSetting) (A:List Bool) (lo hi:List Int):Prop where
 lok:StartOk a s lo A
 hok:StartOk a s hi A
 le:∀i:Nat,lo.getD i 0≤hi.getD i 0
 low:∀i:Nat,i < a.mine.places.l.length→¬ Yyb a A i=true→Vua a s lo (i:Int)≤0
 high:∀i:Nat,i < a.mine.places.l.length→¬ Yyb a A i=true→0≤Uic a s hi (i:Int)
def Zbc {a:XAir} {s:XSetting} {A:List Bool} (h0:Kv a=0) (hf:K6a a s=true):((Yq a s A).1=0∧Solved a s A (Yq a s A).2.1 (Yq a s A).2.2)∨(Yq a s A).1=2:=by
 have s0:=Vkd (A:=A) h0 hf;rw [Yq];dsimp only;rcases Vxa (up:=false) s0 with e1 | e1;·
  rw [if_neg za];obtain ⟨_,r1⟩:=Yjb e1;have s1:=s0.moved r1;rcases Vxa (up:=true) s1 with e2 | e2;·
   rw [if_neg za];obtain ⟨_,r2⟩:=Yjb e2;have s2:=s1.moved r2;rcases Vxa (up:=false) s2 with e3 | e3;·
    rw [if_neg za];obtain ⟨_,r3⟩:=Yjb e3;have s3:=s2.moved r3;left;refine ⟨rfl,s3,s2,fun i=>?_,fun i hi hn=>?_,fun i hi hn=>?_⟩;·have := (V5a s2.hp s2.hl r3).le i;simpa using this
    ·have := Jkc s2.hp s2.hl r3 hi hn;simpa using this
    ·have := Jkc s1.hp s1.hl r2 hi hn;simpa using this
   ·rw [if_pos za];exact .inr e3
  ·rw [if_pos za];exact .inr e2
 ·rw [if_pos za];exact .inr e1
def Solved.accept {a:XAir} {s:XSetting} {A:List Bool} {lo hi:List Int} (h:Solved a s A lo hi) {b:XBounds} (e1:b.low.l=lo) (e2:b.high.l=hi):Accept a s b A:=by
 refine ⟨⟨h.lok.h0,h.lok.hf,by rw [e1];exact h.lok.hl,by rw [e2];exact h.hok.hl,by rw [e1];exact h.lok.hp,by rw [e2];exact h.hok.hp⟩,fun i hi2 hf=>?_,fun i hi2 hf=>?_⟩;·rw [e1,e2];exact ⟨h.lok.fix i hi2 hf,h.hok.fix i hi2 hf⟩
 ·rw [e1,e2];exact ⟨h.high i hi2 hf,h.low i hi2 hf⟩
end
section
def Y2f {a:XAir} {s:XSetting} {A:List Bool} (h0:Kv a=0) (hf:K6a a s=true) (hA:AiryIs a.mine A):
 (Ujb a s A).1=0∧((Accept a s (Jub a s A) A∧(∀i:Nat,(Jub a s A).low.l.getD i 0≤(Jub a s A).high.l.getD i 0)∧(Ujb a s A).2=(List.range a.mine.roads.l.length).map (U6 a s (Jub a s A) A))∨(Ujb a s A).2=(List.range a.mine.roads.l.length).map (Ksa a)):=by
 have hfn:¬ K6a a s=false:=by rw [hf];decide
 rw [Ujb,if_neg (by rw [h0];decide),if_neg hfn];rcases Zbc (A:=A) h0 hf with h | h;·have hac : Accept a s (Jub a s A) A := h.2.accept rfl rfl;rw [if_pos h.1,U3,if_pos (Vmd.2 hac)];exact ⟨rfl,.inl ⟨hac,h.2.le,rfl⟩⟩
 ·rw [if_neg (by rw [h]; decide)];exact ⟨rfl,.inr rfl⟩
def Z1d {a:XAir} {s:XSetting} {A:List Bool} (h0:Kv a=0) (hf:K6a a s=true) (hA:AiryIs a.mine A):(Ujb a s A).2.length=a.mine.roads.l.length:=by rcases (Y2f h0 hf hA).2 with ⟨_,_,e⟩ | e <;> rw [e] <;> simp
end
section
attribute [local irreducible] CJ LJ DJ Tri YV Gives Uo J0 Kj Un RV J2 OwL.L
abbrev Yvd (x:Arr XSpan):Sl:=x.sl 2 XSpan.cells []
structure XFace where
 road:Int
 need:Int
 deriving Inhabited
def XFace.cells (s:XFace):List Value:=[.int .i64 s.road,.int .i64 s.need]
abbrev Jsg (x:Arr XFace):Sl:=x.sl 2 XFace.cells []
structure WrTo {α:Type} (n:Nat) (z:α) (g:Nat→α) (i:Nat) (l:List α):Prop where
 len:l.length=n
 don:∀j:Nat,j < i→l[j]?=some (g j)
 non:∀j:Nat,i≤j→j < n→l[j]?=some z
def WrTo.zero {α:Type} {n:Nat} {z:α} {g:Nat→α}:WrTo n z g 0 (List.replicate n z):=⟨by simp,fun j hj=>by omega,fun j _ hj=>by rw [yK,if_pos hj]⟩
def WrTo.next {α:Type} {n:Nat} {z:α} {g:Nat→α} {i:Nat} {l:List α} (h:WrTo n z g i l) (hi:i < n) {x:α} (hx:x=g i):WrTo n z g (i + 1) (l.set i x):=by exact uaG
def WrTo.stay {α:Type} {n:Nat} {z:α} {g:Nat→α} {i:Nat} {l:List α} (h:WrTo n z g i l) (hi:i < n) (hx:z=g i):WrTo n z g (i + 1) l:=by exact uaL
def WrTo.done {α:Type} {n:Nat} {z:α} {g:Nat→α} {l:List α} (h:WrTo n z g n l):l=(List.range n).map g:=by
 have hl:=h.len;refine yoa fun j=>?_;rcases yl j n with hj | hj;·rw [h.don j hj,yt,yda hj];rfl
 ·rw [yr za,yr zC]
def K5e (x:XSpan) (need:Int):Int:=
 if x.high < x.low then 0 else if (need≤0∨need≤x.low)∨x.high≤ -need then 1 else if -need < x.low∧x.high < need then -1 else 0
def Jtb (fl:List XSpan) (f:XFace):Int:=if 0≤f.road∧f.road < fl.length then K5e (fl.getD f.road.toNat default) f.need else 0
def Jmg (fl:List XSpan) (fc:List XFace):List Int:=(List.range fc.length).map fun k=>Jtb fl (fc.getD k default)
def Z1e (fc:List XFace):Prop:=∀f∈fc,-4611686018427387904≤f.need∧f.need≤4611686018427387904
def K1f (x:XSpan) (need:Int) (L:LB) (R:LS) (hn:-4611686018427387904≤need∧need≤4611686018427387904):
 Tri Tryz.prog 275 [x.val,.int .i64 need].toArray L R (fun v M U=>v=.int .i64 (K5e x need)∧L=M∧R=U):=by
 refine Je 39 Tryz.call275 Tryz.func275 rfl rfl rfl ?_;apply (Xag);intro b2;apply (qad);refine J5 (Jb (Jl (Kb (Jl (Jf ?_)))));apply Xaa∘Xa5∘Xap;refine q_c ?_ ?_<;>intro hc0;·apply (Xbc);refine q_i L R ?_;exact ⟨by rw [K5e,if_pos hc0],rfl,rfl⟩
 apply Xbr∘qbx∘qah;apply Kf (G:=[_,_,_,_]) (j:=2) (cj:=14) rfl rfl zb rfl zfb rfl;·intro hg3;replace hg3:=qb hg3;exact (Xaj) zhd
 intro junk3;apply (qah);apply Kf (G:=[_,_,_,_,_]) (j:=8) (cj:=20) rfl rfl zb rfl zfb rfl;·intro hg9;replace hg9:=qb hg9;exact (Xaj∘qcq∘qbx) qai
 intro junk9;apply (Xap);refine q_c ?_ ?_<;>intro hc1;·apply (Xbc);refine q_i L R ?_;exact ⟨by rw [K5e,if_neg za,if_pos za],rfl,rfl⟩
 apply qae∘Xaj∘qcq∘qa5∘qah;apply Vp (G:=[_,_,_,_]) (j:=5) (cj:=33) rfl rfl zb rfl zfb rfl;·intro hg6;replace hg6:=qb hg6;exact (Xaj) zxd
 intro junk6;apply (Xap);refine q_c ?_ ?_<;>intro hc2;·apply (Xbc);refine q_i L R ?_;exact ⟨by rw [K5e,if_neg za,if_neg za,if_pos za],rfl,rfl⟩
 refine J1 (Jd (Jb (Jl (Jf ?_))));apply (Xai);refine q_i L R ?_;exact ⟨by rw [K5e,if_neg za,if_neg za,if_neg za],rfl,rfl⟩
def Uqe (fl:Arr XSpan) (fc:Arr XFace) (L:LB) (R:LS) (hfl:InR (Yvd fl) R) (hfc:InR (Jsg fc) R) (hn:Z1e fc.l) (hlen:fc.l.length≤1000) (hflen:fl.l.length≤1000):
 Tri Tryz.prog 232 [fl.val,fc.val].toArray L R (fun w M U=>∃p:OwL Int,w=p.val∧p.ok 1 Ji∧p.l=Jmg fl.l fc.l∧p.L 3 Ji ++ L=M∧R=U):=by
 refine Je 41 Tryz.call232 Tryz.func232 rfl rfl rfl ?_;apply Xcz∘qam∘Xak∘qc7;rintro v M U ⟨b10,rfl,rfl,hR10⟩;replace hR10:=hR10.symm;subst hR10;apply qc4∘qco;refine V0 (Yi (f:=Ji) (x:=0) rfl _) ?_;apply qay∘Xcc;refine Jk [(0,.slice _ _ _),(5,.slice _ _ _),(11,.slice _ _ _),(12,.int _ _),(13,.int _ _)] zh fun tq0=>?_;refine q_p ([6,7]++rg 13 27) ((⟨fun g=>[(13,.int .i64 ((g.1.1:Nat):Int))],fun g=>(⟨.own b10 fc.l.length [],g.1.2⟩:OwL Int).L 3 Ji ++ L,fun _=>R,fun g=>fc.l.length - g.1.1⟩:Head {g:Nat×List Int // g.1≤fc.l.length∧WrTo fc.l.length 0 (fun k=>Jtb fl.l (fc.l.getD k default)) g.1 g.2})) (⟨(0,List.replicate fc.l.length 0),by dsimp only;omega,.zero⟩) ?_;rintro ⟨⟨k,l⟩,w1,w2⟩ junk;try dsimp only
 dsimp only at w1 w2;have hll:=w2.len;have hkq:(⟨.own b10 fc.l.length [],l⟩:OwL Int).ok 1 Ji:=by have:=Yg (f:=Ji) (wd:=1) (b:=b10) (n:=fc.l.length) (x:=0) Uy zE;exact OwL.len_ok Uy this (by simp;exact hll)
 apply (Xan);refine q_c ?_ ?_<;>intro hc0;·
  have hfg:=Ju (l:=fc.l) (k:=k) default za;have hlg:=w2.non k (yn _) za;have hnd:=hn _ (yi hfg);obtain ⟨f,hf⟩:∃f,f=fc.l.getD k default:=⟨_,rfl⟩;rw [← hf] at hfg hnd;apply (Xbb);refine Jx zD rfl ?_;apply (Xdw);intro b7;apply qad∘Xb2∘qbz∘qah;apply Vp (G:=[_,_,_,_,_]) (j:=3) (cj:=21) rfl rfl zb rfl zfb rfl;·intro hg4;replace hg4:=qb hg4;exact (Xaa∘Xak) zxd
  intro junk4;apply (qaf);refine q_c ?_ ?_<;>intro hc1;·have hsg:=Ju (l:=fl.l) (k:=f.road.toNat) default za;(have hfv:K5e (fl.l.getD f.road.toNat default) f.need=(fun k=>Jtb fl.l (fc.l.getD k default)) k:=by dsimp only;rw [← hf,Jtb,if_pos za]);refine J6 tb [] [0,1,2,3,4,5,6,7,8,9,10] [11] ([Blk.mk b7 _ _]) _ Kr zc zi yd ?_;apply Xdb∘Xc9;refine Kn (by first | exact Jh tb rfl rfl rfl rfl zx (i:=f.road.toNat) zk za | exact Jn tb rfl rfl rfl rfl (i:=f.road.toNat) zk za) rfl rfl rfl rfl ?_;apply qd1∘Xaf;refine Kp rfl (K1f (fl.l.getD f.road.toNat default) f.need _ _ hnd) rfl rfl ?_;rintro v M U ⟨rfl,rfl,rfl⟩;refine ⟨zi,zq,?_⟩;refine Kn (Jv tb ((⟨.own b10 fc.l.length [],l⟩:OwL Int)) _ rfl rfl ((show _=Value.slice _ _ _ from rfl).trans (Uj hll)) rfl zg (i:=k) zk zu) rfl rfl rfl rfl ?_;apply (qba);refine Jab (Js tb ((⟨.own b10 fc.l.length [],l⟩:OwL Int)) (K5e (fl.l.getD f.road.toNat default) f.need) rfl rfl rfl rfl zj zg yf zg ze zb zb) rfl rfl ?_;rintro v M U ⟨rfl,rfl⟩;apply qa1∘qby∘Xae;exact q_k ⟨(k + 1,l.set k (K5e (fl.l.getD f.road.toNat default) f.need)),by dsimp only;omega,w2.next za hfv⟩
  have hfv:(0:Int)=(fun k=>Jtb fl.l (fc.l.getD k default)) k:=by dsimp only;rw [← hf,Jtb,if_neg za]
  apply (Xa3);exact q_k ⟨(k + 1,l),by dsimp only;omega,w2.stay za hfv⟩
 obtain rfl:k=fc.l.length:=by omega
 apply Xdd∘Xct;refine q_r ((⟨.own b10 fc.l.length [],l⟩:OwL Int).L 3 Ji ++ L) R zTc ?_;exact ⟨(⟨.own b10 fc.l.length [],l⟩:OwL Int),by simp only [OwL.val,Ow.addr,Ow.cap,hll],hkq,w2.done,rfl,rfl⟩
end
section
end
section
abbrev Sts:=List Int×List Int
def mkS (s:Sts):XSetting:=⟨⟨none,0,s.1⟩,⟨none,0,s.2⟩⟩
abbrev Zeb (s:XSetting):Sts:=(s.fans.l,s.doors.l)
def flS (a:XAir) (A:List Bool) (s:Sts):List XSpan:=(Ujb a (mkS s) A).2
end
section
def Uqc (f:XFan):XFan:=⟨f.road,f.back,f.aux,⟨none,0,f.curve.l⟩⟩
def Ywa (d:XDoor):XDoor:=⟨d.road,d.other,⟨none,0,d.rests.l⟩⟩
def V2c (m:XMine):XMine:=⟨⟨none,0,m.places.l⟩,⟨none,0,m.roads.l⟩⟩
def Y6 (a:XAir):XAir:=⟨V2c a.mine,⟨none,0,a.fans.l.map Uqc⟩,⟨none,0,a.doors.l.map Ywa⟩⟩
abbrev V1c (s:XSetting):XSetting:=mkS (Zeb s)
def Uob {α β:Type} {f:α→β} {l:List α} {k:Nat} {d:α} {e:β} (h:f d=e):(l.map f).getD k e=f (l.getD k d):=by
 rw [yh,yh,yt];cases l[k]? with
 | none=>exact h.symm
 | some x=>rfl
def Vse (a:XAir) (k:Nat):(Y6 a).fans.l.getD k default=Uqc (a.fans.l.getD k default):=Uob rfl
def Veb (a:XAir) (k:Nat):(Y6 a).doors.l.getD k default=Ywa (a.doors.l.getD k default):=Uob rfl
def V8b (a : XAir) (s : XSetting) (r : Int) : ∀ k, Ut (Y6 a) (V1c s) r k = Ut a s r k
 | 0=>rfl
 | k + 1=>by rw [Ut,Ut,V8b a s r k,Veb];rfl
def Krb (a : XAir) (s : XSetting) (r q : Int) : ∀ k, innerTo (Y6 a) (V1c s) r q k = innerTo a s r q k
 | 0=>by rw [innerTo,innerTo,V8b,show (Y6 a).doors.l.length=a.doors.l.length from yC _];rfl
 | k + 1=>by rw [innerTo,innerTo,Krb a s r q k,Vse];rfl
def V4d (a:XAir) (s:XSetting):K8 (Y6 a) (V1c s)=K8 a s:=by funext r q;rw [K8,K8,Krb,show (Y6 a).fans.l.length=a.fans.l.length from yC _]
def Ypc (l:List XDoor):Jba (l.map Ywa)=Jba l:=by
 funext i;rw [Jba,Jba,yt];cases l[i]? with
 | none=>rfl
 | some d=>
  have hp:J4b (l.map Ywa) i (Ywa d)↔J4b l i d:=by unfold J4b;simp only [yC,Uob (f:=Ywa) (l:=l) (d:=default) (e:=default) rfl];exact Iff.rfl
  simp only [yNa,hp];rfl
def J1c (l:List XDoor):Vk (l.map Ywa)=Vk l:=by rw [Vk,Vk,Ypc,yC]
def Vsb (a:XAir):Kv (Y6 a)=Kv a:=by have h1:(Y6 a).fans.l=a.fans.l.map Uqc:=rfl;have h2:(Y6 a).doors.l=a.doors.l.map Ywa:=rfl;have h3:(Y6 a).mine=V2c a.mine:=rfl;have h4:Uf (V2c a.mine)=Uf a.mine:=rfl;rw [Kv,Kv,h1,h2,h3,h4,J1c,yC,yYb,yYb];rfl
def Zmd (a:XAir) (s:XSetting):K6a (Y6 a) (V1c s)=K6a a s:=by
 have h1:(Y6 a).fans.l.length=a.fans.l.length:=yC _;have h2:(Y6 a).doors.l.length=a.doors.l.length:=yC _;have h3:Y5 (Y6 a).doors.l (V1c s).doors.l=Y5 a.doors.l s.doors.l:=by funext i;show Y5 (a.doors.l.map Ywa) s.doors.l i=_;rw [Y5,Y5,yt];cases s.doors.l[i]? <;> cases a.doors.l[i]? <;> rfl
 rw [K6a,K6a,h1,h2,h3];rfl
section
variable {a a':XAir} {s s':XSetting}
structure AirE (a a':XAir) (s s':XSetting):Prop where
 mine:a.mine.places.l=a'.mine.places.l∧a.mine.roads.l=a'.mine.roads.l
 inner:K8 a s=K8 a' s'
 err:Kv a=Kv a'
 fit:K6a a s=K6a a' s'
variable (h:AirE a a' s s')
include h
def AirE.term (F G:(Int→XSpan)→Int→Int):Ysa F G a s=Ysa F G a' s':=by funext ps v k;rw [Ysa,Ysa,Kta,Kta,h.inner,h.mine.2]
def AirE.sum (F G : (Int → XSpan) → Int → Int) (ps : List Int) (v : Int) : ∀ k, U9c F G a s ps v k = U9c F G a' s' ps v k
 | 0=>rfl
 | k + 1=>by rw [U9c,U9c,AirE.sum F G ps v k,h.term]
def AirE.low:Uic a s=Uic a' s':=by funext ps v;rw [Uic,Uic,h.sum,h.mine.2]
def AirE.high:Vua a s=Vua a' s':=by funext ps v;rw [Vua,Vua,h.sum,h.mine.2]
def AirE.test (up:Bool) (l:List Int):Krc a s up l=Krc a' s' up l:=by funext v q;rw [Krc,Krc];unfold Jsf Z2c;rw [h.low,h.high]
def AirE.next (up:Bool):Kda a s up=Kda a' s' up:=by funext l k;rw [Kda,Kda,h.test]
def AirE.fix (A:List Bool):Yyb a A=Yyb a' A:=by funext k;rw [Yyb,Yyb,h.mine.1]
def AirE.sweep (A : List Bool) (up : Bool) (l : List Int) : ∀ k, Uw a s A up l k = Uw a' s' A up l k
 | 0=>rfl
 | k + 1=>by rw [Uw,Uw,AirE.sweep A up l k,h.fix,h.next]
def AirE.rounds (A : List Bool) (up : Bool) : ∀ n l, Vb a s A up n l = Vb a' s' A up n l
 | 0,_=>rfl
 | n + 1,l=>by
  rw [Vb,Vb,h.sweep,h.mine.1]
  cases Uw a' s' A up l a'.mine.places.l.length with
  | none=>rfl
  | some m=>dsimp only;rw [AirE.rounds A up n m]
def AirE.start (ps:List Int) (A:List Bool):Vi a s ps A=Vi a' s' ps A:=by
 have e:Yk a ps A=Yk a' ps A:=by funext i;rw [Yk,Yk,h.fix]
 rw [Vi,Vi,h.err,h.fit,h.mine.1,e]
def AirE.relax (A:List Bool) (up:Bool) (ps:List Int):K9 a s A up ps=K9 a' s' A up ps:=by rw [K9,K9,h.start,h.rounds]
def AirE.solve (A:List Bool):Yq a s A=Yq a' s' A:=by
 have e:K9 a s A=K9 a' s' A:=by funext up ps;exact h.relax A up ps
 rw [Yq,Yq,e,h.mine.1]
def AirE.check (b:XBounds) (A:List Bool):Y1 a s b A=Y1 a' s' b A:=by
 have e:Vc a s b A=Vc a' s' b A:=by funext i;rw [Vc,Vc,h.low,h.high,h.mine.1]
 rw [Y1,Y1,h.err,h.fit,h.mine.1,e]
def AirE.flows (b:XBounds) (A:List Bool):U3 a s b A=U3 a' s' b A:=by
 have e:U6 a s b A=U6 a' s' b A:=by funext k;rw [U6,U6,h.inner,h.mine.2]
 rw [U3,U3,h.check,h.mine.2,e]
def AirE.ana (A:List Bool):Ujb a s A=Ujb a' s' A:=by
 have e:Ksa a=Ksa a':=by funext k;rw [Ksa,Ksa,h.mine.2]
 rw [Ujb,Ujb,h.err,h.fit,Jub,Jub,h.solve,h.flows,h.mine.2,e]
end
def AirE.bare (a:XAir) (s:XSetting):AirE (Y6 a) a (V1c s) s:=⟨⟨rfl,rfl⟩,V4d a s,Vsb a,Zmd a s⟩
def AirE.symm {a a':XAir} {s s':XSetting} (h:AirE a a' s s'):AirE a' a s' s:=⟨⟨h.mine.1.symm,h.mine.2.symm⟩,h.inner.symm,h.err.symm,h.fit.symm⟩
def AirE.trans {a a' a'':XAir} {s s' s'':XSetting} (h:AirE a a' s s') (k:AirE a' a'' s' s''):AirE a a'' s s'':=⟨⟨h.mine.1.trans k.mine.1,h.mine.2.trans k.mine.2⟩,h.inner.trans k.inner,h.err.trans k.err,h.fit.trans k.fit⟩
def AirE.of {a a':XAir} {s s':XSetting} (h1:Y6 a=Y6 a') (h2:Zeb s=Zeb s'):AirE a a' s s':=by have e1:=(AirE.bare a s).symm;have e2:=AirE.bare a' s';rw [h1,show V1c s=V1c s' from congrArg mkS h2] at e1;exact e1.trans e2
def Jcf (a:XAir) {s s':XSetting} (A:List Bool) (h:Zeb s=Zeb s'):Ujb a s A=Ujb a s' A:=(AirE.of rfl h).ana A
def Jaf (a:XAir) {s s':XSetting} (h:Zeb s=Zeb s'):K6a a s=K6a a s':=(AirE.of rfl h).fit
def Vcf (a:XAir) (s:XSetting) (A:List Bool):flS a A (Zeb s)=(Ujb a s A).2:=by rw [flS,Jcf a (s:=mkS (Zeb s)) (s':=s) A rfl]
end
end Go.Proofs.YtchfclmokpbldaaGreat
