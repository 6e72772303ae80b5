/-
  Merged texts. By an AI agent.
-/
import Derived.Test.YtchfclmokpbldaaGreatRel
import Derived.Test.YtchfclmokpbldaaGreatAnal
import Derived.Test.YtchfclmokpbldaaGreatCflowR
import Derived.Test.YtchfclmokpbldaaGreatFits
set_option linter.all false
set_option maxHeartbeats 4000000
set_option maxRecDepth 20000
namespace Go.Proofs.YtchfclmokpbldaaGreat
open Go.Aw Go
section
section
variable {a:XAir} {s:XSetting} {A:List Bool} {l m:List Int} {k:Nat} {v:Int}
def Yae (h0:PresOk l) (h:K9a a s true l k=some v):l.getD k 0≤v∧0≤Ybc a s (l.set k v) (k:Int)∧∀w,l.getD k 0≤w→w < v→Ybc a s (l.set k w) (k:Int) < 0:=by
 obtain ⟨d,d0,d1,dv,dg,dj⟩:=(Jcb (Ytb (h0.get k)).1 h).yes rfl;have e:∀x,Vkc a s true l (k:Int) x=Ykf a s l (k:Int) x:=fun x=>by rw [Vkc,if_pos rfl]
 rw [e,decide_eq_true_eq,yy] at dg;have es:sgn true=1:=rfl;rw [es] at dv dj;refine ⟨by omega,dg,fun w w1 w2=>?_⟩;have:=dj (w - l.getD k 0) za za;rw [show l.getD k 0 + 1 * (w - l.getD k 0)=w by omega,e,decide_eq_false_iff_not,yy] at this;omega
def Y4c (h0:PresOk l) (h:K9a a s false l k=some v):v≤l.getD k 0∧Yja a s (l.set k v) (k:Int)≤0∧∀w,w≤l.getD k 0→v < w→0 < Yja a s (l.set k w) (k:Int):=by
 obtain ⟨d,d0,d1,dv,dg,dj⟩:=(Jcb (Ytb (h0.get k)).1 h).yes rfl;have e:∀x,Vkc a s false l (k:Int) x=Kdd a s l (k:Int) x:=fun x=>by rw [Vkc,if_neg ze]
 rw [e,decide_eq_true_eq,yy] at dg;have es:sgn false= -1:=rfl;rw [es] at dv dj;refine ⟨by omega,dg,fun w w1 w2=>?_⟩;have:=dj (l.getD k 0 - w) za za;rw [show l.getD k 0 + -1 * (l.getD k 0 - w)=w by omega,e,decide_eq_false_iff_not,yy] at this;omega
end
def Jhb {a : XAir} {s : XSetting} {A : List Bool} {up : Bool} {l : List Int} : ∀ {n : Nat} {m : List Int}, U3 a s A up l n = some m → ∀ k, k ≤ n → ∃ mk, U3 a s A up l k = some mk ∧ ∀ j : Nat, j < k → m[j]? = mk[j]?
 | 0,m,h,k,hk=>by
  obtain rfl:k=0:=by omega
  exact ⟨m,h,fun j hj=>by omega⟩
 | n + 1,m,h,k,hk=>by
  rcases yl n k with h1 | h1
  ·obtain rfl : k = n + 1 := by omega
   exact ⟨m,h,fun _ _=>rfl⟩
  ·have h' := h
   rw [U3,yKa] at h'
   obtain ⟨m1,e1,e2⟩:=h'
   obtain ⟨mk,f1,f2⟩:=Jhb e1 k h1
   refine ⟨mk,f1,fun j hj=>?_⟩
   rw [← f2 j hj]
   split at e2
   ·cases e2;rfl
   ·obtain ⟨v, _, rfl⟩ := Option.map_eq_some_iff.1 e2
    rw [yda za]
def Ule {a:XAir} {s:XSetting} {A:List Bool} {up:Bool} {l:List Int} (hl:PresOk l) (hn:l.length=a.mine.places.l.length) (h:U3 a s A up l a.mine.places.l.length=some l) {k:Nat} (hk:k < a.mine.places.l.length) (hf:¬ Jdc a A k=true):K9a a s up l k=some (l.getD k 0):=by
 obtain ⟨m1,e1,e2⟩:=Jhb h (k + 1) za;have e1':=e1;rw [U3,yKa] at e1';obtain ⟨m0,f1,f2⟩:=e1';obtain ⟨m0',g1,g2⟩:=Jhb h k za;rw [f1] at g1;cases g1;have hS:=Jpa hl f1;have em:m0=l:=yka fun j=>by
  rcases yl j k with h1 | h1;·exact (g2 j h1).symm
  ·exact hS.rest j h1
 subst em;rw [if_neg hf] at f2;obtain ⟨v,hv,rfl⟩:=Option.map_eq_some_iff.1 f2;have:=e2 k za;rw [yN za,Ju (l:=m0) (k:=k) 0 za] at this;rw [hv,yL this]
structure Moved (a:XAir) (A:List Bool) (up:Bool) (l m:List Int):Prop where
 len:m.length=l.length
 le:∀j:Nat,if up=true then l.getD j 0≤m.getD j 0 else m.getD j 0≤l.getD j 0
 fix:∀j:Nat,Jdc a A j=true→m.getD j 0=l.getD j 0
def Moved.refl {a:XAir} {A:List Bool} {up:Bool} {l:List Int}:Moved a A up l l:=⟨rfl,fun j=>by split <;> exact yF _,fun _ _=>rfl⟩
def Moved.trans {a:XAir} {A:List Bool} {up:Bool} {l m n:List Int} (h:Moved a A up l m) (k:Moved a A up m n):Moved a A up l n:=by
 refine ⟨k.len.trans h.len,fun j=>?_,fun j hj=>(k.fix j hj).trans (h.fix j hj)⟩;have h1:=h.le j;have h2:=k.le j;split at h1;·rename_i e;rw [if_pos e] at h2;rw [if_pos e];omega
 ·rename_i e;rw [if_neg e] at h2;rw [if_neg e];omega
def Ygb {a : XAir} {s : XSetting} {A : List Bool} {up : Bool} {l : List Int} (hl : PresOk l) : ∀ {n : Nat} {m : List Int}, n ≤ l.length → U3 a s A up l n = some m → Moved a A up l m
 | 0,m,_,h=>by cases h;exact .refl
 | n + 1,m,hn,h=>by
  have h':=h
  rw [U3,yKa] at h'
  obtain ⟨m0,e1,e2⟩:=h'
  have ih:=Ygb hl za e1
  have hS:=Jpa hl e1
  have hlen:=hS.len
  split at e2
  ·cases e2;exact ih
  ·rename_i hf
   obtain ⟨v,hv,rfl⟩:=Option.map_eq_some_iff.1 e2
   refine ih.trans ⟨by simp,fun j=>?_,fun j hj=>?_⟩
   ·rw [U0a za]
    cases up with
    | true=>
     have:=(Yae hS.pres hv).1
     simp only [if_true]
     split
     ·rename_i e;subst e;exact this
     ·exact yF _
    | false=>
     have:=(Y4c hS.pres hv).1
     simp only [Bool.false_eq_true,if_false]
     split
     ·rename_i e;subst e;exact this
     ·exact yF _
   ·rw [U0a za,if_neg (fun e=>hf (by rw [← e];exact hj))]
def Ywa {a : XAir} {s : XSetting} {A : List Bool} {up : Bool} : ∀ {n : Nat} {l m : List Int}, PresOk l → l.length = a.mine.places.l.length → Vl a s A up n l = some m → Moved a A up l m
 | 0,l,m,_,_,h=>by cases h
 | n + 1,l,m,hl,hn,h=>by
  rw [Vl] at h
  split at h
  ·cases h
  ·rename_i m1 h1
   have hs:=Jpa hl h1
   have hm:=Ygb hl za h1
   split at h
   ·cases h;exact hm
   ·exact hm.trans (Ywa hs.pres (hs.len.trans hn) h)
def Kcc {a:XAir} {s:XSetting} {A:List Bool} {n:Nat} {l m:List Int} {up:Bool} (hl:PresOk l) (hn:l.length=a.mine.places.l.length) (h:Vl a s A up n l=some m) {k:Nat} (hk:k < a.mine.places.l.length) (hf:¬ Jdc a A k=true):
 if up=true then 0≤Ybc a s m (k:Int) else Yja a s m (k:Int)≤0:=by
 obtain ⟨h1,h2,h3⟩:=Yqa hl h;have hx:=Ule h2 (h1.trans hn) h3 hk hf;cases up with
 | true=>have:=(Yae h2 hx).2.1;rw [Zea] at this;simpa using this
 | false=>have:=(Y4c h2 hx).2.1;rw [Zea] at this;simpa using this
def Y1a {a:XAir} {s:XSetting} {A:List Bool} {up:Bool} {ps:List Int} (h:StartOk a s ps A):(Ud a s A up ps).1=0∨(Ud a s A up ps).1=2:=by
 rw [Ud,if_neg (by rw [Yra.2 h];decide)];split;·exact .inr rfl
 ·exact .inl rfl
def StartOk.moved {a:XAir} {s:XSetting} {A:List Bool} {up:Bool} {l:List Int} (h:StartOk a s l A) {n:Nat} {m:List Int} (hm:Vl a s A up n l=some m):StartOk a s m A:=by obtain ⟨h1,h2,_⟩:=Yqa h.hp hm;have h3:=Ywa h.hp h.hl hm;exact ⟨h.h0,h.hf,h1.trans h.hl,h2,fun i hi hf=>(h3.fix i hf).trans (h.fix i hi hf)⟩
def Jse {a:XAir} {s:XSetting} {A:List Bool} (h0:Kz a=0) (hf:Vba a s=true):StartOk a s (List.replicate a.mine.places.l.length 0) A:=by
 refine ⟨h0,hf,by simp,fun p hp=>?_,fun i hi _=>?_⟩;·rw [(List.mem_replicate.1 hp).2];decide
 ·rw [yh, yO];split <;> rfl
structure Solved (a:XAir) (s:XSetting) (A:List Bool) (lo hi:List Int):Prop where
 lok:StartOk a s lo A
 hok:StartOk a s hi A
 le:∀i:Nat,lo.getD i 0≤hi.getD i 0
 low:∀i:Nat,i < a.mine.places.l.length→¬ Jdc a A i=true→Yja a s lo (i:Int)≤0
 high:∀i:Nat,i < a.mine.places.l.length→¬ Jdc a A i=true→0≤Ybc a s hi (i:Int)
def U9d {a:XAir} {s:XSetting} {A:List Bool} (h0:Kz a=0) (hf:Vba a s=true):((Y2 a s A).1=0∧Solved a s A (Y2 a s A).2.1 (Y2 a s A).2.2)∨(Y2 a s A).1=2:=by
 have s0:=Jse (A:=A) h0 hf;rw [Y2];dsimp only;rcases Y1a (up:=false) s0 with e1 | e1;·
  rw [if_neg za];obtain ⟨_,r1⟩:=Zeb e1;have s1:=s0.moved r1;rcases Y1a (up:=true) s1 with e2 | e2;·
   rw [if_neg za];obtain ⟨_,r2⟩:=Zeb e2;have s2:=s1.moved r2;rcases Y1a (up:=false) s2 with e3 | e3;·
    rw [if_neg za];obtain ⟨_,r3⟩:=Zeb e3;have s3:=s2.moved r3;left;refine ⟨rfl,s3,s2,fun i=>?_,fun i hi hn=>?_,fun i hi hn=>?_⟩;·have := (Ywa s2.hp s2.hl r3).le i;simpa using this
    ·have := Kcc s2.hp s2.hl r3 hi hn;simpa using this
    ·have := Kcc s1.hp s1.hl r2 hi hn;simpa using this
   ·rw [if_pos za];exact .inr e3
  ·rw [if_pos za];exact .inr e2
 ·rw [if_pos za];exact .inr e1
def Solved.accept {a:XAir} {s:XSetting} {A:List Bool} {lo hi:List Int} (h:Solved a s A lo hi) {b:XBounds} (e1:b.low.l=lo) (e2:b.high.l=hi):Accept a s b A:=by
 refine ⟨⟨h.lok.h0,h.lok.hf,by rw [e1];exact h.lok.hl,by rw [e2];exact h.hok.hl,by rw [e1];exact h.lok.hp,by rw [e2];exact h.hok.hp⟩,fun i hi2 hf=>?_,fun i hi2 hf=>?_⟩;·rw [e1,e2];exact ⟨h.lok.fix i hi2 hf,h.hok.fix i hi2 hf⟩
 ·rw [e1,e2];exact ⟨h.high i hi2 hf,h.low i hi2 hf⟩
end
section
def Zsf {a:XAir} {s:XSetting} {A:List Bool} (h0:Kz a=0) (hf:Vba a s=true) (hA:AiryIs a.mine A):
 (Vqb a s A).1=0∧((Accept a s (Kwb a s A) A∧(∀i:Nat,(Kwb a s A).low.l.getD i 0≤(Kwb a s A).high.l.getD i 0)∧(Vqb a s A).2=(List.range a.mine.roads.l.length).map (Vc a s (Kwb a s A) A))∨(Vqb a s A).2=(List.range a.mine.roads.l.length).map (Uba a)):=by
 have hfn:¬ Vba a s=false:=by rw [hf];decide
 rw [Vqb,if_neg (by rw [h0];decide),if_neg hfn];rcases U9d (A:=A) h0 hf with h | h;·have hac : Accept a s (Kwb a s A) A := h.2.accept rfl rfl;rw [if_pos h.1,U6,if_pos (J0e.2 hac)];exact ⟨rfl,.inl ⟨hac,h.2.le,rfl⟩⟩
 ·rw [if_neg (by rw [h]; decide)];exact ⟨rfl,.inr rfl⟩
def V6e {a:XAir} {s:XSetting} {A:List Bool} (h0:Kz a=0) (hf:Vba a s=true) (hA:AiryIs a.mine A):(Vqb a s A).2.length=a.mine.roads.l.length:=by rcases (Zsf h0 hf hA).2 with ⟨_,_,e⟩ | e <;> rw [e] <;> simp
end
section
attribute [local irreducible] CJ LJ DJ Tri YV Gives Ur J3 Ko Uq RV J5 OwL.L
abbrev Kbe (x:Arr XSpan):Sl:=x.sl 2 XSpan.cells []
structure XFace where
 road:Int
 need:Int
 deriving Inhabited
def XFace.cells (s:XFace):List Value:=[.int .i64 s.road,.int .i64 s.need]
abbrev Vvg (x:Arr XFace):Sl:=x.sl 2 XFace.cells []
structure WrTo {α:Type} (n:Nat) (z:α) (g:Nat→α) (i:Nat) (l:List α):Prop where
 len:l.length=n
 don:∀j:Nat,j < i→l[j]?=some (g j)
 non:∀j:Nat,i≤j→j < n→l[j]?=some z
def WrTo.zero {α:Type} {n:Nat} {z:α} {g:Nat→α}:WrTo n z g 0 (List.replicate n z):=⟨by simp,fun j hj=>by omega,fun j _ hj=>by rw [yO,if_pos hj]⟩
def WrTo.next {α:Type} {n:Nat} {z:α} {g:Nat→α} {i:Nat} {l:List α} (h:WrTo n z g i l) (hi:i < n) {x:α} (hx:x=g i):WrTo n z g (i + 1) (l.set i x):=by exact uaH
def WrTo.stay {α:Type} {n:Nat} {z:α} {g:Nat→α} {i:Nat} {l:List α} (h:WrTo n z g i l) (hi:i < n) (hx:z=g i):WrTo n z g (i + 1) l:=by exact uaO
def WrTo.done {α:Type} {n:Nat} {z:α} {g:Nat→α} {l:List α} (h:WrTo n z g n l):l=(List.range n).map g:=by
 have hl:=h.len;refine yka fun j=>?_;rcases yl j n with hj | hj;·rw [h.don j hj,yu,yX hj];rfl
 ·rw [yq za,yq zD]
def Yqe (x:XSpan) (need:Int):Int:=
 if x.high < x.low then 0 else if (need≤0∨need≤x.low)∨x.high≤ -need then 1 else if -need < x.low∧x.high < need then -1 else 0
def Jub (fl:List XSpan) (f:XFace):Int:=if 0≤f.road∧f.road < fl.length then Yqe (fl.getD f.road.toNat default) f.need else 0
def Vtg (fl:List XSpan) (fc:List XFace):List Int:=(List.range fc.length).map fun k=>Jub fl (fc.getD k default)
def U7f (fc:List XFace):Prop:=∀f∈fc,-4611686018427387904≤f.need∧f.need≤4611686018427387904
def Vzf (x:XSpan) (need:Int) (L:LB) (R:LS) (hn:-4611686018427387904≤need∧need≤4611686018427387904):
 Tri Tryz.prog 275 [x.val,.int .i64 need].toArray L R (fun v M U=>v=.int .i64 (Yqe x need)∧L=M∧R=U):=by
 refine Jd 39 Tryz.call275 Tryz.func275 rfl rfl rfl ?_;apply (Xaf);intro b2;apply (qad);refine J7 (Jb (Jp (Ka (Jp (Jg ?_)))));apply Xa6∘qa5∘Xaq;refine q_c ?_ ?_<;>intro hc0;·apply (Xbk);refine q_i L R ?_;exact ⟨by rw [Yqe,if_pos hc0],rfl,rfl⟩
 apply Xbq∘qbx∘qah;apply Kf (G:=[_,_,_,_]) (j:=2) (cj:=14) rfl rfl zb rfl zmb rfl;·intro hg3;replace hg3:=qb hg3;exact (Xai) zCd
 intro junk3;apply (qah);apply Kf (G:=[_,_,_,_,_]) (j:=8) (cj:=20) rfl rfl zb rfl zmb rfl;·intro hg9;replace hg9:=qb hg9;exact (Xai∘qcq∘qbx) qai
 intro junk9;apply (Xaq);refine q_c ?_ ?_<;>intro hc1;·apply (Xbk);refine q_i L R ?_;exact ⟨by rw [Yqe,if_neg za,if_pos za],rfl,rfl⟩
 apply qae∘Xai∘qcq∘qa5∘qah;apply Us (G:=[_,_,_,_]) (j:=5) (cj:=33) rfl rfl zb rfl zmb rfl;·intro hg6;replace hg6:=qb hg6;exact (Xai) zOd
 intro junk6;apply (Xaq);refine q_c ?_ ?_<;>intro hc2;·apply (Xbk);refine q_i L R ?_;exact ⟨by rw [Yqe,if_neg za,if_neg za,if_pos za],rfl,rfl⟩
 refine J1 (Je (Jb (Jp (Jg ?_))));apply (Xaj);refine q_i L R ?_;exact ⟨by rw [Yqe,if_neg za,if_neg za,if_neg za],rfl,rfl⟩
def Kqf (fl:Arr XSpan) (fc:Arr XFace) (L:LB) (R:LS) (hfl:InR (Kbe fl) R) (hfc:InR (Vvg fc) R) (hn:U7f fc.l) (hlen:fc.l.length≤1000) (hflen:fl.l.length≤1000):
 Tri Tryz.prog 232 [fl.val,fc.val].toArray L R (fun w M U=>∃p:OwL Int,w=p.val∧p.ok 1 Jk∧p.l=Vtg fl.l fc.l∧p.L 3 Jk ++ L=M∧R=U):=by
 refine Jd 41 Tryz.call232 Tryz.func232 rfl rfl rfl ?_;apply qae∘Xcv∘Xao∘qc7;rintro v M U ⟨b10,rfl,rfl,hR10⟩;replace hR10:=hR10.symm;subst hR10;apply qc4∘qco;refine Uu (Yt (f:=Jk) (x:=0) rfl _) ?_;apply qay∘Xb7;refine Jl [(0,.slice _ _ _),(5,.slice _ _ _),(11,.slice _ _ _),(12,.int _ _),(13,.int _ _)] zh fun tq0=>?_;refine q_p ([6,7]++rg 13 27) ((⟨fun g=>[(13,.int .i64 ((g.1.1:Nat):Int))],fun g=>(⟨.own b10 fc.l.length [],g.1.2⟩:OwL Int).L 3 Jk ++ L,fun _=>R,fun g=>fc.l.length - g.1.1⟩:Head {g:Nat×List Int // g.1≤fc.l.length∧WrTo fc.l.length 0 (fun k=>Jub fl.l (fc.l.getD k default)) g.1 g.2})) (⟨(0,List.replicate fc.l.length 0),by dsimp only;omega,.zero⟩) ?_;rintro ⟨⟨k,l⟩,w1,w2⟩ junk;try dsimp only
 dsimp only at w1 w2;have hll:=w2.len;have hkq:(⟨.own b10 fc.l.length [],l⟩:OwL Int).ok 1 Jk:=by have:=Yw (f:=Jk) (wd:=1) (b:=b10) (n:=fc.l.length) (x:=0) U2 zE;exact OwL.len_ok U2 this (by simp;exact hll)
 apply (Xan);refine q_c ?_ ?_<;>intro hc0;·
  have hfg:=Ju (l:=fc.l) (k:=k) default za;have hlg:=w2.non k (ym _) za;have hnd:=hn _ (yi hfg);obtain ⟨f,hf⟩:∃f,f=fc.l.getD k default:=⟨_,rfl⟩;rw [← hf] at hfg hnd;apply (Xa9);refine Jx zC rfl ?_;apply (Xeb);intro b7;apply qad∘Xb9∘qbz∘qah;apply Us (G:=[_,_,_,_,_]) (j:=3) (cj:=21) rfl rfl zb rfl zmb rfl;·intro hg4;replace hg4:=qb hg4;exact (Xaa∘Xao) zOd
  intro junk4;apply (qaf);refine q_c ?_ ?_<;>intro hc1;·have hsg:=Ju (l:=fl.l) (k:=f.road.toNat) default za;(have hfv:Yqe (fl.l.getD f.road.toNat default) f.need=(fun k=>Jub fl.l (fc.l.getD k default)) k:=by dsimp only;rw [← hf,Jub,if_pos za]);refine J6 tb [] [0,1,2,3,4,5,6,7,8,9,10] [11] ([Blk.mk b7 _ _]) _ Kq zc zg yd ?_;apply Xdt∘Xdd;refine Kr (by first | exact Jf tb rfl rfl rfl rfl zy (i:=f.road.toNat) zk za | exact Jq tb rfl rfl rfl rfl (i:=f.road.toNat) zk za) rfl rfl rfl rfl ?_;apply qd1∘Xah;refine Ku rfl (Vzf (fl.l.getD f.road.toNat default) f.need _ _ hnd) rfl rfl ?_;rintro v M U ⟨rfl,rfl,rfl⟩;refine ⟨zg,zq,?_⟩;refine Kr (Jw tb ((⟨.own b10 fc.l.length [],l⟩:OwL Int)) _ rfl rfl ((show _=Value.slice _ _ _ from rfl).trans (Ul hll)) rfl zi (i:=k) zk zw) rfl rfl rfl rfl ?_;apply (qba);refine Jlb (Jt tb ((⟨.own b10 fc.l.length [],l⟩:OwL Int)) (Yqe (fl.l.getD f.road.toNat default) f.need) rfl rfl rfl rfl zj zi yf zi ze zb zb) rfl rfl ?_;rintro v M U ⟨rfl,rfl⟩;apply qa1∘qby∘Xae;exact q_k ⟨(k + 1,l.set k (Yqe (fl.l.getD f.road.toNat default) f.need)),by dsimp only;omega,w2.next za hfv⟩
  have hfv:(0:Int)=(fun k=>Jub fl.l (fc.l.getD k default)) k:=by dsimp only;rw [← hf,Jub,if_neg za]
  apply (Xa0);exact q_k ⟨(k + 1,l),by dsimp only;omega,w2.stay za hfv⟩
 obtain rfl:k=fc.l.length:=by omega
 apply Xc7∘Xcw;refine q_r ((⟨.own b10 fc.l.length [],l⟩:OwL Int).L 3 Jk ++ L) R zkd ?_;exact ⟨(⟨.own b10 fc.l.length [],l⟩:OwL Int),by simp only [OwL.val,Ow.addr,Ow.cap,hll],hkq,w2.done,rfl,rfl⟩
end
section
end
section
abbrev Sts:=List Int×List Int
def mkS (s:Sts):XSetting:=⟨⟨none,0,s.1⟩,⟨none,0,s.2⟩⟩
abbrev Jyc (s:XSetting):Sts:=(s.fans.l,s.doors.l)
def flS (a:XAir) (A:List Bool) (s:Sts):List XSpan:=(Vqb a (mkS s) A).2
end
section
def Yhc (f:XFan):XFan:=⟨f.road,f.back,f.aux,⟨none,0,f.curve.l⟩⟩
def Zsa (d:XDoor):XDoor:=⟨d.road,d.other,⟨none,0,d.rests.l⟩⟩
def Zjc (m:XMine):XMine:=⟨⟨none,0,m.places.l⟩,⟨none,0,m.roads.l⟩⟩
def Zm (a:XAir):XAir:=⟨Zjc a.mine,⟨none,0,a.fans.l.map Yhc⟩,⟨none,0,a.doors.l.map Zsa⟩⟩
abbrev Jvd (s:XSetting):XSetting:=mkS (Jyc s)
def Vrb {α β:Type} {f:α→β} {l:List α} {k:Nat} {d:α} {e:β} (h:f d=e):(l.map f).getD k e=f (l.getD k d):=by
 rw [yh,yh,yu];cases l[k]? with
 | none=>exact h.symm
 | some x=>rfl
def Kbf (a:XAir) (k:Nat):(Zm a).fans.l.getD k default=Yhc (a.fans.l.getD k default):=Vrb rfl
def Zhb (a:XAir) (k:Nat):(Zm a).doors.l.getD k default=Zsa (a.doors.l.getD k default):=Vrb rfl
def Ywb (a : XAir) (s : XSetting) (r : Int) : ∀ k, Uw (Zm a) (Jvd s) r k = Uw a s r k
 | 0=>rfl
 | k + 1=>by rw [Uw,Uw,Ywb a s r k,Zhb];rfl
def Uvb (a : XAir) (s : XSetting) (r q : Int) : ∀ k, innerTo (Zm a) (Jvd s) r q k = innerTo a s r q k
 | 0=>by rw [innerTo,innerTo,Ywb,show (Zm a).doors.l.length=a.doors.l.length from yG _];rfl
 | k + 1=>by rw [innerTo,innerTo,Uvb a s r q k,Kbf];rfl
def J3e (a:XAir) (s:XSetting):Uc (Zm a) (Jvd s)=Uc a s:=by funext r q;rw [Uc,Uc,Uvb,show (Zm a).fans.l.length=a.fans.l.length from yG _]
def Y5c (l:List XDoor):J0a (l.map Zsa)=J0a l:=by
 funext i;rw [J0a,J0a,yu];cases l[i]? with
 | none=>rfl
 | some d=>
  have hp:K8b (l.map Zsa) i (Zsa d)↔K8b l i d:=by unfold K8b;simp only [yG,Vrb (f:=Zsa) (l:=l) (d:=default) (e:=default) rfl];exact Iff.rfl
  simp only [yOa,hp];rfl
def Vac (l:List XDoor):Vw (l.map Zsa)=Vw l:=by rw [Vw,Vw,Y5c,yG]
def V8b (a:XAir):Kz (Zm a)=Kz a:=by have h1:(Zm a).fans.l=a.fans.l.map Yhc:=rfl;have h2:(Zm a).doors.l=a.doors.l.map Zsa:=rfl;have h3:(Zm a).mine=Zjc a.mine:=rfl;have h4:Uj (Zjc a.mine)=Uj a.mine:=rfl;rw [Kz,Kz,h1,h2,h3,h4,Vac,yG,ycc,ycc];rfl
def Vae (a:XAir) (s:XSetting):Vba (Zm a) (Jvd s)=Vba a s:=by
 have h1:(Zm a).fans.l.length=a.fans.l.length:=yG _;have h2:(Zm a).doors.l.length=a.doors.l.length:=yG _;have h3:Zq (Zm a).doors.l (Jvd s).doors.l=Zq a.doors.l s.doors.l:=by funext i;show Zq (a.doors.l.map Zsa) s.doors.l i=_;rw [Zq,Zq,yu];cases s.doors.l[i]? <;> cases a.doors.l[i]? <;> rfl
 rw [Vba,Vba,h1,h2,h3];rfl
section
variable {a a':XAir} {s s':XSetting}
structure AirE (a a':XAir) (s s':XSetting):Prop where
 mine:a.mine.places.l=a'.mine.places.l∧a.mine.roads.l=a'.mine.roads.l
 inner:Uc a s=Uc a' s'
 err:Kz a=Kz a'
 fit:Vba a s=Vba a' s'
variable (h:AirE a a' s s')
include h
def AirE.term (F G:(Int→XSpan)→Int→Int):Zpa F G a s=Zpa F G a' s':=by funext ps v k;rw [Zpa,Zpa,Uoa,Uoa,h.inner,h.mine.2]
def AirE.sum (F G : (Int → XSpan) → Int → Int) (ps : List Int) (v : Int) : ∀ k, Jkd F G a s ps v k = Jkd F G a' s' ps v k
 | 0=>rfl
 | k + 1=>by rw [Jkd,Jkd,AirE.sum F G ps v k,h.term]
def AirE.low:Ybc a s=Ybc a' s':=by funext ps v;rw [Ybc,Ybc,h.sum,h.mine.2]
def AirE.high:Yja a s=Yja a' s':=by funext ps v;rw [Yja,Yja,h.sum,h.mine.2]
def AirE.test (up:Bool) (l:List Int):Vkc a s up l=Vkc a' s' up l:=by funext v q;rw [Vkc,Vkc];unfold Ykf Kdd;rw [h.low,h.high]
def AirE.next (up:Bool):K9a a s up=K9a a' s' up:=by funext l k;rw [K9a,K9a,h.test]
def AirE.fix (A:List Bool):Jdc a A=Jdc a' A:=by funext k;rw [Jdc,Jdc,h.mine.1]
def AirE.sweep (A : List Bool) (up : Bool) (l : List Int) : ∀ k, U3 a s A up l k = U3 a' s' A up l k
 | 0=>rfl
 | k + 1=>by rw [U3,U3,AirE.sweep A up l k,h.fix,h.next]
def AirE.rounds (A : List Bool) (up : Bool) : ∀ n l, Vl a s A up n l = Vl a' s' A up n l
 | 0,_=>rfl
 | n + 1,l=>by
  rw [Vl,Vl,h.sweep,h.mine.1]
  cases U3 a' s' A up l a'.mine.places.l.length with
  | none=>rfl
  | some m=>dsimp only;rw [AirE.rounds A up n m]
def AirE.start (ps:List Int) (A:List Bool):Vu a s ps A=Vu a' s' ps A:=by
 have e:Yz a ps A=Yz a' ps A:=by funext i;rw [Yz,Yz,h.fix]
 rw [Vu,Vu,h.err,h.fit,h.mine.1,e]
def AirE.relax (A:List Bool) (up:Bool) (ps:List Int):Ud a s A up ps=Ud a' s' A up ps:=by rw [Ud,Ud,h.start,h.rounds]
def AirE.solve (A:List Bool):Y2 a s A=Y2 a' s' A:=by
 have e:Ud a s A=Ud a' s' A:=by funext up ps;exact h.relax A up ps
 rw [Y2,Y2,e,h.mine.1]
def AirE.check (b:XBounds) (A:List Bool):Zh a s b A=Zh a' s' b A:=by
 have e:Vk a s b A=Vk a' s' b A:=by funext i;rw [Vk,Vk,h.low,h.high,h.mine.1]
 rw [Zh,Zh,h.err,h.fit,h.mine.1,e]
def AirE.flows (b:XBounds) (A:List Bool):U6 a s b A=U6 a' s' b A:=by
 have e:Vc a s b A=Vc a' s' b A:=by funext k;rw [Vc,Vc,h.inner,h.mine.2]
 rw [U6,U6,h.check,h.mine.2,e]
def AirE.ana (A:List Bool):Vqb a s A=Vqb a' s' A:=by
 have e:Uba a=Uba a':=by funext k;rw [Uba,Uba,h.mine.2]
 rw [Vqb,Vqb,h.err,h.fit,Kwb,Kwb,h.solve,h.flows,h.mine.2,e]
end
def AirE.bare (a:XAir) (s:XSetting):AirE (Zm a) a (Jvd s) s:=⟨⟨rfl,rfl⟩,J3e a s,V8b a,Vae a s⟩
def AirE.symm {a a':XAir} {s s':XSetting} (h:AirE a a' s s'):AirE a' a s' s:=⟨⟨h.mine.1.symm,h.mine.2.symm⟩,h.inner.symm,h.err.symm,h.fit.symm⟩
def AirE.trans {a a' a'':XAir} {s s' s'':XSetting} (h:AirE a a' s s') (k:AirE a' a'' s' s''):AirE a a'' s s'':=⟨⟨h.mine.1.trans k.mine.1,h.mine.2.trans k.mine.2⟩,h.inner.trans k.inner,h.err.trans k.err,h.fit.trans k.fit⟩
def AirE.of {a a':XAir} {s s':XSetting} (h1:Zm a=Zm a') (h2:Jyc s=Jyc s'):AirE a a' s s':=by have e1:=(AirE.bare a s).symm;have e2:=AirE.bare a' s';rw [h1,show Jvd s=Jvd s' from congrArg mkS h2] at e1;exact e1.trans e2
def Vtf (a:XAir) {s s':XSetting} (A:List Bool) (h:Jyc s=Jyc s'):Vqb a s A=Vqb a s' A:=(AirE.of rfl h).ana A
def Vxf (a:XAir) {s s':XSetting} (h:Jyc s=Jyc s'):Vba a s=Vba a s':=(AirE.of rfl h).fit
def Jmg (a:XAir) (s:XSetting) (A:List Bool):flS a A (Jyc s)=(Vqb a s A).2:=by rw [flS,Vtf a (s:=mkS (Jyc s)) (s':=s) A rfl]
end
end Go.Proofs.YtchfclmokpbldaaGreat
