/-
  Merged texts. By an AI agent.
-/
import Derived.Test.YtchfclmokpbldaaGreatSolveR
import Derived.Test.YtchfclmokpbldaaGreatAnal
import Derived.Test.YtchfclmokpbldaaGreatComp
import Derived.Test.YtchfclmokpbldaaGreatFits
set_option linter.all false
set_option maxHeartbeats 4000000
set_option maxRecDepth 20000
namespace Go.Proofs.YtchfclmokpbldaaGreat
open Go.Aw Go
section
section
variable {a:XAir} {s:XSetting} {A:List Bool} {l m:List Int} {k:Nat} {v:Int}
def Zxd (h0:PresOk l) (h:Z4 a s true l k=some v):l.getD k 0≤v∧0≤Juc a s (l.set k v) (k:Int)∧∀w,l.getD k 0≤w→w < v→Juc a s (l.set k w) (k:Int) < 0:=by
 obtain ⟨d,d0,d1,dv,dg,dj⟩:=(J3b (Yob (h0.get k)).1 h).yes rfl;have e:∀x,Vuc a s true l (k:Int) x=Jid a s l (k:Int) x:=fun x=>by rw [Vuc,if_pos rfl]
 rw [e,decide_eq_true_eq,yz] at dg;have es:sgn true=1:=rfl;rw [es] at dv dj;refine ⟨by omega,dg,fun w w1 w2=>?_⟩;have:=dj (w - l.getD k 0) zc zc;rw [show l.getD k 0 + 1 * (w - l.getD k 0)=w by omega,e,decide_eq_false_iff_not,yz] at this;omega
def V6c (h0:PresOk l) (h:Z4 a s false l k=some v):v≤l.getD k 0∧Uda a s (l.set k v) (k:Int)≤0∧∀w,w≤l.getD k 0→v < w→0 < Uda a s (l.set k w) (k:Int):=by
 obtain ⟨d,d0,d1,dv,dg,dj⟩:=(J3b (Yob (h0.get k)).1 h).yes rfl;have e:∀x,Vuc a s false l (k:Int) x=Zqa a s l (k:Int) x:=fun x=>by rw [Vuc,if_neg zj]
 rw [e,decide_eq_true_eq,yz] at dg;have es:sgn false= -1:=rfl;rw [es] at dv dj;refine ⟨by omega,dg,fun w w1 w2=>?_⟩;have:=dj (l.getD k 0 - w) zc zc;rw [show l.getD k 0 + -1 * (l.getD k 0 - w)=w by omega,e,decide_eq_false_iff_not,yz] at this;omega
end
def Jmb {a : XAir} {s : XSetting} {A : List Bool} {up : Bool} {l : List Int} : ∀ {n : Nat} {m : List Int}, Vk a s A up l n = some m → ∀ k, k ≤ n → ∃ mk, Vk a s A up l k = some mk ∧ ∀ j : Nat, j < k → m[j]? = mk[j]?
 | 0,m,h,k,hk=>by
  obtain rfl:k=0:=by omega
  exact ⟨m,h,fun j hj=>by omega⟩
 | n + 1,m,h,k,hk=>by
  rcases yk n k with h1 | h1
  ·obtain rfl : k = n + 1 := by omega
   exact ⟨m,h,fun _ _=>rfl⟩
  ·have h' := h
   rw [Vk,yAa] at h'
   obtain ⟨m1,e1,e2⟩:=h'
   obtain ⟨mk,f1,f2⟩:=Jmb e1 k h1
   refine ⟨mk,f1,fun j hj=>?_⟩
   rw [← f2 j hj]
   split at e2
   ·cases e2;rfl
   ·obtain ⟨v, _, rfl⟩ := Option.map_eq_some_iff.1 e2
    rw [yW zc]
def Zwd {a:XAir} {s:XSetting} {A:List Bool} {up:Bool} {l:List Int} (hl:PresOk l) (hn:l.length=a.mine.places.l.length) (h:Vk a s A up l a.mine.places.l.length=some l) {k:Nat} (hk:k < a.mine.places.l.length) (hf:¬ K2b a A k=true):Z4 a s up l k=some (l.getD k 0):=by
 obtain ⟨m1,e1,e2⟩:=Jmb h (k + 1) zc;have e1':=e1;rw [Vk,yAa] at e1';obtain ⟨m0,f1,f2⟩:=e1';obtain ⟨m0',g1,g2⟩:=Jmb h k zc;rw [f1] at g1;cases g1;have hS:=Jea hl f1;have em:m0=l:=yfa fun j=>by
  rcases yk j k with h1 | h1;·exact (g2 j h1).symm
  ·exact hS.rest j h1
 subst em;rw [if_neg hf] at f2;obtain ⟨v,hv,rfl⟩:=Option.map_eq_some_iff.1 f2;have:=e2 k zc;rw [yB zc,Js (l:=m0) (k:=k) 0 zc] at this;rw [hv,yH this]
structure Moved (a:XAir) (A:List Bool) (up:Bool) (l m:List Int):Prop where
 len:m.length=l.length
 le:∀j:Nat,if up=true then l.getD j 0≤m.getD j 0 else m.getD j 0≤l.getD j 0
 fix:∀j:Nat,K2b a A j=true→m.getD j 0=l.getD j 0
def Moved.refl {a:XAir} {A:List Bool} {up:Bool} {l:List Int}:Moved a A up l l:=⟨rfl,fun j=>by split <;> exact yI _,fun _ _=>rfl⟩
def Moved.trans {a:XAir} {A:List Bool} {up:Bool} {l m n:List Int} (h:Moved a A up l m) (k:Moved a A up m n):Moved a A up l n:=by
 refine ⟨k.len.trans h.len,fun j=>?_,fun j hj=>(k.fix j hj).trans (h.fix j hj)⟩;have h1:=h.le j;have h2:=k.le j;split at h1;·rename_i e;rw [if_pos e] at h2;rw [if_pos e];omega
 ·rename_i e;rw [if_neg e] at h2;rw [if_neg e];omega
def Y4b {a : XAir} {s : XSetting} {A : List Bool} {up : Bool} {l : List Int} (hl : PresOk l) : ∀ {n : Nat} {m : List Int}, n ≤ l.length → Vk a s A up l n = some m → Moved a A up l m
 | 0,m,_,h=>by cases h;exact .refl
 | n + 1,m,hn,h=>by
  have h':=h
  rw [Vk,yAa] at h'
  obtain ⟨m0,e1,e2⟩:=h'
  have ih:=Y4b hl zc e1
  have hS:=Jea hl e1
  have hlen:=hS.len
  split at e2
  ·cases e2;exact ih
  ·rename_i hf
   obtain ⟨v,hv,rfl⟩:=Option.map_eq_some_iff.1 e2
   refine ih.trans ⟨by simp,fun j=>?_,fun j hj=>?_⟩
   ·rw [Usa zc]
    cases up with
    | true=>
     have:=(Zxd hS.pres hv).1
     simp only [if_true]
     split
     ·rename_i e;subst e;exact this
     ·exact yI _
    | false=>
     have:=(V6c hS.pres hv).1
     simp only [Bool.false_eq_true,if_false]
     split
     ·rename_i e;subst e;exact this
     ·exact yI _
   ·rw [Usa zc,if_neg (fun e=>hf (by rw [← e];exact hj))]
def Yia {a : XAir} {s : XSetting} {A : List Bool} {up : Bool} : ∀ {n : Nat} {l m : List Int}, PresOk l → l.length = a.mine.places.l.length → Vj a s A up n l = some m → Moved a A up l m
 | 0,l,m,_,_,h=>by cases h
 | n + 1,l,m,hl,hn,h=>by
  rw [Vj] at h
  split at h
  ·cases h
  ·rename_i m1 h1
   have hs:=Jea hl h1
   have hm:=Y4b hl zc h1
   split at h
   ·cases h;exact hm
   ·exact hm.trans (Yia hs.pres (hs.len.trans hn) h)
def J8c {a:XAir} {s:XSetting} {A:List Bool} {n:Nat} {l m:List Int} {up:Bool} (hl:PresOk l) (hn:l.length=a.mine.places.l.length) (h:Vj a s A up n l=some m) {k:Nat} (hk:k < a.mine.places.l.length) (hf:¬ K2b a A k=true):
 if up=true then 0≤Juc a s m (k:Int) else Uda a s m (k:Int)≤0:=by
 obtain ⟨h1,h2,h3⟩:=V9a hl h;have hx:=Zwd h2 (h1.trans hn) h3 hk hf;cases up with
 | true=>have:=(Zxd h2 hx).2.1;rw [Kxa] at this;simpa using this
 | false=>have:=(V6c h2 hx).2.1;rw [Kxa] at this;simpa using this
def Ywa {a:XAir} {s:XSetting} {A:List Bool} {up:Bool} {ps:List Int} (h:StartOk a s ps A):(Kx a s A up ps).1=0∨(Kx a s A up ps).1=2:=by
 rw [Kx,if_neg (by rw [K5a.2 h];decide)];split;·exact .inr rfl
 ·exact .inl rfl
def StartOk.moved {a:XAir} {s:XSetting} {A:List Bool} {up:Bool} {l:List Int} (h:StartOk a s l A) {n:Nat} {m:List Int} (hm:Vj a s A up n l=some m):StartOk a s m A:=by obtain ⟨h1,h2,_⟩:=V9a h.hp hm;have h3:=Yia h.hp h.hl hm;exact ⟨h.h0,h.hf,h1.trans h.hl,h2,fun i hi hf=>(h3.fix i hf).trans (h.fix i hi hf)⟩
def Y5d {a:XAir} {s:XSetting} {A:List Bool} (h0:Ko a=0) (hf:J8a a s=true):StartOk a s (List.replicate a.mine.places.l.length 0) A:=by
 refine ⟨h0,hf,by simp,fun p hp=>?_,fun i hi _=>?_⟩;·rw [(List.mem_replicate.1 hp).2];decide
 ·rw [yh, yL];split <;> rfl
structure Solved (a:XAir) (s:XSetting) (A:List Bool) (lo hi:List Int):Prop where
 lok:StartOk a s lo A
 hok:StartOk a s hi A
 le:∀i:Nat,lo.getD i 0≤hi.getD i 0
 low:∀i:Nat,i < a.mine.places.l.length→¬ K2b a A i=true→Uda a s lo (i:Int)≤0
 high:∀i:Nat,i < a.mine.places.l.length→¬ K2b a A i=true→0≤Juc a s hi (i:Int)
def Kpd {a:XAir} {s:XSetting} {A:List Bool} (h0:Ko a=0) (hf:J8a a s=true):((Vp a s A).1=0∧Solved a s A (Vp a s A).2.1 (Vp a s A).2.2)∨(Vp a s A).1=2:=by
 have s0:=Y5d (A:=A) h0 hf;rw [Vp];dsimp only;rcases Ywa (up:=false) s0 with e1 | e1;·
  rw [if_neg zc];obtain ⟨_,r1⟩:=Ywb e1;have s1:=s0.moved r1;rcases Ywa (up:=true) s1 with e2 | e2;·
   rw [if_neg zc];obtain ⟨_,r2⟩:=Ywb e2;have s2:=s1.moved r2;rcases Ywa (up:=false) s2 with e3 | e3;·
    rw [if_neg zc];obtain ⟨_,r3⟩:=Ywb e3;have s3:=s2.moved r3;left;refine ⟨rfl,s3,s2,fun i=>?_,fun i hi hn=>?_,fun i hi hn=>?_⟩;·have := (Yia s2.hp s2.hl r3).le i;simpa using this
    ·have := J8c s2.hp s2.hl r3 hi hn;simpa using this
    ·have := J8c s1.hp s1.hl r2 hi hn;simpa using this
   ·rw [if_pos zc];exact .inr e3
  ·rw [if_pos zc];exact .inr e2
 ·rw [if_pos zc];exact .inr e1
def Solved.accept {a:XAir} {s:XSetting} {A:List Bool} {lo hi:List Int} (h:Solved a s A lo hi) {b:XBounds} (e1:b.low.l=lo) (e2:b.high.l=hi):Accept a s b A:=by
 refine ⟨⟨h.lok.h0,h.lok.hf,by rw [e1];exact h.lok.hl,by rw [e2];exact h.hok.hl,by rw [e1];exact h.lok.hp,by rw [e2];exact h.hok.hp⟩,fun i hi2 hf=>?_,fun i hi2 hf=>?_⟩;·rw [e1,e2];exact ⟨h.lok.fix i hi2 hf,h.hok.fix i hi2 hf⟩
 ·rw [e1,e2];exact ⟨h.high i hi2 hf,h.low i hi2 hf⟩
end
section
def Z7e {a:XAir} {s:XSetting} {A:List Bool} (h0:Ko a=0) (hf:J8a a s=true) (hA:AiryIs a.mine A):
 (Zza a s A).1=0∧((Accept a s (Zva a s A) A∧(∀i:Nat,(Zva a s A).low.l.getD i 0≤(Zva a s A).high.l.getD i 0)∧(Zza a s A).2=(List.range a.mine.roads.l.length).map (Uo a s (Zva a s A) A))∨(Zza a s A).2=(List.range a.mine.roads.l.length).map (Z6 a)):=by
 have hfn:¬ J8a a s=false:=by rw [hf];decide
 rw [Zza,if_neg (by rw [h0];decide),if_neg hfn];rcases Kpd (A:=A) h0 hf with h | h;·have hac : Accept a s (Zva a s A) A := h.2.accept rfl rfl;rw [if_pos h.1,Up,if_pos (Yed.2 hac)];exact ⟨rfl,.inl ⟨hac,h.2.le,rfl⟩⟩
 ·rw [if_neg (by rw [h]; decide)];exact ⟨rfl,.inr rfl⟩
def J6d {a:XAir} {s:XSetting} {A:List Bool} (h0:Ko a=0) (hf:J8a a s=true) (hA:AiryIs a.mine A):(Zza a s A).2.length=a.mine.roads.l.length:=by rcases (Z7e h0 hf hA).2 with ⟨_,_,e⟩ | e <;> rw [e] <;> simp
end
section
attribute [local irreducible] CJ LJ DJ Tri YV Gives U7 Kb Kp U8 RV Ke OwL.L
abbrev J2c (x:Arr XSpan):Sl:=x.sl 2 XSpan.cells []
def Joe (x y:Arr XSpan) (L:LB) (R:LS) (hx:InR (J2c x) R) (hy:InR (J2c y) R) (he:x.l=y.l):
 Tri Tryz.prog 57 [x.val,y.val].toArray L R (fun v M U=>v=.bool true∧L=M∧R=U):=by
 have hle:x.l.length=y.l.length:=by rw [he]
 refine Ua Tryz.call57 hx fun hxn=>?_;refine Jd 26 Tryz.call57 Tryz.func57 rfl rfl rfl ?_;apply Xew∘Xaq∘Xaq∘Xaw;refine q_c ?_ ?_<;>intro hc0;·apply (Xc0);refine q_b L R ?_;exact absurd hc0 zc
 apply (Xcj);refine Jh [(0,.slice _ _ _),(1,.slice _ _ _),(5,.int _ _)] zg fun tq0=>?_;refine q_s ([4,5]++rg 11 15) (fun g:{k:Nat // k≤x.l.length}=>[(5,.int .i64 ((g.1:Nat):Int))]) (fun g=>x.l.length - g.1) (⟨0,by omega⟩) ?_;rintro ⟨k,hk⟩ junk;try dsimp only
 apply (Xcr);refine q_c ?_ ?_<;>intro hc1;·
  have h1:=Js (l:=x.l) (k:=k) default zc;have h2:=Js (l:=y.l) (k:=k) default zc;rw [← he] at h2;rw [he] at h2;refine Jt (Ja (Ji (Jy (Ji ?_))));refine Kg tb [0,1,2,3,4,5,6,7,8] _ Kn zf ye ?_;refine Kq zrd rfl rfl rfl ?_;apply Xdo∘qdo;refine Kq zrd rfl rfl rfl ?_;apply Xdo∘qdo;refine Kq (Kjd Vjd rfl rfl) rfl rfl rfl ?_;apply (qbu);refine q_c ?_ ?_<;>intro hc2;·apply (Xci);refine q_b L R ?_;exact absurd hc2 (by rw [he];simp)
  exact zYd
 exact zMf
structure XFace where
 road:Int
 need:Int
 deriving Inhabited
def XFace.cells (s:XFace):List Value:=[.int .i64 s.road,.int .i64 s.need]
abbrev Ueg (x:Arr XFace):Sl:=x.sl 2 XFace.cells []
structure WrTo {α:Type} (n:Nat) (z:α) (g:Nat→α) (i:Nat) (l:List α):Prop where
 len:l.length=n
 don:∀j:Nat,j < i→l[j]?=some (g j)
 non:∀j:Nat,i≤j→j < n→l[j]?=some z
def WrTo.zero {α:Type} {n:Nat} {z:α} {g:Nat→α}:WrTo n z g 0 (List.replicate n z):=⟨by simp,fun j hj=>by omega,fun j _ hj=>by rw [yL,if_pos hj]⟩
def WrTo.next {α:Type} {n:Nat} {z:α} {g:Nat→α} {i:Nat} {l:List α} (h:WrTo n z g i l) (hi:i < n) {x:α} (hx:x=g i):WrTo n z g (i + 1) (l.set i x):=by exact uaZ
def WrTo.stay {α:Type} {n:Nat} {z:α} {g:Nat→α} {i:Nat} {l:List α} (h:WrTo n z g i l) (hi:i < n) (hx:z=g i):WrTo n z g (i + 1) l:=by exact ua4
def WrTo.done {α:Type} {n:Nat} {z:α} {g:Nat→α} {l:List α} (h:WrTo n z g n l):l=(List.range n).map g:=by
 have hl:=h.len;refine yfa fun j=>?_;rcases yk j n with hj | hj;·rw [h.don j hj,yt,yZ hj];rfl
 ·rw [yq zc,yq zH]
def Uke (x:XSpan) (need:Int):Int:=
 if x.high < x.low then 0 else if (need≤0∨need≤x.low)∨x.high≤ -need then 1 else if -need < x.low∧x.high < need then -1 else 0
def J9b (fl:List XSpan) (f:XFace):Int:=if 0≤f.road∧f.road < fl.length then Uke (fl.getD f.road.toNat default) f.need else 0
def Ubg (fl:List XSpan) (fc:List XFace):List Int:=(List.range fc.length).map fun k=>J9b fl (fc.getD k default)
def Ujf (fc:List XFace):Prop:=∀f∈fc,-4611686018427387904≤f.need∧f.need≤4611686018427387904
def Jxf (x:XSpan) (need:Int) (L:LB) (R:LS) (hn:-4611686018427387904≤need∧need≤4611686018427387904):
 Tri Tryz.prog 275 [x.val,.int .i64 need].toArray L R (fun v M U=>v=.int .i64 (Uke x need)∧L=M∧R=U):=by
 refine Jd 39 Tryz.call275 Tryz.func275 rfl rfl rfl ?_;apply (Xag);intro b2;apply (qad);refine J6 (Ja (Ji (Jy (Ji (Je ?_)))));apply Xaa∘Xa5∘Xaz;refine q_c ?_ ?_<;>intro hc0;·apply (Xbc);refine q_i L R ?_;exact ⟨by rw [Uke,if_pos hc0],rfl,rfl⟩
 apply Xbn∘qbx∘qah;apply J3 (G:=[_,_,_,_]) (j:=2) (cj:=14) rfl rfl ze rfl ztb rfl;·intro hg3;replace hg3:=qb hg3;exact (Xaf) zie
 intro junk3;apply (qah);apply J3 (G:=[_,_,_,_,_]) (j:=8) (cj:=20) rfl rfl ze rfl ztb rfl;·intro hg9;replace hg9:=qb hg9;exact (Xaf∘qcq) zSe
 intro junk9;apply (Xaz);refine q_c ?_ ?_<;>intro hc1;·apply (Xbc);refine q_i L R ?_;exact ⟨by rw [Uke,if_neg zc,if_pos zc],rfl,rfl⟩
 apply qae∘Xaf∘qcq∘qa5∘qah;apply Ue (G:=[_,_,_,_]) (j:=5) (cj:=33) rfl rfl ze rfl ztb rfl;·intro hg6;replace hg6:=qb hg6;exact (Xaf) zJe
 intro junk6;apply (Xaz);refine q_c ?_ ?_<;>intro hc2;·apply (Xbc);refine q_i L R ?_;exact ⟨by rw [Uke,if_neg zc,if_neg zc,if_pos zc],rfl,rfl⟩
 refine Jt (Jg (Ja (Ji (Je ?_))));apply (Xam);refine q_i L R ?_;exact ⟨by rw [Uke,if_neg zc,if_neg zc,if_neg zc],rfl,rfl⟩
def Vee (fl:Arr XSpan) (fc:Arr XFace) (L:LB) (R:LS) (hfl:InR (J2c fl) R) (hfc:InR (Ueg fc) R) (hn:Ujf fc.l) (hlen:fc.l.length≤1000) (hflen:fl.l.length≤1000):
 Tri Tryz.prog 232 [fl.val,fc.val].toArray L R (fun w M U=>∃p:OwL Int,w=p.val∧p.ok 1 Jj∧p.l=Ubg fl.l fc.l∧p.L 3 Jj ++ L=M∧R=U):=by
 refine Jd 41 Tryz.call232 Tryz.func232 rfl rfl rfl ?_;apply Xdi∘qam∘Xaq∘qc7;rintro v M U ⟨b10,rfl,rfl,hR10⟩;replace hR10:=hR10.symm;subst hR10;apply (Xd1);refine V4 (Yo (f:=Jj) (x:=0) rfl _) ?_;apply qay∘Xdn;refine Jh [(0,.slice _ _ _),(5,.slice _ _ _),(11,.slice _ _ _),(12,.int _ _),(13,.int _ _)] zg fun tq0=>?_;refine q_p ([6,7]++rg 13 27) ((⟨fun g=>[(13,.int .i64 ((g.1.1:Nat):Int))],fun g=>(⟨.own b10 fc.l.length [],g.1.2⟩:OwL Int).L 3 Jj ++ L,fun _=>R,fun g=>fc.l.length - g.1.1⟩:Head {g:Nat×List Int // g.1≤fc.l.length∧WrTo fc.l.length 0 (fun k=>J9b fl.l (fc.l.getD k default)) g.1 g.2})) (⟨(0,List.replicate fc.l.length 0),by dsimp only;omega,.zero⟩) ?_;rintro ⟨⟨k,l⟩,w1,w2⟩ junk;try dsimp only
 dsimp only at w1 w2;have hll:=w2.len;have hkq:(⟨.own b10 fc.l.length [],l⟩:OwL Int).ok 1 Jj:=by have:=Yj (f:=Jj) (wd:=1) (b:=b10) (n:=fc.l.length) (x:=0) Uw zF;exact OwL.len_ok Uw this zua
 apply (Xay);refine q_c ?_ ?_<;>intro hc0;·
  have hfg:=Js (l:=fc.l) (k:=k) default zc;have hlg:=w2.non k (yn _) zc;have hnd:=hn _ (yi hfg);obtain ⟨f,hf⟩:∃f,f=fc.l.getD k default:=⟨_,rfl⟩;rw [← hf] at hfg hnd;apply (Xbv);refine J0 zC rfl ?_;apply (Xei);intro b7;apply qad∘Xcv∘qbz∘qah;apply Ue (G:=[_,_,_,_,_]) (j:=3) (cj:=21) rfl rfl ze rfl ztb rfl;·intro hg4;replace hg4:=qb hg4;exact (Xaa∘Xaq) zJe
  intro junk4;apply (qaf);refine q_c ?_ ?_<;>intro hc1;·have hsg:=Js (l:=fl.l) (k:=f.road.toNat) default zc;(have hfv:Uke (fl.l.getD f.road.toNat default) f.need=(fun k=>J9b fl.l (fc.l.getD k default)) k:=by dsimp only;rw [← hf,J9b,if_pos zc]);refine Kh tb [] [0,1,2,3,4,5,6,7,8,9,10] [11] ([Blk.mk b7 _ _]) _ Kn zf zk yd ?_;apply Xey∘Xd2;refine Kz (by first | exact Jf tb rfl rfl rfl rfl zB (i:=f.road.toNat) zo zc | exact Jm tb rfl rfl rfl rfl (i:=f.road.toNat) zo zc) rfl rfl rfl rfl ?_;apply qd1∘Xah;refine Kv rfl (Jxf (fl.l.getD f.road.toNat default) f.need _ _ hnd) rfl rfl ?_;rintro v M U ⟨rfl,rfl,rfl⟩;refine ⟨zk,zu,?_⟩;refine Kz (Jo tb ((⟨.own b10 fc.l.length [],l⟩:OwL Int)) _ rfl rfl ((show _=Value.slice _ _ _ from rfl).trans (Uq hll)) rfl zi (i:=k) zo zw) rfl rfl rfl rfl ?_;apply (qba);refine Jwb (Jp tb ((⟨.own b10 fc.l.length [],l⟩:OwL Int)) (Uke (fl.l.getD f.road.toNat default) f.need) rfl rfl rfl rfl zm zi yf zi zj ze ze) rfl rfl ?_;rintro v M U ⟨rfl,rfl⟩;apply qa1∘Xer;exact q_k ⟨(k + 1,l.set k (Uke (fl.l.getD f.road.toNat default) f.need)),by dsimp only;omega,w2.next zc hfv⟩
  have hfv:(0:Int)=(fun k=>J9b fl.l (fc.l.getD k default)) k:=by dsimp only;rw [← hf,J9b,if_neg zc]
  apply (Xbk);exact q_k ⟨(k + 1,l),by dsimp only;omega,w2.stay zc hfv⟩
 obtain rfl:k=fc.l.length:=by omega
 apply qbk∘Xej;refine q_r ((⟨.own b10 fc.l.length [],l⟩:OwL Int).L 3 Jj ++ L) R zzd ?_;exact ⟨(⟨.own b10 fc.l.length [],l⟩:OwL Int),by simp only [OwL.val,Ow.addr,Ow.cap,hll],hkq,w2.done,rfl,rfl⟩
end
section
end
section
abbrev Sts:=List Int×List Int
def mkS (s:Sts):XSetting:=⟨⟨none,0,s.1⟩,⟨none,0,s.2⟩⟩
abbrev Jlc (s:XSetting):Sts:=(s.fans.l,s.doors.l)
def flS (a:XAir) (A:List Bool) (s:Sts):List XSpan:=(Zza a (mkS s) A).2
end
section
def Z9c (f:XFan):XFan:=⟨f.road,f.back,f.aux,⟨none,0,f.curve.l⟩⟩
def Zpa (d:XDoor):XDoor:=⟨d.road,d.other,⟨none,0,d.rests.l⟩⟩
def Ync (m:XMine):XMine:=⟨⟨none,0,m.places.l⟩,⟨none,0,m.roads.l⟩⟩
def Z1 (a:XAir):XAir:=⟨Ync a.mine,⟨none,0,a.fans.l.map Z9c⟩,⟨none,0,a.doors.l.map Zpa⟩⟩
abbrev Ysc (s:XSetting):XSetting:=mkS (Jlc s)
def Vfb {α β:Type} {f:α→β} {l:List α} {k:Nat} {d:α} {e:β} (h:f d=e):(l.map f).getD k e=f (l.getD k d):=by
 rw [yh,yh,yt];cases l[k]? with
 | none=>exact h.symm
 | some x=>rfl
def U8e (a:XAir) (k:Nat):(Z1 a).fans.l.getD k default=Z9c (a.fans.l.getD k default):=Vfb rfl
def Ypb (a:XAir) (k:Nat):(Z1 a).doors.l.getD k default=Zpa (a.doors.l.getD k default):=Vfb rfl
def Zyb (a : XAir) (s : XSetting) (r : Int) : ∀ k, Uj (Z1 a) (Ysc s) r k = Uj a s r k
 | 0=>rfl
 | k + 1=>by rw [Uj,Uj,Zyb a s r k,Ypb];rfl
def U5b (a : XAir) (s : XSetting) (r q : Int) : ∀ k, innerTo (Z1 a) (Ysc s) r q k = innerTo a s r q k
 | 0=>by rw [innerTo,innerTo,Zyb,show (Z1 a).doors.l.length=a.doors.l.length from yK _];rfl
 | k + 1=>by rw [innerTo,innerTo,U5b a s r q k,U8e];rfl
def Ydd (a:XAir) (s:XSetting):Uc (Z1 a) (Ysc s)=Uc a s:=by funext r q;rw [Uc,Uc,U5b,show (Z1 a).fans.l.length=a.fans.l.length from yK _]
def Zec (l:List XDoor):Jga (l.map Zpa)=Jga l:=by
 funext i;rw [Jga,Jga,yt];cases l[i]? with
 | none=>rfl
 | some d=>
  have hp:Kxb (l.map Zpa) i (Zpa d)↔Kxb l i d:=by unfold Kxb;simp only [yK,Vfb (f:=Zpa) (l:=l) (d:=default) (e:=default) rfl];exact Iff.rfl
  simp only [yFa,hp];rfl
def Uzc (l:List XDoor):Vo (l.map Zpa)=Vo l:=by rw [Vo,Vo,Zec,yK]
def Yub (a:XAir):Ko (Z1 a)=Ko a:=by have h1:(Z1 a).fans.l=a.fans.l.map Z9c:=rfl;have h2:(Z1 a).doors.l=a.doors.l.map Zpa:=rfl;have h3:(Z1 a).mine=Ync a.mine:=rfl;have h4:Ui (Ync a.mine)=Ui a.mine:=rfl;rw [Ko,Ko,h1,h2,h3,h4,Uzc,yK,yQb,yQb];rfl
def Zkd (a:XAir) (s:XSetting):J8a (Z1 a) (Ysc s)=J8a a s:=by
 have h1:(Z1 a).fans.l.length=a.fans.l.length:=yK _;have h2:(Z1 a).doors.l.length=a.doors.l.length:=yK _;have h3:Zk (Z1 a).doors.l (Ysc s).doors.l=Zk a.doors.l s.doors.l:=by funext i;show Zk (a.doors.l.map Zpa) s.doors.l i=_;rw [Zk,Zk,yt];cases s.doors.l[i]? <;> cases a.doors.l[i]? <;> rfl
 rw [J8a,J8a,h1,h2,h3];rfl
section
variable {a a':XAir} {s s':XSetting}
structure AirE (a a':XAir) (s s':XSetting):Prop where
 mine:a.mine.places.l=a'.mine.places.l∧a.mine.roads.l=a'.mine.roads.l
 inner:Uc a s=Uc a' s'
 err:Ko a=Ko a'
 fit:J8a a s=J8a a' s'
variable (h:AirE a a' s s')
include h
def AirE.term (F G:(Int→XSpan)→Int→Int):Uxa F G a s=Uxa F G a' s':=by funext ps v k;rw [Uxa,Uxa,Jda,Jda,h.inner,h.mine.2]
def AirE.sum (F G : (Int → XSpan) → Int → Int) (ps : List Int) (v : Int) : ∀ k, Y7b F G a s ps v k = Y7b F G a' s' ps v k
 | 0=>rfl
 | k + 1=>by rw [Y7b,Y7b,AirE.sum F G ps v k,h.term]
def AirE.low:Juc a s=Juc a' s':=by funext ps v;rw [Juc,Juc,h.sum,h.mine.2]
def AirE.high:Uda a s=Uda a' s':=by funext ps v;rw [Uda,Uda,h.sum,h.mine.2]
def AirE.test (up:Bool) (l:List Int):Vuc a s up l=Vuc a' s' up l:=by funext v q;rw [Vuc,Vuc];unfold Jid Zqa;rw [h.low,h.high]
def AirE.next (up:Bool):Z4 a s up=Z4 a' s' up:=by funext l k;rw [Z4,Z4,h.test]
def AirE.fix (A:List Bool):K2b a A=K2b a' A:=by funext k;rw [K2b,K2b,h.mine.1]
def AirE.sweep (A : List Bool) (up : Bool) (l : List Int) : ∀ k, Vk a s A up l k = Vk a' s' A up l k
 | 0=>rfl
 | k + 1=>by rw [Vk,Vk,AirE.sweep A up l k,h.fix,h.next]
def AirE.rounds (A : List Bool) (up : Bool) : ∀ n l, Vj a s A up n l = Vj a' s' A up n l
 | 0,_=>rfl
 | n + 1,l=>by
  rw [Vj,Vj,h.sweep,h.mine.1]
  cases Vk a' s' A up l a'.mine.places.l.length with
  | none=>rfl
  | some m=>dsimp only;rw [AirE.rounds A up n m]
def AirE.start (ps:List Int) (A:List Bool):Us a s ps A=Us a' s' ps A:=by
 have e:V3 a ps A=V3 a' ps A:=by funext i;rw [V3,V3,h.fix]
 rw [Us,Us,h.err,h.fit,h.mine.1,e]
def AirE.relax (A:List Bool) (up:Bool) (ps:List Int):Kx a s A up ps=Kx a' s' A up ps:=by rw [Kx,Kx,h.start,h.rounds]
def AirE.solve (A:List Bool):Vp a s A=Vp a' s' A:=by
 have e:Kx a s A=Kx a' s' A:=by funext up ps;exact h.relax A up ps
 rw [Vp,Vp,e,h.mine.1]
def AirE.check (b:XBounds) (A:List Bool):V7 a s b A=V7 a' s' b A:=by
 have e:U4 a s b A=U4 a' s' b A:=by funext i;rw [U4,U4,h.low,h.high,h.mine.1]
 rw [V7,V7,h.err,h.fit,h.mine.1,e]
def AirE.flows (b:XBounds) (A:List Bool):Up a s b A=Up a' s' b A:=by
 have e:Uo a s b A=Uo a' s' b A:=by funext k;rw [Uo,Uo,h.inner,h.mine.2]
 rw [Up,Up,h.check,h.mine.2,e]
def AirE.ana (A:List Bool):Zza a s A=Zza a' s' A:=by
 have e:Z6 a=Z6 a':=by funext k;rw [Z6,Z6,h.mine.2]
 rw [Zza,Zza,h.err,h.fit,Zva,Zva,h.solve,h.flows,h.mine.2,e]
end
def AirE.bare (a:XAir) (s:XSetting):AirE (Z1 a) a (Ysc s) s:=⟨⟨rfl,rfl⟩,Ydd a s,Yub a,Zkd a s⟩
def AirE.symm {a a':XAir} {s s':XSetting} (h:AirE a a' s s'):AirE a' a s' s:=⟨⟨h.mine.1.symm,h.mine.2.symm⟩,h.inner.symm,h.err.symm,h.fit.symm⟩
def AirE.trans {a a' a'':XAir} {s s' s'':XSetting} (h:AirE a a' s s') (k:AirE a' a'' s' s''):AirE a a'' s s'':=⟨⟨h.mine.1.trans k.mine.1,h.mine.2.trans k.mine.2⟩,h.inner.trans k.inner,h.err.trans k.err,h.fit.trans k.fit⟩
def AirE.of {a a':XAir} {s s':XSetting} (h1:Z1 a=Z1 a') (h2:Jlc s=Jlc s'):AirE a a' s s':=by have e1:=(AirE.bare a s).symm;have e2:=AirE.bare a' s';rw [h1,show Ysc s=Ysc s' from congrArg mkS h2] at e1;exact e1.trans e2
def Kmf (a:XAir) {s s':XSetting} (A:List Bool) (h:Jlc s=Jlc s'):Zza a s A=Zza a s' A:=(AirE.of rfl h).ana A
def Kae (a:XAir) {s s':XSetting} (h:Jlc s=Jlc s'):J8a a s=J8a a s':=(AirE.of rfl h).fit
def V7f (a:XAir) (s:XSetting) (A:List Bool):flS a A (Jlc s)=(Zza a s A).2:=by rw [flS,Kmf a (s:=mkS (Jlc s)) (s':=s) A rfl]
end
end Go.Proofs.YtchfclmokpbldaaGreat
