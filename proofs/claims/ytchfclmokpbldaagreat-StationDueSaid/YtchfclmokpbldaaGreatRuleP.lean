/-
  Merged texts. By an AI agent.
-/
import Derived.Test.YtchfclmokpbldaaGreatSiteS
set_option linter.all false
set_option maxHeartbeats 4000000
set_option maxRecDepth 20000
namespace Go.Proofs.YtchfclmokpbldaaGreat
open Go.Aw Go
section
attribute [local irreducible] CJ LJ DJ Tri YV Gives Ur J3 Ko Uq RV J5 OwL.L
section
variable {A B:Prop}
def Jud(h:A→B:=by exact Jx zrb rfl):=h
def Uvf(h:A→B:=by exact Jx zYb rfl):=h
def Uuf(h:A→B:=by exact U8a (v:=Value.bool _) tb rfl rfl rfl rfl zB zba zW zb):=h
def Zrf(h:B:=by exact ⟨by rw [hE,Zi,if_neg h3,if_neg (by rw [ho];decide),if_neg h5,if_pos (by first | (rw [if_pos hc6];omega) | (rw [if_neg hc6];omega))],rfl,rfl⟩):=h
def Ksg(h:B:=by exact ⟨by rw [hE,Zi,if_neg h3,if_neg (by rw [ho];decide),if_neg h5,if_neg (by first | (rw [if_pos hc6];omega) | (rw [if_neg hc6];omega))];first | (rw [if_pos hc6,ho];done) | (rw [if_neg hc6,ho];done),rfl,rfl⟩):=h
end
def Ub (l:XLevel) (L:LB) (R:LS):
 Tri Tryz.prog 177 [l.val].toArray L R (fun v M U=>v=.int .i64 (Yy l)∧L=M∧R=U):=by
 refine Jd 28 Tryz.call177 Tryz.func177 rfl rfl rfl ?_;apply (Xaf);intro b1;apply Xar∘Xbs∘qah;apply Kf (G:=[_,_,_]) (j:=3) (cj:=6) rfl rfl zb rfl zmb rfl;·exact zxe
 intro junk4;apply (qah);apply Kf (G:=[_,_,_,_,_]) (j:=8) (cj:=11) rfl rfl zb rfl zmb rfl;·intro hg9;replace hg9:=qb hg9;exact (Xa6) zCd
 intro junk9;apply (qah);apply Kf (G:=[_,_,_]) (j:=15) (cj:=18) rfl rfl zb rfl zmb rfl;·intro hg16;replace hg16:=qb hg16;exact zJd
 intro junk16;apply (qah);apply Kf (G:=[_,_,_]) (j:=20) (cj:=23) rfl rfl zb rfl zmb rfl;·intro hg21;replace hg21:=qb hg21;exact (Xbs) qai
 intro junk21;apply (qaf);refine q_c ?_ ?_<;>intro hc0;·apply (Xbc);refine q_i L R ?_;exact ⟨by (try simp at hc0);rw [Yy,if_neg (by rw [Vz];omega)],rfl,rfl⟩
 apply (Xcz);refine q_i L R ?_;exact ⟨by (try simp at hc0);rw [Yy,if_pos (by rw [Vz];omega)],rfl,rfl⟩
def Zpb (x:XSpan) (n:Int) (L:LB) (R:LS):
 Tri Tryz.prog 230 [x.val,.int .i64 n].toArray L R (fun v M U=>v=.int .i64 (Jha x n)∧L=M∧R=U):=by
 refine Jd 21 Tryz.call230 Tryz.func230 rfl rfl rfl ?_;apply (Xaf);intro b2;apply (qad);refine J7 (Jb (Jp (Ka (Jp (Jg ?_)))));apply Xa6∘qa5∘Xaq;refine q_c ?_ ?_<;>intro hc0;·apply (Xbk);refine q_i L R ?_;exact ⟨by rw [Jha,if_pos hc0],rfl,rfl⟩
 apply qae∘Xai∘qbz∘Xaq;refine q_c ?_ ?_<;>intro hc1;·apply (Xbk);refine q_i L R ?_;exact ⟨by rw [Jha,if_neg za,if_pos hc1],rfl,rfl⟩
 apply qae∘Xai∘qaj∘Xaq;refine q_c ?_ ?_<;>intro hc2;·apply (Xbk);refine q_i L R ?_;exact ⟨by rw [Jha,if_neg za,if_neg za,if_pos hc2],rfl,rfl⟩
 refine J1 (Je (Jb (Jp (Jg ?_))));apply (Xaj);refine q_i L R ?_;exact ⟨by rw [Jha,if_neg za,if_neg za,if_neg za],rfl,rfl⟩
def Veb {l:XLevel}:Yy l=0↔Vz l:=by rw [Yy];split <;> simp_all
def K0c {l:XLevel} {w:XWatch} {t:Int} (h1:Vz l) (h2:¬ (t < 0∨2147483648 < t∨t < w.last)) (h3:Uja w):Y8 l w t=0:=by rw [Y8,if_neg (fun h=>h h1),if_neg h2,if_neg (fun h=>h h3)]
def V6c {l:XLevel} {w:XWatch} {x:XSpan} {t:Int} {e:Int} (h:Y8 l w t=e) (he:e≠0):Vqe l w x t=V1e:=by rw [Vqe,if_neg za]
def Yud {l:XLevel} {w:XWatch} {x:XSpan} {t:Int} (h:Y8 l w t=0):Vqe l w x t=Zi l w x t:=by rw [Vqe,if_pos h]
def Z9e (l:XLevel) (w:XWatch) (x:XSpan) (t:Int) (L:LB) (R:LS):
 Tri Tryz.prog 228 [l.val,w.val,x.val,.int .i64 t].toArray L R (fun v M U=>v=.tuple #[(Vqe l w x t).val,.int .i64 (Y8 l w t)]∧L=M∧R=U):=by
 refine Jd 97 Tryz.call228 Tryz.func228 rfl rfl rfl ?_;apply (Xaf);intro b4;apply (qax);intro b5;apply (qax);intro b6;apply (qaq);intro b8;apply Xar∘Jud;refine q_l rfl (Ub l _ _) ?_;apply (Xbm);refine q_c ?_ ?_<;>intro hc0;·
  apply qae∘Uvf∘Xcg;refine q_r L R zhd ?_;have hl:¬ Vz l:=fun h=>by rw [Veb.2 h] at hc0;omega
  have hE:Y8 l w t=1:=by rw [Y8,if_pos hl]
  exact ⟨by rw [hE,V6c hE ze,Yy,if_neg hl];rfl,rfl,rfl⟩
 have hl:Vz l:=Veb.1 za;apply qbo∘Xca;apply Kf (G:=[_,_]) (j:=2) (cj:=19) rfl rfl zb rfl zmb rfl;·exact zyd
 intro junk3;apply (qah);apply Kf (G:=[_,_,_,_]) (j:=6) (cj:=23) rfl rfl zb rfl zmb rfl;·intro hg7;replace hg7:=qb hg7;exact (qaa) zJd
 intro junk7;apply (qaf);refine q_c ?_ ?_<;>intro hc1;·
  apply qae∘Uvf∘Xa3;refine q_r L R zhd ?_;have hE:Y8 l w t=8:=by rw [Y8,if_neg (fun h=>h hl),if_pos (by (try simp at hc1);omega)]
  exact ⟨by rw [hE,V6c hE ze];rfl,rfl,rfl⟩
 have ht:¬ (t < 0∨2147483648 < t∨t < w.last):=by (try simp at hc1);omega
 apply qbo∘Xbu;apply Kf (G:=[_,_,_]) (j:=3) (cj:=33) rfl rfl zb rfl zmb rfl;·exact zud
 intro junk4;apply (qah);apply Kf (G:=[_,_,_]) (j:=8) (cj:=38) rfl rfl zb rfl zmb rfl;·exact zve
 intro junk9;apply (qah);apply Kf (G:=[_,_,_,_,_]) (j:=13) (cj:=43) rfl rfl zb rfl zmb rfl;·intro hg14;replace hg14:=qb hg14;exact (Xa6∘qa5) qai
 intro junk14;apply (qah);apply Kf (G:=[_,_,_,_,_,_,_,_]) (j:=20) (cj:=50) rfl rfl zb rfl zmb rfl;·
  intro hg21;replace hg21:=qb hg21;apply Xaa∘Xb5;apply Us (G:=[_,_,_]) (j:=24) (cj:=54) rfl rfl zb rfl zmb rfl;·intro hg25;replace hg25:=qb hg25;exact (Xaa∘qb4) qai
  intro junk25;exact qai
 intro junk21;apply (qaf);refine q_c ?_ ?_<;>intro hc2;·
  apply qae∘Uvf∘Xa3;refine q_r L R zhd ?_;have hE:Y8 l w t=10:=by rw [Y8,if_neg (fun h=>h hl),if_neg ht,if_pos];rw [Uja];cases ho:w.over <;> simp [ho] at hc2 ⊢ <;> omega
  exact ⟨by rw [hE,V6c hE ze];rfl,rfl,rfl⟩
 have hE:Y8 l w t=0:=K0c hl ht (by rw [Uja];cases ho:w.over <;> simp [ho] at hc2 ⊢ <;> omega);rw [Yud hE];apply qbv∘qaa∘Xa8;refine J7 (Jb (Jp (Ka (Jp (Jg ?_)))));apply qbe∘Xaa;refine q_l rfl (Zpb x l.cut _ _) ?_;apply qbq∘Xaq;refine q_c ?_ ?_<;>intro hc3;·apply qay∘qab∘Uuf∘Xa8;refine J7 (Je (Jb (Jp (Jg ?_))));apply Jud∘Xbw;refine q_r L R zhd ?_;exact ⟨by rw [hE,Zi,if_pos hc3],rfl,rfl⟩
 have h3:¬ Jha x l.cut≠-1:=hc3;apply Xck∘qb4∘Xaq;refine q_c ?_ ?_<;>intro hc4;·refine J1 (Je (Jb (Jp (Jg ?_))));apply Jud∘Xbw;refine q_r L R zhd ?_;exact ⟨by rw [hE,Zi,if_neg h3,if_pos zX];first | rfl | rw [show w.over=false by simpa using hc4],rfl,rfl⟩
 have ho:w.over=true:=by simpa using hc4
 apply qae∘Xa6∘qa5∘Xaq;refine q_c ?_ ?_<;>intro hc5;·apply qay∘Xa8;refine J7 (Je (Jb (Jp (Jg ?_))));apply Jud∘Xbw;refine q_r L R zhd ?_;exact ⟨by rw [hE,Zi,if_neg h3,if_neg (by rw [ho];decide),if_pos za];first | rfl | rw [ho],rfl,rfl⟩
 have h5:¬ l.clear < x.high:=by omega
 apply qbi∘Xaa∘Xa5;refine q_c ?_ ?_<;>intro hc6;·
  apply Xa7∘Xa8∘Xc3∘Xaa∘qa9∘Xaa∘Xcq;refine q_c ?_ ?_<;>intro hc7;·exact zSd
  exact zhe
 apply qbv∘Xd8∘qa9∘Xaa∘Xcq;refine q_c ?_ ?_<;>intro hc7;·exact zSd
 exact zhe
end
section
def Ksc (l:List XNode) (j:Nat):Prop:=
 ((l.getD j default).kind=1∧0≤(l.getD j default).cond∧(l.getD j default).cond < 64)∨
 ((l.getD j default).kind=2∧1≤j∧(l.getD j default).left=(j:Int) - 1)∨
 (((l.getD j default).kind=3∨(l.getD j default).kind=4)∧1≤j∧(l.getD j default).right=(j:Int) - 1∧0≤(l.getD j default).left∧(l.getD j default).left < (j:Int))
def Kaa {l : List XNode} : ∀ (n : Nat) (i f d : Int), Vq l n i = some (f, d) → (0 ≤ f ∧ f ≤ i) ∧ (1 ≤ d ∧ d ≤ n) ∧ ∀ j : Nat, f ≤ (j : Int) → (j : Int) ≤ i → Ksc l j
 | 0,i,f,d,h=>by rw [Vq] at h;cases h
 | n + 1,i,f,d,h=>by
  rw [Vq] at h
  split at h
  ·cases h
  rename_i hi
  have at_i:∀j:Nat,(j:Int)=i→l.getD j default=l.getD i.toNat default:=fun j hj=>by rw [← hj,yy]
  split at h
  ·rename_i h1
   split at h
   ·rename_i h2
    cases h
    refine ⟨by omega,by omega,fun j j1 j2=>?_⟩
    have hj:=at_i j za
    rw [Ksc,hj]
    exact .inl ⟨h1,h2.2.2.1,h2.2.2.2⟩
   ·cases h
  split at h
  ·rename_i h1
   split at h
   ·cases h
   rename_i f' d' hp
   split at h
   ·rename_i h2
    cases h
    obtain ⟨i1,i2,i3⟩:=Kaa n _ _ _ hp
    refine ⟨by omega,by omega,fun j j1 j2=>?_⟩
    by_cases hj:(j:Int)=i
    ·have hj' := at_i j hj
     rw [Ksc,hj']
     exact .inr (.inl ⟨h1,by omega,by omega⟩)
    ·exact i3 j j1 za
   ·cases h
  split at h
  ·rename_i h1
   split at h
   ·cases h
   rename_i m r hp
   split at h
   ·rename_i h2
    split at h
    ·cases h
    rename_i f' q hq
    cases h
    obtain ⟨i1,i2,i3⟩:=Kaa n _ _ _ hp
    obtain ⟨k1,k2,k3⟩:=Kaa n _ _ _ hq
    refine ⟨by omega,by omega,fun j j1 j2=>?_⟩
    by_cases hj:(j:Int)=i
    ·have hj' := at_i j hj
     rw [Ksc,hj']
     exact .inr (.inr ⟨h1,by omega,by omega,by omega,by omega⟩)
    ·rcases yqa (j : Int) m with hm | hm
     ·exact k3 j j1 za
     ·exact i3 j hm za
   ·cases h
  ·cases h
def U4a {l : List XNode} : ∀ (n m : Nat) (i : Int) (x : Int × Int), n ≤ m → Vq l n i = some x → Vq l m i = some x
 | 0,_,i,x,_,h=>by rw [Vq] at h;cases h
 | n + 1,0,i,x,hnm,h=>by omega
 | n + 1,m + 1,i,x,hnm,h=>by
  rw [Vq] at h ⊢
  split at h
  ·cases h
  rename_i hi
  rw [if_neg hi]
  split at h
  ·rename_i h1;rw [if_pos h1];exact h
  rename_i h1
  rw [if_neg h1]
  split at h
  ·rename_i h2
   rw [if_pos h2]
   split at h
   ·cases h
   rename_i f' d' hp
   rw [U4a n m _ _ za hp]
   exact h
  rename_i h2
  rw [if_neg h2]
  split at h
  ·rename_i h3
   rw [if_pos h3]
   split at h
   ·cases h
   rename_i a b hp
   rw [U4a n m _ _ za hp]
   dsimp only
   split at h
   ·rename_i h4
    rw [if_pos h4]
    split at h
    ·cases h
    rename_i a' b' hq
    rw [U4a n m _ _ za hq]
    exact h
   ·cases h
  ·cases h
def Zha {l:List XNode}:Ula l=true↔(1≤l.length∧l.length≤64)∧∃d,Vq l l.length ((l.length:Int) - 1)=some (0,d)∧d≤16:=by
 rw [Ula,yt,decide_eq_true_eq];constructor;·
  rintro ⟨h1, h2⟩;refine ⟨h1,?_⟩;split at h2;·cases h2
  ·rename_i f d hp;simp only [decide_eq_true_eq] at h2;obtain ⟨rfl,hd⟩:=h2;exact ⟨d,hp,hd⟩
 ·rintro ⟨h1, d, hp, hd⟩;refine ⟨h1,?_⟩;rw [hp];simpa using hd
def Ued {l:List XNode} (h:Ula l=true) (j:Nat) (hj:j < l.length):Ksc l j:=by obtain ⟨h1,d,hp,_⟩:=Zha.1 h;exact (Kaa _ _ _ _ hp).2.2 j za za
def Yq {l : List XNode} {vals : List Int} : ∀ k, (U1 l vals k).length = k
 | 0=>rfl
 | k + 1=>by rw [U1,yj,Yq k];rfl
def J2a {l : List XNode} {vals : List Int} : ∀ {k j : Nat}, j < k → (U1 l vals k).getD j 0 = V2a vals (U1 l vals j) (l.getD j default)
 | 0,j,h=>by omega
 | k + 1,j,h=>by
  have hl:=Yq (l:=l) (vals:=vals) k
  rw [U1,yh]
  rcases yl j k with h1 | h1
  ·rw [yB za, ← yh]
   exact J2a h1
  ·obtain rfl : j = k := by omega
   rw [yH za,hl,yHb]
   rfl
def Kl (a b:Int):Prop:=(-1≤a∧a≤1)∧(-1≤b∧b≤1)∧(a=0∨a=b)
def Zre {vals vals' v v':List Int} {x:XNode} (hn:vals.length=vals'.length) (hv:∀j:Nat,vals.getD j 0=0∨vals.getD j 0=vals'.getD j 0) (hr:∀j:Nat,-1≤vals'.getD j 0∧vals'.getD j 0≤1) (h:∀j:Nat,Kl (v.getD j 0) (v'.getD j 0)):Kl (V2a vals v x) (V2a vals' v' x):=by
 have h1:=h x.left.toNat;have h2:=h x.right.toNat;rw [Kl] at h1 h2;rw [V2a,V2a];split;·have h3 := hv x.cond.toNat;have h4:=hr x.cond.toNat;rw [Uwd,Uwd,← hn,Kl];split <;> split <;> omega
 split;·rw [Kl];omega
 split;·rw [Kl];omega
 ·rw [Kl];omega
def Ztc {l : List XNode} {vals vals' : List Int} (hn : vals.length = vals'.length) (hv : ∀ j : Nat, vals.getD j 0 = 0 ∨ vals.getD j 0 = vals'.getD j 0) (hr : ∀ j : Nat, -1 ≤ vals'.getD j 0 ∧ vals'.getD j 0 ≤ 1) : ∀ k j : Nat, Kl ((U1 l vals k).getD j 0) ((U1 l vals' k).getD j 0)
 | 0,j=>by rw [U1,U1];simp [Kl]
 | k + 1,j=>by
  have hl:=Yq (l:=l) (vals:=vals) k
  have hl':=Yq (l:=l) (vals:=vals') k
  rcases yl j (k + 1) with h1 | h1
  ·rw [J2a h1, J2a h1]
   rcases yl j k with h2 | h2
   ·have := Ztc (l := l) hn hv hr k j
    rw [J2a h2,J2a h2] at this
    exact this
   ·obtain rfl : j = k := by omega
    exact Zre hn hv hr (Ztc hn hv hr j)
  ·have e1 : (U1 l vals (k + 1)).length = k + 1 := Yq _
   have e2:(U1 l vals' (k + 1)).length=k + 1:=Yq _
   rw [yh,yh,yq za,yq za]
   simp [Kl]
def U3d {vals v:List Int} {x:XNode} (h:∀j:Nat,-1≤v.getD j 0∧v.getD j 0≤1):-1≤V2a vals v x∧V2a vals v x≤1:=by
 have h1:=h x.left.toNat;have h2:=h x.right.toNat;rw [V2a];split;·rw [Uwd];split <;> omega
 split;·omega
 split <;> omega
def Yya {l : List XNode} {vals : List Int} : ∀ k j : Nat, -1 ≤ (U1 l vals k).getD j 0 ∧ (U1 l vals k).getD j 0 ≤ 1
 | 0,j=>by rw [U1];simp
 | k + 1,j=>by
  rcases yl j (k + 1) with h1 | h1
  ·rw [J2a h1]
   rcases yl j k with h2 | h2
   ·have := Yya (l := l) (vals := vals) k j
    rw [J2a h2] at this
    exact this
   ·obtain rfl : j = k := by omega
    exact U3d (Yya j)
  ·have e1 : (U1 l vals (k + 1)).length = k + 1 := Yq _
   rw [yh,yq za]
   simp
end
end Go.Proofs.YtchfclmokpbldaaGreat
