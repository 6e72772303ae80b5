/-
  Merged texts. By an AI agent.
-/
import Derived.Test.YtchfclmokpbldaaGreatSiteS
set_option linter.all false
set_option maxHeartbeats 4000000
set_option maxRecDepth 20000
namespace Go.Proofs.YtchfclmokpbldaaGreat
open Go.Aw Go
section
attribute [local irreducible] CJ LJ DJ Tri YV Gives Uo J0 Kj Un RV J2 OwL.L
section
variable {A B:Prop}
def Vkc(h:A→B:=by exact Jx zjb rfl):=h
def Kdf(h:A→B:=by exact Jx zWb rfl):=h
def J4f(h:A→B:=by exact Uga (v:=Value.bool _) tb rfl rfl rfl rfl zB zZ zV zb):=h
def Vwf(h:B:=by exact ⟨by rw [hE,Zl,if_neg h3,if_neg (by rw [ho];decide),if_neg h5,if_pos (by first | (rw [if_pos hc6];omega) | (rw [if_neg hc6];omega))],rfl,rfl⟩):=h
def U5f(h:B:=by exact ⟨by rw [hE,Zl,if_neg h3,if_neg (by rw [ho];decide),if_neg h5,if_neg (by first | (rw [if_pos hc6];omega) | (rw [if_neg hc6];omega))];first | (rw [if_pos hc6,ho];done) | (rw [if_neg hc6,ho];done),rfl,rfl⟩):=h
end
def Uh (l:XLevel) (L:LB) (R:LS):
 Tri Tryz.prog 177 [l.val].toArray L R (fun v M U=>v=.int .i64 (Zx l)∧L=M∧R=U):=by
 refine Je 28 Tryz.call177 Tryz.func177 rfl rfl rfl ?_;apply (Xag);intro b1;apply Xaq∘Xa5∘qah;apply Kf (G:=[_,_,_]) (j:=3) (cj:=6) rfl rfl zb rfl zfb rfl;·intro hg4;replace hg4:=qb hg4;exact znd
 intro junk4;apply (qah);apply Kf (G:=[_,_,_,_,_]) (j:=8) (cj:=11) rfl rfl zb rfl zfb rfl;·intro hg9;replace hg9:=qb hg9;exact (Xbo) zhd
 intro junk9;apply (qah);apply Kf (G:=[_,_,_]) (j:=15) (cj:=18) rfl rfl zb rfl zfb rfl;·intro hg16;replace hg16:=qb hg16;exact znd
 intro junk16;apply (qah);apply Kf (G:=[_,_,_]) (j:=20) (cj:=23) rfl rfl zb rfl zfb rfl;·intro hg21;replace hg21:=qb hg21;exact (Xa5) qai
 intro junk21;apply (qaf);refine q_c ?_ ?_<;>intro hc0;·apply (Xa6);refine q_i L R ?_;exact ⟨by (try simp at hc0);rw [Zx,if_neg (by rw [Zb];omega)],rfl,rfl⟩
 apply (Xco);refine q_i L R ?_;exact ⟨by (try simp at hc0);rw [Zx,if_pos (by rw [Zb];omega)],rfl,rfl⟩
def U3b (x:XSpan) (n:Int) (L:LB) (R:LS):
 Tri Tryz.prog 230 [x.val,.int .i64 n].toArray L R (fun v M U=>v=.int .i64 (Z5 x n)∧L=M∧R=U):=by
 refine Je 21 Tryz.call230 Tryz.func230 rfl rfl rfl ?_;apply (Xag);intro b2;apply (qad);refine J5 (Jb (Jl (Kb (Jl (Jf ?_)))));apply Xaa∘Xa5∘Xap;refine q_c ?_ ?_<;>intro hc0;·apply (Xbc);refine q_i L R ?_;exact ⟨by rw [Z5,if_pos hc0],rfl,rfl⟩
 apply qae∘Xaj∘qbz∘Xap;refine q_c ?_ ?_<;>intro hc1;·apply (Xbc);refine q_i L R ?_;exact ⟨by rw [Z5,if_neg za,if_pos hc1],rfl,rfl⟩
 apply qae∘Xaj∘qaj∘Xap;refine q_c ?_ ?_<;>intro hc2;·apply (Xbc);refine q_i L R ?_;exact ⟨by rw [Z5,if_neg za,if_neg za,if_pos hc2],rfl,rfl⟩
 refine J1 (Jd (Jb (Jl (Jf ?_))));apply (Xai);refine q_i L R ?_;exact ⟨by rw [Z5,if_neg za,if_neg za,if_neg za],rfl,rfl⟩
def K8b {l:XLevel}:Zx l=0↔Zb l:=by rw [Zx];split <;> simp_all
def Zxb {l:XLevel} {w:XWatch} {t:Int} (h1:Zb l) (h2:¬ (t < 0∨2147483648 < t∨t < w.last)) (h3:K3a w):Ym l w t=0:=by rw [Ym,if_neg (fun h=>h h1),if_neg h2,if_neg (fun h=>h h3)]
def Ugc {l:XLevel} {w:XWatch} {x:XSpan} {t:Int} {e:Int} (h:Ym l w t=e) (he:e≠0):Jhe l w x t=Y2d:=by rw [Jhe,if_neg za]
def Vdd {l:XLevel} {w:XWatch} {x:XSpan} {t:Int} (h:Ym l w t=0):Jhe l w x t=Zl l w x t:=by rw [Jhe,if_pos h]
def U4e (l:XLevel) (w:XWatch) (x:XSpan) (t:Int) (L:LB) (R:LS):
 Tri Tryz.prog 228 [l.val,w.val,x.val,.int .i64 t].toArray L R (fun v M U=>v=.tuple #[(Jhe l w x t).val,.int .i64 (Ym l w t)]∧L=M∧R=U):=by
 refine Je 97 Tryz.call228 Tryz.func228 rfl rfl rfl ?_;apply (Xag);intro b4;apply (qax);intro b5;apply (qax);intro b6;apply (qaq);intro b8;apply Xaq∘Vkc;refine q_l rfl (Uh l _ _) ?_;apply (Xbp);refine q_c ?_ ?_<;>intro hc0;·
  apply qae∘Kdf∘Xdm;refine q_r L R zSc ?_;have hl:¬ Zb l:=fun h=>by rw [K8b.2 h] at hc0;omega
  have hE:Ym l w t=1:=by rw [Ym,if_pos hl]
  exact ⟨by rw [hE,Ugc hE ze,Zx,if_neg hl];rfl,rfl,rfl⟩
 have hl:Zb l:=K8b.1 za;apply qbo∘Xb5;apply Kf (G:=[_,_]) (j:=2) (cj:=19) rfl rfl zb rfl zfb rfl;·exact zdd
 intro junk3;apply (qah);apply Kf (G:=[_,_,_,_]) (j:=6) (cj:=23) rfl rfl zb rfl zfb rfl;·intro hg7;replace hg7:=qb hg7;exact (qaa) znd
 intro junk7;apply (qaf);refine q_c ?_ ?_<;>intro hc1;·
  apply qae∘Kdf∘Xb0;refine q_r L R zSc ?_;have hE:Ym l w t=8:=by rw [Ym,if_neg (fun h=>h hl),if_pos (by (try simp at hc1);omega)]
  exact ⟨by rw [hE,Ugc hE ze];rfl,rfl,rfl⟩
 have ht:¬ (t < 0∨2147483648 < t∨t < w.last):=by (try simp at hc1);omega
 apply qbo∘Xbn;apply Kf (G:=[_,_,_]) (j:=3) (cj:=33) rfl rfl zb rfl zfb rfl;·exact zad
 intro junk4;apply (qah);apply Kf (G:=[_,_,_]) (j:=8) (cj:=38) rfl rfl zb rfl zfb rfl;·exact zTd
 intro junk9;apply (qah);apply Kf (G:=[_,_,_,_,_]) (j:=13) (cj:=43) rfl rfl zb rfl zfb rfl;·intro hg14;replace hg14:=qb hg14;exact (Xaa∘Xa5) qai
 intro junk14;apply (qah);apply Kf (G:=[_,_,_,_,_,_,_,_]) (j:=20) (cj:=50) rfl rfl zb rfl zfb rfl;·
  intro hg21;replace hg21:=qb hg21;apply Xaa∘Xcn;apply Vp (G:=[_,_,_]) (j:=24) (cj:=54) rfl rfl zb rfl zfb rfl;·intro hg25;replace hg25:=qb hg25;exact (Xaa∘qb4) qai
  intro junk25;exact qai
 intro junk21;apply (qaf);refine q_c ?_ ?_<;>intro hc2;·
  apply qae∘Kdf∘Xb0;refine q_r L R zSc ?_;have hE:Ym l w t=10:=by rw [Ym,if_neg (fun h=>h hl),if_neg ht,if_pos];rw [K3a];cases ho:w.over <;> simp [ho] at hc2 ⊢ <;> omega
  exact ⟨by rw [hE,Ugc hE ze];rfl,rfl,rfl⟩
 have hE:Ym l w t=0:=Zxb hl ht (by rw [K3a];cases ho:w.over <;> simp [ho] at hc2 ⊢ <;> omega);rw [Vdd hE];apply Xcy∘Xa7;refine J5 (Jb (Jl (Kb (Jl (Jf ?_)))));apply qbe∘Xaa;refine q_l rfl (U3b x l.cut _ _) ?_;apply qbq∘Xap;refine q_c ?_ ?_<;>intro hc3;·apply qay∘qab∘J4f∘Xa7;refine J5 (Jd (Jb (Jl (Jf ?_))));apply Vkc∘Xcf;refine q_r L R zSc ?_;exact ⟨by rw [hE,Zl,if_pos hc3],rfl,rfl⟩
 have h3:¬ Z5 x l.cut≠-1:=hc3;apply Xcb∘qb4∘Xap;refine q_c ?_ ?_<;>intro hc4;·refine J1 (Jd (Jb (Jl (Jf ?_))));apply Vkc∘Xcf;refine q_r L R zSc ?_;exact ⟨by rw [hE,Zl,if_neg h3,if_pos zW];first | rfl | rw [show w.over=false by simpa using hc4],rfl,rfl⟩
 have ho:w.over=true:=by simpa using hc4
 apply Xcb∘Xa5∘Xap;refine q_c ?_ ?_<;>intro hc5;·apply qay∘Xa7;refine J5 (Jd (Jb (Jl (Jf ?_))));apply Vkc∘Xcf;refine q_r L R zSc ?_;exact ⟨by rw [hE,Zl,if_neg h3,if_neg (by rw [ho];decide),if_pos za];first | rfl | rw [ho],rfl,rfl⟩
 have h5:¬ l.clear < x.high:=by omega
 apply qbi∘Xaa∘Xa2;refine q_c ?_ ?_<;>intro hc6;·
  apply Xbi∘Xa7∘Xci∘Xaa∘qa9∘Xaa∘Xcj;refine q_c ?_ ?_<;>intro hc7;·exact zud
  exact zHd
 apply Xcy∘Xaa∘qa9∘Xaa∘Xcj;refine q_c ?_ ?_<;>intro hc7;·exact zud
 exact zHd
end
section
def Jec (l:List XNode) (j:Nat):Prop:=
 ((l.getD j default).kind=1∧0≤(l.getD j default).cond∧(l.getD j default).cond < 64)∨
 ((l.getD j default).kind=2∧1≤j∧(l.getD j default).left=(j:Int) - 1)∨
 (((l.getD j default).kind=3∨(l.getD j default).kind=4)∧1≤j∧(l.getD j default).right=(j:Int) - 1∧0≤(l.getD j default).left∧(l.getD j default).left < (j:Int))
def Jja {l : List XNode} : ∀ (n : Nat) (i f d : Int), Vf l n i = some (f, d) → (0 ≤ f ∧ f ≤ i) ∧ (1 ≤ d ∧ d ≤ n) ∧ ∀ j : Nat, f ≤ (j : Int) → (j : Int) ≤ i → Jec l j
 | 0,i,f,d,h=>by rw [Vf] at h;cases h
 | n + 1,i,f,d,h=>by
  rw [Vf] at h
  split at h
  ·cases h
  rename_i hi
  have at_i:∀j:Nat,(j:Int)=i→l.getD j default=l.getD i.toNat default:=fun j hj=>by rw [← hj,yB]
  split at h
  ·rename_i h1
   split at h
   ·rename_i h2
    cases h
    refine ⟨by omega,by omega,fun j j1 j2=>?_⟩
    have hj:=at_i j za
    rw [Jec,hj]
    exact .inl ⟨h1,h2.2.2.1,h2.2.2.2⟩
   ·cases h
  split at h
  ·rename_i h1
   split at h
   ·cases h
   rename_i f' d' hp
   split at h
   ·rename_i h2
    cases h
    obtain ⟨i1,i2,i3⟩:=Jja n _ _ _ hp
    refine ⟨by omega,by omega,fun j j1 j2=>?_⟩
    by_cases hj:(j:Int)=i
    ·have hj' := at_i j hj
     rw [Jec,hj']
     exact .inr (.inl ⟨h1,by omega,by omega⟩)
    ·exact i3 j j1 za
   ·cases h
  split at h
  ·rename_i h1
   split at h
   ·cases h
   rename_i m r hp
   split at h
   ·rename_i h2
    split at h
    ·cases h
    rename_i f' q hq
    cases h
    obtain ⟨i1,i2,i3⟩:=Jja n _ _ _ hp
    obtain ⟨k1,k2,k3⟩:=Jja n _ _ _ hq
    refine ⟨by omega,by omega,fun j j1 j2=>?_⟩
    by_cases hj:(j:Int)=i
    ·have hj' := at_i j hj
     rw [Jec,hj']
     exact .inr (.inr ⟨h1,by omega,by omega,by omega,by omega⟩)
    ·rcases ywa (j : Int) m with hm | hm
     ·exact k3 j j1 za
     ·exact i3 j hm za
   ·cases h
  ·cases h
def K8a {l : List XNode} : ∀ (n m : Nat) (i : Int) (x : Int × Int), n ≤ m → Vf l n i = some x → Vf l m i = some x
 | 0,_,i,x,_,h=>by rw [Vf] at h;cases h
 | n + 1,0,i,x,hnm,h=>by omega
 | n + 1,m + 1,i,x,hnm,h=>by
  rw [Vf] at h ⊢
  split at h
  ·cases h
  rename_i hi
  rw [if_neg hi]
  split at h
  ·rename_i h1;rw [if_pos h1];exact h
  rename_i h1
  rw [if_neg h1]
  split at h
  ·rename_i h2
   rw [if_pos h2]
   split at h
   ·cases h
   rename_i f' d' hp
   rw [K8a n m _ _ za hp]
   exact h
  rename_i h2
  rw [if_neg h2]
  split at h
  ·rename_i h3
   rw [if_pos h3]
   split at h
   ·cases h
   rename_i a b hp
   rw [K8a n m _ _ za hp]
   dsimp only
   split at h
   ·rename_i h4
    rw [if_pos h4]
    split at h
    ·cases h
    rename_i a' b' hq
    rw [K8a n m _ _ za hq]
    exact h
   ·cases h
  ·cases h
def Yoa {l:List XNode}:Koa l=true↔(1≤l.length∧l.length≤64)∧∃d,Vf l l.length ((l.length:Int) - 1)=some (0,d)∧d≤16:=by
 rw [Koa,yp,decide_eq_true_eq];constructor;·
  rintro ⟨h1, h2⟩;refine ⟨h1,?_⟩;split at h2;·cases h2
  ·rename_i f d hp;simp only [decide_eq_true_eq] at h2;obtain ⟨rfl,hd⟩:=h2;exact ⟨d,hp,hd⟩
 ·rintro ⟨h1, d, hp, hd⟩;refine ⟨h1,?_⟩;rw [hp];simpa using hd
def Jud {l:List XNode} (h:Koa l=true) (j:Nat) (hj:j < l.length):Jec l j:=by obtain ⟨h1,d,hp,_⟩:=Yoa.1 h;exact (Jja _ _ _ _ hp).2.2 j za za
def Ye {l : List XNode} {vals : List Int} : ∀ k, (Ux l vals k).length = k
 | 0=>rfl
 | k + 1=>by rw [Ux,yj,Ye k];rfl
def Jaa {l : List XNode} {vals : List Int} : ∀ {k j : Nat}, j < k → (Ux l vals k).getD j 0 = U1a vals (Ux l vals j) (l.getD j default)
 | 0,j,h=>by omega
 | k + 1,j,h=>by
  have hl:=Ye (l:=l) (vals:=vals) k
  rw [Ux,yh]
  rcases yl j k with h1 | h1
  ·rw [yx za, ← yh]
   exact Jaa h1
  ·obtain rfl : j = k := by omega
   rw [yD za,hl,yGb]
   rfl
def Kl (a b:Int):Prop:=(-1≤a∧a≤1)∧(-1≤b∧b≤1)∧(a=0∨a=b)
def Yde {vals vals' v v':List Int} {x:XNode} (hn:vals.length=vals'.length) (hv:∀j:Nat,vals.getD j 0=0∨vals.getD j 0=vals'.getD j 0) (hr:∀j:Nat,-1≤vals'.getD j 0∧vals'.getD j 0≤1) (h:∀j:Nat,Kl (v.getD j 0) (v'.getD j 0)):Kl (U1a vals v x) (U1a vals' v' x):=by
 have h1:=h x.left.toNat;have h2:=h x.right.toNat;rw [Kl] at h1 h2;rw [U1a,U1a];split;·have h3 := hv x.cond.toNat;have h4:=hr x.cond.toNat;rw [Jbd,Jbd,← hn,Kl];split <;> split <;> omega
 split;·rw [Kl];omega
 split;·rw [Kl];omega
 ·rw [Kl];omega
def Vuc {l : List XNode} {vals vals' : List Int} (hn : vals.length = vals'.length) (hv : ∀ j : Nat, vals.getD j 0 = 0 ∨ vals.getD j 0 = vals'.getD j 0) (hr : ∀ j : Nat, -1 ≤ vals'.getD j 0 ∧ vals'.getD j 0 ≤ 1) : ∀ k j : Nat, Kl ((Ux l vals k).getD j 0) ((Ux l vals' k).getD j 0)
 | 0,j=>by rw [Ux,Ux];simp [Kl]
 | k + 1,j=>by
  have hl:=Ye (l:=l) (vals:=vals) k
  have hl':=Ye (l:=l) (vals:=vals') k
  rcases yl j (k + 1) with h1 | h1
  ·rw [Jaa h1, Jaa h1]
   rcases yl j k with h2 | h2
   ·have := Vuc (l := l) hn hv hr k j
    rw [Jaa h2,Jaa h2] at this
    exact this
   ·obtain rfl : j = k := by omega
    exact Yde hn hv hr (Vuc hn hv hr j)
  ·have e1 : (Ux l vals (k + 1)).length = k + 1 := Ye _
   have e2:(Ux l vals' (k + 1)).length=k + 1:=Ye _
   rw [yh,yh,yr za,yr za]
   simp [Kl]
def J4d {vals v:List Int} {x:XNode} (h:∀j:Nat,-1≤v.getD j 0∧v.getD j 0≤1):-1≤U1a vals v x∧U1a vals v x≤1:=by
 have h1:=h x.left.toNat;have h2:=h x.right.toNat;rw [U1a];split;·rw [Jbd];split <;> omega
 split;·omega
 split <;> omega
def Yca {l : List XNode} {vals : List Int} : ∀ k j : Nat, -1 ≤ (Ux l vals k).getD j 0 ∧ (Ux l vals k).getD j 0 ≤ 1
 | 0,j=>by rw [Ux];simp
 | k + 1,j=>by
  rcases yl j (k + 1) with h1 | h1
  ·rw [Jaa h1]
   rcases yl j k with h2 | h2
   ·have := Yca (l := l) (vals := vals) k j
    rw [Jaa h2] at this
    exact this
   ·obtain rfl : j = k := by omega
    exact J4d (Yca j)
  ·have e1 : (Ux l vals (k + 1)).length = k + 1 := Ye _
   rw [yh,yr za]
   simp
end
end Go.Proofs.YtchfclmokpbldaaGreat
