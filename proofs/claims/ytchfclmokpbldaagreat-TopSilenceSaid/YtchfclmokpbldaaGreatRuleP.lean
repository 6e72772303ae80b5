/-
  Merged texts. By an AI agent.
-/
import Derived.Test.YtchfclmokpbldaaGreatSiteS
set_option linter.all false
set_option maxHeartbeats 4000000
set_option maxRecDepth 20000
namespace Go.Proofs.YtchfclmokpbldaaGreat
open Go.Aw Go
section
attribute [local irreducible] CJ LJ DJ Tri YV Gives Uq J2 Km Ur RV J4 OwL.L
section
variable {A B:Prop}
def Jbd(h:A→B:=by exact Jy zrb rfl):=h
def Zff(h:A→B:=by exact Jy zYb rfl):=h
def V0f(h:A→B:=by exact Uha (v:=Value.bool _) tb rfl rfl rfl rfl zB zaa zV zb):=h
def Uwg(h:B:=by exact ⟨by rw [hE,Zp,if_neg h3,if_neg (by rw [ho];decide),if_neg h5,if_pos (by first | (rw [if_pos hc6];omega) | (rw [if_neg hc6];omega))],rfl,rfl⟩):=h
def Jag(h:B:=by exact ⟨by rw [hE,Zp,if_neg h3,if_neg (by rw [ho];decide),if_neg h5,if_neg (by first | (rw [if_pos hc6];omega) | (rw [if_neg hc6];omega))];first | (rw [if_pos hc6,ho];done) | (rw [if_neg hc6,ho];done),rfl,rfl⟩):=h
end
def Ug (l:XLevel) (L:LB) (R:LS):
 Tri Tryz.prog 177 [l.val].toArray L R (fun v M U=>v=.int .i64 (Y1 l)∧L=M∧R=U):=by
 refine Jd 28 Tryz.call177 Tryz.func177 rfl rfl rfl ?_;apply (Xaf);intro b1;apply Xap∘Xbr∘qah;apply Kd (G:=[_,_,_]) (j:=3) (cj:=6) rfl rfl zb rfl zmb rfl;·exact zxe
 intro junk4;apply (qah);apply Kd (G:=[_,_,_,_,_]) (j:=8) (cj:=11) rfl rfl zb rfl zmb rfl;·intro hg9;replace hg9:=qb hg9;exact (Xbe) zAd
 intro junk9;apply (qah);apply Kd (G:=[_,_,_]) (j:=15) (cj:=18) rfl rfl zb rfl zmb rfl;·intro hg16;replace hg16:=qb hg16;exact zHd
 intro junk16;apply (qah);apply Kd (G:=[_,_,_]) (j:=20) (cj:=23) rfl rfl zb rfl zmb rfl;·intro hg21;replace hg21:=qb hg21;exact (Xbr) qai
 intro junk21;apply (qaf);refine q_c ?_ ?_<;>intro hc0;·apply (Xa7);refine q_i L R ?_;exact ⟨by (try simp at hc0);rw [Y1,if_neg (by rw [Yr];omega)],rfl,rfl⟩
 apply (Xc3);refine q_i L R ?_;exact ⟨by (try simp at hc0);rw [Y1,if_pos (by rw [Yr];omega)],rfl,rfl⟩
def Zpb (x:XSpan) (n:Int) (L:LB) (R:LS):
 Tri Tryz.prog 230 [x.val,.int .i64 n].toArray L R (fun v M U=>v=.int .i64 (Z6 x n)∧L=M∧R=U):=by
 refine Jd 21 Tryz.call230 Tryz.func230 rfl rfl rfl ?_;apply (Xaf);intro b2;apply (qad);refine J7 (Jb (Jp (Kc (Jp (Jh ?_)))));apply Xbe∘qa5∘Xar;refine q_c ?_ ?_<;>intro hc0;·apply (Xbg);refine q_i L R ?_;exact ⟨by rw [Z6,if_pos hc0],rfl,rfl⟩
 apply qae∘Xah∘qbz∘Xar;refine q_c ?_ ?_<;>intro hc1;·apply (Xbg);refine q_i L R ?_;exact ⟨by rw [Z6,if_neg za,if_pos hc1],rfl,rfl⟩
 apply qae∘Xah∘qaj∘Xar;refine q_c ?_ ?_<;>intro hc2;·apply (Xbg);refine q_i L R ?_;exact ⟨by rw [Z6,if_neg za,if_neg za,if_pos hc2],rfl,rfl⟩
 refine J3 (Jf (Jb (Jp (Jh ?_))));apply (Xai);refine q_i L R ?_;exact ⟨by rw [Z6,if_neg za,if_neg za,if_neg za],rfl,rfl⟩
def Vmb {l:XLevel}:Y1 l=0↔Yr l:=by rw [Y1];split <;> simp_all
def K2c {l:XLevel} {w:XWatch} {t:Int} (h1:Yr l) (h2:¬ (t < 0∨2147483648 < t∨t < w.last)) (h3:Ula w):Zf l w t=0:=by rw [Zf,if_neg (fun h=>h h1),if_neg h2,if_neg (fun h=>h h3)]
def Vcc {l:XLevel} {w:XWatch} {x:XSpan} {t:Int} {e:Int} (h:Zf l w t=e) (he:e≠0):U2e l w x t=V2e:=by rw [U2e,if_neg za]
def Zod {l:XLevel} {w:XWatch} {x:XSpan} {t:Int} (h:Zf l w t=0):U2e l w x t=Zp l w x t:=by rw [U2e,if_pos h]
def Ubf (l:XLevel) (w:XWatch) (x:XSpan) (t:Int) (L:LB) (R:LS):
 Tri Tryz.prog 228 [l.val,w.val,x.val,.int .i64 t].toArray L R (fun v M U=>v=.tuple #[(U2e l w x t).val,.int .i64 (Zf l w t)]∧L=M∧R=U):=by
 refine Jd 97 Tryz.call228 Tryz.func228 rfl rfl rfl ?_;apply (Xaf);intro b4;apply (qax);intro b5;apply (qax);intro b6;apply (qaq);intro b8;apply Xap∘Jbd;refine q_l rfl (Ug l _ _) ?_;apply (Xbi);refine q_c ?_ ?_<;>intro hc0;·
  apply qae∘Zff∘Xci;refine q_r L R zhd ?_;have hl:¬ Yr l:=fun h=>by rw [Vmb.2 h] at hc0;omega
  have hE:Zf l w t=1:=by rw [Zf,if_pos hl]
  exact ⟨by rw [hE,Vcc hE ze,Y1,if_neg hl];rfl,rfl,rfl⟩
 have hl:Yr l:=Vmb.1 za;apply qbo∘Xcv;apply Kd (G:=[_,_]) (j:=2) (cj:=19) rfl rfl zb rfl zmb rfl;·exact zwd
 intro junk3;apply (qah);apply Kd (G:=[_,_,_,_]) (j:=6) (cj:=23) rfl rfl zb rfl zmb rfl;·intro hg7;replace hg7:=qb hg7;exact (qaa) zHd
 intro junk7;apply (qaf);refine q_c ?_ ?_<;>intro hc1;·
  apply qae∘Zff∘Xa3;refine q_r L R zhd ?_;have hE:Zf l w t=8:=by rw [Zf,if_neg (fun h=>h hl),if_pos (by (try simp at hc1);omega)]
  exact ⟨by rw [hE,Vcc hE ze];rfl,rfl,rfl⟩
 have ht:¬ (t < 0∨2147483648 < t∨t < w.last):=by (try simp at hc1);omega
 apply qbo∘Xbt;apply Kd (G:=[_,_,_]) (j:=3) (cj:=33) rfl rfl zb rfl zmb rfl;·exact ztd
 intro junk4;apply (qah);apply Kd (G:=[_,_,_]) (j:=8) (cj:=38) rfl rfl zb rfl zmb rfl;·exact zte
 intro junk9;apply (qah);apply Kd (G:=[_,_,_,_,_]) (j:=13) (cj:=43) rfl rfl zb rfl zmb rfl;·intro hg14;replace hg14:=qb hg14;exact (Xbe∘qa5) qai
 intro junk14;apply (qah);apply Kd (G:=[_,_,_,_,_,_,_,_]) (j:=20) (cj:=50) rfl rfl zb rfl zmb rfl;·
  intro hg21;replace hg21:=qb hg21;apply Xaa∘Xb3;apply Uy (G:=[_,_,_]) (j:=24) (cj:=54) rfl rfl zb rfl zmb rfl;·intro hg25;replace hg25:=qb hg25;exact (Xaa∘qb4) qai
  intro junk25;exact qai
 intro junk21;apply (qaf);refine q_c ?_ ?_<;>intro hc2;·
  apply qae∘Zff∘Xa3;refine q_r L R zhd ?_;have hE:Zf l w t=10:=by rw [Zf,if_neg (fun h=>h hl),if_neg ht,if_pos];rw [Ula];cases ho:w.over <;> simp [ho] at hc2 ⊢ <;> omega
  exact ⟨by rw [hE,Vcc hE ze];rfl,rfl,rfl⟩
 have hE:Zf l w t=0:=K2c hl ht (by rw [Ula];cases ho:w.over <;> simp [ho] at hc2 ⊢ <;> omega);rw [Zod hE];apply Xc6∘Xa5;refine J7 (Jb (Jp (Kc (Jp (Jh ?_)))));apply qbe∘Xaa;refine q_l rfl (Zpb x l.cut _ _) ?_;apply qbq∘Xar;refine q_c ?_ ?_<;>intro hc3;·apply qay∘qab∘V0f∘Xa5;refine J7 (Jf (Jb (Jp (Jh ?_))));apply Jbd∘Xb0;refine q_r L R zhd ?_;exact ⟨by rw [hE,Zp,if_pos hc3],rfl,rfl⟩
 have h3:¬ Z6 x l.cut≠-1:=hc3;apply Xcl∘qb4∘Xar;refine q_c ?_ ?_<;>intro hc4;·refine J3 (Jf (Jb (Jp (Jh ?_))));apply Jbd∘Xb0;refine q_r L R zhd ?_;exact ⟨by rw [hE,Zp,if_neg h3,if_pos zW];first | rfl | rw [show w.over=false by simpa using hc4],rfl,rfl⟩
 have ho:w.over=true:=by simpa using hc4
 apply qae∘Xbe∘qa5∘Xar;refine q_c ?_ ?_<;>intro hc5;·apply qay∘Xa5;refine J7 (Jf (Jb (Jp (Jh ?_))));apply Jbd∘Xb0;refine q_r L R zhd ?_;exact ⟨by rw [hE,Zp,if_neg h3,if_neg (by rw [ho];decide),if_pos za];first | rfl | rw [ho],rfl,rfl⟩
 have h5:¬ l.clear < x.high:=by omega
 apply qbi∘Xaa∘Xbb;refine q_c ?_ ?_<;>intro hc6;·
  apply Xa9∘Xa5∘Xc9∘Xaa∘qa9∘Xaa∘Xcw;refine q_c ?_ ?_<;>intro hc7;·exact zQd
  exact zfe
 apply Xc6∘Xaa∘qa9∘Xaa∘Xcw;refine q_c ?_ ?_<;>intro hc7;·exact zQd
 exact zfe
end
section
def Vlb (l:List XNode) (j:Nat):Prop:=
 ((l.getD j default).kind=1∧0≤(l.getD j default).cond∧(l.getD j default).cond < 64)∨
 ((l.getD j default).kind=2∧1≤j∧(l.getD j default).left=(j:Int) - 1)∨
 (((l.getD j default).kind=3∨(l.getD j default).kind=4)∧1≤j∧(l.getD j default).right=(j:Int) - 1∧0≤(l.getD j default).left∧(l.getD j default).left < (j:Int))
def Y4 {l : List XNode} : ∀ (n : Nat) (i f d : Int), Ue l n i = some (f, d) → (0 ≤ f ∧ f ≤ i) ∧ (1 ≤ d ∧ d ≤ n) ∧ ∀ j : Nat, f ≤ (j : Int) → (j : Int) ≤ i → Vlb l j
 | 0,i,f,d,h=>by rw [Ue] at h;cases h
 | n + 1,i,f,d,h=>by
  rw [Ue] at h
  split at h
  ·cases h
  rename_i hi
  have at_i:∀j:Nat,(j:Int)=i→l.getD j default=l.getD i.toNat default:=fun j hj=>by rw [← hj,yD]
  split at h
  ·rename_i h1
   split at h
   ·rename_i h2
    cases h
    refine ⟨by omega,by omega,fun j j1 j2=>?_⟩
    have hj:=at_i j za
    rw [Vlb,hj]
    exact .inl ⟨h1,h2.2.2.1,h2.2.2.2⟩
   ·cases h
  split at h
  ·rename_i h1
   split at h
   ·cases h
   rename_i f' d' hp
   split at h
   ·rename_i h2
    cases h
    obtain ⟨i1,i2,i3⟩:=Y4 n _ _ _ hp
    refine ⟨by omega,by omega,fun j j1 j2=>?_⟩
    by_cases hj:(j:Int)=i
    ·have hj' := at_i j hj
     rw [Vlb,hj']
     exact .inr (.inl ⟨h1,by omega,by omega⟩)
    ·exact i3 j j1 za
   ·cases h
  split at h
  ·rename_i h1
   split at h
   ·cases h
   rename_i m r hp
   split at h
   ·rename_i h2
    split at h
    ·cases h
    rename_i f' q hq
    cases h
    obtain ⟨i1,i2,i3⟩:=Y4 n _ _ _ hp
    obtain ⟨k1,k2,k3⟩:=Y4 n _ _ _ hq
    refine ⟨by omega,by omega,fun j j1 j2=>?_⟩
    by_cases hj:(j:Int)=i
    ·have hj' := at_i j hj
     rw [Vlb,hj']
     exact .inr (.inr ⟨h1,by omega,by omega,by omega,by omega⟩)
    ·rcases yua (j : Int) m with hm | hm
     ·exact k3 j j1 za
     ·exact i3 j hm za
   ·cases h
  ·cases h
def Vha {l : List XNode} : ∀ (n m : Nat) (i : Int) (x : Int × Int), n ≤ m → Ue l n i = some x → Ue l m i = some x
 | 0,_,i,x,_,h=>by rw [Ue] at h;cases h
 | n + 1,0,i,x,hnm,h=>by omega
 | n + 1,m + 1,i,x,hnm,h=>by
  rw [Ue] at h ⊢
  split at h
  ·cases h
  rename_i hi
  rw [if_neg hi]
  split at h
  ·rename_i h1;rw [if_pos h1];exact h
  rename_i h1
  rw [if_neg h1]
  split at h
  ·rename_i h2
   rw [if_pos h2]
   split at h
   ·cases h
   rename_i f' d' hp
   rw [Vha n m _ _ za hp]
   exact h
  rename_i h2
  rw [if_neg h2]
  split at h
  ·rename_i h3
   rw [if_pos h3]
   split at h
   ·cases h
   rename_i a b hp
   rw [Vha n m _ _ za hp]
   dsimp only
   split at h
   ·rename_i h4
    rw [if_pos h4]
    split at h
    ·cases h
    rename_i a' b' hq
    rw [Vha n m _ _ za hq]
    exact h
   ·cases h
  ·cases h
def Jxa {l:List XNode}:Y6 l=true↔(1≤l.length∧l.length≤64)∧∃d,Ue l l.length ((l.length:Int) - 1)=some (0,d)∧d≤16:=by
 rw [Y6,yq,decide_eq_true_eq];constructor;·
  rintro ⟨h1, h2⟩;refine ⟨h1,?_⟩;split at h2;·cases h2
  ·rename_i f d hp;simp only [decide_eq_true_eq] at h2;obtain ⟨rfl,hd⟩:=h2;exact ⟨d,hp,hd⟩
 ·rintro ⟨h1, d, hp, hd⟩;refine ⟨h1,?_⟩;rw [hp];simpa using hd
def Zsb {l:List XNode} (h:Y6 l=true) (j:Nat) (hj:j < l.length):Vlb l j:=by obtain ⟨h1,d,hp,_⟩:=Jxa.1 h;exact (Y4 _ _ _ _ hp).2.2 j za za
def Yu {l : List XNode} {vals : List Int} : ∀ k, (Uf l vals k).length = k
 | 0=>rfl
 | k + 1=>by rw [Uf,yj,Yu k];rfl
def Zi {l : List XNode} {vals : List Int} : ∀ {k j : Nat}, j < k → (Uf l vals k).getD j 0 = Una vals (Uf l vals j) (l.getD j default)
 | 0,j,h=>by omega
 | k + 1,j,h=>by
  have hl:=Yu (l:=l) (vals:=vals) k
  rw [Uf,yh]
  rcases yl j k with h1 | h1
  ·rw [yz za, ← yh]
   exact Zi h1
  ·obtain rfl : j = k := by omega
   rw [yB za,hl,yzb]
   rfl
def Kl (a b:Int):Prop:=(-1≤a∧a≤1)∧(-1≤b∧b≤1)∧(a=0∨a=b)
def Kdf {vals vals' v v':List Int} {x:XNode} (hn:vals.length=vals'.length) (hv:∀j:Nat,vals.getD j 0=0∨vals.getD j 0=vals'.getD j 0) (hr:∀j:Nat,-1≤vals'.getD j 0∧vals'.getD j 0≤1) (h:∀j:Nat,Kl (v.getD j 0) (v'.getD j 0)):Kl (Una vals v x) (Una vals' v' x):=by
 have h1:=h x.left.toNat;have h2:=h x.right.toNat;rw [Kl] at h1 h2;rw [Una,Una];split;·have h3 := hv x.cond.toNat;have h4:=hr x.cond.toNat;rw [Kec,Kec,← hn,Kl];split <;> split <;> omega
 split;·rw [Kl];omega
 split;·rw [Kl];omega
 ·rw [Kl];omega
def Jod {l : List XNode} {vals vals' : List Int} (hn : vals.length = vals'.length) (hv : ∀ j : Nat, vals.getD j 0 = 0 ∨ vals.getD j 0 = vals'.getD j 0) (hr : ∀ j : Nat, -1 ≤ vals'.getD j 0 ∧ vals'.getD j 0 ≤ 1) : ∀ k j : Nat, Kl ((Uf l vals k).getD j 0) ((Uf l vals' k).getD j 0)
 | 0,j=>by rw [Uf,Uf];simp [Kl]
 | k + 1,j=>by
  have hl:=Yu (l:=l) (vals:=vals) k
  have hl':=Yu (l:=l) (vals:=vals') k
  rcases yl j (k + 1) with h1 | h1
  ·rw [Zi h1, Zi h1]
   rcases yl j k with h2 | h2
   ·have := Jod (l := l) hn hv hr k j
    rw [Zi h2,Zi h2] at this
    exact this
   ·obtain rfl : j = k := by omega
    exact Kdf hn hv hr (Jod hn hv hr j)
  ·have e1 : (Uf l vals (k + 1)).length = k + 1 := Yu _
   have e2:(Uf l vals' (k + 1)).length=k + 1:=Yu _
   rw [yh,yh,yt za,yt za]
   simp [Kl]
def Ujd {vals v:List Int} {x:XNode} (h:∀j:Nat,-1≤v.getD j 0∧v.getD j 0≤1):-1≤Una vals v x∧Una vals v x≤1:=by
 have h1:=h x.left.toNat;have h2:=h x.right.toNat;rw [Una];split;·rw [Kec];split <;> omega
 split;·omega
 split <;> omega
def Uta {l : List XNode} {vals : List Int} : ∀ k j : Nat, -1 ≤ (Uf l vals k).getD j 0 ∧ (Uf l vals k).getD j 0 ≤ 1
 | 0,j=>by rw [Uf];simp
 | k + 1,j=>by
  rcases yl j (k + 1) with h1 | h1
  ·rw [Zi h1]
   rcases yl j k with h2 | h2
   ·have := Uta (l := l) (vals := vals) k j
    rw [Zi h2] at this
    exact this
   ·obtain rfl : j = k := by omega
    exact Ujd (Uta j)
  ·have e1 : (Uf l vals (k + 1)).length = k + 1 := Yu _
   rw [yh,yt za]
   simp
end
end Go.Proofs.YtchfclmokpbldaaGreat
