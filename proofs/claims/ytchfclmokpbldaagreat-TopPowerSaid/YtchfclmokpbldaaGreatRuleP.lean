/-
  Merged texts. By an AI agent.
-/
import Derived.Test.YtchfclmokpbldaaGreatSiteS
set_option linter.all false
set_option maxHeartbeats 4000000
set_option maxRecDepth 20000
namespace Go.Proofs.YtchfclmokpbldaaGreat
open Go.Aw Go
section
attribute [local irreducible] CJ LJ DJ Tri YV Gives U0 J3 Kj Uz RV J5 OwL.L
section
variable {A B:Prop}
def Ygc(h:A→B:=by exact Jx zkb rfl):=h
def Vdf(h:A→B:=by exact Jx zKb rfl):=h
def Kuf(h:A→B:=by exact Ura (v:=Value.bool _) tb rfl rfl rfl rfl zy zga zda zb):=h
def J9g(h:B:=by exact ⟨by rw [hE,Vk,if_neg h3,if_neg (by rw [ho];decide),if_neg h5,if_pos (by first | (rw [if_pos hc6];omega) | (rw [if_neg hc6];omega))],rfl,rfl⟩):=h
def Yvf(h:B:=by exact ⟨by rw [hE,Vk,if_neg h3,if_neg (by rw [ho];decide),if_neg h5,if_neg (by first | (rw [if_pos hc6];omega) | (rw [if_neg hc6];omega))];first | (rw [if_pos hc6,ho];done) | (rw [if_neg hc6,ho];done),rfl,rfl⟩):=h
end
def Un (l:XLevel) (L:LB) (R:LS):
 Tri Tryz.prog 177 [l.val].toArray L R (fun v M U=>v=.int .i64 (Jya l)∧L=M∧R=U):=by
 refine Jj 28 Tryz.call177 Tryz.func177 rfl rfl rfl ?_;apply (Xaf);intro b1;apply Xap∘Xa5∘qah;apply J9 (G:=[_,_,_]) (j:=3) (cj:=6) rfl rfl zb rfl zfb rfl;·intro hg4;replace hg4:=qb hg4;exact zsd
 intro junk4;apply (qah);apply J9 (G:=[_,_,_,_,_]) (j:=8) (cj:=11) rfl rfl zb rfl zfb rfl;·intro hg9;replace hg9:=qb hg9;exact (Xbq) zjd
 intro junk9;apply (qah);apply J9 (G:=[_,_,_]) (j:=15) (cj:=18) rfl rfl zb rfl zfb rfl;·intro hg16;replace hg16:=qb hg16;exact zsd
 intro junk16;apply (qah);apply J9 (G:=[_,_,_]) (j:=20) (cj:=23) rfl rfl zb rfl zfb rfl;·intro hg21;replace hg21:=qb hg21;exact (Xa5) qai
 intro junk21;apply (qaf);refine q_c ?_ ?_<;>intro hc0;·apply (Xa6);refine q_i L R ?_;exact ⟨by (try simp at hc0);rw [Jya,if_neg (by rw [Jba];omega)],rfl,rfl⟩
 apply (Xcf);refine q_i L R ?_;exact ⟨by (try simp at hc0);rw [Jya,if_pos (by rw [Jba];omega)],rfl,rfl⟩
def Z0b (x:XSpan) (n:Int) (L:LB) (R:LS):
 Tri Tryz.prog 230 [x.val,.int .i64 n].toArray L R (fun v M U=>v=.int .i64 (Zp x n)∧L=M∧R=U):=by
 refine Jj 21 Tryz.call230 Tryz.func230 rfl rfl rfl ?_;apply (Xaf);intro b2;apply (qad);refine J6 (Jc (Jr (Km (Jr (Jh ?_)))));apply Xaa∘Xa5∘Xas;refine q_c ?_ ?_<;>intro hc0;·apply (Xa9);refine q_i L R ?_;exact ⟨by rw [Zp,if_pos hc0],rfl,rfl⟩
 apply qae∘Xam∘qbz∘Xas;refine q_c ?_ ?_<;>intro hc1;·apply (Xa9);refine q_i L R ?_;exact ⟨by rw [Zp,if_neg za,if_pos hc1],rfl,rfl⟩
 apply qae∘Xam∘qaj∘Xas;refine q_c ?_ ?_<;>intro hc2;·apply (Xa9);refine q_i L R ?_;exact ⟨by rw [Zp,if_neg za,if_neg za,if_pos hc2],rfl,rfl⟩
 refine Ka (Jk (Jc (Jr (Jh ?_))));apply (Xah);refine q_i L R ?_;exact ⟨by rw [Zp,if_neg za,if_neg za,if_neg za],rfl,rfl⟩
def U1b {l:XLevel}:Jya l=0↔Jba l:=by rw [Jya];split <;> simp_all
def Kac {l:XLevel} {w:XWatch} {t:Int} (h1:Jba l) (h2:¬ (t < 0∨2147483648 < t∨t < w.last)) (h3:Uma w):Y2 l w t=0:=by rw [Y2,if_neg (fun h=>h h1),if_neg h2,if_neg (fun h=>h h3)]
def Vfc {l:XLevel} {w:XWatch} {x:XSpan} {t:Int} {e:Int} (h:Y2 l w t=e) (he:e≠0):Uxe l w x t=Uze:=by rw [Uxe,if_neg za]
def Vcd {l:XLevel} {w:XWatch} {x:XSpan} {t:Int} (h:Y2 l w t=0):Uxe l w x t=Vk l w x t:=by rw [Uxe,if_pos h]
def Jof (l:XLevel) (w:XWatch) (x:XSpan) (t:Int) (L:LB) (R:LS):
 Tri Tryz.prog 228 [l.val,w.val,x.val,.int .i64 t].toArray L R (fun v M U=>v=.tuple #[(Uxe l w x t).val,.int .i64 (Y2 l w t)]∧L=M∧R=U):=by
 refine Jj 97 Tryz.call228 Tryz.func228 rfl rfl rfl ?_;apply (Xaf);intro b4;apply (qax);intro b5;apply (qax);intro b6;apply (qaq);intro b8;apply Xap∘Ygc;refine q_l rfl (Un l _ _) ?_;apply (Xba);refine q_c ?_ ?_<;>intro hc0;·
  apply qae∘Vdf∘Xbz;refine q_r L R zPc ?_;have hl:¬ Jba l:=fun h=>by rw [U1b.2 h] at hc0;omega
  have hE:Y2 l w t=1:=by rw [Y2,if_pos hl]
  exact ⟨by rw [hE,Vfc hE ze,Jya,if_neg hl];rfl,rfl,rfl⟩
 have hl:Jba l:=U1b.1 za;apply Xcq∘Xav;apply J9 (G:=[_,_]) (j:=2) (cj:=19) rfl rfl zb rfl zfb rfl;·exact zgd
 intro junk3;apply (qah);apply J9 (G:=[_,_,_,_]) (j:=6) (cj:=23) rfl rfl zb rfl zfb rfl;·intro hg7;replace hg7:=qb hg7;exact (qaa) zsd
 intro junk7;apply (qaf);refine q_c ?_ ?_<;>intro hc1;·
  apply qae∘Vdf∘Xaz;refine q_r L R zPc ?_;have hE:Y2 l w t=8:=by rw [Y2,if_neg (fun h=>h hl),if_pos (by (try simp at hc1);omega)]
  exact ⟨by rw [hE,Vfc hE ze];rfl,rfl,rfl⟩
 have ht:¬ (t < 0∨2147483648 < t∨t < w.last):=by (try simp at hc1);omega
 apply qbo∘Xbc;apply J9 (G:=[_,_,_]) (j:=3) (cj:=33) rfl rfl zb rfl zfb rfl;·exact zcd
 intro junk4;apply (qah);apply J9 (G:=[_,_,_]) (j:=8) (cj:=38) rfl rfl zb rfl zfb rfl;·exact zee
 intro junk9;apply (qah);apply J9 (G:=[_,_,_,_,_]) (j:=13) (cj:=43) rfl rfl zb rfl zfb rfl;·intro hg14;replace hg14:=qb hg14;exact (Xaa∘Xa5) qai
 intro junk14;apply (qah);apply J9 (G:=[_,_,_,_,_,_,_,_]) (j:=20) (cj:=50) rfl rfl zb rfl zfb rfl;·
  intro hg21;replace hg21:=qb hg21;apply Xaa∘Xbu;apply Ui (G:=[_,_,_]) (j:=24) (cj:=54) rfl rfl zb rfl zfb rfl;·intro hg25;replace hg25:=qb hg25;exact (Xaa) zLd
  intro junk25;exact qai
 intro junk21;apply (qaf);refine q_c ?_ ?_<;>intro hc2;·
  apply qae∘Vdf∘Xaz;refine q_r L R zPc ?_;have hE:Y2 l w t=10:=by rw [Y2,if_neg (fun h=>h hl),if_neg ht,if_pos];rw [Uma];cases ho:w.over <;> simp [ho] at hc2 ⊢ <;> omega
  exact ⟨by rw [hE,Vfc hE ze];rfl,rfl,rfl⟩
 have hE:Y2 l w t=0:=Kac hl ht (by rw [Uma];cases ho:w.over <;> simp [ho] at hc2 ⊢ <;> omega);rw [Vcd hE];apply qbv∘qaa∘Xbh;refine J6 (Jc (Jr (Km (Jr (Jh ?_)))));apply qbe∘Xaa;refine q_l rfl (Z0b x l.cut _ _) ?_;apply qbq∘Xas;refine q_c ?_ ?_<;>intro hc3;·apply qay∘qab∘Kuf∘Xbh;refine J6 (Jk (Jc (Jr (Jh ?_))));apply Ygc∘Xbl;refine q_r L R zPc ?_;exact ⟨by rw [hE,Vk,if_pos hc3],rfl,rfl⟩
 have h3:¬ Zp x l.cut≠-1:=hc3;apply Xb7∘qb4∘Xas;refine q_c ?_ ?_<;>intro hc4;·refine Ka (Jk (Jc (Jr (Jh ?_))));apply Ygc∘Xbl;refine q_r L R zPc ?_;exact ⟨by rw [hE,Vk,if_neg h3,if_pos zS];first | rfl | rw [show w.over=false by simpa using hc4],rfl,rfl⟩
 have ho:w.over=true:=by simpa using hc4
 apply Xb7∘Xa5∘Xas;refine q_c ?_ ?_<;>intro hc5;·apply qay∘Xbh;refine J6 (Jk (Jc (Jr (Jh ?_))));apply Ygc∘Xbl;refine q_r L R zPc ?_;exact ⟨by rw [hE,Vk,if_neg h3,if_neg (by rw [ho];decide),if_pos za];first | rfl | rw [ho],rfl,rfl⟩
 have h5:¬ l.clear < x.high:=by omega
 apply qbi∘Xaa∘Xbm;refine q_c ?_ ?_<;>intro hc6;·
  apply Xa1∘Xbh∘Xdh∘Xaa∘qa9∘Xaa∘Xcn;refine q_c ?_ ?_<;>intro hc7;·exact zAd
  exact zPd
 apply qbv∘qaa∘Xaa∘qa9∘Xaa∘Xcn;refine q_c ?_ ?_<;>intro hc7;·exact zAd
 exact zPd
end
section
def Kcc (l:List XNode) (j:Nat):Prop:=
 ((l.getD j default).kind=1∧0≤(l.getD j default).cond∧(l.getD j default).cond < 64)∨
 ((l.getD j default).kind=2∧1≤j∧(l.getD j default).left=(j:Int) - 1)∨
 (((l.getD j default).kind=3∨(l.getD j default).kind=4)∧1≤j∧(l.getD j default).right=(j:Int) - 1∧0≤(l.getD j default).left∧(l.getD j default).left < (j:Int))
def Uaa {l : List XNode} : ∀ (n : Nat) (i f d : Int), Jca l n i = some (f, d) → (0 ≤ f ∧ f ≤ i) ∧ (1 ≤ d ∧ d ≤ n) ∧ ∀ j : Nat, f ≤ (j : Int) → (j : Int) ≤ i → Kcc l j
 | 0,i,f,d,h=>by rw [Jca] at h;cases h
 | n + 1,i,f,d,h=>by
  rw [Jca] at h
  split at h
  ·cases h
  rename_i hi
  have at_i:∀j:Nat,(j:Int)=i→l.getD j default=l.getD i.toNat default:=fun j hj=>by rw [← hj,yu]
  split at h
  ·rename_i h1
   split at h
   ·rename_i h2
    cases h
    refine ⟨by omega,by omega,fun j j1 j2=>?_⟩
    have hj:=at_i j za
    rw [Kcc,hj]
    exact .inl ⟨h1,h2.2.2.1,h2.2.2.2⟩
   ·cases h
  split at h
  ·rename_i h1
   split at h
   ·cases h
   rename_i f' d' hp
   split at h
   ·rename_i h2
    cases h
    obtain ⟨i1,i2,i3⟩:=Uaa n _ _ _ hp
    refine ⟨by omega,by omega,fun j j1 j2=>?_⟩
    by_cases hj:(j:Int)=i
    ·have hj' := at_i j hj
     rw [Kcc,hj']
     exact .inr (.inl ⟨h1,by omega,by omega⟩)
    ·exact i3 j j1 za
   ·cases h
  split at h
  ·rename_i h1
   split at h
   ·cases h
   rename_i m r hp
   split at h
   ·rename_i h2
    split at h
    ·cases h
    rename_i f' q hq
    cases h
    obtain ⟨i1,i2,i3⟩:=Uaa n _ _ _ hp
    obtain ⟨k1,k2,k3⟩:=Uaa n _ _ _ hq
    refine ⟨by omega,by omega,fun j j1 j2=>?_⟩
    by_cases hj:(j:Int)=i
    ·have hj' := at_i j hj
     rw [Kcc,hj']
     exact .inr (.inr ⟨h1,by omega,by omega,by omega,by omega⟩)
    ·rcases yua (j : Int) m with hm | hm
     ·exact k3 j j1 za
     ·exact i3 j hm za
   ·cases h
  ·cases h
def K9b {l:List XNode}:Ufa l=true↔(1≤l.length∧l.length≤64)∧∃d,Jca l l.length ((l.length:Int) - 1)=some (0,d)∧d≤16:=by
 rw [Ufa,yn,decide_eq_true_eq];constructor;·
  rintro ⟨h1, h2⟩;refine ⟨h1,?_⟩;split at h2;·cases h2
  ·rename_i f d hp;simp only [decide_eq_true_eq] at h2;obtain ⟨rfl,hd⟩:=h2;exact ⟨d,hp,hd⟩
 ·rintro ⟨h1, d, hp, hd⟩;refine ⟨h1,?_⟩;rw [hp];simpa using hd
def Jgd {l:List XNode} (h:Ufa l=true) (j:Nat) (hj:j < l.length):Kcc l j:=by obtain ⟨h1,d,hp,_⟩:=K9b.1 h;exact (Uaa _ _ _ _ hp).2.2 j za za
def Yh {l : List XNode} {vals : List Int} : ∀ k, (Ul l vals k).length = k
 | 0=>rfl
 | k + 1=>by rw [Ul,yo,Yh k];rfl
def Jja {l : List XNode} {vals : List Int} : ∀ {k j : Nat}, j < k → (Ul l vals k).getD j 0 = Upa vals (Ul l vals j) (l.getD j default)
 | 0,j,h=>by omega
 | k + 1,j,h=>by
  have hl:=Yh (l:=l) (vals:=vals) k
  rw [Ul,yh]
  rcases yk j k with h1 | h1
  ·rw [yV za, ← yh]
   exact Jja h1
  ·obtain rfl : j = k := by omega
   rw [yX za,hl,yec]
   rfl
def Kl (a b:Int):Prop:=(-1≤a∧a≤1)∧(-1≤b∧b≤1)∧(a=0∨a=b)
def Zde {vals vals' v v':List Int} {x:XNode} (hn:vals.length=vals'.length) (hv:∀j:Nat,vals.getD j 0=0∨vals.getD j 0=vals'.getD j 0) (hr:∀j:Nat,-1≤vals'.getD j 0∧vals'.getD j 0≤1) (h:∀j:Nat,Kl (v.getD j 0) (v'.getD j 0)):Kl (Upa vals v x) (Upa vals' v' x):=by
 have h1:=h x.left.toNat;have h2:=h x.right.toNat;rw [Kl] at h1 h2;rw [Upa,Upa];split;·have h3 := hv x.cond.toNat;have h4:=hr x.cond.toNat;rw [Zyc,Zyc,← hn,Kl];split <;> split <;> omega
 split;·rw [Kl];omega
 split;·rw [Kl];omega
 ·rw [Kl];omega
def Yvc {l : List XNode} {vals vals' : List Int} (hn : vals.length = vals'.length) (hv : ∀ j : Nat, vals.getD j 0 = 0 ∨ vals.getD j 0 = vals'.getD j 0) (hr : ∀ j : Nat, -1 ≤ vals'.getD j 0 ∧ vals'.getD j 0 ≤ 1) : ∀ k j : Nat, Kl ((Ul l vals k).getD j 0) ((Ul l vals' k).getD j 0)
 | 0,j=>by rw [Ul,Ul];simp [Kl]
 | k + 1,j=>by
  have hl:=Yh (l:=l) (vals:=vals) k
  have hl':=Yh (l:=l) (vals:=vals') k
  rcases yk j (k + 1) with h1 | h1
  ·rw [Jja h1, Jja h1]
   rcases yk j k with h2 | h2
   ·have := Yvc (l := l) hn hv hr k j
    rw [Jja h2,Jja h2] at this
    exact this
   ·obtain rfl : j = k := by omega
    exact Zde hn hv hr (Yvc hn hv hr j)
  ·have e1 : (Ul l vals (k + 1)).length = k + 1 := Yh _
   have e2:(Ul l vals' (k + 1)).length=k + 1:=Yh _
   rw [yh,yh,yr za,yr za]
   simp [Kl]
def Jnd {vals v:List Int} {x:XNode} (h:∀j:Nat,-1≤v.getD j 0∧v.getD j 0≤1):-1≤Upa vals v x∧Upa vals v x≤1:=by
 have h1:=h x.left.toNat;have h2:=h x.right.toNat;rw [Upa];split;·rw [Zyc];split <;> omega
 split;·omega
 split <;> omega
def Ywa {l : List XNode} {vals : List Int} : ∀ k j : Nat, -1 ≤ (Ul l vals k).getD j 0 ∧ (Ul l vals k).getD j 0 ≤ 1
 | 0,j=>by rw [Ul];simp
 | k + 1,j=>by
  rcases yk j (k + 1) with h1 | h1
  ·rw [Jja h1]
   rcases yk j k with h2 | h2
   ·have := Ywa (l := l) (vals := vals) k j
    rw [Jja h2] at this
    exact this
   ·obtain rfl : j = k := by omega
    exact Jnd (Ywa j)
  ·have e1 : (Ul l vals (k + 1)).length = k + 1 := Yh _
   rw [yh,yr za]
   simp
end
end Go.Proofs.YtchfclmokpbldaaGreat
