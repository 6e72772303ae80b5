/-
  Merged texts. By an AI agent.
-/
import Derived.Test.YtchfclmokpbldaaGreatSiteS
set_option linter.all false
set_option maxHeartbeats 4000000
set_option maxRecDepth 20000
namespace Go.Proofs.YtchfclmokpbldaaGreat
open Go.Aw Go
section
attribute [local irreducible] CJ LJ DJ Tri YV Gives U5 J2 Kn U6 RV J4 OwL.L
section
variable {A B:Prop}
def J0d(h:A→B:=by exact Jy zxb rfl):=h
def V1f(h:A→B:=by exact Jy zcc rfl):=h
def U4f(h:A→B:=by exact Vja (v:=Value.bool _) tb rfl rfl rfl rfl zB zea zZ zb):=h
def Uwg(h:B:=by exact ⟨by rw [hE,Kga,if_neg h3,if_neg (by rw [ho];decide),if_neg h5,if_pos (by first | (rw [if_pos hc6];omega) | (rw [if_neg hc6];omega))],rfl,rfl⟩):=h
def Z3f(h:B:=by exact ⟨by rw [hE,Kga,if_neg h3,if_neg (by rw [ho];decide),if_neg h5,if_neg (by first | (rw [if_pos hc6];omega) | (rw [if_neg hc6];omega))];first | (rw [if_pos hc6,ho];done) | (rw [if_neg hc6,ho];done),rfl,rfl⟩):=h
end
def Ut (l:XLevel) (L:LB) (R:LS):
 Tri Tryz.prog 177 [l.val].toArray L R (fun v U J=>v=.int .i64 (J5a l)∧L=U∧R=J):=by
 refine Je 28 Tryz.call177 Tryz.func177 rfl rfl rfl ?_;apply (Xaf);intro b1;apply Xar∘Xbg∘qah;apply J6 (G:=[_,_,_]) (j:=3) (cj:=6) rfl rfl zb rfl zsb rfl;·intro hg4;replace hg4:=qb hg4;exact zYd
 intro junk4;apply (qah);apply J6 (G:=[_,_,_,_,_]) (j:=8) (cj:=11) rfl rfl zb rfl zsb rfl;·intro hg9;replace hg9:=qb hg9;exact (Xa2) zhe
 intro junk9;apply (qah);apply J6 (G:=[_,_,_]) (j:=15) (cj:=18) rfl rfl zb rfl zsb rfl;·intro hg16;replace hg16:=qb hg16;exact zYd
 intro junk16;apply (qah);apply J6 (G:=[_,_,_]) (j:=20) (cj:=23) rfl rfl zb rfl zsb rfl;·intro hg21;replace hg21:=qb hg21;exact zOd
 intro junk21;apply (qaf);refine q_c ?_ ?_<;>intro hc0;·apply (Xba);refine q_i L R ?_;exact ⟨by (try simp at hc0);rw [J5a,if_neg (by rw [Jpa];omega)],rfl,rfl⟩
 apply (Xc2);refine q_i L R ?_;exact ⟨by (try simp at hc0);rw [J5a,if_pos (by rw [Jpa];omega)],rfl,rfl⟩
def Jcc (x:XSpan) (n:Int) (L:LB) (R:LS):
 Tri Tryz.prog 230 [x.val,.int .i64 n].toArray L R (fun v U J=>v=.int .i64 (Kea x n)∧L=U∧R=J):=by
 refine Je 21 Tryz.call230 Tryz.func230 rfl rfl rfl ?_;apply (Xaf);intro b2;apply (qad);refine Kc (Jb (Jq (Kk (Jq (Jh ?_)))));apply Xa2∘qa5∘Xau;refine q_c ?_ ?_<;>intro hc0;·apply (Xbi);refine q_i L R ?_;exact ⟨by rw [Kea,if_pos hc0],rfl,rfl⟩
 apply qae∘Xah∘qbz∘Xau;refine q_c ?_ ?_<;>intro hc1;·apply (Xbi);refine q_i L R ?_;exact ⟨by rw [Kea,if_neg za,if_pos hc1],rfl,rfl⟩
 apply qae∘Xah∘qaj∘Xau;refine q_c ?_ ?_<;>intro hc2;·apply (Xbi);refine q_i L R ?_;exact ⟨by rw [Kea,if_neg za,if_neg za,if_pos hc2],rfl,rfl⟩
 refine J5 (Ji (Jb (Jq (Jh ?_))));apply (Xak);refine q_i L R ?_;exact ⟨by rw [Kea,if_neg za,if_neg za,if_neg za],rfl,rfl⟩
def Vob {l:XLevel}:J5a l=0↔Jpa l:=by rw [J5a];split <;> simp_all
def Vbc {l:XLevel} {w:XWatch} {t:Int} (h1:Jpa l) (h2:¬ (t < 0∨2147483648 < t∨t < w.last)) (h3:U3a w):Ze l w t=0:=by rw [Ze,if_neg (fun h=>h h1),if_neg h2,if_neg (fun h=>h h3)]
def V0c {l:XLevel} {w:XWatch} {x:XSpan} {t:Int} {e:Int} (h:Ze l w t=e) (he:e≠0):Yfe l w x t=Vse:=by rw [Yfe,if_neg za]
def Zhd {l:XLevel} {w:XWatch} {x:XSpan} {t:Int} (h:Ze l w t=0):Yfe l w x t=Kga l w x t:=by rw [Yfe,if_pos h]
def J1f (l:XLevel) (w:XWatch) (x:XSpan) (t:Int) (L:LB) (R:LS):
 Tri Tryz.prog 228 [l.val,w.val,x.val,.int .i64 t].toArray L R (fun v U J=>v=.tuple #[(Yfe l w x t).val,.int .i64 (Ze l w t)]∧L=U∧R=J):=by
 refine Je 97 Tryz.call228 Tryz.func228 rfl rfl rfl ?_;apply (Xaf);intro b4;apply (qax);intro b5;apply (qax);intro b6;apply (qaq);intro b8;apply Xar∘J0d;refine q_l rfl (Ut l _ _) ?_;apply (Xbh);refine q_c ?_ ?_<;>intro hc0;·
  apply qae∘V1f∘Xcl;refine q_r L R ztd ?_;have hl:¬ Jpa l:=fun h=>by rw [Vob.2 h] at hc0;omega
  have hE:Ze l w t=1:=by rw [Ze,if_pos hl]
  exact ⟨by rw [hE,V0c hE ze,J5a,if_neg hl];rfl,rfl,rfl⟩
 have hl:Jpa l:=Vob.1 za;apply Xc4∘Xav;apply J6 (G:=[_,_]) (j:=2) (cj:=19) rfl rfl zb rfl zsb rfl;·exact zKd
 intro junk3;apply (qah);apply J6 (G:=[_,_,_,_]) (j:=6) (cj:=23) rfl rfl zb rfl zsb rfl;·intro hg7;replace hg7:=qb hg7;exact (qaa) zYd
 intro junk7;apply (qaf);refine q_c ?_ ?_<;>intro hc1;·
  apply qae∘V1f∘Xa4;refine q_r L R ztd ?_;have hE:Ze l w t=8:=by rw [Ze,if_neg (fun h=>h hl),if_pos (by (try simp at hc1);omega)]
  exact ⟨by rw [hE,V0c hE ze];rfl,rfl,rfl⟩
 have ht:¬ (t < 0∨2147483648 < t∨t < w.last):=by (try simp at hc1);omega
 apply qbo∘Xbj;apply J6 (G:=[_,_,_]) (j:=3) (cj:=33) rfl rfl zb rfl zsb rfl;·exact zHd
 intro junk4;apply (qah);apply J6 (G:=[_,_,_]) (j:=8) (cj:=38) rfl rfl zb rfl zsb rfl;·exact zTd
 intro junk9;apply (qah);apply J6 (G:=[_,_,_,_,_]) (j:=13) (cj:=43) rfl rfl zb rfl zsb rfl;·intro hg14;replace hg14:=qb hg14;exact (Xa2∘qa5) qai
 intro junk14;apply (qah);apply J6 (G:=[_,_,_,_,_,_,_,_]) (j:=20) (cj:=50) rfl rfl zb rfl zsb rfl;·
  intro hg21;replace hg21:=qb hg21;apply Xaa∘Xb7;apply K9 (G:=[_,_,_]) (j:=24) (cj:=54) rfl rfl zb rfl zsb rfl;·intro hg25;replace hg25:=qb hg25;exact (Xaa) zge
  intro junk25;exact qai
 intro junk21;apply (qaf);refine q_c ?_ ?_<;>intro hc2;·
  apply qae∘V1f∘Xa4;refine q_r L R ztd ?_;have hE:Ze l w t=10:=by rw [Ze,if_neg (fun h=>h hl),if_neg ht,if_pos];rw [U3a];cases ho:w.over <;> simp [ho] at hc2 ⊢ <;> omega
  exact ⟨by rw [hE,V0c hE ze];rfl,rfl,rfl⟩
 have hE:Ze l w t=0:=Vbc hl ht (by rw [U3a];cases ho:w.over <;> simp [ho] at hc2 ⊢ <;> omega);rw [Zhd hE];apply Xd6∘Xbm;refine Kc (Jb (Jq (Kk (Jq (Jh ?_)))));apply qbe∘Xaa;refine q_l rfl (Jcc x l.cut _ _) ?_;apply qbq∘Xau;refine q_c ?_ ?_<;>intro hc3;·apply qay∘qab∘U4f∘Xbm;refine Kc (Ji (Jb (Jq (Jh ?_))));apply J0d∘Xb3;refine q_r L R ztd ?_;exact ⟨by rw [hE,Kga,if_pos hc3],rfl,rfl⟩
 have h3:¬ Kea x l.cut≠-1:=hc3;apply Xcw∘qb4∘Xau;refine q_c ?_ ?_<;>intro hc4;·refine J5 (Ji (Jb (Jq (Jh ?_))));apply J0d∘Xb3;refine q_r L R ztd ?_;exact ⟨by rw [hE,Kga,if_neg h3,if_pos zaa];first | rfl | rw [show w.over=false by simpa using hc4],rfl,rfl⟩
 have ho:w.over=true:=by simpa using hc4
 apply qae∘Xa2∘qa5∘Xau;refine q_c ?_ ?_<;>intro hc5;·apply qay∘Xbm;refine Kc (Ji (Jb (Jq (Jh ?_))));apply J0d∘Xb3;refine q_r L R ztd ?_;exact ⟨by rw [hE,Kga,if_neg h3,if_neg (by rw [ho];decide),if_pos za];first | rfl | rw [ho],rfl,rfl⟩
 have h5:¬ l.clear < x.high:=by omega
 apply qbi∘Xaa∘Xa5;refine q_c ?_ ?_<;>intro hc6;·
  apply Xbc∘Xbm∘qam∘qaa∘Xaa∘qa9∘Xaa∘Xcv;refine q_c ?_ ?_<;>intro hc7;·exact zoe
  exact zDe
 apply Xd6∘Xaa∘qa9∘Xaa∘Xcv;refine q_c ?_ ?_<;>intro hc7;·exact zoe
 exact zDe
end
section
def U5c (l:List XNode) (j:Nat):Prop:=
 ((l.getD j default).kind=1∧0≤(l.getD j default).cond∧(l.getD j default).cond < 64)∨
 ((l.getD j default).kind=2∧1≤j∧(l.getD j default).left=(j:Int) - 1)∨
 (((l.getD j default).kind=3∨(l.getD j default).kind=4)∧1≤j∧(l.getD j default).right=(j:Int) - 1∧0≤(l.getD j default).left∧(l.getD j default).left < (j:Int))
def U0a {l : List XNode} : ∀ (n : Nat) (i f d : Int), Jja l n i = some (f, d) → (0 ≤ f ∧ f ≤ i) ∧ (1 ≤ d ∧ d ≤ n) ∧ ∀ j : Nat, f ≤ (j : Int) → (j : Int) ≤ i → U5c l j
 | 0,i,f,d,h=>by rw [Jja] at h;cases h
 | n + 1,i,f,d,h=>by
  rw [Jja] at h
  split at h
  ·cases h
  rename_i hi
  have at_i:∀j:Nat,(j:Int)=i→l.getD j default=l.getD i.toNat default:=fun j hj=>by rw [← hj,yy]
  split at h
  ·rename_i h1
   split at h
   ·rename_i h2
    cases h
    refine ⟨by omega,by omega,fun j j1 j2=>?_⟩
    have hj:=at_i j za
    rw [U5c,hj]
    exact .inl ⟨h1,h2.2.2.1,h2.2.2.2⟩
   ·cases h
  split at h
  ·rename_i h1
   split at h
   ·cases h
   rename_i f' d' hp
   split at h
   ·rename_i h2
    cases h
    obtain ⟨i1,i2,i3⟩:=U0a n _ _ _ hp
    refine ⟨by omega,by omega,fun j j1 j2=>?_⟩
    by_cases hj:(j:Int)=i
    ·have hj' := at_i j hj
     rw [U5c,hj']
     exact .inr (.inl ⟨h1,by omega,by omega⟩)
    ·exact i3 j j1 za
   ·cases h
  split at h
  ·rename_i h1
   split at h
   ·cases h
   rename_i m r hp
   split at h
   ·rename_i h2
    split at h
    ·cases h
    rename_i f' q hq
    cases h
    obtain ⟨i1,i2,i3⟩:=U0a n _ _ _ hp
    obtain ⟨k1,k2,k3⟩:=U0a n _ _ _ hq
    refine ⟨by omega,by omega,fun j j1 j2=>?_⟩
    by_cases hj:(j:Int)=i
    ·have hj' := at_i j hj
     rw [U5c,hj']
     exact .inr (.inr ⟨h1,by omega,by omega,by omega,by omega⟩)
    ·rcases yla (j : Int) m with hm | hm
     ·exact k3 j j1 za
     ·exact i3 j hm za
   ·cases h
  ·cases h
def Utb {l:List XNode}:Uya l=true↔(1≤l.length∧l.length≤64)∧∃d,Jja l l.length ((l.length:Int) - 1)=some (0,d)∧d≤16:=by
 rw [Uya,yo,decide_eq_true_eq];constructor;·
  rintro ⟨h1, h2⟩;refine ⟨h1,?_⟩;split at h2;·cases h2
  ·rename_i f d hp;simp only [decide_eq_true_eq] at h2;obtain ⟨rfl,hd⟩:=h2;exact ⟨d,hp,hd⟩
 ·rintro ⟨h1, d, hp, hd⟩;refine ⟨h1,?_⟩;rw [hp];simpa using hd
def Vwd {l:List XNode} (h:Uya l=true) (j:Nat) (hj:j < l.length):U5c l j:=by obtain ⟨h1,d,hp,_⟩:=Utb.1 h;exact (U0a _ _ _ _ hp).2.2 j za za
def Yx {l : List XNode} {vals : List Int} : ∀ k, (Vd l vals k).length = k
 | 0=>rfl
 | k + 1=>by rw [Vd,yl,Yx k];rfl
def Jxa {l : List XNode} {vals : List Int} : ∀ {k j : Nat}, j < k → (Vd l vals k).getD j 0 = Yia vals (Vd l vals j) (l.getD j default)
 | 0,j,h=>by omega
 | k + 1,j,h=>by
  have hl:=Yx (l:=l) (vals:=vals) k
  rw [Vd,yh]
  rcases yk j k with h1 | h1
  ·rw [yG za, ← yh]
   exact Jxa h1
  ·obtain rfl : j = k := by omega
   rw [yJ za,hl,yub]
   rfl
def Kl (a b:Int):Prop:=(-1≤a∧a≤1)∧(-1≤b∧b≤1)∧(a=0∨a=b)
def Kjf {vals vals' v v':List Int} {x:XNode} (hn:vals.length=vals'.length) (hv:∀j:Nat,vals.getD j 0=0∨vals.getD j 0=vals'.getD j 0) (hr:∀j:Nat,-1≤vals'.getD j 0∧vals'.getD j 0≤1) (h:∀j:Nat,Kl (v.getD j 0) (v'.getD j 0)):Kl (Yia vals v x) (Yia vals' v' x):=by
 have h1:=h x.left.toNat;have h2:=h x.right.toNat;rw [Kl] at h1 h2;rw [Yia,Yia];split;·have h3 := hv x.cond.toNat;have h4:=hr x.cond.toNat;rw [Ktd,Ktd,← hn,Kl];split <;> split <;> omega
 split;·rw [Kl];omega
 split;·rw [Kl];omega
 ·rw [Kl];omega
def Zrc {l : List XNode} {vals vals' : List Int} (hn : vals.length = vals'.length) (hv : ∀ j : Nat, vals.getD j 0 = 0 ∨ vals.getD j 0 = vals'.getD j 0) (hr : ∀ j : Nat, -1 ≤ vals'.getD j 0 ∧ vals'.getD j 0 ≤ 1) : ∀ k j : Nat, Kl ((Vd l vals k).getD j 0) ((Vd l vals' k).getD j 0)
 | 0,j=>by rw [Vd,Vd];simp [Kl]
 | k + 1,j=>by
  have hl:=Yx (l:=l) (vals:=vals) k
  have hl':=Yx (l:=l) (vals:=vals') k
  rcases yk j (k + 1) with h1 | h1
  ·rw [Jxa h1, Jxa h1]
   rcases yk j k with h2 | h2
   ·have := Zrc (l := l) hn hv hr k j
    rw [Jxa h2,Jxa h2] at this
    exact this
   ·obtain rfl : j = k := by omega
    exact Kjf hn hv hr (Zrc hn hv hr j)
  ·have e1 : (Vd l vals (k + 1)).length = k + 1 := Yx _
   have e2:(Vd l vals' (k + 1)).length=k + 1:=Yx _
   rw [yh,yh,yu za,yu za]
   simp [Kl]
def Vfd {vals v:List Int} {x:XNode} (h:∀j:Nat,-1≤v.getD j 0∧v.getD j 0≤1):-1≤Yia vals v x∧Yia vals v x≤1:=by
 have h1:=h x.left.toNat;have h2:=h x.right.toNat;rw [Yia];split;·rw [Ktd];split <;> omega
 split;·omega
 split <;> omega
def Zia {l : List XNode} {vals : List Int} : ∀ k j : Nat, -1 ≤ (Vd l vals k).getD j 0 ∧ (Vd l vals k).getD j 0 ≤ 1
 | 0,j=>by rw [Vd];simp
 | k + 1,j=>by
  rcases yk j (k + 1) with h1 | h1
  ·rw [Jxa h1]
   rcases yk j k with h2 | h2
   ·have := Zia (l := l) (vals := vals) k j
    rw [Jxa h2] at this
    exact this
   ·obtain rfl : j = k := by omega
    exact Vfd (Zia j)
  ·have e1 : (Vd l vals (k + 1)).length = k + 1 := Yx _
   rw [yh,yu za]
   simp
end
end Go.Proofs.YtchfclmokpbldaaGreat
