/-
  Merged texts. By an AI agent.
-/
import Derived.Test.YtchfclmokpbldaaGreatSiteS
set_option linter.all false
set_option maxHeartbeats 4000000
set_option maxRecDepth 20000
namespace Go.Proofs.YtchfclmokpbldaaGreat
open Go.Aw Go
section
attribute [local irreducible] CJ LJ DJ Tri YV Gives Uq J2 Kj Ut RV J3 OwL.L
section
variable {A B:Prop}
def Yhc(h:A→B:=by exact Jw zrb rfl):=h
def Ylf(h:A→B:=by exact Jw zVb rfl):=h
def V9f(h:A→B:=by exact Uva (v:=Value.bool _) tb rfl rfl rfl rfl zC zca zY zb):=h
def Uhg(h:B:=by exact ⟨by rw [hE,J3a,if_neg h3,if_neg (by rw [ho];decide),if_neg h5,if_pos (by first | (rw [if_pos hc6];omega) | (rw [if_neg hc6];omega))],rfl,rfl⟩):=h
def Krg(h:B:=by exact ⟨by rw [hE,J3a,if_neg h3,if_neg (by rw [ho];decide),if_neg h5,if_neg (by first | (rw [if_pos hc6];omega) | (rw [if_neg hc6];omega))];first | (rw [if_pos hc6,ho];done) | (rw [if_neg hc6,ho];done),rfl,rfl⟩):=h
end
def Uu (l:XLevel) (L:LB) (R:LS):
 Tri Tryz.prog 177 [l.val].toArray L R (fun v U J=>v=.int .i64 (Jxa l)∧L=U∧R=J):=by
 refine Je 28 Tryz.call177 Tryz.func177 rfl rfl rfl ?_;apply (Xaf);intro b1;apply Xar∘Xbg∘qah;apply Kf (G:=[_,_,_]) (j:=3) (cj:=6) rfl rfl zb rfl zmb rfl;·intro hg4;replace hg4:=qb hg4;exact zHd
 intro junk4;apply (qah);apply Kf (G:=[_,_,_,_,_]) (j:=8) (cj:=11) rfl rfl zb rfl zmb rfl;·intro hg9;replace hg9:=qb hg9;exact (Xa0) zyd
 intro junk9;apply (qah);apply Kf (G:=[_,_,_]) (j:=15) (cj:=18) rfl rfl zb rfl zmb rfl;·intro hg16;replace hg16:=qb hg16;exact zHd
 intro junk16;apply (qah);apply Kf (G:=[_,_,_]) (j:=20) (cj:=23) rfl rfl zb rfl zmb rfl;·intro hg21;replace hg21:=qb hg21;exact zxd
 intro junk21;apply (qaf);refine q_c ?_ ?_<;>intro hc0;·apply (Xa8);refine q_i L R ?_;exact ⟨by (try simp at hc0);rw [Jxa,if_neg (by rw [Jia];omega)],rfl,rfl⟩
 apply (Xcy);refine q_i L R ?_;exact ⟨by (try simp at hc0);rw [Jxa,if_pos (by rw [Jia];omega)],rfl,rfl⟩
def Zjb (x:XSpan) (n:Int) (L:LB) (R:LS):
 Tri Tryz.prog 230 [x.val,.int .i64 n].toArray L R (fun v U J=>v=.int .i64 (J2a x n)∧L=U∧R=J):=by
 refine Je 21 Tryz.call230 Tryz.func230 rfl rfl rfl ?_;apply (Xaf);intro b2;apply (qad);refine J9 (Jb (Jq (Ki (Jq (Jg ?_)))));apply Xa0∘qa5∘Xas;refine q_c ?_ ?_<;>intro hc0;·apply (Xbe);refine q_i L R ?_;exact ⟨by rw [J2a,if_pos hc0],rfl,rfl⟩
 apply qae∘Xah∘qbz∘Xas;refine q_c ?_ ?_<;>intro hc1;·apply (Xbe);refine q_i L R ?_;exact ⟨by rw [J2a,if_neg za,if_pos hc1],rfl,rfl⟩
 apply qae∘Xah∘qaj∘Xas;refine q_c ?_ ?_<;>intro hc2;·apply (Xbe);refine q_i L R ?_;exact ⟨by rw [J2a,if_neg za,if_neg za,if_pos hc2],rfl,rfl⟩
 refine J5 (Jh (Jb (Jq (Jg ?_))));apply (Xam);refine q_i L R ?_;exact ⟨by rw [J2a,if_neg za,if_neg za,if_neg za],rfl,rfl⟩
def Uxb {l:XLevel}:Jxa l=0↔Jia l:=by rw [Jxa];split <;> simp_all
def K1c {l:XLevel} {w:XWatch} {t:Int} (h1:Jia l) (h2:¬ (t < 0∨2147483648 < t∨t < w.last)) (h3:Uqa w):Yz l w t=0:=by rw [Yz,if_neg (fun h=>h h1),if_neg h2,if_neg (fun h=>h h3)]
def Ukc {l:XLevel} {w:XWatch} {x:XSpan} {t:Int} {e:Int} (h:Yz l w t=e) (he:e≠0):Uhe l w x t=K9e:=by rw [Uhe,if_neg za]
def Ycd {l:XLevel} {w:XWatch} {x:XSpan} {t:Int} (h:Yz l w t=0):Uhe l w x t=J3a l w x t:=by rw [Uhe,if_pos h]
def J3f (l:XLevel) (w:XWatch) (x:XSpan) (t:Int) (L:LB) (R:LS):
 Tri Tryz.prog 228 [l.val,w.val,x.val,.int .i64 t].toArray L R (fun v U J=>v=.tuple #[(Uhe l w x t).val,.int .i64 (Yz l w t)]∧L=U∧R=J):=by
 refine Je 97 Tryz.call228 Tryz.func228 rfl rfl rfl ?_;apply (Xaf);intro b4;apply (qax);intro b5;apply (qax);intro b6;apply (qaq);intro b8;apply Xar∘Yhc;refine q_l rfl (Uu l _ _) ?_;apply (Xbb);refine q_c ?_ ?_<;>intro hc0;·
  apply qae∘Ylf∘Xcg;refine q_r L R zbd ?_;have hl:¬ Jia l:=fun h=>by rw [Uxb.2 h] at hc0;omega
  have hE:Yz l w t=1:=by rw [Yz,if_pos hl]
  exact ⟨by rw [hE,Ukc hE ze,Jxa,if_neg hl];rfl,rfl,rfl⟩
 have hl:Jia l:=Uxb.1 za;apply qbo∘Xck;apply Kf (G:=[_,_]) (j:=2) (cj:=19) rfl rfl zb rfl zmb rfl;·exact zsd
 intro junk3;apply (qah);apply Kf (G:=[_,_,_,_]) (j:=6) (cj:=23) rfl rfl zb rfl zmb rfl;·intro hg7;replace hg7:=qb hg7;exact (qaa) zHd
 intro junk7;apply (qaf);refine q_c ?_ ?_<;>intro hc1;·
  apply qae∘Ylf∘Xa3;refine q_r L R zbd ?_;have hE:Yz l w t=8:=by rw [Yz,if_neg (fun h=>h hl),if_pos (by (try simp at hc1);omega)]
  exact ⟨by rw [hE,Ukc hE ze];rfl,rfl,rfl⟩
 have ht:¬ (t < 0∨2147483648 < t∨t < w.last):=by (try simp at hc1);omega
 apply qbo∘Xbm;apply Kf (G:=[_,_,_]) (j:=3) (cj:=33) rfl rfl zb rfl zmb rfl;·exact zpd
 intro junk4;apply (qah);apply Kf (G:=[_,_,_]) (j:=8) (cj:=38) rfl rfl zb rfl zmb rfl;·exact zre
 intro junk9;apply (qah);apply Kf (G:=[_,_,_,_,_]) (j:=13) (cj:=43) rfl rfl zb rfl zmb rfl;·intro hg14;replace hg14:=qb hg14;exact (Xa0∘qa5) qai
 intro junk14;apply (qah);apply Kf (G:=[_,_,_,_,_,_,_,_]) (j:=20) (cj:=50) rfl rfl zb rfl zmb rfl;·
  intro hg21;replace hg21:=qb hg21;apply Xaa∘Xb7;apply Ui (G:=[_,_,_]) (j:=24) (cj:=54) rfl rfl zb rfl zmb rfl;·intro hg25;replace hg25:=qb hg25;exact (Xaa) zNd
  intro junk25;exact qai
 intro junk21;apply (qaf);refine q_c ?_ ?_<;>intro hc2;·
  apply qae∘Ylf∘Xa3;refine q_r L R zbd ?_;have hE:Yz l w t=10:=by rw [Yz,if_neg (fun h=>h hl),if_neg ht,if_pos];rw [Uqa];cases ho:w.over <;> simp [ho] at hc2 ⊢ <;> omega
  exact ⟨by rw [hE,Ukc hE ze];rfl,rfl,rfl⟩
 have hE:Yz l w t=0:=K1c hl ht (by rw [Uqa];cases ho:w.over <;> simp [ho] at hc2 ⊢ <;> omega);rw [Ycd hE];apply Xdz∘Xbk;refine J9 (Jb (Jq (Ki (Jq (Jg ?_)))));apply qbe∘Xaa;refine q_l rfl (Zjb x l.cut _ _) ?_;apply qbq∘Xas;refine q_c ?_ ?_<;>intro hc3;·apply qay∘qab∘V9f∘Xbk;refine J9 (Jh (Jb (Jq (Jg ?_))));apply Yhc∘Xb2;refine q_r L R zbd ?_;exact ⟨by rw [hE,J3a,if_pos hc3],rfl,rfl⟩
 have h3:¬ J2a x l.cut≠-1:=hc3;apply Xcr∘qb4∘Xas;refine q_c ?_ ?_<;>intro hc4;·refine J5 (Jh (Jb (Jq (Jg ?_))));apply Yhc∘Xb2;refine q_r L R zbd ?_;exact ⟨by rw [hE,J3a,if_neg h3,if_pos zaa];first | rfl | rw [show w.over=false by simpa using hc4],rfl,rfl⟩
 have ho:w.over=true:=by simpa using hc4
 apply qae∘Xa0∘qa5∘Xas;refine q_c ?_ ?_<;>intro hc5;·apply qay∘Xbk;refine J9 (Jh (Jb (Jq (Jg ?_))));apply Yhc∘Xb2;refine q_r L R zbd ?_;exact ⟨by rw [hE,J3a,if_neg h3,if_neg (by rw [ho];decide),if_pos za];first | rfl | rw [ho],rfl,rfl⟩
 have h5:¬ l.clear < x.high:=by omega
 apply qbi∘Xaa∘Xbd;refine q_c ?_ ?_<;>intro hc6;·
  apply Xa5∘Xbk∘Xc8∘Xaa∘qa9∘Xaa∘Xcu;refine q_c ?_ ?_<;>intro hc7;·exact zQd
  exact zde
 apply Xdz∘Xaa∘qa9∘Xaa∘Xcu;refine q_c ?_ ?_<;>intro hc7;·exact zQd
 exact zde
end
section
def Kgc (l:List XNode) (j:Nat):Prop:=
 ((l.getD j default).kind=1∧0≤(l.getD j default).cond∧(l.getD j default).cond < 64)∨
 ((l.getD j default).kind=2∧1≤j∧(l.getD j default).left=(j:Int) - 1)∨
 (((l.getD j default).kind=3∨(l.getD j default).kind=4)∧1≤j∧(l.getD j default).right=(j:Int) - 1∧0≤(l.getD j default).left∧(l.getD j default).left < (j:Int))
def Uha {l : List XNode} : ∀ (n : Nat) (i f d : Int), Jaa l n i = some (f, d) → (0 ≤ f ∧ f ≤ i) ∧ (1 ≤ d ∧ d ≤ n) ∧ ∀ j : Nat, f ≤ (j : Int) → (j : Int) ≤ i → Kgc l j
 | 0,i,f,d,h=>by rw [Jaa] at h;cases h
 | n + 1,i,f,d,h=>by
  rw [Jaa] at h
  split at h
  ·cases h
  rename_i hi
  have at_i:∀j:Nat,(j:Int)=i→l.getD j default=l.getD i.toNat default:=fun j hj=>by rw [← hj,yw]
  split at h
  ·rename_i h1
   split at h
   ·rename_i h2
    cases h
    refine ⟨by omega,by omega,fun j j1 j2=>?_⟩
    have hj:=at_i j za
    rw [Kgc,hj]
    exact .inl ⟨h1,h2.2.2.1,h2.2.2.2⟩
   ·cases h
  split at h
  ·rename_i h1
   split at h
   ·cases h
   rename_i f' d' hp
   split at h
   ·rename_i h2
    cases h
    obtain ⟨i1,i2,i3⟩:=Uha n _ _ _ hp
    refine ⟨by omega,by omega,fun j j1 j2=>?_⟩
    by_cases hj:(j:Int)=i
    ·have hj' := at_i j hj
     rw [Kgc,hj']
     exact .inr (.inl ⟨h1,by omega,by omega⟩)
    ·exact i3 j j1 za
   ·cases h
  split at h
  ·rename_i h1
   split at h
   ·cases h
   rename_i m r hp
   split at h
   ·rename_i h2
    split at h
    ·cases h
    rename_i f' q hq
    cases h
    obtain ⟨i1,i2,i3⟩:=Uha n _ _ _ hp
    obtain ⟨k1,k2,k3⟩:=Uha n _ _ _ hq
    refine ⟨by omega,by omega,fun j j1 j2=>?_⟩
    by_cases hj:(j:Int)=i
    ·have hj' := at_i j hj
     rw [Kgc,hj']
     exact .inr (.inr ⟨h1,by omega,by omega,by omega,by omega⟩)
    ·rcases yla (j : Int) m with hm | hm
     ·exact k3 j j1 za
     ·exact i3 j hm za
   ·cases h
  ·cases h
def Ukb {l:List XNode}:Uca l=true↔(1≤l.length∧l.length≤64)∧∃d,Jaa l l.length ((l.length:Int) - 1)=some (0,d)∧d≤16:=by
 rw [Uca,yo,decide_eq_true_eq];constructor;·
  rintro ⟨h1, h2⟩;refine ⟨h1,?_⟩;split at h2;·cases h2
  ·rename_i f d hp;simp only [decide_eq_true_eq] at h2;obtain ⟨rfl,hd⟩:=h2;exact ⟨d,hp,hd⟩
 ·rintro ⟨h1, d, hp, hd⟩;refine ⟨h1,?_⟩;rw [hp];simpa using hd
def K5d {l:List XNode} (h:Uca l=true) (j:Nat) (hj:j < l.length):Kgc l j:=by obtain ⟨h1,d,hp,_⟩:=Ukb.1 h;exact (Uha _ _ _ _ hp).2.2 j za za
def Yo {l : List XNode} {vals : List Int} : ∀ k, (U8 l vals k).length = k
 | 0=>rfl
 | k + 1=>by rw [U8,yl,Yo k];rfl
def Jqa {l : List XNode} {vals : List Int} : ∀ {k j : Nat}, j < k → (U8 l vals k).getD j 0 = Vka vals (U8 l vals j) (l.getD j default)
 | 0,j,h=>by omega
 | k + 1,j,h=>by
  have hl:=Yo (l:=l) (vals:=vals) k
  rw [U8,yi]
  rcases yk j k with h1 | h1
  ·rw [yP za, ← yi]
   exact Jqa h1
  ·obtain rfl : j = k := by omega
   rw [yZ za,hl,ync]
   rfl
def Kl (a b:Int):Prop:=(-1≤a∧a≤1)∧(-1≤b∧b≤1)∧(a=0∨a=b)
def Jhf {vals vals' v v':List Int} {x:XNode} (hn:vals.length=vals'.length) (hv:∀j:Nat,vals.getD j 0=0∨vals.getD j 0=vals'.getD j 0) (hr:∀j:Nat,-1≤vals'.getD j 0∧vals'.getD j 0≤1) (h:∀j:Nat,Kl (v.getD j 0) (v'.getD j 0)):Kl (Vka vals v x) (Vka vals' v' x):=by
 have h1:=h x.left.toNat;have h2:=h x.right.toNat;rw [Kl] at h1 h2;rw [Vka,Vka];split;·have h3 := hv x.cond.toNat;have h4:=hr x.cond.toNat;rw [J0d,J0d,← hn,Kl];split <;> split <;> omega
 split;·rw [Kl];omega
 split;·rw [Kl];omega
 ·rw [Kl];omega
def Jmd {l : List XNode} {vals vals' : List Int} (hn : vals.length = vals'.length) (hv : ∀ j : Nat, vals.getD j 0 = 0 ∨ vals.getD j 0 = vals'.getD j 0) (hr : ∀ j : Nat, -1 ≤ vals'.getD j 0 ∧ vals'.getD j 0 ≤ 1) : ∀ k j : Nat, Kl ((U8 l vals k).getD j 0) ((U8 l vals' k).getD j 0)
 | 0,j=>by rw [U8,U8];simp [Kl]
 | k + 1,j=>by
  have hl:=Yo (l:=l) (vals:=vals) k
  have hl':=Yo (l:=l) (vals:=vals') k
  rcases yk j (k + 1) with h1 | h1
  ·rw [Jqa h1, Jqa h1]
   rcases yk j k with h2 | h2
   ·have := Jmd (l := l) hn hv hr k j
    rw [Jqa h2,Jqa h2] at this
    exact this
   ·obtain rfl : j = k := by omega
    exact Jhf hn hv hr (Jmd hn hv hr j)
  ·have e1 : (U8 l vals (k + 1)).length = k + 1 := Yo _
   have e2:(U8 l vals' (k + 1)).length=k + 1:=Yo _
   rw [yi,yi,yu za,yu za]
   simp [Kl]
def J1d {vals v:List Int} {x:XNode} (h:∀j:Nat,-1≤v.getD j 0∧v.getD j 0≤1):-1≤Vka vals v x∧Vka vals v x≤1:=by
 have h1:=h x.left.toNat;have h2:=h x.right.toNat;rw [Vka];split;·rw [J0d];split <;> omega
 split;·omega
 split <;> omega
def Yza {l : List XNode} {vals : List Int} : ∀ k j : Nat, -1 ≤ (U8 l vals k).getD j 0 ∧ (U8 l vals k).getD j 0 ≤ 1
 | 0,j=>by rw [U8];simp
 | k + 1,j=>by
  rcases yk j (k + 1) with h1 | h1
  ·rw [Jqa h1]
   rcases yk j k with h2 | h2
   ·have := Yza (l := l) (vals := vals) k j
    rw [Jqa h2] at this
    exact this
   ·obtain rfl : j = k := by omega
    exact J1d (Yza j)
  ·have e1 : (U8 l vals (k + 1)).length = k + 1 := Yo _
   rw [yi,yu za]
   simp
end
end Go.Proofs.YtchfclmokpbldaaGreat
