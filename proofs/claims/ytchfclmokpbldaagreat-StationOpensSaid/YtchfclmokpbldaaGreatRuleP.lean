/-
  Merged texts. By an AI agent.
-/
import Derived.Test.YtchfclmokpbldaaGreatSiteS
set_option linter.all false
set_option maxHeartbeats 4000000
set_option maxRecDepth 20000
namespace Go.Proofs.YtchfclmokpbldaaGreat
open Go.Aw Go
section
attribute [local irreducible] CJ LJ DJ Tri YV Gives U7 Kb Kp U8 RV Ke OwL.L
section
variable {A B:Prop}
def Z3c(h:A→B:=by exact J0 zzb rfl):=h
def Ktf(h:A→B:=by exact J0 zjc rfl):=h
def Udf(h:A→B:=by exact Uoa (v:=Value.bool _) tb rfl rfl rfl rfl zD zga zda ze):=h
def Kig(h:B:=by exact ⟨by rw [hE,Jba,if_neg h3,if_neg (by rw [ho];decide),if_neg h5,if_pos (by first | (rw [if_pos hc6];omega) | (rw [if_neg hc6];omega))],rfl,rfl⟩):=h
def Jcg(h:B:=by exact ⟨by rw [hE,Jba,if_neg h3,if_neg (by rw [ho];decide),if_neg h5,if_neg (by first | (rw [if_pos hc6];omega) | (rw [if_neg hc6];omega))];first | (rw [if_pos hc6,ho];done) | (rw [if_neg hc6,ho];done),rfl,rfl⟩):=h
end
def U1 (l:XLevel) (L:LB) (R:LS):
 Tri Tryz.prog 177 [l.val].toArray L R (fun v M U=>v=.int .i64 (Za l)∧L=M∧R=U):=by
 refine Jd 28 Tryz.call177 Tryz.func177 rfl rfl rfl ?_;apply (Xag);intro b1;apply Xau∘Xa5∘qah;apply J3 (G:=[_,_,_]) (j:=3) (cj:=6) rfl rfl ze rfl ztb rfl;·intro hg4;replace hg4:=qb hg4;exact zge
 intro junk4;apply (qah);apply J3 (G:=[_,_,_,_,_]) (j:=8) (cj:=11) rfl rfl ze rfl ztb rfl;·intro hg9;replace hg9:=qb hg9;exact (Xbl) zie
 intro junk9;exact uaB
def Yw (l:XLevel) (L:LB) (R:LS):
 Tri Tryz.prog 224 [l.val].toArray L R (fun v M U=>v=.int .i64 (Za l)∧L=M∧R=U):=by
 refine Jd 28 Tryz.call224 Tryz.func224 rfl rfl rfl ?_;apply (Xag);intro b1;apply Xau∘Xa7;apply J3 (G:=[_,_,_,_,_]) (j:=3) (cj:=6) rfl rfl ze rfl ztb rfl;·intro hg4;replace hg4:=qb hg4;exact (Xbl) zie
 intro junk4;apply (qah);apply J3 (G:=[_,_,_]) (j:=10) (cj:=13) rfl rfl ze rfl ztb rfl;·intro hg11;replace hg11:=qb hg11;exact zOd
 intro junk11;exact uaB
def Zlb (x:XSpan) (n:Int) (L:LB) (R:LS):
 Tri Tryz.prog 230 [x.val,.int .i64 n].toArray L R (fun v M U=>v=.int .i64 (Jpa x n)∧L=M∧R=U):=by
 refine Jd 21 Tryz.call230 Tryz.func230 rfl rfl rfl ?_;apply (Xag);intro b2;apply (qad);refine J6 (Ja (Ji (Jy (Ji (Je ?_)))));apply Xaa∘Xa5∘Xaz;refine q_c ?_ ?_<;>intro hc0;·apply (Xbc);refine q_i L R ?_;exact ⟨by rw [Jpa,if_pos hc0],rfl,rfl⟩
 apply qae∘Xaf∘qbz∘Xaz;refine q_c ?_ ?_<;>intro hc1;·apply (Xbc);refine q_i L R ?_;exact ⟨by rw [Jpa,if_neg zc,if_pos hc1],rfl,rfl⟩
 apply qae∘Xaf∘qaj∘Xaz;refine q_c ?_ ?_<;>intro hc2;·apply (Xbc);refine q_i L R ?_;exact ⟨by rw [Jpa,if_neg zc,if_neg zc,if_pos hc2],rfl,rfl⟩
 refine Jt (Jg (Ja (Ji (Je ?_))));apply (Xam);refine q_i L R ?_;exact ⟨by rw [Jpa,if_neg zc,if_neg zc,if_neg zc],rfl,rfl⟩
def Ukb {l:XLevel}:Za l=0↔Zj l:=by rw [Za];split <;> simp_all
def Knc {l:XLevel} {w:XWatch} {t:Int} (h1:Zj l) (h2:¬ (t < 0∨2147483648 < t∨t < w.last)) (h3:Uga w):Zq l w t=0:=by rw [Zq,if_neg (fun h=>h h1),if_neg h2,if_neg (fun h=>h h3)]
def U0c {l:XLevel} {w:XWatch} {x:XSpan} {t:Int} {e:Int} (h:Zq l w t=e) (he:e≠0):Jse l w x t=Jze:=by rw [Jse,if_neg zc]
def Vmd {l:XLevel} {w:XWatch} {x:XSpan} {t:Int} (h:Zq l w t=0):Jse l w x t=Jba l w x t:=by rw [Jse,if_pos h]
def Yoe (l:XLevel) (w:XWatch) (x:XSpan) (t:Int) (L:LB) (R:LS):
 Tri Tryz.prog 228 [l.val,w.val,x.val,.int .i64 t].toArray L R (fun v M U=>v=.tuple #[(Jse l w x t).val,.int .i64 (Zq l w t)]∧L=M∧R=U):=by
 refine Jd 97 Tryz.call228 Tryz.func228 rfl rfl rfl ?_;apply (Xag);intro b4;apply (qax);intro b5;apply (qax);intro b6;apply (qaq);intro b8;apply Xau∘Z3c;refine q_l rfl (U1 l _ _) ?_;apply (Xbj);refine q_c ?_ ?_<;>intro hc0;·
  apply qae∘Ktf∘Xc6;refine q_r L R zBd ?_;have hl:¬ Zj l:=fun h=>by rw [Ukb.2 h] at hc0;omega
  have hE:Zq l w t=1:=by rw [Zq,if_pos hl]
  exact ⟨by rw [hE,U0c hE zj,Za,if_neg hl];rfl,rfl,rfl⟩
 have hl:Zj l:=Ukb.1 zc;apply qbo∘Xcf;apply J3 (G:=[_,_]) (j:=2) (cj:=19) rfl rfl ze rfl ztb rfl;·exact zPd
 intro junk3;apply (qah);apply J3 (G:=[_,_,_,_]) (j:=6) (cj:=23) rfl rfl ze rfl ztb rfl;·intro hg7;replace hg7:=qb hg7;exact (qaa) zge
 intro junk7;apply (qaf);refine q_c ?_ ?_<;>intro hc1;·
  apply qae∘Ktf∘Xcb;refine q_r L R zBd ?_;have hE:Zq l w t=8:=by rw [Zq,if_neg (fun h=>h hl),if_pos (by (try simp at hc1);omega)]
  exact ⟨by rw [hE,U0c hE zj];rfl,rfl,rfl⟩
 have ht:¬ (t < 0∨2147483648 < t∨t < w.last):=by (try simp at hc1);omega
 apply qbo∘Xa7;apply J3 (G:=[_,_,_]) (j:=3) (cj:=33) rfl rfl ze rfl ztb rfl;·exact zJd
 intro junk4;apply (qah);apply J3 (G:=[_,_,_]) (j:=8) (cj:=38) rfl rfl ze rfl ztb rfl;·exact zde
 intro junk9;apply (qah);apply J3 (G:=[_,_,_,_,_]) (j:=13) (cj:=43) rfl rfl ze rfl ztb rfl;·intro hg14;replace hg14:=qb hg14;exact (Xaa) zOd
 intro junk14;apply (qah);apply J3 (G:=[_,_,_,_,_,_,_,_]) (j:=20) (cj:=50) rfl rfl ze rfl ztb rfl;·
  intro hg21;replace hg21:=qb hg21;apply Xaa∘Xb8;apply Ue (G:=[_,_,_]) (j:=24) (cj:=54) rfl rfl ze rfl ztb rfl;·intro hg25;replace hg25:=qb hg25;exact (Xaa∘qb4) qai
  intro junk25;exact qai
 intro junk21;apply (qaf);refine q_c ?_ ?_<;>intro hc2;·
  apply qae∘Ktf∘Xcb;refine q_r L R zBd ?_;have hE:Zq l w t=10:=by rw [Zq,if_neg (fun h=>h hl),if_neg ht,if_pos];rw [Uga];cases ho:w.over <;> simp [ho] at hc2 ⊢ <;> omega
  exact ⟨by rw [hE,U0c hE zj];rfl,rfl,rfl⟩
 have hE:Zq l w t=0:=Knc hl ht (by rw [Uga];cases ho:w.over <;> simp [ho] at hc2 ⊢ <;> omega);rw [Vmd hE];apply qbv∘qaa∘Xbs;refine J6 (Ja (Ji (Jy (Ji (Je ?_)))));apply qbe∘Xaa;refine q_l rfl (Zlb x l.cut _ _) ?_;apply qbq∘Xaz;refine q_c ?_ ?_<;>intro hc3;·apply qay∘qab∘Udf∘Xbs;refine J6 (Jg (Ja (Ji (Je ?_))));apply Z3c∘Xc7;refine q_r L R zBd ?_;exact ⟨by rw [hE,Jba,if_pos hc3],rfl,rfl⟩
 have h3:¬ Jpa x l.cut≠-1:=hc3;apply Xc8∘qb4∘Xaz;refine q_c ?_ ?_<;>intro hc4;·refine Jt (Jg (Ja (Ji (Je ?_))));apply Z3c∘Xc7;refine q_r L R zBd ?_;exact ⟨by rw [hE,Jba,if_neg h3,if_pos zU];first | rfl | rw [show w.over=false by simpa using hc4],rfl,rfl⟩
 have ho:w.over=true:=by simpa using hc4
 apply Xc8∘Xa5∘Xaz;refine q_c ?_ ?_<;>intro hc5;·apply qay∘Xbs;refine J6 (Jg (Ja (Ji (Je ?_))));apply Z3c∘Xc7;refine q_r L R zBd ?_;exact ⟨by rw [hE,Jba,if_neg h3,if_neg (by rw [ho];decide),if_pos zc];first | rfl | rw [ho],rfl,rfl⟩
 have h5:¬ l.clear < x.high:=by omega
 apply qbi∘Xaa∘Xao;refine q_c ?_ ?_<;>intro hc6;·
  apply Xb0∘Xbs∘Xdr∘Xaa∘qa9∘Xaa∘Xdg;refine q_c ?_ ?_<;>intro hc7;·exact zEe
  exact zwf
 apply qbv∘qaa∘Xaa∘qa9∘Xaa∘Xdg;refine q_c ?_ ?_<;>intro hc7;·exact zEe
 exact zwf
def Ycc (L:LB) (R:LS):
 Tri Tryz.prog 125 ([]:List Value).toArray L R (fun v M U=>v=XWatch.val ⟨true,-1,0⟩∧L=M∧R=U):=by refine Jd 2 Tryz.call125 Tryz.func125 rfl rfl rfl ?_;exact zWf
end
section
def Kmc (l:List XNode) (j:Nat):Prop:=
 ((l.getD j default).kind=1∧0≤(l.getD j default).cond∧(l.getD j default).cond < 64)∨
 ((l.getD j default).kind=2∧1≤j∧(l.getD j default).left=(j:Int) - 1)∨
 (((l.getD j default).kind=3∨(l.getD j default).kind=4)∧1≤j∧(l.getD j default).right=(j:Int) - 1∧0≤(l.getD j default).left∧(l.getD j default).left < (j:Int))
def Zt {l : List XNode} : ∀ (n : Nat) (i f d : Int), Un l n i = some (f, d) → (0 ≤ f ∧ f ≤ i) ∧ (1 ≤ d ∧ d ≤ n) ∧ ∀ j : Nat, f ≤ (j : Int) → (j : Int) ≤ i → Kmc l j
 | 0,i,f,d,h=>by rw [Un] at h;cases h
 | n + 1,i,f,d,h=>by
  rw [Un] at h
  split at h
  ·cases h
  rename_i hi
  have at_i:∀j:Nat,(j:Int)=i→l.getD j default=l.getD i.toNat default:=fun j hj=>by rw [← hj,yz]
  split at h
  ·rename_i h1
   split at h
   ·rename_i h2
    cases h
    refine ⟨by omega,by omega,fun j j1 j2=>?_⟩
    have hj:=at_i j zc
    rw [Kmc,hj]
    exact .inl ⟨h1,h2.2.2.1,h2.2.2.2⟩
   ·cases h
  split at h
  ·rename_i h1
   split at h
   ·cases h
   rename_i f' d' hp
   split at h
   ·rename_i h2
    cases h
    obtain ⟨i1,i2,i3⟩:=Zt n _ _ _ hp
    refine ⟨by omega,by omega,fun j j1 j2=>?_⟩
    by_cases hj:(j:Int)=i
    ·have hj' := at_i j hj
     rw [Kmc,hj']
     exact .inr (.inl ⟨h1,by omega,by omega⟩)
    ·exact i3 j j1 zc
   ·cases h
  split at h
  ·rename_i h1
   split at h
   ·cases h
   rename_i m r hp
   split at h
   ·rename_i h2
    split at h
    ·cases h
    rename_i f' q hq
    cases h
    obtain ⟨i1,i2,i3⟩:=Zt n _ _ _ hp
    obtain ⟨k1,k2,k3⟩:=Zt n _ _ _ hq
    refine ⟨by omega,by omega,fun j j1 j2=>?_⟩
    by_cases hj:(j:Int)=i
    ·have hj' := at_i j hj
     rw [Kmc,hj']
     exact .inr (.inr ⟨h1,by omega,by omega,by omega,by omega⟩)
    ·rcases yka (j : Int) m with hm | hm
     ·exact k3 j j1 zc
     ·exact i3 j hm zc
   ·cases h
  ·cases h
def Uqa {l : List XNode} : ∀ (n m : Nat) (i : Int) (x : Int × Int), n ≤ m → Un l n i = some x → Un l m i = some x
 | 0,_,i,x,_,h=>by rw [Un] at h;cases h
 | n + 1,0,i,x,hnm,h=>by omega
 | n + 1,m + 1,i,x,hnm,h=>by
  rw [Un] at h ⊢
  split at h
  ·cases h
  rename_i hi
  rw [if_neg hi]
  split at h
  ·rename_i h1;rw [if_pos h1];exact h
  rename_i h1
  rw [if_neg h1]
  split at h
  ·rename_i h2
   rw [if_pos h2]
   split at h
   ·cases h
   rename_i f' d' hp
   rw [Uqa n m _ _ zc hp]
   exact h
  rename_i h2
  rw [if_neg h2]
  split at h
  ·rename_i h3
   rw [if_pos h3]
   split at h
   ·cases h
   rename_i a b hp
   rw [Uqa n m _ _ zc hp]
   dsimp only
   split at h
   ·rename_i h4
    rw [if_pos h4]
    split at h
    ·cases h
    rename_i a' b' hq
    rw [Uqa n m _ _ zc hq]
    exact h
   ·cases h
  ·cases h
def Y5a {l:List XNode}:Jna l=true↔(1≤l.length∧l.length≤64)∧∃d,Un l l.length ((l.length:Int) - 1)=some (0,d)∧d≤16:=by
 rw [Jna,yo,decide_eq_true_eq];constructor;·
  rintro ⟨h1, h2⟩;refine ⟨h1,?_⟩;split at h2;·cases h2
  ·rename_i f d hp;simp only [decide_eq_true_eq] at h2;obtain ⟨rfl,hd⟩:=h2;exact ⟨d,hp,hd⟩
 ·rintro ⟨h1, d, hp, hd⟩;refine ⟨h1,?_⟩;rw [hp];simpa using hd
def J3d {l:List XNode} (h:Jna l=true) (j:Nat) (hj:j < l.length):Kmc l j:=by obtain ⟨h1,d,hp,_⟩:=Y5a.1 h;exact (Zt _ _ _ _ hp).2.2 j zc zc
def Y5 {l : List XNode} {vals : List Int} : ∀ k, (Vh l vals k).length = k
 | 0=>rfl
 | k + 1=>by rw [Vh,yj,Y5 k];rfl
def Jwa {l : List XNode} {vals : List Int} : ∀ {k j : Nat}, j < k → (Vh l vals k).getD j 0 = Vga vals (Vh l vals j) (l.getD j default)
 | 0,j,h=>by omega
 | k + 1,j,h=>by
  have hl:=Y5 (l:=l) (vals:=vals) k
  rw [Vh,yh]
  rcases yk j k with h1 | h1
  ·rw [yy zc, ← yh]
   exact Jwa h1
  ·obtain rfl : j = k := by omega
   rw [yF zc,hl,yxb]
   rfl
def Kl (a b:Int):Prop:=(-1≤a∧a≤1)∧(-1≤b∧b≤1)∧(a=0∨a=b)
def U6e {vals vals' v v':List Int} {x:XNode} (hn:vals.length=vals'.length) (hv:∀j:Nat,vals.getD j 0=0∨vals.getD j 0=vals'.getD j 0) (hr:∀j:Nat,-1≤vals'.getD j 0∧vals'.getD j 0≤1) (h:∀j:Nat,Kl (v.getD j 0) (v'.getD j 0)):Kl (Vga vals v x) (Vga vals' v' x):=by
 have h1:=h x.left.toNat;have h2:=h x.right.toNat;rw [Kl] at h1 h2;rw [Vga,Vga];split;·have h3 := hv x.cond.toNat;have h4:=hr x.cond.toNat;rw [J1d,J1d,← hn,Kl];split <;> split <;> omega
 split;·rw [Kl];omega
 split;·rw [Kl];omega
 ·rw [Kl];omega
def V4c {l : List XNode} {vals vals' : List Int} (hn : vals.length = vals'.length) (hv : ∀ j : Nat, vals.getD j 0 = 0 ∨ vals.getD j 0 = vals'.getD j 0) (hr : ∀ j : Nat, -1 ≤ vals'.getD j 0 ∧ vals'.getD j 0 ≤ 1) : ∀ k j : Nat, Kl ((Vh l vals k).getD j 0) ((Vh l vals' k).getD j 0)
 | 0,j=>by rw [Vh,Vh];simp [Kl]
 | k + 1,j=>by
  have hl:=Y5 (l:=l) (vals:=vals) k
  have hl':=Y5 (l:=l) (vals:=vals') k
  rcases yk j (k + 1) with h1 | h1
  ·rw [Jwa h1, Jwa h1]
   rcases yk j k with h2 | h2
   ·have := V4c (l := l) hn hv hr k j
    rw [Jwa h2,Jwa h2] at this
    exact this
   ·obtain rfl : j = k := by omega
    exact U6e hn hv hr (V4c hn hv hr j)
  ·have e1 : (Vh l vals (k + 1)).length = k + 1 := Y5 _
   have e2:(Vh l vals' (k + 1)).length=k + 1:=Y5 _
   rw [yh,yh,yq zc,yq zc]
   simp [Kl]
def K3d {vals v:List Int} {x:XNode} (h:∀j:Nat,-1≤v.getD j 0∧v.getD j 0≤1):-1≤Vga vals v x∧Vga vals v x≤1:=by
 have h1:=h x.left.toNat;have h2:=h x.right.toNat;rw [Vga];split;·rw [J1d];split <;> omega
 split;·omega
 split <;> omega
def Yha {l : List XNode} {vals : List Int} : ∀ k j : Nat, -1 ≤ (Vh l vals k).getD j 0 ∧ (Vh l vals k).getD j 0 ≤ 1
 | 0,j=>by rw [Vh];simp
 | k + 1,j=>by
  rcases yk j (k + 1) with h1 | h1
  ·rw [Jwa h1]
   rcases yk j k with h2 | h2
   ·have := Yha (l := l) (vals := vals) k j
    rw [Jwa h2] at this
    exact this
   ·obtain rfl : j = k := by omega
    exact K3d (Yha j)
  ·have e1 : (Vh l vals (k + 1)).length = k + 1 := Y5 _
   rw [yh,yq zc]
   simp
end
end Go.Proofs.YtchfclmokpbldaaGreat
