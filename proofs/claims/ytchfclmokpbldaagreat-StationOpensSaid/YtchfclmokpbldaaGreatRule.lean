/-
  Rules: rule.part, rule.right, rule.Check and the reference's. By an AI agent; no person has read it.
-/
import Derived.Test.YtchfclmokpbldaaGreatRuleP
set_option linter.all false
set_option maxHeartbeats 4000000
namespace Go.Proofs.YtchfclmokpbldaaGreat
open Go.Aw Go
set_option maxRecDepth 20000
attribute [local irreducible] CJ LJ DJ Tri YV Gives U7 Kb Kp U8 RV Ke OwL.L
section
variable {A B:Prop}
def Jfd(h:A→B:=by exact Kq (Ux ztb) rfl rfl rfl):=h
def Zse(h:B:=by exact ⟨i,1,_,rfl,⟨by omega,fun h=>by rw [hpf,if_pos zR],fun h=>by rw [hpf,if_neg zR]⟩,rfl,rfl⟩):=h
def J6f(h:A→B:=by exact Ju rfl (ih (i - 1) _ zc zc zc) rfl):=h
def Vgf(h:B:=by exact ⟨f,max q r + 1,b2,rfl,⟨by omega,fun h=>by rw [hpf,hP2.yes h],fun h=>by rw [hpf,hP2.no h]⟩,rfl,rfl⟩):=h
def J4g(h:B:=by exact ⟨0,0,false,rfl,⟨by omega,(fun h=>by cases h),fun _=>by rw [Un,if_neg hc0,← hx,if_neg hc1,if_neg hc2,if_neg zc]⟩,rfl,rfl⟩):=h
end
structure PartR (l:List XNode) (n:Nat) (i f d:Int) (b:Bool):Prop where
 bnd:0≤d∧d≤n
 yes:b=true→Un l n i=some (f,d)
 no:b=false→Un l n i=none
def Ula {l : List XNode} {i : Int} (h : i < 0) : ∀ n, Un l n i = none
 | 0=>rfl
 | n + 1=>by rw [Un,if_pos h]
def Kib {l:List XNode} {n:Nat} {i:Int} {x:XNode} (h0:¬ i < 0) (hx:x=l.getD i.toNat default) (h1:¬ x.kind=1) (h2:x.kind=2):
 Un l (n + 1) i=match Un l n (i - 1) with
  | none=>none
  | some (f,d)=>if x.cond=0∧x.right=0∧x.left=i - 1 then some (f,d + 1) else none:=by rw [Un,if_neg h0,← hx,if_neg h1];exact if_pos h2
def Vhb {l:List XNode} {n:Nat} {i:Int} {x:XNode} (h0:¬ i < 0) (hx:x=l.getD i.toNat default) (h1:¬ x.kind=1) (h2:¬ x.kind=2) (h3:x.kind=3∨x.kind=4):
 Un l (n + 1) i=match Un l n (i - 1) with
  | none=>none
  | some (m,r)=>if x.cond=0∧x.right=i - 1∧x.left=m - 1 then
   match Un l n (m - 1) with
   | none=>none
   | some (f,q)=>some (f,max q r + 1) else none:=by rw [Un,if_neg h0,← hx,if_neg h1,if_neg h2];exact if_pos h3
def V9d (l:Arr XNode) (n:Nat) (i:Int) (L:LB) (R:LS) (hi:i < 0):
 Tri Tryz.prog 175 [l.val,.int .i64 i].toArray L R (fun v M U=>∃(f d:Int) (b:Bool),v=.tuple #[.int .i64 f,.int .i64 d,.bool b]∧PartR l.l n i f d b∧L=M∧R=U):=by
 refine Jd 122 Tryz.call175 Tryz.func175 rfl rfl rfl ?_;apply Xac∘Xb2∘qaw∘Xdc;refine q_c ?_ ?_<;>intro hc0;·apply Xac∘Xb2∘qbh;refine q_r L R zxd ?_;exact ⟨0,0,false,rfl,⟨by omega,(fun h=>by cases h),fun _=>Ula hi n⟩,rfl,rfl⟩
 (exfalso;omega)
def J5d (l : Arr XNode) (n : Nat) (R : LS) (hl : InR (Ykc l) R) (hn : n ≤ 64)
 (ih:∀(i:Int) (L:LB),i < n→i < l.l.length→-1≤i→Tri Tryz.prog 175 [l.val,.int .i64 i].toArray L R (fun v M U=>∃(f d:Int) (b:Bool),v=.tuple #[.int .i64 f,.int .i64 d,.bool b]∧PartR l.l n i f d b∧L=M∧R=U))
 (i:Int) (L:LB) (hi:i < n + 1) (hil:i < l.l.length) (hi1:-1≤i):
 Tri Tryz.prog 175 [l.val,.int .i64 i].toArray L R (fun v M U=>∃(f d:Int) (b:Bool),v=.tuple #[.int .i64 f,.int .i64 d,.bool b]∧PartR l.l (n + 1) i f d b∧L=M∧R=U):=by
 refine Jd 122 Tryz.call175 Tryz.func175 rfl rfl rfl ?_;apply Xac∘Xb2∘qaw∘Xdc;refine q_c ?_ ?_<;>intro hc0;·apply Xac∘Xb2∘qbh;refine q_r L R zxd ?_;exact ⟨0,0,false,rfl,⟨by omega,(fun h=>by cases h),fun _=>Ula hc0 _⟩,rfl,rfl⟩
 have hxg:=Js (l:=l.l) (k:=i.toNat) default zc;obtain ⟨x,hx⟩:∃x,x=l.l.getD i.toNat default:=⟨_,rfl⟩;rw [← hx] at hxg;apply (Xdh);refine J0 zqb rfl ?_;apply (Xeg);intro b7;apply (Xdz);refine J6 (Ja (Jy (Ji (Je ?_))));apply (Xba);refine q_c ?_ ?_<;>intro hc1;·
  refine Ji ?_;refine Kg tb [0,1,2,3,4,5,6,7,8,9,10,11,12,13,14,15,16,17,18,19,20,21] ([Blk.mk b7 _ _]) Kn zf zk ?_;apply qao∘Xae;refine Kq zvc rfl rfl rfl ?_;apply (qb2);refine U9 (k:=30) ztb (fun hg4=>?_) (fun hg4=>?_);·
   replace hg4:=qb hg4;apply (Xae);refine Kq zvc rfl rfl rfl ?_;apply (Xb9);refine U9 (k:=35) ztb (fun hg9=>?_) (fun hg9=>?_);·
    replace hg9:=qb hg9;apply (Xae);refine Kq zJc rfl rfl rfl ?_;apply (Xb9);refine U9 (k:=40) ztb (fun hg14=>?_) (fun hg14=>?_);·replace hg14:=qb hg14;apply (Xae);refine Kq zBc rfl rfl rfl ?_;exact zLd
    replace hg14:=qb hg14;(iterate 3 apply (qap));exact zLd
   replace hg9:=qb hg9;(iterate 3 apply (qap));apply (Xb9);(iterate 3 apply (qap));exact zLd
  replace hg4:=qb hg4;iterate 3 apply (qap)
  apply (Xb9);iterate 3 apply (qap)
  apply (Xb9);iterate 3 apply (qap)
  exact zLd
 apply (Xbx);refine q_c ?_ ?_<;>intro hc2;·
  apply Xee∘qa9∘J6f;rintro v M U ⟨f,d,b,rfl,hP,rfl,rfl⟩;have hPb:=hP.bnd;refine J0 zcc rfl ?_;iterate 3 apply (qbs)
  apply qad∘Xb2∘qa4;refine Kg tb [0,1,2,3,4,5,6,7,8,9,10,11,12,13,14,15,16,17,18,19,20,21,22,23] ([Blk.mk b7 _ _]) Kn zf zk ?_;apply qao∘qao∘qc2∘qb2∘qb2;refine U9 (k:=59) ztb (fun hg4=>?_) (fun hg4=>?_);·
   replace hg4:=qb hg4;apply (Xae);refine Kq zvc rfl rfl rfl ?_;apply (Xb9);refine U9 (k:=64) ztb (fun hg9=>?_) (fun hg9=>?_);·
    replace hg9:=qb hg9;apply (Xae);refine Kq zvc rfl rfl rfl ?_;apply (Xb9);refine U9 (k:=69) ztb (fun hg14=>?_) (fun hg14=>?_);·replace hg14:=qb hg14;apply Xa8∘qb7;refine Kq zvc rfl rfl rfl ?_;exact uad
    replace hg14:=qb hg14;(iterate 5 apply (qap));exact uad
   replace hg9:=qb hg9;(iterate 3 apply (qap));apply (Xb9);(iterate 5 apply (qap));exact uad
  replace hg4:=qb hg4;iterate 3 apply (qap)
  apply (Xb9);iterate 3 apply (qap)
  apply (Xb9);iterate 5 apply (qap)
  exact uad
 apply qbi∘Xba;refine q_c ?_ ?_<;>intro hc3;·refine Jt (Ja ?_);exact uae
 apply qay∘Xba;exact uae
def Kbc (l:Arr XNode) (R:LS) (hl:InR (Ykc l) R):∀(n:Nat),n≤64→∀(i:Int) (L:LB),i < n→i < l.l.length→-1≤i→
 Tri Tryz.prog 175 [l.val,.int .i64 i].toArray L R (fun v M U=>∃(f d:Int) (b:Bool),v=.tuple #[.int .i64 f,.int .i64 d,.bool b]∧PartR l.l n i f d b∧L=M∧R=U)
 | 0,_,i,L,hi,_,_=>V9d l 0 i L R zc
 | n + 1,hn,i,L,hi,hil,hi1=>J5d l n R hl zc (fun i L h1 h2 h3=>Kbc l R hl n zc i L h1 h2 h3) i L hi hil hi1
def Ytb (l:Arr XNode) (L:LB) (R:LS) (hl:InR (Ykc l) R):
 Tri Tryz.prog 99 [l.val].toArray L R (fun v M U=>v=.bool (Jna l.l)∧L=M∧R=U):=by
 refine Jd 32 Tryz.call99 Tryz.func99 rfl rfl rfl ?_;apply Xew∘Xaq∘Xas;apply J3 (G:=[_,_,_]) (j:=3) (cj:=9) rfl rfl ze rfl ztb rfl;·intro hg4;replace hg4:=qb hg4;exact (Xaq) zpf
 intro junk4;apply (qaf);refine q_c ?_ ?_<;>intro hc0;·exact ubB
 apply Xdx∘Xaq∘qa9;refine Ju rfl (Kbc l _ hl l.l.length zc _ _ zc zc zc) rfl ?_;rintro v M U ⟨f,d,b,rfl,hP,rfl,rfl⟩;refine J0 zcc rfl ?_;iterate 3 apply (qbs)
 apply qad∘Xb2∘qam∘qah∘qah;apply Ue (G:=[_,_]) (j:=1) (cj:=24) rfl rfl ze rfl ztb rfl;·intro hg2;replace hg2:=qb hg2;exact (qaa) zme
 intro junk2;apply (qah);apply Ue (G:=[_,_]) (j:=5) (cj:=28) rfl rfl ze rfl ztb rfl;·intro hg6;replace hg6:=qb hg6;exact (qaa) zSe
 intro junk6;apply (Xbb);refine q_b L R ?_;refine ⟨?_,rfl,rfl⟩;rw [Jna,show decide (1≤l.l.length∧l.l.length≤64)=true from decide_eq_true zc];cases b with
 | false=>rw [hP.no rfl];rfl
 | true=>rw [hP.yes rfl];refine congrArg Value.bool ?_;rw [yIb];simp
def Kcc {l:List XNode} {n:Nat} (h:Jna l=true) (k:Nat) (hk:k < l.length) (h1:(l.getD k default).kind=1) (h2:(n:Int)≤(l.getD k default).cond):Z8 l n=1:=by rw [Z8,if_neg (by rw [h];decide),if_pos ⟨_,yi (Js default hk),h1,h2⟩]
def Uhb {l:List XNode} {n:Nat} (h:Jna l=true) (hk:∀k:Nat,k < l.length→¬ ((l.getD k default).kind=1∧(n:Int)≤(l.getD k default).cond)):Z8 l n=0:=by
 rw [Z8,if_neg (by rw [h];decide),if_neg];rintro ⟨x,hx,h1,h2⟩;obtain ⟨k,hk',rfl⟩:=List.mem_iff_getElem.1 hx;have e:l.getD k default=l[k]:=by rw [yh,yx hk'];rfl
 exact hk k hk' (by rw [e];exact ⟨h1,h2⟩)
def J0d (l:Arr XNode) (n:Nat) (L:LB) (R:LS) (hl:InR (Ykc l) R):
 Tri Tryz.prog 225 [l.val,.int .i64 (n:Int)].toArray L R (fun v M U=>v=.int .i64 (Z8 l.l n)∧L=M∧R=U):=by
 refine Jd 26 Tryz.call225 Tryz.func225 rfl rfl rfl ?_;apply Xac∘qaw∘qbm;refine q_l rfl (Ytb l _ _ hl) ?_;apply (Xbg);refine q_c ?_ ?_<;>intro hc0;·apply (Xa1);refine q_i L R ?_;exact ⟨by rw [Z8,if_pos zS],rfl,rfl⟩
 have hr:Jna l.l=true:=by simpa using hc0
 have hln:=(Y5a.1 hr).1;apply qbo∘Xdn;refine Jh [(1,.int _ _),(10,.slice _ _ _),(11,.int _ _),(12,.int _ _)] zg fun tq0=>?_;refine q_s ([4,6]++rg 12 14) (fun g:{k:Nat // k≤l.l.length∧∀j:Nat,j < k→¬ ((l.l.getD j default).kind=1∧(n:Int)≤(l.l.getD j default).cond)}=>[(12,.int .i64 ((g.1:Nat):Int))]) (fun g=>l.l.length - g.1) (⟨0,by omega,fun j hj=>by omega⟩) ?_;rintro ⟨k,hk,hal⟩ junk;try dsimp only
 apply (Xay);refine q_c ?_ ?_<;>intro hc1;·
  have h1:=Js (l:=l.l) (k:=k) default zc;apply (qbb);refine J0 zC rfl ?_;apply (Xeg);intro b6;apply Xcv∘Xcn;apply Ue (G:=[_,_,_,_]) (j:=3) (cj:=19) rfl rfl ze rfl ztb rfl;·exact zUf
  intro junk4;apply (qaf);refine q_c ?_ ?_<;>intro hc2;·exact ubF
  apply (Xbk);exact uav
 exact zGf
end Go.Proofs.YtchfclmokpbldaaGreat
