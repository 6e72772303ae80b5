/-
  Rules: rule.part, rule.right, rule.Check and the reference's. By an AI agent; no person has read it.
-/
import Derived.Test.YtchfclmokpbldaaGreatRuleP
set_option linter.all false
set_option maxHeartbeats 4000000
namespace Go.Proofs.YtchfclmokpbldaaGreat
open Go.Aw Go
set_option maxRecDepth 20000
attribute [local irreducible] CJ LJ DJ Tri YV Gives Ur J3 Ko Uq RV J5 OwL.L
section
variable {A B:Prop}
def Jid(h:A→B:=by exact K1 (Uh zmb) rfl rfl rfl):=h
def Zxe(h:B:=by exact ⟨i,1,_,rfl,⟨by omega,fun h=>by rw [hpf,if_pos zM],fun h=>by rw [hpf,if_neg zM]⟩,rfl,rfl⟩):=h
def U2f(h:A→B:=by exact Jm rfl (ih (i - 1) _ za za za) rfl):=h
def J7g(h:B:=by exact ⟨f,max q r + 1,b2,rfl,⟨by omega,fun h=>by rw [hpf,hP2.yes h],fun h=>by rw [hpf,hP2.no h]⟩,rfl,rfl⟩):=h
def Khg(h:B:=by exact ⟨0,0,false,rfl,⟨by omega,(fun h=>by cases h),fun _=>by rw [Vq,if_neg hc0,← hx,if_neg hc1,if_neg hc2,if_neg za]⟩,rfl,rfl⟩):=h
end
structure PartR (l:List XNode) (n:Nat) (i f d:Int) (b:Bool):Prop where
 bnd:0≤d∧d≤n
 yes:b=true→Vq l n i=some (f,d)
 no:b=false→Vq l n i=none
def Ytc {l : List XNode} {i : Int} (h : i < 0) : ∀ n, Vq l n i = none
 | 0=>rfl
 | n + 1=>by rw [Vq,if_pos h]
def Vzb {l:List XNode} {n:Nat} {i:Int} {x:XNode} (h0:¬ i < 0) (hx:x=l.getD i.toNat default) (h1:¬ x.kind=1) (h2:x.kind=2):
 Vq l (n + 1) i=match Vq l n (i - 1) with
  | none=>none
  | some (f,d)=>if x.cond=0∧x.right=0∧x.left=i - 1 then some (f,d + 1) else none:=by rw [Vq,if_neg h0,← hx,if_neg h1];exact if_pos h2
def Yvd {l:List XNode} {n:Nat} {i:Int} {x:XNode} (h0:¬ i < 0) (hx:x=l.getD i.toNat default) (h1:¬ x.kind=1) (h2:¬ x.kind=2) (h3:x.kind=3∨x.kind=4):
 Vq l (n + 1) i=match Vq l n (i - 1) with
  | none=>none
  | some (m,r)=>if x.cond=0∧x.right=i - 1∧x.left=m - 1 then
   match Vq l n (m - 1) with
   | none=>none
   | some (f,q)=>some (f,max q r + 1) else none:=by rw [Vq,if_neg h0,← hx,if_neg h1,if_neg h2];exact if_pos h3
def Jne (l:Arr XNode) (n:Nat) (i:Int) (L:LB) (R:LS) (hi:i < 0):
 Tri Tryz.prog 175 [l.val,.int .i64 i].toArray L R (fun v M U=>∃(f d:Int) (b:Bool),v=.tuple #[.int .i64 f,.int .i64 d,.bool b]∧PartR l.l n i f d b∧L=M∧R=U):=by
 refine Jd 122 Tryz.call175 Tryz.func175 rfl rfl rfl ?_;apply Xac∘Xbx∘qaw∘qaa∘Xa5;refine q_c ?_ ?_<;>intro hc0;·apply Xac∘Xbx∘qbh;refine q_r L R zgd ?_;exact ⟨0,0,false,rfl,⟨by omega,(fun h=>by cases h),fun _=>Ytc hi n⟩,rfl,rfl⟩
 (exfalso;omega)
def K0d (l : Arr XNode) (n : Nat) (R : LS) (hl : InR (J9e l) R) (hn : n ≤ 64)
 (ih:∀(i:Int) (L:LB),i < n→i < l.l.length→-1≤i→Tri Tryz.prog 175 [l.val,.int .i64 i].toArray L R (fun v M U=>∃(f d:Int) (b:Bool),v=.tuple #[.int .i64 f,.int .i64 d,.bool b]∧PartR l.l n i f d b∧L=M∧R=U))
 (i:Int) (L:LB) (hi:i < n + 1) (hil:i < l.l.length) (hi1:-1≤i):
 Tri Tryz.prog 175 [l.val,.int .i64 i].toArray L R (fun v M U=>∃(f d:Int) (b:Bool),v=.tuple #[.int .i64 f,.int .i64 d,.bool b]∧PartR l.l (n + 1) i f d b∧L=M∧R=U):=by
 refine Jd 122 Tryz.call175 Tryz.func175 rfl rfl rfl ?_;apply Xac∘Xbx∘qaw∘qaa∘Xa5;refine q_c ?_ ?_<;>intro hc0;·apply Xac∘Xbx∘qbh;refine q_r L R zgd ?_;exact ⟨0,0,false,rfl,⟨by omega,(fun h=>by cases h),fun _=>Ytc hc0 _⟩,rfl,rfl⟩
 have hxg:=Ju (l:=l.l) (k:=i.toNat) default za;obtain ⟨x,hx⟩:∃x,x=l.l.getD i.toNat default:=⟨_,rfl⟩;rw [← hx] at hxg;apply qbv∘Xas;refine Jx (by first | exact Jf tb rfl rfl rfl rfl zy (i:=i.toNat) zk za | exact Jq tb rfl rfl rfl rfl (i:=i.toNat) zk za) rfl ?_;apply (Xdr);intro b7;apply Xbg∘Xaa;refine J7 (Jb (Ka (Jp (Jg ?_))));apply (Xax);refine q_c ?_ ?_<;>intro hc1;·
  refine Jp ?_;refine Kh tb [0,1,2,3,4,5,6,7,8,9,10,11,12,13,14,15,16,17,18,19,20,21] ([Blk.mk b7 _ _]) Kq zc zg ?_;apply qao∘Xak;refine K1 zic rfl rfl rfl ?_;apply (qb2);refine Yh (k:=30) zmb (fun hg4=>?_) (fun hg4=>?_);·
   replace hg4:=qb hg4;apply (Xak);refine K1 zic rfl rfl rfl ?_;apply (Xbv);refine Yh (k:=35) zmb (fun hg9=>?_) (fun hg9=>?_);·
    replace hg9:=qb hg9;apply (Xak);refine K1 (J7c rfl rfl) rfl rfl rfl ?_;apply (Xbv);refine Yh (k:=40) zmb (fun hg14=>?_) (fun hg14=>?_);·replace hg14:=qb hg14;apply (Xak);refine K1 zQc rfl rfl rfl ?_;exact zvd
    replace hg14:=qb hg14;(iterate 3 apply (qap));exact zvd
   replace hg9:=qb hg9;(iterate 3 apply (qap));apply (Xbv);(iterate 3 apply (qap));exact zvd
  replace hg4:=qb hg4;iterate 3 apply (qap)
  apply (Xbv);iterate 3 apply (qap)
  apply (Xbv);iterate 3 apply (qap)
  exact zvd
 apply (Xbj);refine q_c ?_ ?_<;>intro hc2;·
  apply qae∘Xas∘qa9∘U2f;rintro v M U ⟨f,d,b,rfl,hP,rfl,rfl⟩;have hPb:=hP.bnd;refine Jx zXb rfl ?_;iterate 3 apply (qbs)
  apply qad∘Xbx∘qa4;refine Kh tb [0,1,2,3,4,5,6,7,8,9,10,11,12,13,14,15,16,17,18,19,20,21,22,23] ([Blk.mk b7 _ _]) Kq zc zg ?_;apply qao∘qao∘qc2∘qb2∘qb2;refine Yh (k:=59) zmb (fun hg4=>?_) (fun hg4=>?_);·
   replace hg4:=qb hg4;apply (Xak);refine K1 zic rfl rfl rfl ?_;apply (Xbv);refine Yh (k:=64) zmb (fun hg9=>?_) (fun hg9=>?_);·
    replace hg9:=qb hg9;apply (Xak);refine K1 zic rfl rfl rfl ?_;apply (Xbv);refine Yh (k:=69) zmb (fun hg14=>?_) (fun hg14=>?_);·replace hg14:=qb hg14;apply Xbn∘qb7;refine K1 zic rfl rfl rfl ?_;exact uab
    replace hg14:=qb hg14;(iterate 5 apply (qap));exact uab
   replace hg9:=qb hg9;(iterate 3 apply (qap));apply (Xbv);(iterate 5 apply (qap));exact uab
  replace hg4:=qb hg4;iterate 3 apply (qap)
  apply (Xbv);iterate 3 apply (qap)
  apply (Xbv);iterate 5 apply (qap)
  exact uab
 apply qbi∘Xax;refine q_c ?_ ?_<;>intro hc3;·refine J1 (Jb ?_);exact uac
 apply qay∘Xax;exact uac
def J2c (l:Arr XNode) (R:LS) (hl:InR (J9e l) R):∀(n:Nat),n≤64→∀(i:Int) (L:LB),i < n→i < l.l.length→-1≤i→
 Tri Tryz.prog 175 [l.val,.int .i64 i].toArray L R (fun v M U=>∃(f d:Int) (b:Bool),v=.tuple #[.int .i64 f,.int .i64 d,.bool b]∧PartR l.l n i f d b∧L=M∧R=U)
 | 0,_,i,L,hi,_,_=>Jne l 0 i L R za
 | n + 1,hn,i,L,hi,hil,hi1=>K0d l n R hl za (fun i L h1 h2 h3=>J2c l R hl n za i L h1 h2 h3) i L hi hil hi1
def Zlb (l:Arr XNode) (L:LB) (R:LS) (hl:InR (J9e l) R):
 Tri Tryz.prog 99 [l.val].toArray L R (fun v M U=>v=.bool (Ula l.l)∧L=M∧R=U):=by
 refine Jd 32 Tryz.call99 Tryz.func99 rfl rfl rfl ?_;apply Xba∘qaw∘Xao∘Xaw;apply Kf (G:=[_,_,_]) (j:=3) (cj:=9) rfl rfl zb rfl zmb rfl;·intro hg4;replace hg4:=qb hg4;exact (Xao∘qa5) qai
 intro junk4;apply (qaf);refine q_c ?_ ?_<;>intro hc0;·apply (Xc8);refine q_b L R ?_;exact ⟨by rw [Ula,decide_eq_false za];rfl,rfl,rfl⟩
 apply qbv∘qbm∘Xao∘qa9;refine Jm rfl (J2c l _ hl l.l.length za _ _ za za za) rfl ?_;rintro v M U ⟨f,d,b,rfl,hP,rfl,rfl⟩;refine Jx zXb rfl ?_;iterate 3 apply (qbs)
 apply qad∘Xbx∘qam∘qah∘qah;apply Us (G:=[_,_]) (j:=1) (cj:=24) rfl rfl zb rfl zmb rfl;·intro hg2;replace hg2:=qb hg2;exact (qaa) zRd
 intro junk2;apply (qah);apply Us (G:=[_,_]) (j:=5) (cj:=28) rfl rfl zb rfl zmb rfl;·intro hg6;replace hg6:=qb hg6;exact (qaa∘qbx) qai
 intro junk6;apply (Xbf);refine q_b L R ?_;refine ⟨?_,rfl,rfl⟩;rw [Ula,show decide (1≤l.l.length∧l.l.length≤64)=true from decide_eq_true za];cases b with
 | false=>rw [hP.no rfl];rfl
 | true=>rw [hP.yes rfl];refine congrArg Value.bool ?_;rw [yxb];simp
def Jte {l:List XNode} {n:Nat} (h:Ula l=true) (k:Nat) (hk:k < l.length) (h1:(l.getD k default).kind=1) (h2:(n:Int)≤(l.getD k default).cond):Zz l n=1:=by rw [Zz,if_neg (by rw [h];decide),if_pos ⟨_,yi (Ju default hk),h1,h2⟩]
def Ymc {l:List XNode} {n:Nat} (h:Ula l=true) (hk:∀k:Nat,k < l.length→¬ ((l.getD k default).kind=1∧(n:Int)≤(l.getD k default).cond)):Zz l n=0:=by
 rw [Zz,if_neg (by rw [h];decide),if_neg];rintro ⟨x,hx,h1,h2⟩;obtain ⟨k,hk',rfl⟩:=List.mem_iff_getElem.1 hx;have e:l.getD k default=l[k]:=by rw [yh,yA hk'];rfl
 exact hk k hk' (by rw [e];exact ⟨h1,h2⟩)
def Ksd (l:Arr XNode) (n:Nat) (L:LB) (R:LS) (hl:InR (J9e l) R):
 Tri Tryz.prog 225 [l.val,.int .i64 (n:Int)].toArray L R (fun v M U=>v=.int .i64 (Zz l.l n)∧L=M∧R=U):=by
 refine Jd 26 Tryz.call225 Tryz.func225 rfl rfl rfl ?_;apply Xac∘qaw∘qbm;refine q_l rfl (Zlb l _ _ hl) ?_;apply (Xbr);refine q_c ?_ ?_<;>intro hc0;·apply (Xbc);refine q_i L R ?_;exact ⟨by rw [Zz,if_pos zF],rfl,rfl⟩
 have hr:Ula l.l=true:=by simpa using hc0
 have hln:=(Zha.1 hr).1;apply qbo∘Xb7;refine Jl [(1,.int _ _),(10,.slice _ _ _),(11,.int _ _),(12,.int _ _)] zh fun tq0=>?_;refine q_s ([4,6]++rg 12 14) (fun g:{k:Nat // k≤l.l.length∧∀j:Nat,j < k→¬ ((l.l.getD j default).kind=1∧(n:Int)≤(l.l.getD j default).cond)}=>[(12,.int .i64 ((g.1:Nat):Int))]) (fun g=>l.l.length - g.1) (⟨0,by omega,fun j hj=>by omega⟩) ?_;rintro ⟨k,hk,hal⟩ junk;try dsimp only
 apply (Xan);refine q_c ?_ ?_<;>intro hc1;·
  have h1:=Ju (l:=l.l) (k:=k) default za;apply (qbb);refine Jx zC rfl ?_;apply (Xdr);intro b6;apply Xb9∘Xcc;apply Us (G:=[_,_,_,_]) (j:=3) (cj:=19) rfl rfl zb rfl zmb rfl;·exact ubm
  intro junk4;apply (qaf);refine q_c ?_ ?_<;>intro hc2;·apply (Xcf);refine q_i L R ?_;exact ⟨by rw [Jte hr k za hc2.1 hc2.2],rfl,rfl⟩
  exact uaP
 apply (Xcr);refine q_i L R ?_;exact ⟨by rw [Ymc hr (fun j hj=>hal j za)],rfl,rfl⟩
end Go.Proofs.YtchfclmokpbldaaGreat
