/-
  Rules: rule.part, rule.right, rule.Check and the reference's. By an AI agent; no person has read it.
-/
import Derived.Test.YtchfclmokpbldaaGreatRuleP
set_option linter.all false
set_option maxHeartbeats 4000000
namespace Go.Proofs.YtchfclmokpbldaaGreat
open Go.Aw Go
set_option maxRecDepth 20000
attribute [local irreducible] CJ LJ DJ Tri YV Gives Uo J0 Kj Un RV J2 OwL.L
section
variable {A B:Prop}
def Ukc(h:A→B:=by exact K3 (Uz zfb) rfl rfl rfl):=h
def Y2e(h:B:=by exact ⟨i,1,_,rfl,⟨by omega,fun h=>by rw [hpf,if_pos zK],fun h=>by rw [hpf,if_neg zK]⟩,rfl,rfl⟩):=h
def Kpf(h:A→B:=by exact Jq rfl (ih (i - 1) _ za za za) rfl):=h
def Vhf(h:B:=by exact ⟨f,max q r + 1,b2,rfl,⟨by omega,fun h=>by rw [hpf,hP2.yes h],fun h=>by rw [hpf,hP2.no h]⟩,rfl,rfl⟩):=h
def U0f(h:B:=by exact ⟨0,0,false,rfl,⟨by omega,(fun h=>by cases h),fun _=>by rw [Vf,if_neg hc0,← hx,if_neg hc1,if_neg hc2,if_neg za]⟩,rfl,rfl⟩):=h
end
structure PartR (l:List XNode) (n:Nat) (i f d:Int) (b:Bool):Prop where
 bnd:0≤d∧d≤n
 yes:b=true→Vf l n i=some (f,d)
 no:b=false→Vf l n i=none
def Usc {l : List XNode} {i : Int} (h : i < 0) : ∀ n, Vf l n i = none
 | 0=>rfl
 | n + 1=>by rw [Vf,if_pos h]
def Uwb {l:List XNode} {n:Nat} {i:Int} {x:XNode} (h0:¬ i < 0) (hx:x=l.getD i.toNat default) (h1:¬ x.kind=1) (h2:x.kind=2):
 Vf l (n + 1) i=match Vf l n (i - 1) with
  | none=>none
  | some (f,d)=>if x.cond=0∧x.right=0∧x.left=i - 1 then some (f,d + 1) else none:=by rw [Vf,if_neg h0,← hx,if_neg h1];exact if_pos h2
def Kvd {l:List XNode} {n:Nat} {i:Int} {x:XNode} (h0:¬ i < 0) (hx:x=l.getD i.toNat default) (h1:¬ x.kind=1) (h2:¬ x.kind=2) (h3:x.kind=3∨x.kind=4):
 Vf l (n + 1) i=match Vf l n (i - 1) with
  | none=>none
  | some (m,r)=>if x.cond=0∧x.right=i - 1∧x.left=m - 1 then
   match Vf l n (m - 1) with
   | none=>none
   | some (f,q)=>some (f,max q r + 1) else none:=by rw [Vf,if_neg h0,← hx,if_neg h1,if_neg h2];exact if_pos h3
def Yrd (l:Arr XNode) (n:Nat) (i:Int) (L:LB) (R:LS) (hi:i < 0):
 Tri Tryz.prog 175 [l.val,.int .i64 i].toArray L R (fun v M U=>∃(f d:Int) (b:Bool),v=.tuple #[.int .i64 f,.int .i64 d,.bool b]∧PartR l.l n i f d b∧L=M∧R=U):=by
 refine Je 122 Tryz.call175 Tryz.func175 rfl rfl rfl ?_;apply Xac∘Xbz∘qaw∘Xc3;refine q_c ?_ ?_<;>intro hc0;·apply Xac∘Xbz∘qbh;refine q_r L R zPc ?_;exact ⟨0,0,false,rfl,⟨by omega,(fun h=>by cases h),fun _=>Usc hi n⟩,rfl,rfl⟩
 (exfalso;omega)
def Zqc (l : Arr XNode) (n : Nat) (R : LS) (hl : InR (Ywd l) R) (hn : n ≤ 64)
 (ih:∀(i:Int) (L:LB),i < n→i < l.l.length→-1≤i→Tri Tryz.prog 175 [l.val,.int .i64 i].toArray L R (fun v M U=>∃(f d:Int) (b:Bool),v=.tuple #[.int .i64 f,.int .i64 d,.bool b]∧PartR l.l n i f d b∧L=M∧R=U))
 (i:Int) (L:LB) (hi:i < n + 1) (hil:i < l.l.length) (hi1:-1≤i):
 Tri Tryz.prog 175 [l.val,.int .i64 i].toArray L R (fun v M U=>∃(f d:Int) (b:Bool),v=.tuple #[.int .i64 f,.int .i64 d,.bool b]∧PartR l.l (n + 1) i f d b∧L=M∧R=U):=by
 refine Je 122 Tryz.call175 Tryz.func175 rfl rfl rfl ?_;apply Xac∘Xbz∘qaw∘Xc3;refine q_c ?_ ?_<;>intro hc0;·apply Xac∘Xbz∘qbh;refine q_r L R zPc ?_;exact ⟨0,0,false,rfl,⟨by omega,(fun h=>by cases h),fun _=>Usc hc0 _⟩,rfl,rfl⟩
 have hxg:=Ju (l:=l.l) (k:=i.toNat) default za;obtain ⟨x,hx⟩:∃x,x=l.l.getD i.toNat default:=⟨_,rfl⟩;rw [← hx] at hxg;apply qbv∘Xas;refine Jx (by first | exact Jh tb rfl rfl rfl rfl zx (i:=i.toNat) zk za | exact Jn tb rfl rfl rfl rfl (i:=i.toNat) zk za) rfl ?_;apply (Xdj);intro b7;apply Xbh∘Xaa;refine J5 (Jb (Kb (Jl (Jf ?_))));apply (Xay);refine q_c ?_ ?_<;>intro hc1;·
  refine Jl ?_;refine Kk tb [0,1,2,3,4,5,6,7,8,9,10,11,12,13,14,15,16,17,18,19,20,21] ([Blk.mk b7 _ _]) Kr zc zi ?_;apply qao∘Xal;refine K3 zec rfl rfl rfl ?_;apply (qb2);refine Z9 (k:=30) zfb (fun hg4=>?_) (fun hg4=>?_);·
   replace hg4:=qb hg4;apply (Xal);refine K3 zec rfl rfl rfl ?_;apply (Xde);refine Z9 (k:=35) zfb (fun hg9=>?_) (fun hg9=>?_);·
    replace hg9:=qb hg9;apply (Xal);refine K3 (Uod rfl rfl) rfl rfl rfl ?_;apply (Xde);refine Z9 (k:=40) zfb (fun hg14=>?_) (fun hg14=>?_);·replace hg14:=qb hg14;apply (Xal);refine K3 (Zhb rfl rfl) rfl rfl rfl ?_;exact zbd
    replace hg14:=qb hg14;(iterate 3 apply (qap));exact zbd
   replace hg9:=qb hg9;(iterate 3 apply (qap));apply (Xde);(iterate 3 apply (qap));exact zbd
  replace hg4:=qb hg4;iterate 3 apply (qap)
  apply (Xde);iterate 3 apply (qap)
  apply (Xde);iterate 3 apply (qap)
  exact zbd
 apply (Xbk);refine q_c ?_ ?_<;>intro hc2;·
  apply qae∘Xas∘qa9∘Kpf;rintro v M U ⟨f,d,b,rfl,hP,rfl,rfl⟩;have hPb:=hP.bnd;refine Jx zSb rfl ?_;iterate 3 apply (qbs)
  apply qad∘Xbz∘qa4;refine Kk tb [0,1,2,3,4,5,6,7,8,9,10,11,12,13,14,15,16,17,18,19,20,21,22,23] ([Blk.mk b7 _ _]) Kr zc zi ?_;apply qao∘qao∘qc2∘qb2∘qb2;refine Z9 (k:=59) zfb (fun hg4=>?_) (fun hg4=>?_);·
   replace hg4:=qb hg4;apply (Xal);refine K3 zec rfl rfl rfl ?_;apply (Xde);refine Z9 (k:=64) zfb (fun hg9=>?_) (fun hg9=>?_);·
    replace hg9:=qb hg9;apply (Xal);refine K3 zec rfl rfl rfl ?_;apply (Xde);refine Z9 (k:=69) zfb (fun hg14=>?_) (fun hg14=>?_);·replace hg14:=qb hg14;apply Xbx∘qb7;refine K3 zec rfl rfl rfl ?_;exact uab
    replace hg14:=qb hg14;(iterate 5 apply (qap));exact uab
   replace hg9:=qb hg9;(iterate 3 apply (qap));apply (Xde);(iterate 5 apply (qap));exact uab
  replace hg4:=qb hg4;iterate 3 apply (qap)
  apply (Xde);iterate 3 apply (qap)
  apply (Xde);iterate 5 apply (qap)
  exact uab
 apply qbi∘Xay;refine q_c ?_ ?_<;>intro hc3;·refine J1 (Jb ?_);exact uac
 apply qay∘Xay;exact uac
def Z0b (l:Arr XNode) (R:LS) (hl:InR (Ywd l) R):∀(n:Nat),n≤64→∀(i:Int) (L:LB),i < n→i < l.l.length→-1≤i→
 Tri Tryz.prog 175 [l.val,.int .i64 i].toArray L R (fun v M U=>∃(f d:Int) (b:Bool),v=.tuple #[.int .i64 f,.int .i64 d,.bool b]∧PartR l.l n i f d b∧L=M∧R=U)
 | 0,_,i,L,hi,_,_=>Yrd l 0 i L R za
 | n + 1,hn,i,L,hi,hil,hi1=>Zqc l n R hl za (fun i L h1 h2 h3=>Z0b l R hl n za i L h1 h2 h3) i L hi hil hi1
def Vob (l:Arr XNode) (L:LB) (R:LS) (hl:InR (Ywd l) R):
 Tri Tryz.prog 99 [l.val].toArray L R (fun v M U=>v=.bool (Koa l.l)∧L=M∧R=U):=by
 refine Je 32 Tryz.call99 Tryz.func99 rfl rfl rfl ?_;apply Xbm∘qaw∘Xak∘Xat;apply Kf (G:=[_,_,_]) (j:=3) (cj:=9) rfl rfl zb rfl zfb rfl;·intro hg4;replace hg4:=qb hg4;exact (Xak∘qa5) qai
 intro junk4;apply (qaf);refine q_c ?_ ?_<;>intro hc0;·apply Xbm∘qbh;refine q_b L R ?_;exact ⟨by rw [Koa,decide_eq_false za];rfl,rfl,rfl⟩
 apply qbv∘qbm∘Xak∘qa9;refine Jq rfl (Z0b l _ hl l.l.length za _ _ za za za) rfl ?_;rintro v M U ⟨f,d,b,rfl,hP,rfl,rfl⟩;refine Jx zSb rfl ?_;iterate 3 apply (qbs)
 apply qad∘Xbz∘qam∘qah∘qah;apply Vp (G:=[_,_]) (j:=1) (cj:=24) rfl rfl zb rfl zfb rfl;·intro hg2;replace hg2:=qb hg2;exact (qaa∘qbn) qai
 intro junk2;apply (qah);apply Vp (G:=[_,_]) (j:=5) (cj:=28) rfl rfl zb rfl zfb rfl;·intro hg6;replace hg6:=qb hg6;exact (qaa∘qbx) qai
 intro junk6;apply (Xbl);refine q_b L R ?_;refine ⟨?_,rfl,rfl⟩;rw [Koa,show decide (1≤l.l.length∧l.l.length≤64)=true from decide_eq_true za];cases b with
 | false=>rw [hP.no rfl];rfl
 | true=>rw [hP.yes rfl];refine congrArg Value.bool ?_;rw [Bool.eq_iff_iff];simp
def V3d {l:List XNode} {n:Nat} (h:Koa l=true) (k:Nat) (hk:k < l.length) (h1:(l.getD k default).kind=1) (h2:(n:Int)≤(l.getD k default).cond):Za l n=1:=by rw [Za,if_neg (by rw [h];decide),if_pos ⟨_,yi (Ju default hk),h1,h2⟩]
def Vrc {l:List XNode} {n:Nat} (h:Koa l=true) (hk:∀k:Nat,k < l.length→¬ ((l.getD k default).kind=1∧(n:Int)≤(l.getD k default).cond)):Za l n=0:=by
 rw [Za,if_neg (by rw [h];decide),if_neg];rintro ⟨x,hx,h1,h2⟩;obtain ⟨k,hk',rfl⟩:=List.mem_iff_getElem.1 hx;have e:l.getD k default=l[k]:=by rw [yh,yH hk'];rfl
 exact hk k hk' (by rw [e];exact ⟨h1,h2⟩)
def Jjd (l:Arr XNode) (n:Nat) (L:LB) (R:LS) (hl:InR (Ywd l) R):
 Tri Tryz.prog 225 [l.val,.int .i64 (n:Int)].toArray L R (fun v M U=>v=.int .i64 (Za l.l n)∧L=M∧R=U):=by
 refine Je 26 Tryz.call225 Tryz.func225 rfl rfl rfl ?_;apply Xac∘qaw∘qbm;refine q_l rfl (Vob l _ _ hl) ?_;apply (Xbg);refine q_c ?_ ?_<;>intro hc0;·apply (Xa6);refine q_i L R ?_;exact ⟨by rw [Za,if_pos zM],rfl,rfl⟩
 have hr:Koa l.l=true:=by simpa using hc0
 have hln:=(Yoa.1 hr).1;apply qbo∘Xcc;refine Jk [(1,.int _ _),(10,.slice _ _ _),(11,.int _ _),(12,.int _ _)] zh fun tq0=>?_;refine q_s ([4,6]++rg 12 14) (fun g:{k:Nat // k≤l.l.length∧∀j:Nat,j < k→¬ ((l.l.getD j default).kind=1∧(n:Int)≤(l.l.getD j default).cond)}=>[(12,.int .i64 ((g.1:Nat):Int))]) (fun g=>l.l.length - g.1) (⟨0,by omega,fun j hj=>by omega⟩) ?_;rintro ⟨k,hk,hal⟩ junk;try dsimp only
 apply (Xan);refine q_c ?_ ?_<;>intro hc1;·
  have h1:=Ju (l:=l.l) (k:=k) default za;apply (qbb);refine Jx zD rfl ?_;apply (Xdj);intro b6;apply Xb2∘Xcq;apply Vp (G:=[_,_,_,_]) (j:=3) (cj:=19) rfl rfl zb rfl zfb rfl;·exact ubh
  intro junk4;apply (qaf);refine q_c ?_ ?_<;>intro hc2;·apply (Xb7);refine q_i L R ?_;exact ⟨by rw [V3d hr k za hc2.1 hc2.2],rfl,rfl⟩
  exact uaM
 apply (Xcx);refine q_i L R ?_;exact ⟨by rw [Vrc hr (fun j hj=>hal j za)],rfl,rfl⟩
end Go.Proofs.YtchfclmokpbldaaGreat
