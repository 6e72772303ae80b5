/-
  Rules: rule.part, rule.right, rule.Check and the reference's. By an AI agent; no person has read it.
-/
import Derived.Test.YtchfclmokpbldaaGreatRuleP
set_option linter.all false
set_option maxHeartbeats 4000000
namespace Go.Proofs.YtchfclmokpbldaaGreat
open Go.Aw Go
set_option maxRecDepth 20000
attribute [local irreducible] CJ LJ DJ Tri YV Gives Uq J2 Km Ur RV J4 OwL.L
section
variable {A B:Prop}
def Zdc(h:A→B:=by exact K0 (Ud zmb) rfl rfl rfl):=h
def Jff(h:B:=by exact ⟨i,1,_,rfl,⟨by omega,fun h=>by rw [hpf,if_pos zM],fun h=>by rw [hpf,if_neg zM]⟩,rfl,rfl⟩):=h
def V1f(h:A→B:=by exact Jo rfl (ih (i - 1) _ za za za) rfl):=h
def Z4f(h:B:=by exact ⟨f,max q r + 1,b2,rfl,⟨by omega,fun h=>by rw [hpf,hP2.yes h],fun h=>by rw [hpf,hP2.no h]⟩,rfl,rfl⟩):=h
def Kwg(h:B:=by exact ⟨0,0,false,rfl,⟨by omega,(fun h=>by cases h),fun _=>by rw [Ue,if_neg hc0,← hx,if_neg hc1,if_neg hc2,if_neg za]⟩,rfl,rfl⟩):=h
end
structure PartR (l:List XNode) (n:Nat) (i f d:Int) (b:Bool):Prop where
 bnd:0≤d∧d≤n
 yes:b=true→Ue l n i=some (f,d)
 no:b=false→Ue l n i=none
def Vba {l : List XNode} {i : Int} (h : i < 0) : ∀ n, Ue l n i = none
 | 0=>rfl
 | n + 1=>by rw [Ue,if_pos h]
def Kpb {l:List XNode} {n:Nat} {i:Int} {x:XNode} (h0:¬ i < 0) (hx:x=l.getD i.toNat default) (h1:¬ x.kind=1) (h2:x.kind=2):
 Ue l (n + 1) i=match Ue l n (i - 1) with
  | none=>none
  | some (f,d)=>if x.cond=0∧x.right=0∧x.left=i - 1 then some (f,d + 1) else none:=by rw [Ue,if_neg h0,← hx,if_neg h1];exact if_pos h2
def V2b {l:List XNode} {n:Nat} {i:Int} {x:XNode} (h0:¬ i < 0) (hx:x=l.getD i.toNat default) (h1:¬ x.kind=1) (h2:¬ x.kind=2) (h3:x.kind=3∨x.kind=4):
 Ue l (n + 1) i=match Ue l n (i - 1) with
  | none=>none
  | some (m,r)=>if x.cond=0∧x.right=i - 1∧x.left=m - 1 then
   match Ue l n (m - 1) with
   | none=>none
   | some (f,q)=>some (f,max q r + 1) else none:=by rw [Ue,if_neg h0,← hx,if_neg h1,if_neg h2];exact if_pos h3
def Jpe (l:Arr XNode) (n:Nat) (i:Int) (L:LB) (R:LS) (hi:i < 0):
 Tri Tryz.prog 175 [l.val,.int .i64 i].toArray L R (fun v M U=>∃(f d:Int) (b:Bool),v=.tuple #[.int .i64 f,.int .i64 d,.bool b]∧PartR l.l n i f d b∧L=M∧R=U):=by
 refine Jd 122 Tryz.call175 Tryz.func175 rfl rfl rfl ?_;apply Xac∘Xbw∘qaw∘qaa∘Xbb;refine q_c ?_ ?_<;>intro hc0;·apply Xac∘Xbw∘qbh;refine q_r L R zfd ?_;exact ⟨0,0,false,rfl,⟨by omega,(fun h=>by cases h),fun _=>Vba hi n⟩,rfl,rfl⟩
 (exfalso;omega)
def Vhd (l : Arr XNode) (n : Nat) (R : LS) (hl : InR (Yfc l) R) (hn : n ≤ 64)
 (ih:∀(i:Int) (L:LB),i < n→i < l.l.length→-1≤i→Tri Tryz.prog 175 [l.val,.int .i64 i].toArray L R (fun v M U=>∃(f d:Int) (b:Bool),v=.tuple #[.int .i64 f,.int .i64 d,.bool b]∧PartR l.l n i f d b∧L=M∧R=U))
 (i:Int) (L:LB) (hi:i < n + 1) (hil:i < l.l.length) (hi1:-1≤i):
 Tri Tryz.prog 175 [l.val,.int .i64 i].toArray L R (fun v M U=>∃(f d:Int) (b:Bool),v=.tuple #[.int .i64 f,.int .i64 d,.bool b]∧PartR l.l (n + 1) i f d b∧L=M∧R=U):=by
 refine Jd 122 Tryz.call175 Tryz.func175 rfl rfl rfl ?_;apply Xac∘Xbw∘qaw∘qaa∘Xbb;refine q_c ?_ ?_<;>intro hc0;·apply Xac∘Xbw∘qbh;refine q_r L R zfd ?_;exact ⟨0,0,false,rfl,⟨by omega,(fun h=>by cases h),fun _=>Vba hc0 _⟩,rfl,rfl⟩
 have hxg:=Jt (l:=l.l) (k:=i.toNat) default za;obtain ⟨x,hx⟩:∃x,x=l.l.getD i.toNat default:=⟨_,rfl⟩;rw [← hx] at hxg;apply (Xdk);refine Jy zfb rfl ?_;apply (Xcs);intro b7;apply (Xdl);refine J7 (Jb (Kc (Jp (Jh ?_))));apply (Xax);refine q_c ?_ ?_<;>intro hc1;·
  refine Jp ?_;refine Kh tb [0,1,2,3,4,5,6,7,8,9,10,11,12,13,14,15,16,17,18,19,20,21] ([Blk.mk b7 _ _]) Kr zc zg ?_;apply qao∘Xak;refine K0 zyc rfl rfl rfl ?_;apply (qb2);refine Vj (k:=30) zmb (fun hg4=>?_) (fun hg4=>?_);·
   replace hg4:=qb hg4;apply (Xak);refine K0 zyc rfl rfl rfl ?_;apply (Xbs);refine Vj (k:=35) zmb (fun hg9=>?_) (fun hg9=>?_);·
    replace hg9:=qb hg9;apply (Xak);refine K0 (Kxc rfl rfl) rfl rfl rfl ?_;apply (Xbs);refine Vj (k:=40) zmb (fun hg14=>?_) (fun hg14=>?_);·replace hg14:=qb hg14;apply (Xak);refine K0 zPc rfl rfl rfl ?_;exact zud
    replace hg14:=qb hg14;(iterate 3 apply (qap));exact zud
   replace hg9:=qb hg9;(iterate 3 apply (qap));apply (Xbs);(iterate 3 apply (qap));exact zud
  replace hg4:=qb hg4;iterate 3 apply (qap)
  apply (Xbs);iterate 3 apply (qap)
  apply (Xbs);iterate 3 apply (qap)
  exact zud
 apply (Xbj);refine q_c ?_ ?_<;>intro hc2;·
  apply qae∘Xas∘qa9∘V1f;rintro v M U ⟨f,d,b,rfl,hP,rfl,rfl⟩;have hPb:=hP.bnd;refine Jy zPb rfl ?_;iterate 3 apply (qbs)
  apply qad∘Xbw∘qa4;refine Kh tb [0,1,2,3,4,5,6,7,8,9,10,11,12,13,14,15,16,17,18,19,20,21,22,23] ([Blk.mk b7 _ _]) Kr zc zg ?_;apply qao∘qao∘qc2∘qb2∘qb2;refine Vj (k:=59) zmb (fun hg4=>?_) (fun hg4=>?_);·
   replace hg4:=qb hg4;apply (Xak);refine K0 zyc rfl rfl rfl ?_;apply (Xbs);refine Vj (k:=64) zmb (fun hg9=>?_) (fun hg9=>?_);·
    replace hg9:=qb hg9;apply (Xak);refine K0 zyc rfl rfl rfl ?_;apply (Xbs);refine Vj (k:=69) zmb (fun hg14=>?_) (fun hg14=>?_);·replace hg14:=qb hg14;apply Xbv∘qb7;refine K0 zyc rfl rfl rfl ?_;exact uac
    replace hg14:=qb hg14;(iterate 5 apply (qap));exact uac
   replace hg9:=qb hg9;(iterate 3 apply (qap));apply (Xbs);(iterate 5 apply (qap));exact uac
  replace hg4:=qb hg4;iterate 3 apply (qap)
  apply (Xbs);iterate 3 apply (qap)
  apply (Xbs);iterate 5 apply (qap)
  exact uac
 apply qbi∘Xax;refine q_c ?_ ?_<;>intro hc3;·refine J3 (Jb ?_);exact uad
 apply qay∘Xax;exact uad
def Uec (l:Arr XNode) (R:LS) (hl:InR (Yfc l) R):∀(n:Nat),n≤64→∀(i:Int) (L:LB),i < n→i < l.l.length→-1≤i→
 Tri Tryz.prog 175 [l.val,.int .i64 i].toArray L R (fun v M U=>∃(f d:Int) (b:Bool),v=.tuple #[.int .i64 f,.int .i64 d,.bool b]∧PartR l.l n i f d b∧L=M∧R=U)
 | 0,_,i,L,hi,_,_=>Jpe l 0 i L R za
 | n + 1,hn,i,L,hi,hil,hi1=>Vhd l n R hl za (fun i L h1 h2 h3=>Uec l R hl n za i L h1 h2 h3) i L hi hil hi1
def Jvb (l:Arr XNode) (L:LB) (R:LS) (hl:InR (Yfc l) R):
 Tri Tryz.prog 99 [l.val].toArray L R (fun v M U=>v=.bool (Y6 l.l)∧L=M∧R=U):=by
 refine Jd 32 Tryz.call99 Tryz.func99 rfl rfl rfl ?_;apply Xbh∘qaw∘Xaq∘Xau;apply Kd (G:=[_,_,_]) (j:=3) (cj:=9) rfl rfl zb rfl zmb rfl;·intro hg4;replace hg4:=qb hg4;exact (Xaq∘qa5) qai
 intro junk4;apply (qaf);refine q_c ?_ ?_<;>intro hc0;·exact ubi
 apply Xdy∘Xdz;refine Jo rfl (Uec l _ hl l.l.length za _ _ za za za) rfl ?_;rintro v M U ⟨f,d,b,rfl,hP,rfl,rfl⟩;refine Jy zPb rfl ?_;iterate 3 apply (qbs)
 apply qad∘Xbw∘qam∘qah∘qah;apply Uy (G:=[_,_]) (j:=1) (cj:=24) rfl rfl zb rfl zmb rfl;·intro hg2;replace hg2:=qb hg2;exact (qaa) zKd
 intro junk2;apply (qah);apply Uy (G:=[_,_]) (j:=5) (cj:=28) rfl rfl zb rfl zmb rfl;·intro hg6;replace hg6:=qb hg6;exact (qaa∘qbx) qai
 intro junk6;apply (Xbk);refine q_b L R ?_;refine ⟨?_,rfl,rfl⟩;rw [Y6,show decide (1≤l.l.length∧l.l.length≤64)=true from decide_eq_true za];cases b with
 | false=>rw [hP.no rfl];rfl
 | true=>rw [hP.yes rfl];refine congrArg Value.bool ?_;rw [yjb];simp
def Joe {l:List XNode} {n:Nat} (h:Y6 l=true) (k:Nat) (hk:k < l.length) (h1:(l.getD k default).kind=1) (h2:(n:Int)≤(l.getD k default).cond):Yz l n=1:=by rw [Yz,if_neg (by rw [h];decide),if_pos ⟨_,yi (Jt default hk),h1,h2⟩]
def Y0c {l:List XNode} {n:Nat} (h:Y6 l=true) (hk:∀k:Nat,k < l.length→¬ ((l.getD k default).kind=1∧(n:Int)≤(l.getD k default).cond)):Yz l n=0:=by
 rw [Yz,if_neg (by rw [h];decide),if_neg];rintro ⟨x,hx,h1,h2⟩;obtain ⟨k,hk',rfl⟩:=List.mem_iff_getElem.1 hx;have e:l.getD k default=l[k]:=by rw [yh,yC hk'];rfl
 exact hk k hk' (by rw [e];exact ⟨h1,h2⟩)
def Vvd (l:Arr XNode) (n:Nat) (L:LB) (R:LS) (hl:InR (Yfc l) R):
 Tri Tryz.prog 225 [l.val,.int .i64 (n:Int)].toArray L R (fun v M U=>v=.int .i64 (Yz l.l n)∧L=M∧R=U):=by
 refine Jd 26 Tryz.call225 Tryz.func225 rfl rfl rfl ?_;apply Xac∘qaw∘qbm;refine q_l rfl (Jvb l _ _ hl) ?_;apply (Xbl);refine q_c ?_ ?_<;>intro hc0;·apply (Xa7);refine q_i L R ?_;exact ⟨by rw [Yz,if_pos zE],rfl,rfl⟩
 have hr:Y6 l.l=true:=by simpa using hc0
 have hln:=(Jxa.1 hr).1;apply qbo∘Xb5;refine Jl [(1,.int _ _),(10,.slice _ _ _),(11,.int _ _),(12,.int _ _)] zh fun tq0=>?_;refine q_s ([4,6]++rg 12 14) (fun g:{k:Nat // k≤l.l.length∧∀j:Nat,j < k→¬ ((l.l.getD j default).kind=1∧(n:Int)≤(l.l.getD j default).cond)}=>[(12,.int .i64 ((g.1:Nat):Int))]) (fun g=>l.l.length - g.1) (⟨0,by omega,fun j hj=>by omega⟩) ?_;rintro ⟨k,hk,hal⟩ junk;try dsimp only
 apply (Xan);refine q_c ?_ ?_<;>intro hc1;·
  have h1:=Jt (l:=l.l) (k:=k) default za;apply (qbb);refine Jy zC rfl ?_;apply (Xcs);intro b6;apply Xb9∘Xcc;apply Uy (G:=[_,_,_,_]) (j:=3) (cj:=19) rfl rfl zb rfl zmb rfl;·exact ubl
  intro junk4;apply (qaf);refine q_c ?_ ?_<;>intro hc2;·apply (Xch);refine q_i L R ?_;exact ⟨by rw [Joe hr k za hc2.1 hc2.2],rfl,rfl⟩
  exact uaP
 apply (Xcx);refine q_i L R ?_;exact ⟨by rw [Y0c hr (fun j hj=>hal j za)],rfl,rfl⟩
end Go.Proofs.YtchfclmokpbldaaGreat
