/-
  Rules: rule.part, rule.right, rule.Check and the reference's. By an AI agent; no person has read it.
-/
import Derived.Test.YtchfclmokpbldaaGreatRuleP
set_option linter.all false
set_option maxHeartbeats 4000000
namespace Go.Proofs.YtchfclmokpbldaaGreat
open Go.Aw Go
set_option maxRecDepth 20000
attribute [local irreducible] CJ LJ DJ Tri YV Gives Uq J2 Kj Ut RV J3 OwL.L
section
variable {A B:Prop}
def Zac(h:A→B:=by exact Ks (K8 zmb) rfl rfl rfl):=h
def J2f(h:B:=by exact ⟨i,1,_,rfl,⟨by omega,fun h=>by rw [hpf,if_pos zM],fun h=>by rw [hpf,if_neg zM]⟩,rfl,rfl⟩):=h
def Ybf(h:A→B:=by exact Jv rfl (ih (i - 1) _ za za za) rfl):=h
def Ztf(h:B:=by exact ⟨f,max q r + 1,b2,rfl,⟨by omega,fun h=>by rw [hpf,hP2.yes h],fun h=>by rw [hpf,hP2.no h]⟩,rfl,rfl⟩):=h
def Ulg(h:B:=by exact ⟨0,0,false,rfl,⟨by omega,(fun h=>by cases h),fun _=>by rw [Jaa,if_neg hc0,← hx,if_neg hc1,if_neg hc2,if_neg za]⟩,rfl,rfl⟩):=h
end
structure PartR (l:List XNode) (n:Nat) (i f d:Int) (b:Bool):Prop where
 bnd:0≤d∧d≤n
 yes:b=true→Jaa l n i=some (f,d)
 no:b=false→Jaa l n i=none
def Znc {l : List XNode} {i : Int} (h : i < 0) : ∀ n, Jaa l n i = none
 | 0=>rfl
 | n + 1=>by rw [Jaa,if_pos h]
def V6b {l:List XNode} {n:Nat} {i:Int} {x:XNode} (h0:¬ i < 0) (hx:x=l.getD i.toNat default) (h1:¬ x.kind=1) (h2:x.kind=2):
 Jaa l (n + 1) i=match Jaa l n (i - 1) with
  | none=>none
  | some (f,d)=>if x.cond=0∧x.right=0∧x.left=i - 1 then some (f,d + 1) else none:=by rw [Jaa,if_neg h0,← hx,if_neg h1];exact if_pos h2
def V7d {l:List XNode} {n:Nat} {i:Int} {x:XNode} (h0:¬ i < 0) (hx:x=l.getD i.toNat default) (h1:¬ x.kind=1) (h2:¬ x.kind=2) (h3:x.kind=3∨x.kind=4):
 Jaa l (n + 1) i=match Jaa l n (i - 1) with
  | none=>none
  | some (m,r)=>if x.cond=0∧x.right=i - 1∧x.left=m - 1 then
   match Jaa l n (m - 1) with
   | none=>none
   | some (f,q)=>some (f,max q r + 1) else none:=by rw [Jaa,if_neg h0,← hx,if_neg h1,if_neg h2];exact if_pos h3
def Jje (l:Arr XNode) (n:Nat) (i:Int) (L:LB) (R:LS) (hi:i < 0):
 Tri Tryz.prog 175 [l.val,.int .i64 i].toArray L R (fun v U J=>∃(f d:Int) (b:Bool),v=.tuple #[.int .i64 f,.int .i64 d,.bool b]∧PartR l.l n i f d b∧L=U∧R=J):=by
 refine Je 122 Tryz.call175 Tryz.func175 rfl rfl rfl ?_;apply Xae∘Xa7∘qaw∘qaa∘Xbd;refine q_c ?_ ?_<;>intro hc0;·apply Xae∘Xa7∘qbh;refine q_r L R zad ?_;exact ⟨0,0,false,rfl,⟨by omega,(fun h=>by cases h),fun _=>Znc hi n⟩,rfl,rfl⟩
 (exfalso;omega)
def U8d (l : Arr XNode) (n : Nat) (R : LS) (hl : InR (Yne l) R) (hn : n ≤ 64)
 (ih:∀(i:Int) (L:LB),i < n→i < l.l.length→-1≤i→Tri Tryz.prog 175 [l.val,.int .i64 i].toArray L R (fun v U J=>∃(f d:Int) (b:Bool),v=.tuple #[.int .i64 f,.int .i64 d,.bool b]∧PartR l.l n i f d b∧L=U∧R=J))
 (i:Int) (L:LB) (hi:i < n + 1) (hil:i < l.l.length) (hi1:-1≤i):
 Tri Tryz.prog 175 [l.val,.int .i64 i].toArray L R (fun v U J=>∃(f d:Int) (b:Bool),v=.tuple #[.int .i64 f,.int .i64 d,.bool b]∧PartR l.l (n + 1) i f d b∧L=U∧R=J):=by
 refine Je 122 Tryz.call175 Tryz.func175 rfl rfl rfl ?_;apply Xae∘Xa7∘qaw∘qaa∘Xbd;refine q_c ?_ ?_<;>intro hc0;·apply Xae∘Xa7∘qbh;refine q_r L R zad ?_;exact ⟨0,0,false,rfl,⟨by omega,(fun h=>by cases h),fun _=>Znc hc0 _⟩,rfl,rfl⟩
 have hxg:=Jp (l:=l.l) (k:=i.toNat) default za;obtain ⟨x,hx⟩:∃x,x=l.l.getD i.toNat default:=⟨_,rfl⟩;rw [← hx] at hxg;apply qbv∘Xaq;refine Jw (by first | exact Jd tb rfl rfl rfl rfl zu (i:=i.toNat) zk za | exact Jl tb rfl rfl rfl rfl (i:=i.toNat) zk za) rfl ?_;apply (Xdk);intro b7;apply Xa9∘Xaa;refine J9 (Jb (Ki (Jq (Jg ?_))));apply (Xa2);refine q_c ?_ ?_<;>intro hc1;·
  refine Jq ?_;refine Ke tb [0,1,2,3,4,5,6,7,8,9,10,11,12,13,14,15,16,17,18,19,20,21] ([Blk.mk b7 _ _]) Ko zc zi ?_;apply qao∘Xal;refine Ks zFc rfl rfl rfl ?_;apply (qb2);refine U1 (k:=30) zmb (fun hg4=>?_) (fun hg4=>?_);·
   replace hg4:=qb hg4;apply (Xal);refine Ks zFc rfl rfl rfl ?_;apply (Xbh);refine U1 (k:=35) zmb (fun hg9=>?_) (fun hg9=>?_);·
    replace hg9:=qb hg9;apply (Xal);refine Ks (Kvc rfl rfl) rfl rfl rfl ?_;apply (Xbh);refine U1 (k:=40) zmb (fun hg14=>?_) (fun hg14=>?_);·replace hg14:=qb hg14;apply (Xal);refine Ks zvc rfl rfl rfl ?_;exact zqd
    replace hg14:=qb hg14;(iterate 3 apply (qap));exact zqd
   replace hg9:=qb hg9;(iterate 3 apply (qap));apply (Xbh);(iterate 3 apply (qap));exact zqd
  replace hg4:=qb hg4;iterate 3 apply (qap)
  apply (Xbh);iterate 3 apply (qap)
  apply (Xbh);iterate 3 apply (qap)
  exact zqd
 apply (Xbv);refine q_c ?_ ?_<;>intro hc2;·
  apply qae∘Xaq∘qa9∘Ybf;rintro v U J ⟨f,d,b,rfl,hP,rfl,rfl⟩;have hPb:=hP.bnd;refine Jw zRb rfl ?_;iterate 3 apply (qbs)
  apply Xdp∘qa4;refine Ke tb [0,1,2,3,4,5,6,7,8,9,10,11,12,13,14,15,16,17,18,19,20,21,22,23] ([Blk.mk b7 _ _]) Ko zc zi ?_;apply Xdo∘qc2∘qb2∘qb2;refine U1 (k:=59) zmb (fun hg4=>?_) (fun hg4=>?_);·
   replace hg4:=qb hg4;apply (Xal);refine Ks zFc rfl rfl rfl ?_;apply (Xbh);refine U1 (k:=64) zmb (fun hg9=>?_) (fun hg9=>?_);·
    replace hg9:=qb hg9;apply (Xal);refine Ks zFc rfl rfl rfl ?_;apply (Xbh);refine U1 (k:=69) zmb (fun hg14=>?_) (fun hg14=>?_);·replace hg14:=qb hg14;apply Xby∘qb7;refine Ks zFc rfl rfl rfl ?_;exact uac
    replace hg14:=qb hg14;(iterate 5 apply (qap));exact uac
   replace hg9:=qb hg9;(iterate 3 apply (qap));apply (Xbh);(iterate 5 apply (qap));exact uac
  replace hg4:=qb hg4;iterate 3 apply (qap)
  apply (Xbh);iterate 3 apply (qap)
  apply (Xbh);iterate 5 apply (qap)
  exact uac
 apply qbi∘Xa2;refine q_c ?_ ?_<;>intro hc3;·refine J5 (Jb ?_);exact uad
 apply qay∘Xa2;exact uad
def K0c (l:Arr XNode) (R:LS) (hl:InR (Yne l) R):∀(n:Nat),n≤64→∀(i:Int) (L:LB),i < n→i < l.l.length→-1≤i→
 Tri Tryz.prog 175 [l.val,.int .i64 i].toArray L R (fun v U J=>∃(f d:Int) (b:Bool),v=.tuple #[.int .i64 f,.int .i64 d,.bool b]∧PartR l.l n i f d b∧L=U∧R=J)
 | 0,_,i,L,hi,_,_=>Jje l 0 i L R za
 | n + 1,hn,i,L,hi,hil,hi1=>U8d l n R hl za (fun i L h1 h2 h3=>K0c l R hl n za i L h1 h2 h3) i L hi hil hi1
def Jbc (l:Arr XNode) (L:LB) (R:LS) (hl:InR (Yne l) R):
 Tri Tryz.prog 99 [l.val].toArray L R (fun v U J=>v=.bool (Uca l.l)∧L=U∧R=J):=by
 refine Je 32 Tryz.call99 Tryz.func99 rfl rfl rfl ?_;apply Xbt∘qaw∘Xap∘Xav;apply Kf (G:=[_,_,_]) (j:=3) (cj:=9) rfl rfl zb rfl zmb rfl;·intro hg4;replace hg4:=qb hg4;exact (Xap∘qa5) qai
 intro junk4;apply (qaf);refine q_c ?_ ?_<;>intro hc0;·apply Xbt∘qbh;refine q_b L R ?_;exact ⟨by rw [Uca,decide_eq_false za];rfl,rfl,rfl⟩
 apply qbv∘qbm∘Xap∘qa9;refine Jv rfl (K0c l _ hl l.l.length za _ _ za za za) rfl ?_;rintro v U J ⟨f,d,b,rfl,hP,rfl,rfl⟩;refine Jw zRb rfl ?_;iterate 3 apply (qbs)
 apply Xdp∘qam∘qah∘qah;apply Ui (G:=[_,_]) (j:=1) (cj:=24) rfl rfl zb rfl zmb rfl;·intro hg2;replace hg2:=qb hg2;exact (qaa) zLd
 intro junk2;apply (qah);apply Ui (G:=[_,_]) (j:=5) (cj:=28) rfl rfl zb rfl zmb rfl;·intro hg6;replace hg6:=qb hg6;exact (qaa∘qbx) qai
 intro junk6;apply (Xbs);refine q_b L R ?_;refine ⟨?_,rfl,rfl⟩;rw [Uca,show decide (1≤l.l.length∧l.l.length≤64)=true from decide_eq_true za];cases b with
 | false=>rw [hP.no rfl];rfl
 | true=>rw [hP.yes rfl];refine congrArg Value.bool ?_;rw [yCb];simp
def Zpd {l:List XNode} {n:Nat} (h:Uca l=true) (k:Nat) (hk:k < l.length) (h1:(l.getD k default).kind=1) (h2:(n:Int)≤(l.getD k default).cond):Jfa l n=1:=by rw [Jfa,if_neg (by rw [h];decide),if_pos ⟨_,yh (Jp default hk),h1,h2⟩]
def Zsc {l:List XNode} {n:Nat} (h:Uca l=true) (hk:∀k:Nat,k < l.length→¬ ((l.getD k default).kind=1∧(n:Int)≤(l.getD k default).cond)):Jfa l n=0:=by
 rw [Jfa,if_neg (by rw [h];decide),if_neg];rintro ⟨x,hx,h1,h2⟩;obtain ⟨k,hk',rfl⟩:=List.mem_iff_getElem.1 hx;have e:l.getD k default=l[k]:=by rw [yi,yB hk'];rfl
 exact hk k hk' (by rw [e];exact ⟨h1,h2⟩)
def Kgd (l:Arr XNode) (n:Nat) (L:LB) (R:LS) (hl:InR (Yne l) R):
 Tri Tryz.prog 225 [l.val,.int .i64 (n:Int)].toArray L R (fun v U J=>v=.int .i64 (Jfa l.l n)∧L=U∧R=J):=by
 refine Je 26 Tryz.call225 Tryz.func225 rfl rfl rfl ?_;apply Xae∘qaw∘qbm;refine q_l rfl (Jbc l _ _ hl) ?_;apply (Xbj);refine q_c ?_ ?_<;>intro hc0;·apply (Xa8);refine q_i L R ?_;exact ⟨by rw [Jfa,if_pos zF],rfl,rfl⟩
 have hr:Uca l.l=true:=by simpa using hc0
 have hln:=(Ukb.1 hr).1;apply qbo∘Xbr;refine Jm [(1,.int _ _),(10,.slice _ _ _),(11,.int _ _),(12,.int _ _)] zh fun tq0=>?_;refine q_s ([4,6]++rg 12 14) (fun g:{k:Nat // k≤l.l.length∧∀j:Nat,j < k→¬ ((l.l.getD j default).kind=1∧(n:Int)≤(l.l.getD j default).cond)}=>[(12,.int .i64 ((g.1:Nat):Int))]) (fun g=>l.l.length - g.1) (⟨0,by omega,fun j hj=>by omega⟩) ?_;rintro ⟨k,hk,hal⟩ junk;try dsimp only
 apply (Xaj);refine q_c ?_ ?_<;>intro hc1;·
  have h1:=Jp (l:=l.l) (k:=k) default za;apply (qbb);refine Jw zD rfl ?_;apply (Xdk);intro b6;apply Xb9∘Xcl;apply Ui (G:=[_,_,_,_]) (j:=3) (cj:=19) rfl rfl zb rfl zmb rfl;·exact ubo
  intro junk4;apply (qaf);refine q_c ?_ ?_<;>intro hc2;·apply (Xcf);refine q_i L R ?_;exact ⟨by rw [Zpd hr k za hc2.1 hc2.2],rfl,rfl⟩
  exact uaS
 apply (Xcq);refine q_i L R ?_;exact ⟨by rw [Zsc hr (fun j hj=>hal j za)],rfl,rfl⟩
end Go.Proofs.YtchfclmokpbldaaGreat
