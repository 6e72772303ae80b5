/-
  Rules: rule.part, rule.right, rule.Check and the reference's. By an AI agent; no person has read it.
-/
import Derived.Test.YtchfclmokpbldaaGreatRuleP
set_option linter.all false
set_option maxHeartbeats 4000000
namespace Go.Proofs.YtchfclmokpbldaaGreat
open Go.Aw Go
set_option maxRecDepth 20000
attribute [local irreducible] CJ LJ DJ Tri YV Gives U5 J2 Kn U6 RV J4 OwL.L
section
variable {A B:Prop}
def Jcd(h:A→B:=by exact K0 (Uo zsb) rfl rfl rfl):=h
def K1f(h:B:=by exact ⟨i,1,_,rfl,⟨by omega,fun h=>by rw [hpf,if_pos zN],fun h=>by rw [hpf,if_neg zN]⟩,rfl,rfl⟩):=h
def Yuf(h:A→B:=by exact Jw rfl (ih (i - 1) _ za za za) rfl):=h
def U1g(h:B:=by exact ⟨f,max q r + 1,b2,rfl,⟨by omega,fun h=>by rw [hpf,hP2.yes h],fun h=>by rw [hpf,hP2.no h]⟩,rfl,rfl⟩):=h
def Kkg(h:B:=by exact ⟨0,0,false,rfl,⟨by omega,(fun h=>by cases h),fun _=>by rw [Jja,if_neg hc0,← hx,if_neg hc1,if_neg hc2,if_neg za]⟩,rfl,rfl⟩):=h
end
structure PartR (l:List XNode) (n:Nat) (i f d:Int) (b:Bool):Prop where
 bnd:0≤d∧d≤n
 yes:b=true→Jja l n i=some (f,d)
 no:b=false→Jja l n i=none
def Z1c {l : List XNode} {i : Int} (h : i < 0) : ∀ n, Jja l n i = none
 | 0=>rfl
 | n + 1=>by rw [Jja,if_pos h]
def Yeb {l:List XNode} {n:Nat} {i:Int} {x:XNode} (h0:¬ i < 0) (hx:x=l.getD i.toNat default) (h1:¬ x.kind=1) (h2:x.kind=2):
 Jja l (n + 1) i=match Jja l n (i - 1) with
  | none=>none
  | some (f,d)=>if x.cond=0∧x.right=0∧x.left=i - 1 then some (f,d + 1) else none:=by rw [Jja,if_neg h0,← hx,if_neg h1];exact if_pos h2
def Zrd {l:List XNode} {n:Nat} {i:Int} {x:XNode} (h0:¬ i < 0) (hx:x=l.getD i.toNat default) (h1:¬ x.kind=1) (h2:¬ x.kind=2) (h3:x.kind=3∨x.kind=4):
 Jja l (n + 1) i=match Jja l n (i - 1) with
  | none=>none
  | some (m,r)=>if x.cond=0∧x.right=i - 1∧x.left=m - 1 then
   match Jja l n (m - 1) with
   | none=>none
   | some (f,q)=>some (f,max q r + 1) else none:=by rw [Jja,if_neg h0,← hx,if_neg h1,if_neg h2];exact if_pos h3
def Kge (l:Arr XNode) (n:Nat) (i:Int) (L:LB) (R:LS) (hi:i < 0):
 Tri Tryz.prog 175 [l.val,.int .i64 i].toArray L R (fun v U J=>∃(f d:Int) (b:Bool),v=.tuple #[.int .i64 f,.int .i64 d,.bool b]∧PartR l.l n i f d b∧L=U∧R=J):=by
 refine Je 122 Tryz.call175 Tryz.func175 rfl rfl rfl ?_;apply Xae∘Xb6∘qaw∘qaa∘Xa5;refine q_c ?_ ?_<;>intro hc0;·apply Xae∘Xb6∘qbh;refine q_r L R zsd ?_;exact ⟨0,0,false,rfl,⟨by omega,(fun h=>by cases h),fun _=>Z1c hi n⟩,rfl,rfl⟩
 (exfalso;omega)
def Ufd (l : Arr XNode) (n : Nat) (R : LS) (hl : InR (Zbe l) R) (hn : n ≤ 64)
 (ih:∀(i:Int) (L:LB),i < n→i < l.l.length→-1≤i→Tri Tryz.prog 175 [l.val,.int .i64 i].toArray L R (fun v U J=>∃(f d:Int) (b:Bool),v=.tuple #[.int .i64 f,.int .i64 d,.bool b]∧PartR l.l n i f d b∧L=U∧R=J))
 (i:Int) (L:LB) (hi:i < n + 1) (hil:i < l.l.length) (hi1:-1≤i):
 Tri Tryz.prog 175 [l.val,.int .i64 i].toArray L R (fun v U J=>∃(f d:Int) (b:Bool),v=.tuple #[.int .i64 f,.int .i64 d,.bool b]∧PartR l.l (n + 1) i f d b∧L=U∧R=J):=by
 refine Je 122 Tryz.call175 Tryz.func175 rfl rfl rfl ?_;apply Xae∘Xb6∘qaw∘qaa∘Xa5;refine q_c ?_ ?_<;>intro hc0;·apply Xae∘Xb6∘qbh;refine q_r L R zsd ?_;exact ⟨0,0,false,rfl,⟨by omega,(fun h=>by cases h),fun _=>Z1c hc0 _⟩,rfl,rfl⟩
 have hxg:=Jn (l:=l.l) (k:=i.toNat) default za;obtain ⟨x,hx⟩:∃x,x=l.l.getD i.toNat default:=⟨_,rfl⟩;rw [← hx] at hxg;apply qbv∘Xap;refine Jy (by first | exact Jd tb rfl rfl rfl rfl zu (i:=i.toNat) zk za | exact Jl tb rfl rfl rfl rfl (i:=i.toNat) zk za) rfl ?_;apply (Xdo);intro b7;apply Xbe∘Xaa;refine Kc (Jb (Kk (Jq (Jh ?_))));apply (Xa6);refine q_c ?_ ?_<;>intro hc1;·
  refine Jq ?_;refine Ki tb [0,1,2,3,4,5,6,7,8,9,10,11,12,13,14,15,16,17,18,19,20,21] ([Blk.mk b7 _ _]) Kq zc zi ?_;apply qao∘Xai;refine K0 zsc rfl rfl rfl ?_;apply (qb2);refine Vx (k:=30) zsb (fun hg4=>?_) (fun hg4=>?_);·
   replace hg4:=qb hg4;apply (Xai);refine K0 zsc rfl rfl rfl ?_;apply (Xbq);refine Vx (k:=35) zsb (fun hg9=>?_) (fun hg9=>?_);·
    replace hg9:=qb hg9;apply (Xai);refine K0 zcd rfl rfl rfl ?_;apply (Xbq);refine Vx (k:=40) zsb (fun hg14=>?_) (fun hg14=>?_);·replace hg14:=qb hg14;apply (Xai);refine K0 zdd rfl rfl rfl ?_;exact zJd
    replace hg14:=qb hg14;(iterate 3 apply (qap));exact zJd
   replace hg9:=qb hg9;(iterate 3 apply (qap));apply (Xbq);(iterate 3 apply (qap));exact zJd
  replace hg4:=qb hg4;iterate 3 apply (qap)
  apply (Xbq);iterate 3 apply (qap)
  apply (Xbq);iterate 3 apply (qap)
  exact zJd
 apply (Xbx);refine q_c ?_ ?_<;>intro hc2;·
  apply qae∘Xap∘qa9∘Yuf;rintro v U J ⟨f,d,b,rfl,hP,rfl,rfl⟩;have hPb:=hP.bnd;refine Jy zSb rfl ?_;iterate 3 apply (qbs)
  apply qad∘Xb6∘qa4;refine Ki tb [0,1,2,3,4,5,6,7,8,9,10,11,12,13,14,15,16,17,18,19,20,21,22,23] ([Blk.mk b7 _ _]) Kq zc zi ?_;apply qao∘qao∘qc2∘qb2∘qb2;refine Vx (k:=59) zsb (fun hg4=>?_) (fun hg4=>?_);·
   replace hg4:=qb hg4;apply (Xai);refine K0 zsc rfl rfl rfl ?_;apply (Xbq);refine Vx (k:=64) zsb (fun hg9=>?_) (fun hg9=>?_);·
    replace hg9:=qb hg9;apply (Xai);refine K0 zsc rfl rfl rfl ?_;apply (Xbq);refine Vx (k:=69) zsb (fun hg14=>?_) (fun hg14=>?_);·replace hg14:=qb hg14;apply Xbs∘qb7;refine K0 zsc rfl rfl rfl ?_;exact uac
    replace hg14:=qb hg14;(iterate 5 apply (qap));exact uac
   replace hg9:=qb hg9;(iterate 3 apply (qap));apply (Xbq);(iterate 5 apply (qap));exact uac
  replace hg4:=qb hg4;iterate 3 apply (qap)
  apply (Xbq);iterate 3 apply (qap)
  apply (Xbq);iterate 5 apply (qap)
  exact uac
 apply qbi∘Xa6;refine q_c ?_ ?_<;>intro hc3;·refine J5 (Jb ?_);exact uad
 apply qay∘Xa6;exact uad
def Utc (l:Arr XNode) (R:LS) (hl:InR (Zbe l) R):∀(n:Nat),n≤64→∀(i:Int) (L:LB),i < n→i < l.l.length→-1≤i→
 Tri Tryz.prog 175 [l.val,.int .i64 i].toArray L R (fun v U J=>∃(f d:Int) (b:Bool),v=.tuple #[.int .i64 f,.int .i64 d,.bool b]∧PartR l.l n i f d b∧L=U∧R=J)
 | 0,_,i,L,hi,_,_=>Kge l 0 i L R za
 | n + 1,hn,i,L,hi,hil,hi1=>Ufd l n R hl za (fun i L h1 h2 h3=>Utc l R hl n za i L h1 h2 h3) i L hi hil hi1
def J1c (l:Arr XNode) (L:LB) (R:LS) (hl:InR (Zbe l) R):
 Tri Tryz.prog 99 [l.val].toArray L R (fun v U J=>v=.bool (Uya l.l)∧L=U∧R=J):=by
 refine Je 32 Tryz.call99 Tryz.func99 rfl rfl rfl ?_;apply Xcc∘qaw∘Xaq∘Xav;apply J6 (G:=[_,_,_]) (j:=3) (cj:=9) rfl rfl zb rfl zsb rfl;·intro hg4;replace hg4:=qb hg4;exact (Xaq∘qa5) qai
 intro junk4;apply (qaf);refine q_c ?_ ?_<;>intro hc0;·apply Xcc∘qbh;refine q_b L R ?_;exact ⟨by rw [Uya,decide_eq_false za];rfl,rfl,rfl⟩
 apply qbv∘qbm∘Xaq∘qa9;refine Jw rfl (Utc l _ hl l.l.length za _ _ za za za) rfl ?_;rintro v U J ⟨f,d,b,rfl,hP,rfl,rfl⟩;refine Jy zSb rfl ?_;iterate 3 apply (qbs)
 apply qad∘qad∘Xbn∘qah∘qah;apply K9 (G:=[_,_]) (j:=1) (cj:=24) rfl rfl zb rfl zsb rfl;·intro hg2;replace hg2:=qb hg2;exact (qaa) zee
 intro junk2;apply (qah);apply K9 (G:=[_,_]) (j:=5) (cj:=28) rfl rfl zb rfl zsb rfl;·intro hg6;replace hg6:=qb hg6;exact (qaa) zye
 intro junk6;apply (Xbb);refine q_b L R ?_;refine ⟨?_,rfl,rfl⟩;rw [Uya,show decide (1≤l.l.length∧l.l.length≤64)=true from decide_eq_true za];cases b with
 | false=>rw [hP.no rfl];rfl
 | true=>rw [hP.yes rfl];refine congrArg Value.bool ?_;rw [yzb];simp
def Z4d {l:List XNode} {n:Nat} (h:Uya l=true) (k:Nat) (hk:k < l.length) (h1:(l.getD k default).kind=1) (h2:(n:Int)≤(l.getD k default).cond):Jsa l n=1:=by rw [Jsa,if_neg (by rw [h];decide),if_pos ⟨_,yi (Jn default hk),h1,h2⟩]
def Zcc {l:List XNode} {n:Nat} (h:Uya l=true) (hk:∀k:Nat,k < l.length→¬ ((l.getD k default).kind=1∧(n:Int)≤(l.getD k default).cond)):Jsa l n=0:=by
 rw [Jsa,if_neg (by rw [h];decide),if_neg];rintro ⟨x,hx,h1,h2⟩;obtain ⟨k,hk',rfl⟩:=List.mem_iff_getElem.1 hx;have e:l.getD k default=l[k]:=by rw [yh,yC hk'];rfl
 exact hk k hk' (by rw [e];exact ⟨h1,h2⟩)
def Kxd (l:Arr XNode) (n:Nat) (L:LB) (R:LS) (hl:InR (Zbe l) R):
 Tri Tryz.prog 225 [l.val,.int .i64 (n:Int)].toArray L R (fun v U J=>v=.int .i64 (Jsa l.l n)∧L=U∧R=J):=by
 refine Je 26 Tryz.call225 Tryz.func225 rfl rfl rfl ?_;apply Xae∘qaw∘qbm;refine q_l rfl (J1c l _ _ hl) ?_;apply (Xbl);refine q_c ?_ ?_<;>intro hc0;·apply (Xba);refine q_i L R ?_;exact ⟨by rw [Jsa,if_pos zI],rfl,rfl⟩
 have hr:Uya l.l=true:=by simpa using hc0
 have hln:=(Utb.1 hr).1;apply qbo∘Xbz;refine Jm [(1,.int _ _),(10,.slice _ _ _),(11,.int _ _),(12,.int _ _)] zh fun tq0=>?_;refine q_s ([4,6]++rg 12 14) (fun g:{k:Nat // k≤l.l.length∧∀j:Nat,j < k→¬ ((l.l.getD j default).kind=1∧(n:Int)≤(l.l.getD j default).cond)}=>[(12,.int .i64 ((g.1:Nat):Int))]) (fun g=>l.l.length - g.1) (⟨0,by omega,fun j hj=>by omega⟩) ?_;rintro ⟨k,hk,hal⟩ junk;try dsimp only
 apply (Xam);refine q_c ?_ ?_<;>intro hc1;·
  have h1:=Jn (l:=l.l) (k:=k) default za;apply (qbb);refine Jy zC rfl ?_;apply (Xdo);intro b6;apply Xcd∘Xcn;apply K9 (G:=[_,_,_,_]) (j:=3) (cj:=19) rfl rfl zb rfl zsb rfl;·exact ubp
  intro junk4;apply (qaf);refine q_c ?_ ?_<;>intro hc2;·apply (Xby);refine q_i L R ?_;exact ⟨by rw [Z4d hr k za hc2.1 hc2.2],rfl,rfl⟩
  exact uaV
 apply (Xco);refine q_i L R ?_;exact ⟨by rw [Zcc hr (fun j hj=>hal j za)],rfl,rfl⟩
end Go.Proofs.YtchfclmokpbldaaGreat
