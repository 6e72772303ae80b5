/-
  Merged texts. By an AI agent.
-/
import Derived.Test.YtchfclmokpbldaaGreatRule
set_option linter.all false
set_option maxHeartbeats 4000000
set_option maxRecDepth 20000
namespace Go.Proofs.YtchfclmokpbldaaGreat
open Go.Aw Go
section
attribute [local irreducible] CJ LJ DJ Tri YV Gives U7 Kb Kp U8 RV Ke OwL.L
section
variable {A B:Prop}
def V8e(h:A→B:=by exact Kz zHc rfl rfl rfl rfl):=h
def Ubf(h:A→B:=by exact J0 (by first | exact Jf tb rfl rfl rfl rfl zB (i:=x.cond.toNat) zo zc | exact Jm tb rfl rfl rfl rfl (i:=x.cond.toNat) zo zc) rfl):=h
def Yef(h:A→B:=by exact J0 znd rfl):=h
def Jig(h:A→B:=by exact J0 zHc rfl):=h
def Yhf(h:A→B:=by exact Kh tb [] [0,1,2,3,4,5,6,7,8,9,10,11,12,13] [14] ((⟨b7,XNode.cells x,172⟩ :: ((⟨.own b13 l.l.length [],vs⟩:OwL Int).L 3 Jj ++ []))) _ Kn zf zk yd):=h
def Zif(h:A→B:=by exact Kz zld rfl rfl rfl rfl):=h
def Yqf(h:A→B:=by exact Kz (Jo tb ((⟨.own b13 l.l.length [],vs⟩:OwL Int)) _ rfl rfl ((show _=Value.slice _ _ _ from rfl).trans (Uq hvl)) rfl zi (i:=x.right.toNat) zo zw) rfl rfl rfl rfl):=h
def Z6f(h:A→B:=by exact Kz znd rfl rfl rfl rfl):=h
end
def Jaa (l:List XNode) (vals:List Int) (k:Nat):List Int:=Vh l vals k ++ List.replicate (l.length - k) 0
def Jpf {l:List XNode} {vals:List Int} {k:Nat} (h:k≤l.length):(Jaa l vals k).length=l.length:=by rw [Jaa,yj,Y5,yaa];omega
def Ulf {l:List XNode} {vals:List Int} {k:Nat} {v:Int} (hk:k < l.length) (h:v=Vga vals (Vh l vals k) (l.getD k default)):(Jaa l vals k).set k v=Jaa l vals (k + 1):=by have hl:=Y5 (l:=l) (vals:=vals) k;rw [Jaa,Jaa,Vh,← h,show l.length - k=(l.length - (k + 1)) + 1 by omega,ylb,List.set_append_right k v zc,hl,yxb,ySb];simp
def V1e {l:List XNode} {vals:List Int} {k:Nat} (hk:k < l.length) (h:Vga vals (Vh l vals k) (l.getD k default)=0):Jaa l vals k=Jaa l vals (k + 1):=by rw [Jaa,Jaa,Vh,h,show l.length - k=(l.length - (k + 1)) + 1 by omega,ylb];simp
def Krd {l:List XNode} {vals:List Int} {k j:Nat} (h:j < k):(Jaa l vals k)[j]?=some ((Vh l vals k).getD j 0):=by have hl:=Y5 (l:=l) (vals:=vals) k;rw [Jaa,yy zc];exact Js 0 zc
def V0e {l:List XNode} {vals:List Int}:Jaa l vals l.length=Vh l vals l.length:=by rw [Jaa,yxb];simp
def J9e {vals v:List Int} {x:XNode} (h:x.kind=1):Vga vals v x=J1d vals x.cond:=by rw [Vga,if_pos h]
def Uff {vals v:List Int} {x:XNode} (h:x.kind=2):Vga vals v x= -(v.getD x.left.toNat 0):=by rw [Vga,if_neg zc,if_pos h]
def Uef {vals v:List Int} {x:XNode} (h:x.kind=3):Vga vals v x=min (v.getD x.left.toNat 0) (v.getD x.right.toNat 0):=by rw [Vga,if_neg zc,if_neg zc,if_pos h]
def Jzf {vals v:List Int} {x:XNode} (h1:¬ x.kind=1) (h2:¬ x.kind=2) (h3:¬ x.kind=3):Vga vals v x=max (v.getD x.left.toNat 0) (v.getD x.right.toNat 0):=by rw [Vga,if_neg h1,if_neg h2,if_neg h3]
def Jzc (l:Arr XNode) (vals:Arr Int) (L:LB) (R:LS) (hl:InR (Ykc l) R) (hv:InR (isl vals) R):
 Tri Tryz.prog 160 [l.val,vals.val].toArray L R (fun v M U=>v=.int .i64 (V5a l.l vals.l)∧L=M∧R=U):=by
 refine Jd 102 Tryz.call160 Tryz.func160 rfl rfl rfl ?_;apply Xac∘qaw∘qbm;refine q_l rfl (Ytb l _ _ hl) ?_;apply (Xbg);refine q_c ?_ ?_<;>intro hc0;·apply (Xa1);refine q_i L R ?_;exact ⟨by rw [V5a,if_neg zS],rfl,rfl⟩
 have hr:Jna l.l=true:=by simpa using hc0
 have hln:=(Y5a.1 hr).1;apply qbv∘Xaq∘qc7;rintro v M U ⟨b13,rfl,rfl,hR13⟩;replace hR13:=hR13.symm;subst hR13;apply (Xd1);refine V4 (Yo (f:=Jj) (x:=0) rfl _) ?_;apply qay∘Xdn;refine Jh [(1,.slice _ _ _),(5,.slice _ _ _),(14,.slice _ _ _),(15,.int _ _),(16,.int _ _)] zg fun tq0=>?_;refine q_p ([6,7]++rg 16 80) ((⟨fun g=>[(16,.int .i64 ((g.1.1:Nat):Int))],fun g=>(⟨.own b13 l.l.length [],g.1.2⟩:OwL Int).L 3 Jj ++ L,fun _=>R,fun g=>l.l.length - g.1.1⟩:Head {g:Nat×List Int // g.1≤l.l.length∧g.2=Jaa l.l vals.l g.1})) (⟨(0,List.replicate l.l.length 0),by dsimp only;omega,rfl⟩) ?_;rintro ⟨⟨k,vs⟩,hk,hvs⟩ junk;try dsimp only
 dsimp only at hk hvs;have hvl:vs.length=l.l.length:=by rw [hvs];exact Jpf hk
 have hvk:(⟨.own b13 l.l.length [],vs⟩:OwL Int).ok 1 Jj:=by have:=Yj (f:=Jj) (wd:=1) (b:=b13) (n:=l.l.length) (x:=0) Uw zF;exact OwL.len_ok Uw this (by simp;exact hvl)
 apply (Xay);refine q_c ?_ ?_<;>intro hc1;·
  have hxg:=Js (l:=l.l) (k:=k) default zc;have hno:=J3d hr k zc;have hvg:=Js (l:=vs) (k:=k) 0 zc;have hset:=fun (v:Int)=>Ulf (l:=l.l) (vals:=vals.l) (k:=k) (v:=v) zc;have hst:=V1e (l:=l.l) (vals:=vals.l) (k:=k) zc;rw [← hvs] at hset hst;rw [Kmc] at hno;obtain ⟨x,hx⟩:∃x,x=l.l.getD k default:=⟨_,rfl⟩;rw [← hx] at hxg hno hset hst;apply (Xbv);refine J0 zC rfl ?_;apply (Xeg);intro b7;apply qad∘Xcv;refine J6 (Ja (Jy (Ji (Je ?_))));apply (Xba);refine q_c ?_ ?_<;>intro hc2;·
   apply Xc8∘Xaq∘Xas;apply Ue (G:=[_,_,_,_,_,_]) (j:=5) (cj:=44) rfl rfl ze rfl ztb rfl;·intro hg6;replace hg6:=qb hg6;have hcg:=Js (l:=vals.l) (k:=x.cond.toNat) 0 zc;exact (Xc9∘Ubf∘qa7) zie
   intro junk6;apply (qah);apply Ue (G:=[_,_,_,_,_,_]) (j:=13) (cj:=52) rfl rfl ze rfl ztb rfl;·intro hg14;replace hg14:=qb hg14;have hcg:=Js (l:=vals.l) (k:=x.cond.toNat) 0 zc;exact (Xc9∘Ubf∘qa7) zSe
   intro junk14;apply (qaf);refine q_c ?_ ?_<;>intro hc3;·have hcg:=Js (l:=vals.l) (k:=x.cond.toNat) 0 zc;apply Xcl∘Xc9∘Ubf∘qa7∘Yef;refine V5 (Jp tb ((⟨.own b13 l.l.length [],vs⟩:OwL Int)) (vals.l.getD x.cond.toNat 0) rfl rfl rfl rfl zm zi yf zi zj ze ze) ?_;rintro v M U ⟨rfl,rfl⟩;refine J6 (Jg (Jg (Ja (Je ?_))));apply (Xan);exact q_k ⟨(k + 1,vs.set k (vals.l.getD x.cond.toNat 0)),by dsimp only;omega,hset _ (by rw [J9e hc2,J1d,if_pos zc])⟩
   refine Jt (Jg (Jg (Ja (Je ?_))));apply (Xan);exact q_k ⟨(k + 1,vs),by dsimp only;omega,hst (by rw [J9e hc2,J1d,if_neg zc])⟩
  apply (Xbx);refine q_c ?_ ?_<;>intro hc4;·(have hlt:x.left.toNat < k:=by omega);have hlg:=Krd (l:=l.l) (vals:=vals.l) hlt;rw [← hvs] at hlg;have hlr:=Yha (l:=l.l) (vals:=vals.l) k x.left.toNat;apply Xcl∘Xc9;refine J0 zld rfl ?_;apply Jig∘qcq∘Yef;refine V5 (Jp tb ((⟨.own b13 l.l.length [],vs⟩:OwL Int)) (-((Vh l.l vals.l k).getD x.left.toNat 0)) rfl rfl rfl rfl zm zi yf zi zj ze ze) ?_;rintro v M U ⟨rfl,rfl⟩;refine J6 (Jg (Jg (Ja (Je ?_))));apply (Xan);exact q_k ⟨(k + 1,vs.set k (-((Vh l.l vals.l k).getD x.left.toNat 0))),by dsimp only;omega,hset _ (by rw [Uff hc4])⟩
  have hlt:x.left.toNat < k:=by omega
  have hlg:=Krd (l:=l.l) (vals:=vals.l) hlt;have hrt:x.right.toNat < k:=by omega
  have hrg:=Krd (l:=l.l) (vals:=vals.l) hrt;rw [← hvs] at hlg hrg;apply (Xbx);refine q_c ?_ ?_<;>intro hc5;·apply Yhf∘Xey∘Xd2∘Zif∘V8e∘Xd2∘Yqf∘V8e;refine Kz (Jub rfl rfl) rfl rfl rfl rfl ?_;apply Z6f∘qba;refine Jwb (Jp tb ((⟨.own b13 l.l.length [],vs⟩:OwL Int)) (min ((Vh l.l vals.l k).getD x.left.toNat 0) ((Vh l.l vals.l k).getD x.right.toNat 0)) rfl rfl rfl rfl zm zi yf zi zj ze ze) rfl rfl ?_;rintro v M U ⟨rfl,rfl⟩;apply (qa1);refine J9 (Jg (Jg (Ja (Je ?_))));apply (Xan);exact q_k ⟨(k + 1,vs.set k (min ((Vh l.l vals.l k).getD x.left.toNat 0) ((Vh l.l vals.l k).getD x.right.toNat 0))),by dsimp only;omega,hset _ (by rw [Uef hc5])⟩
  apply Yhf∘Xey∘Xd2∘Zif∘V8e∘Xd2∘Yqf∘V8e;refine Kz zsc rfl rfl rfl rfl ?_;apply Z6f∘qba;refine Jwb (Jp tb ((⟨.own b13 l.l.length [],vs⟩:OwL Int)) (max ((Vh l.l vals.l k).getD x.left.toNat 0) ((Vh l.l vals.l k).getD x.right.toNat 0)) rfl rfl rfl rfl zm zi yf zi zj ze ze) rfl rfl ?_;rintro v M U ⟨rfl,rfl⟩;apply (qa1);refine J9 (Jg (Jg (Ja (Je ?_))));apply (Xan);exact q_k ⟨(k + 1,vs.set k (max ((Vh l.l vals.l k).getD x.left.toNat 0) ((Vh l.l vals.l k).getD x.right.toNat 0))),by dsimp only;omega,hset _ (by rw [Jzf hc2 hc4 hc5])⟩
 obtain rfl:k=l.l.length:=by omega
 rw [V0e] at hvs;have hvg:=Js (l:=vs) (k:=l.l.length - 1) 0 zc;have hev:V5a l.l vals.l=vs.getD (l.l.length - 1) 0:=by rw [V5a,if_pos hr,hvs]
 apply qbk∘qbm∘Xaq∘qa9;refine J0 (Jo tb ((⟨.own b13 l.l.length [],vs⟩:OwL Int)) _ rfl rfl ((show _=Value.slice _ _ _ from rfl).trans (Uq hvl)) rfl zi (i:=l.l.length - 1) zo zw) rfl ?_;apply Jig∘Xam;refine q_i L R ?_;exact ⟨by rw [hev],rfl,rfl⟩
end
section
attribute [local irreducible] CJ LJ DJ Tri YV Gives U7 Kb Kp U8 RV Ke OwL.L
section
variable {A B:Prop}
def Uxf(h:A→B:=by exact Ju rfl (ih (i - 1) _ zc zc zc) rfl):=h
def Zgf(h:B:=by exact ⟨-1,0,rfl,Yb zc (by rw [Un,if_neg h0,← hx,if_neg hc1,if_neg hc3,if_neg zc]),rfl,rfl⟩):=h
def Vqf(h:A→B:=by exact J0 zC rfl):=h
end
structure PartQ (l:List XNode) (n:Nat) (i f d:Int):Prop where
 bnd:0≤d∧d≤n
 yes:∀a b,Un l n i=some (a,b)→f=a∧d=b
 no:Un l n i=none→f= -1
def Yb {l:List XNode} {n:Nat} {i:Int} {d:Int} (hd:0≤d∧d≤n) (h:Un l n i=none):PartQ l n i (-1) d:=⟨hd,(fun a b hh=>by rw [h] at hh;cases hh),fun _=>rfl⟩
def Yza {l:List XNode} {n:Nat} {i f d:Int} (h:Un l n i=some (f,d)):PartQ l n i f d:=
 ⟨by have:=(Zt _ _ _ _ h).2.1;omega,(fun a b hh=>by rw [h] at hh;cases hh;exact ⟨rfl,rfl⟩),fun hh=>by rw [h] at hh;cases hh⟩
def Jwd (l:Arr XNode) (n:Nat) (i:Int) (L:LB) (R:LS) (hi:i < 0):
 Tri Tryz.prog 176 [l.val,.int .i64 i].toArray L R (fun v M U=>∃f d:Int,v=.tuple #[.int .i64 f,.int .i64 d]∧PartQ l.l n i f d∧L=M∧R=U):=by
 refine Jd 116 Tryz.call176 Tryz.func176 rfl rfl rfl ?_;apply Xac∘Xau∘Xcf;apply J3 (G:=[_,_,_,_]) (j:=2) (cj:=15) rfl rfl ze rfl ztb rfl;·exact zte
 intro junk3;apply (qaf);refine q_c ?_ ?_<;>intro hc0;·apply Xac∘Xav;refine q_r L R zAd ?_;exact ⟨-1,0,rfl,Yb zc (Ula hi n),rfl,rfl⟩
 (exfalso;omega)
def Zzc (l : Arr XNode) (n : Nat) (R : LS) (hl : InR (Ykc l) R) (hn : n ≤ 64)
 (ih:∀(i:Int) (L:LB),i < n→i < l.l.length→-1≤i→Tri Tryz.prog 176 [l.val,.int .i64 i].toArray L R (fun v M U=>∃f d:Int,v=.tuple #[.int .i64 f,.int .i64 d]∧PartQ l.l n i f d∧L=M∧R=U))
 (i:Int) (L:LB) (hi:i < n + 1) (hil:i < l.l.length) (hi1:-1≤i):
 Tri Tryz.prog 176 [l.val,.int .i64 i].toArray L R (fun v M U=>∃f d:Int,v=.tuple #[.int .i64 f,.int .i64 d]∧PartQ l.l (n + 1) i f d∧L=M∧R=U):=by
 refine Jd 116 Tryz.call176 Tryz.func176 rfl rfl rfl ?_;apply Xac∘Xau∘Xcf;apply J3 (G:=[_,_,_,_]) (j:=2) (cj:=15) rfl rfl ze rfl ztb rfl;·exact zte
 intro junk3;apply (qaf);refine q_c ?_ ?_<;>intro hc0;·apply Xac∘Xav;refine q_r L R zAd ?_;exact ⟨-1,0,rfl,Yb zc (Ula zc _),rfl,rfl⟩
 have hxg:=Js (l:=l.l) (k:=i.toNat) default zc;obtain ⟨x,hx⟩:∃x,x=l.l.getD i.toNat default:=⟨_,rfl⟩;rw [← hx] at hxg;have h0:¬ i < 0:=by omega
 apply (Xdh);refine J0 zqb rfl ?_;apply (Xeg);intro b6;apply (Xdz);refine J6 (Ja (Jy (Ji (Je ?_))));apply (Xba);refine q_c ?_ ?_<;>intro hc1;·
  have hpf:Un l.l (n + 1) i=if x.left=0∧x.right=0∧0≤x.cond∧x.cond < 64 then some (i,1) else none:=by rw [Un,if_neg h0,← hx,if_pos hc1]
  apply qbi∘Xa7;apply J3 (G:=[_,_,_]) (j:=3) (cj:=32) rfl rfl ze rfl ztb rfl;·intro hg4;replace hg4:=qb hg4;exact (Xaa) zie
  intro junk4;apply (qah);apply J3 (G:=[_,_,_]) (j:=8) (cj:=37) rfl rfl ze rfl ztb rfl;·intro hg9;replace hg9:=qb hg9;exact (Xaa) zUd
  intro junk9;apply (qah);apply J3 (G:=[_,_,_]) (j:=13) (cj:=42) rfl rfl ze rfl ztb rfl;·intro hg14;replace hg14:=qb hg14;exact (Xaa) zUd
  intro junk14;apply (qaf);refine q_c ?_ ?_<;>intro hc2;·apply Xac∘qad;refine J6 (Ja (Ud (J1 (Jv (J1 ?_)))));refine q_r L R zAd ?_;exact ⟨-1,0,rfl,Yb zc (by rw [hpf,if_neg zc]),rfl,rfl⟩
  apply qbv∘qaa∘qad∘qad∘qdb;refine q_r L R zAd ?_;exact ⟨i,1,rfl,Yza (by rw [hpf,if_pos zc]),rfl,rfl⟩
 apply (Xbx);refine q_c ?_ ?_<;>intro hc3;·
  have hpf:=Kib (n:=n) h0 hx hc1 hc3;apply qbi∘Xaa∘Xb8;apply J3 (G:=[_,_,_]) (j:=3) (cj:=53) rfl rfl ze rfl ztb rfl;·intro hg4;replace hg4:=qb hg4;exact (Xaa) zUd
  intro junk4;apply (qah);apply J3 (G:=[_,_,_,_,_]) (j:=8) (cj:=58) rfl rfl ze rfl ztb rfl;·intro hg9;replace hg9:=qb hg9;exact (Xe6) qai
  intro junk9;apply (qaf);refine q_c ?_ ?_<;>intro hc4;·
   apply Xac∘qad;refine J6 (Ja (Ud (J1 (Jv (J1 ?_)))));refine q_r L R zAd ?_;refine ⟨-1,0,rfl,Yb zc ?_,rfl,rfl⟩;rw [hpf];cases Un l.l n (i - 1) with
   | none=>rfl
   | some z=>obtain ⟨a,b⟩:=z;exact if_neg zc
  apply Xdh∘qa9∘Uxf;rintro v M U ⟨f,d,rfl,hP,rfl,rfl⟩;have hPb:=hP.bnd;refine J0 zcc rfl ?_;apply Xep∘Xa2∘Xai∘qad∘qdb;refine q_r L R zAd ?_;refine ⟨f,d + 1,rfl,?_,rfl,rfl⟩;cases hq:Un l.l n (i - 1) with
  | none=>rw [hP.no hq];exact Yb zc (by rw [hpf,hq])
  | some z=>obtain ⟨a,b⟩:=z;obtain ⟨rfl,rfl⟩:=hP.yes _ _ hq;exact Yza (by rw [hpf,hq];exact if_pos zc)
 apply qbi∘Xba;refine q_c ?_ ?_<;>intro hc5;·refine Jt (Ja ?_);exact uac
 apply qay∘Xba;exact uac
def Vxb (l:Arr XNode) (R:LS) (hl:InR (Ykc l) R):∀(n:Nat),n≤64→∀(i:Int) (L:LB),i < n→i < l.l.length→-1≤i→
 Tri Tryz.prog 176 [l.val,.int .i64 i].toArray L R (fun v M U=>∃f d:Int,v=.tuple #[.int .i64 f,.int .i64 d]∧PartQ l.l n i f d∧L=M∧R=U)
 | 0,_,i,L,hi,_,_=>Jwd l 0 i L R zc
 | n + 1,hn,i,L,hi,hil,hi1=>Zzc l n R hl zc (fun i L h1 h2 h3=>Vxb l R hl n zc i L h1 h2 h3) i L hi hil hi1
def Vvc (l:Arr XNode) (L:LB) (R:LS) (hl:InR (Ykc l) R):
 Tri Tryz.prog 100 [l.val].toArray L R (fun v M U=>v=.bool (Jna l.l)∧L=M∧R=U):=by
 refine Jd 27 Tryz.call100 Tryz.func100 rfl rfl rfl ?_;apply Xew∘Xaq∘Xas;apply J3 (G:=[_,_,_]) (j:=3) (cj:=8) rfl rfl ze rfl ztb rfl;·intro hg4;replace hg4:=qb hg4;exact (Xaq) zpf
 intro junk4;apply (qaf);refine q_c ?_ ?_<;>intro hc0;·exact ubB
 apply Xdx∘Xaq∘qa9;refine Ju rfl (Vxb l _ hl l.l.length zc _ _ zc zc zc) rfl ?_;rintro v M U ⟨f,d,rfl,hP,rfl,rfl⟩;refine J0 zcc rfl ?_;apply Xep∘Xa2∘Xcn;apply Ue (G:=[_,_]) (j:=2) (cj:=23) rfl rfl ze rfl ztb rfl;·intro hg3;replace hg3:=qb hg3;exact (qaa) zSe
 intro junk3;apply (Xbb);refine q_b L R ?_;refine ⟨?_,rfl,rfl⟩;rw [Jna,show decide (1≤l.l.length∧l.l.length≤64)=true from decide_eq_true zc];refine congrArg Value.bool ?_;cases hq:Un l.l l.l.length ((l.l.length:Int) - 1) with
 | none=>rw [hP.no hq];rfl
 | some z=>obtain ⟨a,b⟩:=z;obtain ⟨rfl,rfl⟩:=hP.yes _ _ hq;rw [yIb];simp
def U8b (l:Arr XNode) (n:Nat) (L:LB) (R:LS) (hl:InR (Ykc l) R):
 Tri Tryz.prog 251 [l.val,.int .i64 (n:Int)].toArray L R (fun v M U=>v=.int .i64 (Z8 l.l n)∧L=M∧R=U):=by
 refine Jd 30 Tryz.call251 Tryz.func251 rfl rfl rfl ?_;apply Xac∘qaw∘qbm;refine q_l rfl (Vvc l _ _ hl) ?_;apply (Xbg);refine q_c ?_ ?_<;>intro hc0;·apply (Xa1);refine q_i L R ?_;exact ⟨by rw [Z8,if_pos zS],rfl,rfl⟩
 have hr:Jna l.l=true:=by simpa using hc0
 have hln:=(Y5a.1 hr).1;apply (Xcj);refine Jh [(0,.slice _ _ _),(1,.int _ _),(5,.int _ _)] zg fun tq0=>?_;refine q_s ([4,5]++rg 9 21) (fun g:{k:Nat // k≤l.l.length∧∀j:Nat,j < k→¬ ((l.l.getD j default).kind=1∧(n:Int)≤(l.l.getD j default).cond)}=>[(5,.int .i64 ((g.1:Nat):Int))]) (fun g=>l.l.length - g.1) (⟨0,by omega,fun j hj=>by omega⟩) ?_;rintro ⟨k,hk,hal⟩ junk;try dsimp only
 apply (Xcr);refine q_c ?_ ?_<;>intro hc1;·
  have h1:=Js (l:=l.l) (k:=k) default zc;apply qbb∘Xaj∘Vqf∘Xbd∘Xcn;apply Ue (G:=[_,_,_,_,_,_,_]) (j:=6) (cj:=21) rfl rfl ze rfl ztb rfl;·intro hg7;replace hg7:=qb hg7;exact (Xaj∘Vqf∘Xdt) zie
  intro junk7;apply (qaf);refine q_c ?_ ?_<;>intro hc2;·exact ubF
  apply (Xa4);exact uav
 exact zGf
end
end Go.Proofs.YtchfclmokpbldaaGreat
