/-
  The program logic of the walks, in one text. No program is named here. By an AI agent; no person has read it.
-/
import Derived.WalkKit
import Derived.Orders
import Derived.OrdersHeld
set_option linter.all false
set_option maxHeartbeats 4000000
section
namespace Go.Aw
open Go
abbrev rg:Nat→Nat→List Nat
 | _,0=>[]
 | a,n+1=>a :: rg (a+1) n
variable {p:Prop}
def uaa(h:p:=by
 refine q_c ?_ ?_<;>intro hc2;·
  apply Xb7∘Xab;refine q_l rfl zFb ?_;apply (Xbb);refine q_c ?_ ?_<;>intro hc3;·apply (Xa9);exact ua1
  exact uaf
 apply (Xbp);refine q_c ?_ ?_<;>intro hc4;·
  apply Xb7∘Xab;refine q_l rfl zFb ?_;apply (Xce);apply J9 (G:=[_,_,_,_,_,_,_,_]) (j:=7) (cj:=27) rfl rfl zb rfl zfb rfl;·exact zfd
  intro junk8;apply (qaf);refine q_c ?_ ?_<;>intro hc5;·apply (Xa9);exact ua1
  exact uaf
 apply (Xbp);refine q_c ?_ ?_<;>intro hc6;·
  apply (Xb7);iterate 3 apply (qab)
  apply (Xcz);refine q_l rfl zZb ?_;apply (Xbb);refine q_c ?_ ?_<;>intro hc7;·apply (Xa9);exact ua1
  exact uaf
 apply (Xa9);exact ua1):=h
def uab(h:p:=by
 exact ⟨by
 first
  |rfl
  |(exfalso;omega)
  |(exfalso
    have hf:=Yu hpb5.pw.ch hg32 n za (yl _);have he:=hfql zN;rw [hsw5,hpb5.pw.ch.len,hf] at he;omega)
  |(exfalso
    rcases hpb5.stuck hg hb5 za (hal hg6) with h | h;·rw [hg32] at h;cases h
    ·rw [hg41] at h;cases h),rfl,rfl⟩):=h
def uac(h:p:=by
 refine Uce (tb:=tb) (Lc:=Lc) (p2:=p2) (os2:=Yn ops p2) hL2 hz (V6a ops p2 fun i hi=>hlt i (yi _ hi)) rfl h1 h2 (ops.toArray.size + plan.length) ops.toArray.size plan (Yn ops plan) (Array.replicate ops.toArray.size false) _ [] t L R a _ (yl _) ?_ (V6a ops plan fun i hi=>hlt i (ym _ hi)) h3 (fun _ h=>h) (fun k hk=>by have:=hlt k (yi _ hk);simp [this]) Closed.zero ?_ (fun e he=>by cases he) zo ?_ hf ?_ hLc h;·
  have key:∀(pl:List Nat) (done:Array Bool),Kea ops.toArray done pl=true→pl.Nodup∧∀i∈pl,done.getD i true=false:=by
   intro pl;induction pl with
   | nil=>intro _ _;exact ⟨yna,fun i hi=>by cases hi⟩
   | cons i pl ih=>exact uaq
  have:=Vt (plan ++ p2) (List.range ops.length) (key _ _ h3).1 (fun i hi=>List.mem_range.2 (hlt i hi));simpa using this
 ·exact ⟨by simp,fun i d=>by simp,by simp,by simp,yna,yna⟩
 ·exact ubl
 ·exact St.drew hs):=h
def uad(h:p:=by
 apply qbp∘Xdn∘V8c;refine Jz (Jc (U4 (J8 (Ke ?_))));refine q_r L R zNc ?_;have hpf:=Vkb (n:=n) hc0 hx hc1 hc2;refine ⟨f,d + 1,_,rfl,⟨by omega,fun h=>?_,fun h=>?_⟩,rfl,rfl⟩;·
  cases b with
  | false=>first | (cases h;done) | (simp at hg4;done)
  | true=>rw [hpf,hP.yes rfl];dsimp only;rw [if_pos zH]
 ·
  cases b with
  | false=>rw [hpf,hP.no rfl]
  | true=>first | (simp at hg4;done) | (rw [hpf,hP.yes rfl];dsimp only;rw [if_neg zH])):=h
def uae(h:p:=by
 refine q_c ?_ ?_<;>intro hc4;·
  apply qae∘Xat∘qa9∘Klf;rintro v M U ⟨m,r,b,rfl,hP,rfl,rfl⟩;have hPb:=hP.bnd;have hpf:=V5d (n:=n) hc0 hx hc1 hc2 (by first | exact .inl hc3 | exact .inr hc4);refine Jx zCb rfl ?_;iterate 3 apply (qbs)
  apply qad∘Xbk∘qaw∘qah∘Xce;apply J9 (G:=[_,_,_]) (j:=2) (cj:=89) rfl rfl zb rfl zfb rfl;·intro hg3;replace hg3:=qb hg3;exact (Xaa) zhd
  intro junk3;apply (qah);apply J9 (G:=[_,_,_,_,_]) (j:=7) (cj:=94) rfl rfl zb rfl zfb rfl;·intro hg8;replace hg8:=qb hg8;exact (Xam∘qa9) zhd
  intro junk8;apply (qah);apply J9 (G:=[_,_,_,_,_]) (j:=14) (cj:=101) rfl rfl zb rfl zfb rfl;·exact zce
  intro junk15;apply (qaf);refine q_c ?_ ?_<;>intro hc5;·
   apply Xac∘Xbk;refine J6 (Jc (U4 (Ke (J8 (Ke ?_)))));refine q_r L R zNc ?_;refine ⟨0,0,false,rfl,⟨by omega,(fun h=>by cases h),fun _=>?_⟩,rfl,rfl⟩;cases b with
   | false=>rw [hpf,hP.no rfl]
   | true=>rw [hpf,hP.yes rfl];dsimp only;rw [if_neg (by simp at hc5;omega)]
  exact zWd
 exact zJd):=h
def uaf(h:p:=by
 refine Ka (Jk (Jc (Jr (Jr (Jh ?_)))));apply (Xbc);apply J9 (G:=[_,_,_]) (j:=3) (cj:=51) rfl rfl zb rfl zfb rfl;·exact zcd
 intro junk4;apply (qaf);refine q_c ?_ ?_<;>intro hc8;·apply (Xa6);exact ua1
 apply (Xdk);refine q_c ?_ ?_<;>intro hc9;·apply Xc8∘Umc;refine q_l rfl zXb ?_;apply (Xai);exact ua1
 apply (Xcf);exact ua1):=h
def uag(h:p:=by
 refine ⟨by rw [hE.size]; simp, fun k d => ?_, fun x hx => hE.op x (hmem x hx), fun x hx => ?_, ?_, ?_⟩;·
  rw [hE.listed k d];by_cases hk:i=k;·subst hk;rw [K8 hids];simp only [true_or,iff_true];exact .inr ⟨e,he,hei⟩
  ·
   rw [getD_set_ne d hk];refine or_congr Iff.rfl ⟨fun ⟨x,hx,hxk⟩=>?_,fun ⟨x,hx,hxk⟩=>⟨x,hmem x hx,hxk⟩⟩;rcases List.mem_append.1 hx with h | h;·exact ⟨x,ym _ h,hxk⟩
   ·
    rcases List.mem_cons.1 h with rfl | h;·exact absurd (hei.symm.trans hxk) hk
    ·exact ⟨x,yi _ h,hxk⟩
 ·rw [getD_set_ne true (yac (hni x hx))];exact hE.fresh x (hmem x hx)
 ·exact hE.nd.sublist (yDb _ (yNa ye (yja _ _)))
 ·exact hE.ndd.sublist (yDb _ (yNa ye (yja _ _)))):=h
def uah(h:p:=by
 iterate 13 refine V3 rfl rfl ?_
 ·
  skip
  refine V3 rfl rfl ?_;·
   skip
   apply Vbb∘Yna∘qah;·
    skip
    refine Jta rfl (Uba _ _) rfl rfl ?_;rintro v M U ⟨rfl,rfl,rfl⟩;apply Yna∘Xa2;refine Kq (M:=[]) (U:=R) zVc ?hp ?hL ?hR;case hp=>exact uab
    case hL=>exact ypa _
    case hR=>exact fun r hr=>(hRR2 r hr).mono fun r hr=>(h2S0 r hr).mono hW.sub):=h
def uai(h:p:=by
 refine ⟨by simp [hE.size], fun k dd => ?_, fun e he => ?_, fun e he => ?_, ?_, ?_⟩;·
  by_cases hk : j = k;·subst hk;rw [K8 hjl];simp
  ·rw [getD_set_ne dd hk, hE.listed k dd];simp [hk]
 ·
  rcases List.mem_cons.1 he with rfl | he;·exact ⟨oj,hoj,hT,hd,hg⟩
  ·exact hE.op e he
 ·
  rcases List.mem_cons.1 he with rfl | he;·exact hjd
  ·exact hE.fresh e he
 ·simp only [yJ, yia];exact ⟨fun hm=>by obtain ⟨e,he,hi⟩:=List.mem_map.1 hm;exact hjE e he hi,hE.nd⟩
 ·simp only [yJ, yia];refine ⟨fun hm=>?_,hE.ndd⟩;obtain ⟨e,he,hi⟩:=List.mem_map.1 hm;obtain ⟨oe,h1,h2,h3,h4⟩:=hE.op e he;exact hdw e.i oe h1 (hjE e he) (by rw [h3,hi])):=h
def uaj(h:p:=by
 iterate 3 apply (qab)
 apply qac∘Xdo∘Xcj;iterate 3 apply (qab)
 apply qac∘Xdo∘qaw∘Xaw;refine Jp [(1,.int _ _),(4,.pointer _),(6,.pointer _),(60,.slice _ _ _),(61,.int _ _),(62,.int _ _)] zh fun tq0=>?_;refine Vx ([8,9]++rg 62 23) ((⟨fun g=>[(62,.int .i64 ((g.1:Nat):Int))],fun g=>⟨b6,[.int .i64 (Jga p q g.1).low,.int .i64 (Jga p q g.1).high],90⟩ :: ⟨b4,[.int .i64 0,.int .i64 0],90⟩ :: ⟨b2,p.cells,225⟩ :: L,fun _=>R,fun g=>p.fans.l.length - g.1⟩:Head {k:Nat // k≤p.fans.l.length})) (⟨0,by omega⟩) zh zQa ztb ?_;rintro ⟨k,hk⟩ junk;try dsimp only
 apply (Xak);refine q_c ?_ ?_<;>intro hc1;·exact zXd
 exact zfe):=h
def uak(h:p:=by
 refine Ji [8,11,13] hT2 yd zc ?_;refine Jn ?_ ?_;·
  skip
  apply (U8);rintro v M U ⟨b26,rfl,rfl,hR26⟩;replace hR26:=hR26.symm;subst hR26;exact ubc
 refine Jn ?_ ?_;·
  skip
  apply (Y0);rintro v M U ⟨b29,rfl,rfl,hR29⟩;replace hR29:=hR29.symm;subst hR29;apply (qa1);exact uaP
 apply (qca);refine Ko rfl zwb rfl rfl ?_;rintro v M U ⟨b5,rfl,rfl,hR5⟩;replace hR5:=hR5.symm;subst hR5;apply (qa1);exact uaQ):=h
def ual(h:p:=by
 refine Ji [3,8,13] hT2 yd zc ?_;refine Jn ?_ ?_;·
  skip
  apply (Ys);rintro v M U ⟨b21,rfl,rfl,hR21⟩;replace hR21:=hR21.symm;subst hR21;apply (qa1);exact uaP
 refine Jn ?_ ?_;·
  skip
  apply (U8);rintro v M U ⟨b26,rfl,rfl,hR26⟩;replace hR26:=hR26.symm;subst hR26;exact ubd
 apply (qca);refine Ko rfl zwb rfl rfl ?_;rintro v M U ⟨b5,rfl,rfl,hR5⟩;replace hR5:=hR5.symm;subst hR5;apply (qa1);exact uaS):=h
def uam(h:p:=by
 refine Ji [3,8,11] hT2 yd zc ?_;refine Jn ?_ ?_;·
  skip
  apply (Ys);rintro v M U ⟨b21,rfl,rfl,hR21⟩;replace hR21:=hR21.symm;subst hR21;apply (qa1);exact uaQ
 refine Jn ?_ ?_;·
  skip
  apply (U8);rintro v M U ⟨b26,rfl,rfl,hR26⟩;replace hR26:=hR26.symm;subst hR26;exact ube
 apply qca∘Y0;rintro v M U ⟨b29,rfl,rfl,hR29⟩;replace hR29:=hR29.symm;subst hR29;apply (qa1);exact uaS):=h
def uan(h:p:=by
 first
  |exact q_k ⟨(k + 1,P,G),by dsimp only;omega,hP.stay hc4,hG.stay hc4⟩
  |have hre:V0 a s (k:Int) a.doors.l.length=⟨(a.mine.roads.l.getD k default).rest.low + y.low,(a.mine.roads.l.getD k default).rest.high + y.high⟩:=by
    cases hc:V0 a s (k:Int) a.doors.l.length with
    | mk lo hi=>rw [hc] at hy1 hy2;dsimp only at hy1 hy2;rw [hy1,hy2]
   (have hcc:¬ (a.mine.roads.l.getD k default).closed=true:=by simpa using hc4);exact q_k ⟨(k + 1,_,_),by dsimp only;omega,hP.next hcc ⟨by rw [yu,hre],rfl,hfk2.2⟩ (hS fk (yj hfk)) hok177,hG.next hcc za za hne hp hq za hok129 hok143⟩):=h
def uao(h:p:=by
 apply qbj∘Xcr;exact Kr ⟨(z - 1,(⟨o61,la.l ++ [z]⟩,op),S2),by dsimp only;omega,by
 dsimp only;have hn4:¬ (0≤x.above∧((sw.set z.toNat ⟨x.above,x.since,x.shown,x.closed,true⟩).getD x.above.toNat default).closed=true):=by rintro ⟨h1,h2⟩;first | omega | exact hc4 h2 | (rw [h2] at hc4;cases hc4)
 have e2:S2=(sw.set z.toNat ⟨x.above,x.since,x.shown,x.closed,true⟩):=by
  rcases yca (0≤x.above) with h1 | h1;·rw [hS2,if_pos h1,U5,if_neg (fun h2=>hn4 ⟨h1,h2⟩)]
  ·rw [hS2,if_neg h1]
 rw [hsu,if_neg hn4,e2,yka za],hok61,hok2⟩ zm zh zi ztb zx):=h
def uap(h:p:=by
 refine Ji [5] hT3 yd zc ?_;apply qca∘Kxf;rintro v M U ⟨o30,rfl,hok30,rfl,rfl⟩;apply (qa1);refine J7 hT3 yd zc rfl ?_;apply qbw∘Xc1;refine Jz ?_;first
  |exact Ju ⟨(o27,o30),hok27,hok30⟩ zm zh (yHa _) ye ztb
  |exact Ju ⟨(o27,o30),hok27,hok30⟩ zm zh (yla _ _ _) ye ztb):=h
def uaq(h:p:=by
 intro done hp;simp only [Kea,yn] at hp;obtain ⟨hn,hd⟩:=ih _ hp.2;have hr:i∈Region.ready .any ops.toArray done:=by simpa using hp.1.1
 obtain ⟨h0,_⟩:=mem_ready.1 hr;refine ⟨List.nodup_cons.2 ⟨fun hm=>?_,hn⟩,fun k hk=>?_⟩;·
  have := hd i hm;rcases yk i done.size with h' | h';·rw [K8 h'] at this;cases this
  ·simp [yA h'] at h0
 ·
  rcases List.mem_cons.1 hk with rfl | hk;·exact h0
  ·
   by_cases hik : i = k;·subst hik;exact h0
   ·have := hd k hk;rwa [getD_set_ne true hik] at this):=h
def uar(h:p:=by
 refine ⟨?_,?_,?_⟩;·
  obtain ⟨G', hG', hg⟩ := h2.G;refine ⟨G',hG',fun b hb=>?_⟩;rcases hg b hb with h | h | ⟨e,he,hb'⟩;·exact .inl h
  ·exact .inr (.inl h)
  ·exact .inr (.inr ⟨e,hp.mem_iff.2 he,hb'⟩)
 ·
  intro e he;rcases h2.own e he with ⟨e',he',hb'⟩ | h;·exact .inl ⟨e',hp.mem_iff.2 he',hb'⟩
  ·exact .inr h
 ·have k := h2.keep;refine ⟨k.os,k.tape,k.output,k.size,fun b hb hn=>k.block b hb fun ⟨e,he,hb'⟩=>hn ⟨e,hp.mem_iff.2 he,hb'⟩,k.frz⟩):=h
def uas(h:p:=by
 apply (qa1);refine Ji [3,5] hT2 yd zc ?_;refine Jn ?_ ?_;·
  skip
  apply (Ys);rintro v M U ⟨b21,rfl,rfl,hR21⟩;replace hR21:=hR21.symm;subst hR21;exact zhe
 apply qca∘Zva;rintro v M U ⟨r2,k2,rfl,g2,g2',hk2,he2,rfl,rfl⟩;refine ⟨zi,zw,?_⟩;apply Zwa∘Zta;exact uaS):=h
def uat(h:p:=by
 have:=Vt (i :: E.map (·.i)) (i :: rest) (List.nodup_cons.2 ⟨fun hm=>by obtain ⟨e,he,hi⟩:=List.mem_map.1 hm;exact hin' e he hi,hE.nd⟩) (fun x hx=>by
  rcases List.mem_cons.1 hx with rfl | hx;·simp
  ·obtain ⟨e, he, rfl⟩ := List.mem_map.1 hx;exact hEp e he)
 simpa using this):=h
def uau(h:p:=by
 obtain rfl:E=[]:=by cases E with | nil=>rfl | cons e E=>exact absurd (hEp e zo) zo
 obtain rfl:os=[]:=by cases os with | nil=>rfl | cons x l=>simp at hos
 exact Kdd hsel hal hos2 hpl hE hds (by simpa using hfu) (by simpa using hcov) hfr hst (hL2.trans hLc) (by rw [hK] at hdj;exact hdj)):=h
def uav(h:p:=by
 apply Xac∘qaz;refine J6 (Jc (U4 (Zuc ?_)));refine q_r (LL _) R zWc ?_;refine ⟨0,false,_,rfl,⟨(fun h=>by cases h),fun _=>⟨rfl,fun j h1 h2=>?_⟩⟩,rfl,rfl⟩;by_cases hj:j=0;·rw [hj,h00];exact hc0
 ·
  first
   |(exfalso;omega)
   |exact hm.no h1 h2 (yD _) zS):=h
def uaw(h:p:=by
 apply (qa1);refine Ji [5,13] hT2 yd zc ?_;refine Jn ?_ ?_;·
  skip
  apply (Zva);rintro v M U ⟨r2,k2,rfl,g2,g2',hk2,he2,rfl,rfl⟩;refine ⟨zi,zw,?_⟩;apply Zwa∘Zta;exact uaP
 exact zue):=h
def uax(h:p:=by
 apply (qa1);refine Ji [5,11] hT2 yd zc ?_;refine Jn ?_ ?_;·
  skip
  apply (Zva);rintro v M U ⟨r2,k2,rfl,g2,g2',hk2,he2,rfl,rfl⟩;refine ⟨zi,zw,?_⟩;apply Zwa∘Zta;exact uaQ
 exact zve):=h
def uay(h:p:=by
 intro x hx hxi;have hn:=hE.nd;rw [yO,yJ,yJa,yia] at hn;rcases List.mem_append.1 hx with h | h;·exact hn.2.2 x.i (List.mem_map.2 ⟨x,h,rfl⟩) e.i zo (by rw [hxi,hei])
 ·exact hn.2.1.1 (List.mem_map.2 ⟨x,h,by rw [hxi,hei]⟩)):=h
def uaz(h:p:=by
 refine ⟨by simp,fun r p hp=>?_⟩;rw [yB] at hp;split at hp;·cases hp;exact ⟨OwL.nil_ok,rfl⟩
 ·cases hp):=h
def uaA(h:p:=by
 intro hk;have:=Vt (E.map (·.i)) rest hE.nd (fun x hx=>by
  obtain ⟨e,he,rfl⟩:=List.mem_map.1 hx;rcases List.mem_cons.1 (hEp e he) with h | h;·exact absurd h (notE hk e he)
  ·exact h)
 simpa using this):=h
def uaB(h:p:=by
 by_cases hkj:V1 ops j=1;·exact hkj
 ·have := Vca (p := fun k => !Nat.beq k i) hE (fun e he => by simp [Une (hin' e he)]) hds hj hkj;exact absurd (yeb (List.all_eq_true.1 hkind j this)) hkj):=h
def uaC(h:p:=by
 obtain rfl:E=[]:=by cases E with | nil=>rfl | cons e E=>exact absurd (hEp e zo) zo
 obtain rfl:os=[]:=by cases os with | nil=>rfl | cons x l=>simp at hos
 exact J8f hpl hE hdj hfr hst fuel):=h
def uaD(h:p:=by
 refine kk _ _ _ w' ⟨.own g cap spare,?_,?_,?_,rfl⟩ hst';·rw [OwL.val];dsimp only;rw [hl];rfl
 ·rw [OwL.ok];dsimp only;rw [hl];exact hok'
 ·rw [hF,OwL.L];dsimp only;rw [← e]):=h
def uaE(h:p:=by
 rw [yh,yK,yh];split;·rename_i h;subst h;simp [hk]
 ·rename_i h;rw [if_neg (fun e=>h e.symm)]):=h
def uaF(h:p:=by
 have hl:=h.len;refine ⟨by simp [hl],fun j hj=>?_,fun j h1 h2=>?_⟩;·
  rw [yK];split;·rename_i e;rw [if_pos za,hx,e]
  ·exact h.don j za
 ·rw [yda za];exact h.non j za h2):=h
def uaG(h:p:=by
 apply qa1∘Yyf∘Jug;refine J7 hT8 yd zc rfl ?_;refine Jz ?_;first
  |exact Ju ⟨(b58,o60),hok60⟩ zm zh (yHa _) zka ztb
  |exact Ju ⟨(b58,o60),hok60⟩ zm zh yZa zka ztb):=h
def uaH(h:p:=by rw [hrun];obtain ⟨⟨G,hh,hg⟩,ho,hk⟩:=hs;refine (h.2 w G hh).mono ?_;rintro e w' ⟨v,M,U,rfl,hp,hst⟩;exact k v M U w' hp (St.trans ⟨⟨G,hh,hg⟩,ho,hk⟩ hg hst)):=h
def uaI(h:p:=by apply qca∘Jwe;rintro v M U ⟨rfl,rfl,rfl⟩;apply (qa1);refine Ji [2] hT3 yd zc ?_;apply qca∘U4f;rintro v M U ⟨o27,rfl,hok27,rfl,rfl⟩;apply qa1∘U5f;exact uap):=h
def uaJ(h:p:=by subst hji;refine hy.wpOp hi hZ ⟨⟨hS2,hS.imp (fun h=>?_) id⟩,H⟩;obtain ⟨k,hk,hl⟩:=List.any_eq_true.1 h;exact List.any_eq_true.2 ⟨k,hk,getD_set_true hl⟩):=h
def uaK(h:p:=by
 refine ⟨h.len,fun j hj=>?_,fun j h1 h2=>h.non j za h2⟩;rcases yk j i with h1 | h1;·exact h.don j h1
 ·
  obtain rfl : j = i := by omega
  rw [h.non j (yl _) hi,hx]):=h
def uaL(h:p:=by
 apply (Xax);exact Kr (⟨k + 1,by omega,fun j hj=>by
 rcases yk j k with h | h;·exact hal j h
 ·
  obtain rfl : j = k := by omega
  omega⟩) zm zh zi ztb zx):=h
def uaM(h:p:=by have := hfr.put (d := oj.dst) (by rw [hd]; simpa [dOk] using hdn) (.pointer (some ⟨w.heap.size, 0, none⟩));rw [hd] at this ⊢;exact this):=h
def uaN(h:p:=by
 exact Kr ⟨k + 1,by omega,fun j hj=>by
 rcases yk j k with h | h;·exact hal j h
 ·
  obtain rfl : j = k := by omega
  omega⟩ zm zh zi ztb zx):=h
def uaO(h:p:=by
 intro k hk d;rcases yk k done.size with h' | h';·exact .inl ((hE.listed k d).2 (.inl (by simp [h'] at hk ⊢;exact hk)))
 ·exact .inr h'):=h
def uaP(h:p:=by
 refine Ji [8,13] hT2 yd zc ?_;refine Jn ?_ ?_;·
  skip
  exact zme
 exact zie):=h
def uaQ(h:p:=by
 refine Ji [8,11] hT2 yd zc ?_;refine Jn ?_ ?_;·
  skip
  exact zne
 exact zje):=h
def uaR(h:p:=by first | exact q_k ⟨(k + 1,_),by dsimp only;omega,hF.next hc2 za hp hok94⟩ | exact q_k ⟨(k + 1,F),by dsimp only;omega,hF.stay zK⟩):=h
def uaS(h:p:=by
 refine Ji [3,8] hT2 yd zc ?_;refine Jn ?_ ?_;·
  skip
  exact zke
 exact zle):=h
def uaT(h:p:=by refine Ygb (w':=w.setRow b _) ?_ (kk undef M R _ ⟨rfl,rfl⟩ (hs.setRow hu));simp [execOp,hx,hy,Instr.storeAt,Instr.sureAddr,this]):=h
def uaU(h:p:=by refine q_j ⟨_,?_⟩;rw [Y5a];(repeat' split) <;> first | rfl | omega):=h
def uaV(h:p:=by refine hst.perm ?_;simp only [Jfc,yO,yJ,yq,yp];refine yfb _ ?_;exact (yZa (l₁:=E2.map fun e=>(⟨e.b,zT tb e.T,e.T⟩:Blk))).symm):=h
def uaW(h:p:=by
 apply Yna∘qav;first
  |(have hz:=hk3;exact q_j ⟨(bb,k3),hk3,fun _=>hg7⟩)
  |exact q_j ⟨(false,kk),hkk,fun h=>by cases h⟩):=h
def uaX(h:p:=by intro hk e he hi;obtain ⟨oe,h1,h2,_,_⟩:=hE.op e he;rw [hi] at h1;obtain rfl:oe=o':=yL (h1.symm.trans hio);exact hk (Jfb h2)):=h
def uaY(h:p:=by
 split at this;·cases this
 ·omega):=h
def uaZ(h:p:=by
 rcases (hE.listed i true).1 hl with h | ⟨e,he,hi⟩;·rw [h] at hi0;cases hi0
 ·exact absurd hi (notE hk e he)):=h
def ua0(h:p:=by
 rcases (hE.listed i true).1 hl with h | ⟨e,he,hi⟩;·rw [h] at hi0;cases hi0
 ·exact absurd hi (hin' e he)):=h
def ua1(h:p:=by refine q_i L R ?_;exact yb):=h
def ua2(h:p:=by
 intro w' hw';rw [hlc];split at hw';·rename_i h;rw [if_pos h];exact hw'
 ·rename_i h;rw [if_neg h];exact hw'):=h
def ua3(h:p:=by
 intro x hx;rcases List.mem_cons.1 (hEp x (hmem x hx)) with h | h;·exact absurd h (hni x hx)
 ·exact h):=h
def ua4(h:p:=by obtain ⟨od,oo,ot,op,oa,og⟩:=oj;simp only at hT;subst hT;simp [execOp,Instr.alloc,hz1,newVar,newRow]):=h
def ua5(h:p:=by rw [hfr.eval];exact Vkd (ops:=ops) (fun cs b=>yRa hsel i o' cs b hio) (fun e he=>(apart hk e he).1)):=h
def ua6(h:p:=by
 iterate 5 refine V3 rfl rfl ?_
 ·
  skip
  apply (Vbb);refine Uu (Jt zfb) rfl rfl ?_;·
   skip
   exact uah):=h
def ua7(h:p:=by refine Jh ?_;refine Jx zzc rfl ?_;apply (qbz);exact J6 ⟨rfl,⟨⟨t0,t1,t2⟩,rfl⟩,rfl⟩):=h
def ua8(h:p:=by simp [execOp,resolve,invoke,builtin]):=h
def ua9(h:p:=by rename_i h1;exact absurd h h1):=h
def uba(h:p:=by
 rcases List.mem_cons.1 (hEp e he) with h | h;·exact absurd h (notE hk e he)
 ·exact h):=h
def ubb(h:p:=by exact ⟨.nil,by rw [he];rfl,OwL.nil_ok,by rw [he];rfl,by rw [Ki];rfl,fun r hr=>Ja hr⟩):=h
def ubc(h:p:=by
 apply (qa1);refine Ji [11,13] hT2 yd zc ?_;refine Jn ?_ ?_;·
  skip
  exact zre
 exact zoe):=h
def ubd(h:p:=by
 apply (qa1);refine Ji [3,13] hT2 yd zc ?_;refine Jn ?_ ?_;·
  skip
  exact zse
 exact zpe):=h
def ube(h:p:=by
 apply (qa1);refine Ji [3,11] hT2 yd zc ?_;refine Jn ?_ ?_;·
  skip
  exact zte
 exact zqe):=h
def ubf(h:p:=by
 split at h3;·exact ⟨by omega,by omega,h4,by omega,by omega,by omega⟩
 ·omega):=h
def ubg(h:p:=by exact ⟨h1.of hI e.1 e.2.1 e.2.2.1 e.2.2.2.1 e.2.2.2.2,by rw [SH,e.1];exact h2⟩):=h
def ubh(h:p:=by intro hg4;replace hg4:=qb hg4;exact (Xam) zjd):=h
def ubi(h:p:=by intro hg4;replace hg4:=qb hg4;exact (Xaa) zhd):=h
def ubj(h:p:=by show (w.heap.push _)[b]?=_;rw [yOb,if_neg za]):=h
def ubk(h:p:=by
 intro e he;rcases List.mem_cons.1 he with rfl | he;·exact hjp
 ·exact hEp e he):=h
def ubl(h:p:=by intro i hi _;have:=List.all_eq_true.1 h4 i (List.mem_range.2 hi);simpa using this):=h
def ubm(h:p:=by exact q_k ⟨(k + 1,l.set P.num.toNat _),by dsimp only;omega,w2.next hP za hrf⟩):=h
def ubn(h:p:=by
 rw [Yia];split;·rename_i h;rw [h.1]
 ·rfl):=h
def ubo(h:p:=by
 rcases List.mem_append.1 hx with h | h;·exact ym _ h
 ·exact yi _ (yS _ h)):=h
def ubp(h:p:=by
 intro c w hs a next Q k
 rw [h c w hs];exact k v L R w ⟨rfl,rfl,rfl⟩ hs):=h
def yh:=@List.getD_eq_getElem?_getD
def yi:=@List.mem_append_right
def yj:=@List.mem_of_getElem?
def yk:=@Nat.lt_or_ge
def yl:=@Nat.le_refl
def ym:=@List.mem_append_left
def yn:=@Bool.and_eq_true
def yo:=@List.length_append
def yp:=@List.cons_append
def yq:=@List.append_assoc
def yr:=@List.getElem?_eq_none
def yt:=@List.getElem?_map
def yu:=@Int.toNat_natCast
def yv:=@List.nil_append
def yw:=@List.length_cons
def yx:=@List.Sublist.refl
def yy:=@List.length_set
def yz:=@List.length_map
def yA:=@Array.getElem?_eq_none
def yB:=@List.getElem?_replicate
def yC:=@List.getElem?_eq_getElem
def yD:=@Int.le_refl
def yE:=@Result.andThen_ok
def yF:=@List.findSome?_eq_none_iff
def yG:=@List.take_of_length_le
def yH:=@List.getElem?_set_self
def yI:=@List.exists_of_findSome?_eq_some
def yJ:=@List.map_cons
def yK:=@List.getElem?_set
def yL:=@Option.some.inj
def yM:=@List.flatMap_cons
def yN:=@List.getElem?_range
def yO:=@List.map_append
def yP:=@List.length_drop
def yQ:=@Nat.le_of_ble_eq_true
def yR:=@Int.tdiv_eq_ediv_of_nonneg
def yS:=@List.mem_cons_of_mem
def yT:=@Nat.zero_le
def yU:=@List.length_singleton
def yV:=@List.getElem?_append_left
def yW:=@List.sublist_append_right
def yX:=@List.getElem?_append_right
def yY:=@List.not_mem_nil
def yZ:=@List.append_nil
def yaa:=@List.mem_cons
def yba:=@Int.mul_nonneg
def yca:=@Classical.em
def yda:=@List.getElem?_set_ne
def yea:=@List.length_nil
def yfa:=@List.take_add_one
def yga:=@Sem.run_bind
def yha:=@List.eq_nil_of_length_eq_zero
def yia:=@List.nodup_cons
def yja:=@List.sublist_cons_self
def yka:=@Int.toNat_of_nonneg
def yla:=@List.perm_append_comm_assoc
def yma:=@Array.getElem?_setIfInBounds_ne
def yna:=@List.nodup_nil
def yoa:=@Int.mul_le_mul_of_nonneg_left
def ypa:=@List.nil_sublist
def yqa:=@Nat.le_trans
def yra:=@List.length_replicate
def ysa:=@List.getElem?_take
def yta:=@List.mem_of_mem_drop
def yua:=@Int.lt_or_le
def yva:=@Nat.succ_mul
def ywa:=@List.foldl_append
def yxa:=@List.ext_getElem?
def yya:=@List.mem_range
def yza:=@Int.mul_le_mul
def yAa:=@List.perm_append_comm
def yBa:=@Sem.run_pure
def yCa:=@Nat.zero_add
def yDa:=@Nat.and_two_pow_sub_one_eq_mod
def yEa:=@List.take_append_of_le_length
def yFa:=@Option.bind_some
def yGa:=@Option.bind_eq_some_iff
def yHa:=@List.Perm.refl
def yIa:=@List.set_set
def yJa:=@List.nodup_append
def yKa:=@Array.getD_eq_getD_getElem?
def yLa:=@Option.map_some
def yMa:=@List.getElem_of_mem
def yNa:=@List.Sublist.append
def yOa:=@Int.fdiv_eq_ediv_of_nonneg
def yPa:=@List.ne_nil_of_mem
def yQa:=@List.mem_cons_self
def yRa:=@Region.noSelect_spec
def ySa:=@Nat.mul_le_mul_right
def yTa:=@List.find?_range_eq_some
def yUa:=@List.mem_append
def yVa:=@List.eq_of_mem_replicate
def yWa:=@Option.some.injEq
def yXa:=@Int.mul_le_mul_of_nonneg_right
def yYa:=@List.length_take
def yZa:=@List.perm_middle
def yab:=@List.take_length
def ybb:=@List.length_tail
def ycb:=@List.drop_eq_nil_of_le
def ydb:=@Nat.lt_of_lt_of_le
def yeb:=@Nat.eq_of_beq_eq_true
def yfb:=@List.Perm.append_left
def ygb:=@List.size_toArray
def yhb:=@Bool.not_eq_true'
def yib:=@Array.replicate_succ
def yjb:=@Array.replicate_zero
def ykb:=@List.mem_or_eq_of_mem_set
def ylb:=@List.map_toArray
def ymb:=@Nat.mod_eq_of_lt
def ynb:=@List.append_toArray
def yob:=@List.replicate_succ
def ypb:=@List.map_nil
def yqb:=@Nat.le_mul_of_pos_right
def yrb:=@Nat.eq_zero_or_pos
def ysb:=@List.set_cons_zero
def ytb:=@Bool.eq_iff_iff
def yub:=@List.getElem?_cons_zero
def yvb:=@World.frozen?_of_block
def ywb:=@List.push_toArray
def yxb:=@Nat.add_mul
def yyb:=@List.length_range
def yzb:=@Nat.beq_eq
def yAb:=@List.drop_zero
def yBb:=@Array.getElem?_append
def yCb:=@Region.free_spec
def yDb:=@List.Sublist.map
def yEb:=@BitVec.toNat_and
def yFb:=@List.drop_append_of_le_length
def yGb:=@List.mem_of_mem_tail
def yHb:=@List.replicate_succ'
def yIb:=@List.mem_of_mem_take
def yJb:=@Nat.mul_le_mul_left
def yKb:=@List.range_succ
def yLb:=@List.flatMap_append
def yMb:=@Int.ediv_nonneg
def yNb:=@List.foldl_cons
def yOb:=@Array.getElem?_push
def yPb:=@Array.length_toList
def yQb:=@Bool.or_eq_true
def yRb:=@Nat.add_comm
def ySb:=@List.findSome?_map
def yTb:=@Int.sub_eq_add_neg
def yUb:=@List.mem_singleton
def yVb:=@Int.tmod_lt_of_pos
def yWb:=@Code.wpIn_mono
def yXb:=@Nat.lt_trichotomy
def yYb:=@List.flatten_cons
def yZb:=@Int.mul_assoc
def yac:=@Ne.symm
def ybc:=@Nat.add_assoc
def ycc:=@Int.ediv_le_self
def ydc:=@Option.getD_some
def yec:=@Nat.sub_self
def yfc:=@Bool.or_true
def ygc:=@Nat.mul_comm
def yg(h:p:=by exact fun s hs=>by cases hs):=h
def yf(h:p:=by exact fun _=>rfl):=h
def ye {α:Type}{l:List α}:l.Sublist l:=yx l
def yd {α:Type}{l:List α}:[].Sublist l:=ypa l
def ya(h:p:=by exact ⟨by refine congrArg Value.bool ?_;rw [ytb];simp,rfl,rfl⟩):=h
def yb(h:p:=by exact ⟨by refine congrArg (Value.int .i64) ?_;rw [Ks,Kk];(repeat' split) <;> omega,rfl,rfl⟩):=h
def yc(h:p:=by exact ⟨by refine congrArg (Value.int .i64) ?_;rw [Uka];(repeat' split) <;> omega,rfl,rfl⟩):=h
def zad(h:p:=by refine J7 hT2 yd zc rfl ?_;apply (qbg);refine Jz ?_;exact Ju (⟨b21,b26,b29,b5⟩,⟨(r2,k2),⟨g2,g2'⟩,hk2,he2⟩) zm zh zq ye ztb):=h
def zbd(h:p:=by (iterate 14 apply (qap));apply (Xbw);refine Ua rfl ?_;apply qae∘Yha∘Xaz;refine q_r L R zQc ?_;(have he:confirmE s c.l fl.l r p t=19:=by rw [confirmE,if_neg hc0,if_neg za,if_pos zW]);exact ⟨by rw [Vw he za,he],rfl,rfl⟩):=h
def zcd(h:p:=by intro hg4;replace hg4:=qb hg4;exact (Xa5) qai):=h
def zdd(h:p:=by apply qbp∘Xdn∘V8c;refine Jz (Jc (U4 (J8 (Ke ?_))));refine q_r L R zNc ?_;(have hpf:Jca l.l (n + 1) i=if x.left=0∧x.right=0∧0≤x.cond∧x.cond < 64 then some (i,1) else none:=by rw [Jca,if_neg hc0,← hx,if_pos hc1]);exact Jtf):=h
def zed(h:p:=by refine J7 hT6 yd zc rfl ?_;apply (qbg);refine Jz ?_;exact Ju (b49,b53,b12) zm zh zq ye ztb):=h
def zfd(h:p:=by intro hg8;replace hg8:=qb hg8;(have hsg:=Jw (l:=s.sensors.l) (k:=c.target.toNat) default (by (try simp at hg8);omega));apply (Xbq);(have htt:0≤c.target∧c.target < s.sensors.l.length:=by (try simp at hg8);omega);exact (Uff∘Xbv∘qbq) qai):=h
def zgd(h:p:=by intro hg3;replace hg3:=qb hg3;exact (Xb8) qai):=h
def zhd(h:p:=by exact (qbq) qai):=h
def zid(h:p:=by refine Ku zJ rfl rfl rfl rfl ?_;apply U1f∘qcv∘qba∘Ysf;rintro v M U ⟨rfl,rfl⟩;apply (qa1);refine Jz (Jc (Jr (Jh ?_)));apply Y0c∘Xbl;refine q_r (q.L 3 Jo ++ ((⟨p.o,(p.l.set s.toNat ⟨x.above,x.since,t,x.closed,x.late⟩).set s.toNat ⟨x.above,x.since,t,x.closed,lt⟩⟩:OwL XSwitch).L 76 XSwitch.cells ++ L)) R zPc ?_;exact Ylf):=h
def zjd(h:p:=by exact (qbz) qai):=h
def zkd(h:p:=by refine Jx zwc rfl ?_;apply (qac);refine Jx (Kv tb zOb rfl rfl zf zb) rfl ?_;refine Jx (Jf tb rfl rfl rfl rfl hsR (i:=c'.toNat) za za) rfl ?_;apply (qb0);refine Jx (Yv tb rfl rfl rfl hsR hg rfl) rfl ?_;refine Ura (v:=Value.int _ _) tb rfl zOb rfl rfl zy rfl rfl zb ?_;exact J6 ⟨rfl,⟨t0,t1,t2⟩,rfl⟩):=h
def zld(h:p:=by rw [← yq,← yq];exact List.Perm.append_right _ yAa):=h
def zmd(h:p:=by refine Jqa zxc rfl ?_;rintro v M U ⟨o103,rfl,hok103,rfl,rfl⟩;apply qaa∘Jpg∘qbm∘qak∘Xcl;refine q_r ((⟨o103,l.l⟩:OwL Int).L 5 Jea ++ (out.L 118 XFrame.cells ++ L)) S (U1 rfl zjb zCc) ?_;exact J2g):=h
def znd(h:p:=by (iterate 3 apply (qbs));apply qad∘Xbk∘qam;(iterate 3 apply (qaa));refine Jx zmc rfl ?_;apply qar∘qah∘qad∘Xbk∘qdb;refine q_r L R zNc ?_;exact Y9f):=h
def zod(h:p:=by apply qa8∘Xam;refine q_l rfl zbc ?_;apply (qaq);intro b9;apply Xay∘Xbq∘Xdo;refine J6 (Jc (Jh ?_));apply Xbq∘Xdo∘Xa7;exact q_k ⟨k + 1,by omega⟩):=h
def zpd(h:p:=by exact ⟨0,by rw [he],fun h=>by omega,rfl,Jd _⟩):=h
def zqd(h:p:=by apply qad∘Xa7;exact Kr ⟨k + 1,by omega⟩ zm zua zi ztb zx):=h
def zrd(h:p:=by exact ⟨rfl,rfl,rfl⟩):=h
def zsd(h:p:=by exact (Xcb) qai):=h
def ztd(h:p:=by intro hg5;replace hg5:=qb hg5;exact (Xcp) qai):=h
def zud(h:p:=by refine Ug (Kw (Ux (Kd ?_)));exact Ubc ⟨(bad,good,_),by dsimp only;omega,hbf,hbr,fun h=>by first | (exfalso;have h':good < Kcb up start:=h;omega) | simpa using hc2⟩ zNa zh zi ztb):=h
def zvd(h:p:=by rintro v M U ⟨p,S,rfl,hpk,hpl,rfl,rfl⟩;apply Xa3∘qc4∘Xah;refine q_r (p.L 3 Jo ++ L) (S ++ R) zRc ?_;exact ⟨p,S,rfl,hpk,hpl,rfl,rfl⟩):=h
def zwd(h:p:=by apply qbj∘Xdf;exact q_k ⟨(m + 1,k4,b9',q9,x9,l9,S9),⟨by dsimp only;omega,hk4⟩,Yac hx9s hx9R (fun r hr=>(hC.sub r hr).mono hS9) hPB9 hB9.2 hM9' hbo9⟩):=h
def zxd(h:p:=by apply (Xby);refine q_i L (Zma n.pipes :: Yga n.at_ :: (S ++ R)) ?_;exact U9f):=h
def zyd(h:p:=by exact (qaj) qai):=h
def zzd(h:p:=by (obtain rfl:k=l.l.length:=by omega);apply Xc5∘Xah;refine q_i L R ?_;exact ⟨by rw [yG (yl _)],rfl,rfl⟩):=h
def zAd(h:p:=by apply qay∘qab∘Kuf∘Xbh;refine J6 (Jk (Jc (Jr (Jh ?_))));apply Ygc∘Xbl;refine q_r L R zPc ?_;exact J9g):=h
def zBd(h:p:=by rintro v M U ⟨r,rfl,hr,rfl,rfl⟩;apply qbz∘Xa2;refine q_b L R ?_;exact ⟨congrArg Value.bool (decide_eq_decide.2 hr),rfl,rfl⟩):=h
def zCd(h:p:=by rintro v M U ⟨z,ok,y',rfl,hF,rfl,rfl⟩;apply Xa3∘qad∘Xa2;refine q_r L R zWc ?_;exact ⟨z,ok,rfl,hF,rfl,rfl⟩):=h
def zDd(h:p:=by intro hg14;replace hg14:=qb hg14;exact (Xa5) qai):=h
def zEd(h:p:=by refine Ug (Kw (Kd (Jc (Jh ?_))));apply (Xcr);exact q_k ⟨(z - 1,(la,op),sw),by dsimp only;omega,by dsimp only;rw [hsu,if_neg zTa],hlk,hok2⟩):=h
def zFd(h:p:=by apply (Xa6);refine q_i [cblk c x k] R ?_;exact ⟨0,k,rfl,by omega,fun _=>by omega,fun _=>rfl,hk,fun _=>⟨rfl,rfl⟩,rfl,rfl⟩):=h
def zGd(h:p:=by intro hg4;replace hg4:=qb hg4;exact (Xbj) qai):=h
def zHd(h:p:=by refine q_r L R zXc ?_;(have he:Vp S.l f.tele t=6:=by rw [Vp,if_neg hE1,hadr,if_neg hE2,if_neg za,if_pos za]);exact Ule):=h
def zId(h:p:=by obtain ⟨y,hy,rfl⟩:=List.mem_map.1 hx;obtain ⟨p,hp,rfl⟩:=List.mem_map.1 hy;exact (hS2 p hp).mono fun r h=>Ja (by simp [h])):=h
def zJd(h:p:=by refine Ka (Jk (Jc (Jr (Jh ?_))));apply qad∘qad∘Xa2;refine q_r L R zNc ?_;exact Yuf):=h
def zKd(h:p:=by exact h2.mono fun v L'' U ⟨M,e,⟨a1,a2⟩,a3⟩=>⟨a1,by rw [← a2,yZ] at e;exact e,a3⟩):=h
def zLd(h:p:=by exact (qb4) qai):=h
def zMd(h:p:=by apply (qad);refine J6 (Jk ?_);exact qc0):=h
def zNd(h:p:=by apply (Xa1);refine Jx (Vze rfl rfl (Ytf za)) rfl ?_;exact (qad∘qcs∘Xcr) Ywf):=h
def zOd(h:p:=by apply (Xax);exact q_k ⟨k0 + 1,Zk hp0 za (by first | exact Kkc hp za za | exact Ktc hp za za hq za)⟩):=h
def zPd(h:p:=by refine Ka (Jk (Jc (Jr (Jh ?_))));apply Ygc∘Xbl;refine q_r L R zPc ?_;exact Yvf):=h
def zQd(h:p:=by rw [yt] at hx;obtain ⟨p,hp,rfl⟩:=Option.map_eq_some_iff.1 hx;exact (hG.ok v p hp).2):=h
def zRd(h:p:=by exact k e a' W' t' L'' R'' hq hf' (h.step hh hd hl hs')):=h
def zSd(h:p:=by refine Ji [8] hT2 yd zc ?_;apply qca∘U8;rintro v M U ⟨b26,rfl,rfl,hR26⟩;(replace hR26:=hR26.symm;subst hR26);exact (qa1∘Um) zad):=h
def zTd(h:p:=by apply qa1∘Um;refine Ji [13] hT2 yd zc ?_;apply (qca);refine Ko rfl zwb rfl rfl ?_;rintro v M U ⟨b5,rfl,rfl,hR5⟩;(replace hR5:=hR5.symm;subst hR5);exact (qa1) zad):=h
def zUd(h:p:=by apply (qa1);refine Ji [11] hT2 yd zc ?_;apply qca∘Y0;rintro v M U ⟨b29,rfl,rfl,hR29⟩;(replace hR29:=hR29.symm;subst hR29);exact (qa1∘Um) zad):=h
def zVd(h:p:=by apply (qa1);refine Ji [3] hT2 yd zc ?_;apply qca∘Ys;rintro v M U ⟨b21,rfl,rfl,hR21⟩;(replace hR21:=hR21.symm;subst hR21);exact (qa1∘Um) zad):=h
def zWd(h:p:=by (have hbt:b=true:=by cases b with | true=>rfl | false=>simp at hc5);have hmb:=(Uaa _ _ _ _ (hP.yes hbt)).1;rw [hP.yes hbt] at hpf;dsimp only at hpf;(rw [if_pos (by rw [hbt] at hc5;simp at hc5;omega)] at hpf);apply qbv∘Xat∘qa9;refine Jy rfl (ih (m - 1) _ za za za) rfl ?_;rintro v M U ⟨f,q,b2,rfl,hP2,rfl,rfl⟩;have hPb2:=hP2.bnd;refine Jx zCb rfl ?_;exact znd):=h
def zXd(h:p:=by have hx:=Jw (l:=p.fans.l) (k:=k) default za;have hdb:=Vra hp hq k za;have hfo:=hp.fan _ _ hx;have hsb:=V0a hfo (p.fans.l.getD k default).state q;apply qbb∘qa3∘Xdg;intro b8;exact (Xay∘qab) zod):=h
def zYd(h:p:=by apply qa1∘Jae;refine Ji [9] hT6 yd zc ?_;apply (qca);refine Ko rfl zwb rfl rfl ?_;rintro v M U ⟨b12,rfl,rfl,hR12⟩;(replace hR12:=hR12.symm;subst hR12);exact (qa1) zed):=h
def zZd(h:p:=by apply (qa1);refine Ji [7] hT6 yd zc ?_;apply qca∘Jcc;rintro v M U ⟨b53,rfl,rfl,hR53⟩;(replace hR53:=hR53.symm;subst hR53);exact (qa1∘Jae) zed):=h
def zae(h:p:=by apply (qa1);refine Ji [3] hT6 yd zc ?_;apply qca∘Jcc;rintro v M U ⟨b49,rfl,rfl,hR49⟩;(replace hR49:=hR49.symm;subst hR49);exact (qa1∘Jae) zed):=h
def zbe(h:p:=by intro hg3;replace hg3:=qb hg3;exact (qaa∘Xab) zjd):=h
def zce(h:p:=by intro hg15;replace hg15:=qb hg15;(have hbt:b=true:=by cases b with | true=>rfl | false=>simp at hg15);have hmb:=(Uaa _ _ _ _ (hP.yes hbt)).1;exact (Xam∘qa9) zhd):=h
def zde(h:p:=by (iterate 3 apply (qap));apply (Xbi);(iterate 4 apply (qap));exact (Xbi) zbd):=h
def zee(h:p:=by intro hg9;replace hg9:=qb hg9;exact zsd):=h
def zfe(h:p:=by (obtain rfl:k=p.fans.l.length:=by omega);apply qbk∘Xde;refine q_r L R zDc ?_;exact zrd):=h
def zge(h:p:=by (obtain rfl:k=x.l.length:=by omega);apply Xc5∘Xah;refine q_i L R ?_;exact zrd):=h
def zhe(h:p:=by apply (qa1);refine Ji [5] hT2 yd zc ?_;apply qca∘Zva;rintro v M U ⟨r2,k2,rfl,g2,g2',hk2,he2,rfl,rfl⟩;refine ⟨zi,zw,?_⟩;exact (Zwa∘Zta) zSd):=h
def zie(h:p:=by apply (qca);refine Ko rfl zwb rfl rfl ?_;rintro v M U ⟨b5,rfl,rfl,hR5⟩;(replace hR5:=hR5.symm;subst hR5);exact (qa1) zSd):=h
def zje(h:p:=by apply qca∘Y0;rintro v M U ⟨b29,rfl,rfl,hR29⟩;(replace hR29:=hR29.symm;subst hR29);exact (qa1) zSd):=h
def zke(h:p:=by apply (Ys);rintro v M U ⟨b21,rfl,rfl,hR21⟩;(replace hR21:=hR21.symm;subst hR21);exact (qa1) zSd):=h
def zle(h:p:=by apply qca∘U8;rintro v M U ⟨b26,rfl,rfl,hR26⟩;(replace hR26:=hR26.symm;subst hR26);exact zVd):=h
def zme(h:p:=by apply (U8);rintro v M U ⟨b26,rfl,rfl,hR26⟩;(replace hR26:=hR26.symm;subst hR26);exact zTd):=h
def zne(h:p:=by apply (U8);rintro v M U ⟨b26,rfl,rfl,hR26⟩;(replace hR26:=hR26.symm;subst hR26);exact zUd):=h
def zoe(h:p:=by apply (qca);refine Ko rfl zwb rfl rfl ?_;rintro v M U ⟨b5,rfl,rfl,hR5⟩;(replace hR5:=hR5.symm;subst hR5);exact zUd):=h
def zpe(h:p:=by apply (qca);refine Ko rfl zwb rfl rfl ?_;rintro v M U ⟨b5,rfl,rfl,hR5⟩;(replace hR5:=hR5.symm;subst hR5);exact zVd):=h
def zqe(h:p:=by apply qca∘Y0;rintro v M U ⟨b29,rfl,rfl,hR29⟩;(replace hR29:=hR29.symm;subst hR29);exact zVd):=h
def zre(h:p:=by apply (Y0);rintro v M U ⟨b29,rfl,rfl,hR29⟩;(replace hR29:=hR29.symm;subst hR29);exact zTd):=h
def zse(h:p:=by apply (Ys);rintro v M U ⟨b21,rfl,rfl,hR21⟩;(replace hR21:=hR21.symm;subst hR21);exact zTd):=h
def zte(h:p:=by apply (Ys);rintro v M U ⟨b21,rfl,rfl,hR21⟩;(replace hR21:=hR21.symm;subst hR21);exact zUd):=h
def zue(h:p:=by apply (qca);refine Ko rfl zwb rfl rfl ?_;rintro v M U ⟨b5,rfl,rfl,hR5⟩;(replace hR5:=hR5.symm;subst hR5);exact zhe):=h
def zve(h:p:=by apply qca∘Y0;rintro v M U ⟨b29,rfl,rfl,hR29⟩;(replace hR29:=hR29.symm;subst hR29);exact zhe):=h
def zfb(h:p:=by exact show _=Value.bool _ from rfl):=h
def zgb(h:p:=by exact show _=Value.int _ _ from rfl):=h
def zhb(h:p:=by exact show _=Value.slice _ _ _ from rfl):=h
def zib(h:p:=by exact Jq (row:=[_,_,_,_,_,_,_,_,_,_,_,_,_,_,_,_,_,_,_,_,_,_,_]) tb rfl rfl rfl zf zb zb):=h
def zjb(h:p:=by exact Jq (row:=[_,_]) tb rfl rfl rfl zf zb zb):=h
def zkb(h:p:=by exact Jm (row:=[_,_,_]) tb rfl rfl rfl zf zb zb):=h
def zlb(h:p:=by exact Jm (row:=[_,_,_,_,_,_,_,_,_,_,_,_,_,_,_,_,_,_,_,_,_,_,_]) tb rfl rfl rfl zf zb zb):=h
def zmb(h:p:=by exact Jq (row:=[_,_,_]) tb rfl rfl rfl zf zb zb):=h
def znb(h:p:=by exact Jq (row:=[_,_,_,_,_]) tb rfl rfl rfl zf zb zb):=h
def zob(h:p:=by exact Jm (row:=[_,_,_,_,_,_,_,_]) tb rfl rfl rfl zf zb zb):=h
def zpb(h:p:=by exact J0 (qs:=[(0,(Value.int _ _).cells.toList),(1,(Value.int _ _).cells.toList)]) (out:=[_,_]) tb rfl rfl rfl rfl rfl rfl rfl):=h
def zqb(h:p:=by exact Jm (row:=[_,_,_,_,_]) tb rfl rfl rfl zf zb zb):=h
def zrb(h:p:=by exact Kf (qs:=[(0,(Value.slice _ _ _).cells.toList),(1,(Value.slice _ _ _).cells.toList)]) (out:=[_,_]) tb rfl rfl rfl rfl):=h
def zsb(h:p:=by exact Ja (.head _)):=h
def ztb(h:p:=by exact Jd _):=h
def zub(h:p:=by exact K7 tb rfl rfl rfl):=h
def zvb(h:p:=by exact Jq (row:=[_,_,_,_]) tb rfl rfl rfl zf zb zb):=h
def zwb(h:p:=by exact J4 tb rfl):=h
def zxb(h:p:=by exact K4 zf rfl rfl):=h
def zyb(h:p:=by exact Kc tb (p) rfl rfl rfl zj zg yf zg zb):=h
def zzb(h:p:=by exact J0 (qs:=[(0,(Value.agg _).cells.toList)]) (out:=[_,_,_,_]) tb rfl rfl rfl rfl rfl rfl rfl):=h
def zAb(h:p:=by exact J0 (qs:=[(0,(Value.agg _).cells.toList)]) (out:=[_,_,_]) tb rfl rfl rfl rfl rfl rfl rfl):=h
def zBb(h:p:=by exact Kda tb rfl rfl rfl):=h
def zCb(h:p:=by exact Jt rfl):=h
def zDb(h:p:=by exact Kf (qs:=[(0,(Value.int _ _).cells.toList),(1,(Value.int _ _).cells.toList)]) (out:=[_,_]) tb rfl rfl rfl rfl):=h
def zEb(h:p:=by exact show _=Value.pointer _ from rfl):=h
def zFb(h:p:=by exact Kca c.target (s.sensors.l.length:Int) _ _):=h
def zGb(h:p:=by exact Kf (qs:=[(0,(Value.agg _).cells.toList),(1,(Value.slice _ _ _).cells.toList),(2,(Value.slice _ _ _).cells.toList),(4,(Value.slice _ _ _).cells.toList)]) (out:=[_,_,_,_,_,_,_,_]) tb rfl rfl rfl rfl):=h
def zHb(h:p:=by exact Kv tb rfl rfl rfl zf zb):=h
def zIb(h:p:=by exact Jm (row:=[_,_]) tb rfl rfl rfl zf zb zb):=h
def zJb(h:p:=by exact K0 rfl rfl):=h
def zKb(h:p:=by exact Kf (qs:=[]) (out:=[_,_,_]) tb rfl rfl rfl rfl):=h
def zLb(h:p:=by exact J2 rfl):=h
def zMb(h:p:=by exact J0 (qs:=[(0,(Value.int _ _).cells.toList)]) (out:=[_]) tb rfl rfl rfl rfl rfl rfl rfl):=h
def zNb(h:p:=by exact Yw tb rfl rfl rfl rfl rfl rfl rfl za za):=h
def zOb(h:p:=by exact show _=Value.pointer (some ⟨bs,0,none⟩) from t1):=h
def zPb(h:p:=by exact Kf (qs:=[(0,(Value.int _ _).cells.toList),(1,(Value.int _ _).cells.toList),(2,(Value.slice _ _ _).cells.toList)]) (out:=[_,_,_]) tb rfl rfl rfl rfl):=h
def zQb(h:p:=by exact Ja (.tail _ (.head _))):=h
def zRb(h:p:=by exact Jv tb ((⟨pc.o,cl⟩:OwL XCut)) _ rfl rfl rfl rfl zg (i:=k4) zk zu):=h
def zSb(h:p:=by exact J0 (qs:=[(0,(Value.agg _).cells.toList),(1,(Value.agg _).cells.toList)]) (out:=[_,_,_,_]) tb rfl rfl rfl rfl rfl rfl rfl):=h
def zTb(h:p:=by exact Kf (qs:=[(0,(Value.bool _).cells.toList),(1,(Value.int _ _).cells.toList)]) (out:=[_,_,_]) tb rfl rfl rfl rfl):=h
def zUb(h:p:=by exact Zq x _ _ (.of hI hx) hR):=h
def zVb(h:p:=by exact Y1 (f:=blc) (x:=false) rfl _):=h
def zWb(h:p:=by exact show Kx s=Kx s' from h):=h
def zXb(h:p:=by exact Un c.level _ _):=h
def zYb(h:p:=by exact Jv tb (p) _ rfl rfl rfl rfl zg (i:=s.toNat) zk zu):=h
def zZb(h:p:=by exact Kca c.target (s.air.mine.roads.l.length:Int) _ _):=h
def zac(h:p:=by exact Yqa rfl rfl):=h
def zbc(h:p:=by exact Vid (p.fans.l.getD k default).fan (p.fans.l.getD k default).state q _ _ (hm.blow hx) hfo hq):=h
def zcc(h:p:=by exact J0 (qs:=[(0,(Value.agg _).cells.toList)]) (out:=[_,_,_,_,_]) tb rfl rfl rfl rfl rfl rfl rfl):=h
def zdc(h:p:=by exact Zbb (⟨s,t,h,x.dropped,pm.arr,w2,c2,f2,(Je g p t).rest,q.arr⟩:XSta) g.air _ _ hv2 hA2):=h
def zec(h:p:=by exact Kc tb ((⟨.own b13 l.l.length [],vs⟩:OwL Int)) rfl rfl rfl zj zg yf zg zb):=h
def zfc(h:p:=by exact Kn (f:=XSwitch.cells) (xs:=f.switches) tb rfl rfl rfl ze rfl rfl (hsR) yf za):=h
def zgc(h:p:=by exact Jm (row:=[_,_,_,_]) tb rfl rfl rfl zf zb zb):=h
def zhc(h:p:=by exact show _=clL b8 b5 b3 n o10 ps.l u L (ps.l.getD u.toNat 0) from by rw [clL,Zka];rfl):=h
def zic(h:p:=by exact Jcb p (ps.l.getD p.road.fr.toNat 0 - ps.l.getD p.road.to.toNat 0) _ _ hpI hE.ok):=h
def zjc(h:p:=by exact Yoa p (ps.l.getD p.road.fr.toNat 0 - ps.l.getD p.road.to.toNat 0) _ _ hpI hE.ok):=h
def zkc(h:p:=by exact Kf (qs:=[(0,(Value.int _ _).cells.toList)]) (out:=[_,_,_,_]) tb rfl rfl rfl rfl):=h
def zlc(h:p:=by exact Kf (qs:=[(0,(Value.agg _).cells.toList)]) (out:=[_,_,_,_]) tb rfl rfl rfl rfl):=h
def zmc(h:p:=by exact Vwa rfl rfl):=h
def znc(h:p:=by exact Kf (qs:=[(1,(Value.bool _).cells.toList)]) (out:=[_,_]) tb rfl rfl rfl rfl):=h
def zoc(h:p:=by exact Kf (qs:=[(0,(Value.int _ _).cells.toList)]) (out:=[_]) tb rfl rfl rfl rfl):=h
def zpc(h:p:=by exact Jl tb rfl rfl rfl rfl (i:=(a.mine.roads.l.getD k default).fr.toNat) zk za):=h
def zqc(h:p:=by exact Jl tb rfl rfl rfl rfl (i:=(a.mine.roads.l.getD k default).to.toNat) zk za):=h
def zrc(h:p:=by exact Kn (f:=Jo) (xs:=f.zones) tb rfl rfl rfl ze rfl rfl (hzR) yf za):=h
def zsc(h:p:=by exact Jl tb rfl rfl rfl rfl (i:=(a.fans.l.getD k default).road.toNat) zk za):=h
def ztc(h:p:=by exact Jw default za):=h
def zuc(h:p:=by exact Jl tb rfl rfl rfl rfl (i:=(m.roads.l.getD k default).fr.toNat) zk za):=h
def zvc(h:p:=by exact Jl tb rfl rfl rfl rfl (i:=(m.roads.l.getD k default).to.toNat) zk za):=h
def zwc(h:p:=by exact K7 tb rfl (show _=Value.pointer (some ⟨bf,0,none⟩) from t2) rfl):=h
def zxc(h:p:=by exact Kn (f:=Jea) (xs:=l) tb rfl rfl rfl ze rfl rfl (hlR) yf za):=h
def zyc(h:p:=by exact Utb rfl rfl):=h
def zzc(h:p:=by exact Kv tb t1 rfl rfl zf zb):=h
def zAc(h:p:=by exact show _=R1 by rw [hR1e]):=h
def zBc(h:p:=by exact Jg zgb):=h
def zCc(h:p:=by exact Jg zhb):=h
def zDc(h:p:=by exact Yc rfl zjb):=h
def zEc(h:p:=by exact Kra g p (⟨s,x.time,h,x.dropped,pm.arr,w,c,f,x.rest,pl.arr⟩:XSta) pl b6 t _ _ hI hIs (hK.site.mono hS0) zsb (hK.watches.mono hS0) (hK.cuts.mono hS0) (hK.feeder.mono hS0) hK.kl ht):=h
def zFc(h:p:=by exact Jg zfb):=h
def zGc(h:p:=by exact Jv tb ((⟨.own b20 a.mine.roads.l.length [],l⟩:OwL XSpan)) _ rfl rfl ((show _=Value.slice _ _ _ from rfl).trans (Uq hll)) rfl zg (i:=P.num.toNat) zk zu):=h
def zHc(h:p:=by exact Jv tb ((⟨o26,O⟩:OwL XSpan)) _ rfl rfl ((show _=Value.slice _ _ _ from rfl).trans (by simp only [OwL.val,z1])) rfl zg (i:=s.target.toNat) zk zu):=h
def zIc(h:p:=by exact Jv tb ((⟨.own b29 fl.l.length [],G⟩:OwL Bool)) _ rfl rfl ((show _=Value.slice _ _ _ from rfl).trans (Uq z2)) rfl zg (i:=s.target.toNat) zk zu):=h
def zJc(h:p:=by exact Jv tb ((⟨.own b13 l.l.length [],vs⟩:OwL Int)) _ rfl rfl ((show _=Value.slice _ _ _ from rfl).trans (Uq hvl)) rfl zg (i:=x.left.toNat) zk zu):=h
def zKc(h:p:=by exact Jv tb ((⟨.own b13 l.l.length [],vs⟩:OwL Int)) _ rfl rfl ((show _=Value.slice _ _ _ from rfl).trans (Uq hvl)) rfl zg (i:=k) zk zu):=h
def zLc(h:p:=by exact Jv tb ((⟨.own b w.l.length [],vs⟩:OwL Int)) _ rfl rfl ((show _=Value.slice _ _ _ from rfl).trans (Uq hvl)) rfl zg (i:=k) zk zu):=h
def zMc(h:p:=by exact Jt zhb):=h
def zNc(h:p:=by exact Vdb rfl zBc zBc zFc):=h
def zOc(h:p:=by exact U1 rfl zib zBc):=h
def zPc(h:p:=by exact U1 rfl zmb zBc):=h
def zQc(h:p:=by exact U1 rfl znb zBc):=h
def zRc(h:p:=by exact U1 rfl zCc zBc):=h
def zSc(h:p:=by exact Vdb rfl zCc zCc zBc):=h
def zTc(h:p:=by exact U1 rfl zBc zBc):=h
def zUc(h:p:=by exact Yc rfl zCc):=h
def zVc(h:p:=by exact Yc rfl zFc):=h
def zWc(h:p:=by exact U1 rfl zBc zFc):=h
def zXc(h:p:=by exact U1 rfl zvb zBc):=h
def zYc(h:p:=by exact Yc rfl zBc):=h
def zZc(h:p:=by exact U2f rfl znb zCc zmb zBc):=h
def zA(h:p:=by first | omega | (simp only [yw,yea,yo];omega)):=h
def zAa(h:p:=by rw [hR1e];exact .tail _ (.tail _ (.head _))):=h
def zB(h:p:=by first | exact Jf tb rfl rfl rfl rfl zt (i:=k) zk za | exact Jl tb rfl rfl rfl rfl (i:=k) zk za):=h
def zBa(h:p:=by rw [hR2e];exact .tail _ (.tail _ (.head _))):=h
def zC(h:p:=by cases h):=h
def zCa(h:p:=by dsimp only;rw [yP];omega):=h
def zD(h:p:=by simp;omega):=h
def zDa(h:p:=by rw [hR2e];exact .tail _ (.head _)):=h
def zE(h:p:=by simp only [maxLen];omega):=h
def zEa(h:p:=by first | exact Vyb rfl rfl za za | exact U4d rfl rfl):=h
def zF(h:p:=by simpa using hc0):=h
def zFa(h:p:=by first | exact Kz (row:=[_,_,_,_]) tb rfl rfl rfl zt zg zb zb | exact Jm (row:=[_,_,_,_]) tb rfl rfl rfl zf zb zb):=h
def zG(h:p:=by simpa using hc1):=h
def zGa(h:p:=by first | exact Kz (row:=[_,_]) tb rfl rfl rfl zt zg zb zb | exact Jm (row:=[_,_]) tb rfl rfl rfl zf zb zb):=h
def zH(h:p:=by first | (cases h;done) | (have h':=of_decide_eq_true h;omega) | (have h':=of_decide_eq_false h;omega) | omega):=h
def zHa(h:p:=by first | exact Jf tb rfl rfl rfl rfl zt (i:=z.toNat) zk za | exact Jl tb rfl rfl rfl rfl (i:=z.toNat) zk za):=h
def zI(h:p:=by repeat (first | apply Off.upd rfl | apply Off.havoc rfl | refine Off.updL (t':=havoc _ _ _) rfl ?_ | exact Off.refl)):=h
def zIa(h:p:=by first | exact Jf tb rfl rfl rfl rfl zt (i:=s.toNat) zk za | exact Jl tb rfl rfl rfl rfl (i:=s.toNat) zk za):=h
def zJ(h:p:=by first | exact Vu rfl rfl | exact U9 rfl rfl | exact Uqa rfl):=h
def zJa(h:p:=by first | exact Jf tb rfl rfl rfl rfl zt (i:=k1) zk za | exact Jl tb rfl rfl rfl rfl (i:=k1) zk za):=h
def zK(h:p:=by simpa using hc2):=h
def zKa(h:p:=by first | exact Jf tb rfl rfl rfl rfl zt (i:=k2) zk za | exact Jl tb rfl rfl rfl rfl (i:=k2) zk za):=h
def zL(h:p:=by simp only [yw] at hm;omega):=h
def zLa(h:p:=by first | exact Jf tb rfl rfl rfl rfl zt (i:=j) zk za | exact Jl tb rfl rfl rfl rfl (i:=j) zk za):=h
def zM(h:p:=by rw [V7];omega):=h
def zMa(h:p:=by first | exact Jf tb rfl rfl rfl rfl zt rfl za | exact Jl tb rfl rfl rfl rfl rfl za):=h
def zN(h:p:=by rw [hsw5,hW.is.zn,hW.is.rp];exact hpb5.pw.inv.fe):=h
def zNa(h:p:=by repeat (first | exact Off.refl | apply Off.upd rfl | apply Off.havoc rfl | apply Off.updL rfl | apply Off.left rfl | apply Off.leftu rfl)):=h
def zO(h:p:=by exact Kxa yf zg ze):=h
def zOa(h:p:=by (repeat (first | apply List.Sublist.cons (a:=Blk.mk b101 _ _) | apply List.Sublist.cons_cons));exact yx _):=h
def zP(h:p:=by repeat (first | apply USeg.here | apply USeg.cons | apply USeg.app)):=h
def zPa(h:p:=by (repeat (first | apply List.Sublist.cons (a:=Blk.mk b18 _ _) | apply List.Sublist.cons_cons));exact yx _):=h
def zQ(h:p:=by repeat (first | exact Vfa | apply Zna | apply K6b)):=h
def zQa(h:p:=by dsimp only;first | (rw [Ueb hc0];exact yx _) | (rw [K7b hc0];exact yx _)):=h
def zR(h:p:=by simp only [yw] at hfu;omega):=h
def zRa(h:p:=by first | (simp at hc2;rw [Z7];omega) | (simp at hg8;rw [Z7];omega)):=h
def zS(h:p:=by simpa using hc4):=h
def zSa(h:p:=by simp only [yw,yo] at hfu ⊢;omega):=h
def zTa(h:p:=by rintro ⟨h1,h2⟩;first | omega | (rw [h1] at hg5;cases hg5)):=h
def zU(h:p:=by rw [hce];decide):=h
def zUa(h:p:=by first | exact U6d rfl rfl za za za | exact U9e rfl rfl za za za | exact Utd rfl rfl za):=h
def zV(h:p:=by simpa using hc3):=h
def zVa(h:p:=by first | exact Kz (row:=[_,_,_,_,_,_,_,_,_,_]) tb rfl rfl rfl zt zg zb zb | exact Jm (row:=[_,_,_,_,_,_,_,_,_,_]) tb rfl rfl rfl zf zb zb):=h
def zW(h:p:=by rw [Jaa];omega):=h
def zWa(h:p:=by first | exact Jf tb rfl rfl rfl rfl zt (i:=(q.l.getD k 0).toNat) zk za | exact Jl tb rfl rfl rfl rfl (i:=(q.l.getD k 0).toNat) zk za):=h
def zX(h:p:=by simpa using h):=h
def zXa(h:p:=by first | exact Kz (row:=[_,_,_,_,_,_]) tb rfl rfl rfl zt zg zb zb | exact Jm (row:=[_,_,_,_,_,_]) tb rfl rfl rfl zf zb zb):=h
def zY(h:p:=by dsimp only;rw [Ki,yv];exact zi):=h
def zYa(h:p:=by first | exact Jf tb rfl rfl rfl rfl zt (i:=r.zone.toNat) zk za | exact Jl tb rfl rfl rfl rfl (i:=r.zone.toNat) zk za):=h
def zZ(h:p:=by first | exact Kz (row:=[_,_,_,_,_,_,_,_]) tb rfl rfl rfl zt zg zb zb | exact Jm (row:=[_,_,_,_,_,_,_,_]) tb rfl rfl rfl zf zb zb):=h
def zZa(h:p:=by first | exact Kz (row:=[_,_,_]) tb rfl rfl rfl zt zg zb zb | exact Jm (row:=[_,_,_]) tb rfl rfl rfl zf zb zb):=h
def za(h:p:=by omega):=h
def zaa(h:p:=by first | exact Jf tb rfl rfl rfl rfl zt (i:=k0) zk za | exact Jl tb rfl rfl rfl rfl (i:=k0) zk za):=h
def zab(h:p:=by first | exact Jf tb rfl rfl rfl rfl zt (i:=n.toNat) zk za | exact Jl tb rfl rfl rfl rfl (i:=n.toNat) zk za):=h
def zb(h:p:=by rfl):=h
def zba(h:p:=by rw [yp,yq,yp];exact .tail _ hr):=h
def zbb(h:p:=by first | exact Jf tb rfl rfl rfl rfl zt (i:=a.toNat) zk za | exact Jl tb rfl rfl rfl rfl (i:=a.toNat) zk za):=h
def zc(h:p:=by kernel_rfl):=h
def zca(h:p:=by simp only [XFrame.tele];omega):=h
def zcb(h:p:=by first | exact Jf tb rfl rfl rfl rfl zt (i:=p.toNat) zk za | exact Jl tb rfl rfl rfl rfl (i:=p.toNat) zk za):=h
def zda(h:p:=by first | exact Zaa | rfl):=h
def zdb(h:p:=by first | exact Jf tb rfl rfl rfl rfl zt (i:=k - 1) zk za | exact Jl tb rfl rfl rfl rfl (i:=k - 1) zk za):=h
def ze(h:p:=by decide):=h
def zea(h:p:=by simp at hc0;omega):=h
def zeb(h:p:=by first | exact Jf tb rfl rfl rfl rfl zt (i:=1) zk za | exact Jl tb rfl rfl rfl rfl (i:=1) zk za):=h
def zf(h:p:=by repeat (first | exact zi0 | apply zi1 | apply zi2)):=h
def zfa(h:p:=by first | exact Jvb rfl rfl za za | exact Zgb rfl rfl za za | exact Y2b rfl rfl):=h
def zg(h:p:=by assumption):=h
def zga(h:p:=by first | exact Y9a za | rfl):=h
def zh(h:p:=by repeat' (first | exact trivial | refine And.intro rfl ?_)):=h
def zha(h:p:=by first | exact Yv tb rfl rfl rfl zt zg zb | exact Kv tb rfl rfl rfl zf zb | exact Kv tb rfl rfl rfl zf (U9a zg) | exact Kv tb rfl rfl rfl zf (Kwa yf zg rfl)):=h
def zi(h:p:=by repeat (first | exact zs0 _ | exact zs1 _ | apply zs2 | apply zs3 | apply zs4 | apply zs5)):=h
def zia(h:p:=by (repeat (first | apply List.Sublist.cons (a:=Blk.mk b12 _ _) | apply List.Sublist.cons (a:=Blk.mk b14 _ _) | apply List.Sublist.cons_cons));exact yx _):=h
def zj(h:p:=by repeat (first | apply OSeg.cons | exact OSeg.here | exact OSeg.last | exact OSeg.at zg | apply OSeg.app)):=h
def zja(h:p:=by (repeat (first | apply List.Sublist.cons (a:=Blk.mk b4 _ _) | apply List.Sublist.cons_cons));exact yx _):=h
def zk(h:p:=by first | rfl | omega | (simp;omega)):=h
def zka(h:p:=by dsimp only;rw [← Y1 (f:=Jo) (x:=(0:Int)) rfl];exact yx _):=h
def zla(h:p:=by dsimp only;rw [Ki,yv];exact yx _):=h
def zm(h:p:=by repeat (first | exact Off.refl | apply Off.upd rfl | apply Off.havoc rfl | apply Off.updL rfl | apply Off.left rfl)):=h
def zma(h:p:=by simp only [yUa];exact .inr (List.mem_append.1 h)):=h
def zna(h:p:=by rw [hR1e];exact .tail _ (.head _)):=h
def zo(h:p:=by simp):=h
def zoa(h:p:=by rw [ylb,ha]):=h
def zp(h:p:=by simp only [Ki,yv];rfl):=h
def zpa(h:p:=by rw [hR1e];exact .head _):=h
def zq(h:p:=by repeat (first | exact yHa _ | refine pm0 ?_ | refine pm1 ?_ | refine pm2 ?_ | refine pm3 ?_)):=h
def zqa(h:p:=by rw [hR2e];exact .head _):=h
def zra(h:p:=by rw [← k3];exact hs):=h
def zsa(h:p:=by first | exact K9a tb rfl rfl rfl za za | exact V1a tb rfl rfl rfl za za | exact Ksa tb rfl rfl rfl):=h
def zt(h:p:=by first | assumption | exact zr zo):=h
def zta(h:p:=by first | exact Vzb rfl rfl za za | exact Vlc rfl rfl za za | exact Jlc rfl rfl):=h
def zu(h:p:=by first | omega | (dsimp only;omega) | (dsimp only;rw [yy];omega) | (dsimp only;simp only [yy];omega)):=h
def zua(h:p:=by dsimp only;rw [hst];first | exact zh | (rw [← yTb];exact zh)):=h
def zva(h:p:=by first | exact Jf tb rfl rfl rfl rfl zt (i:=i) zk za | exact Jl tb rfl rfl rfl rfl (i:=i) zk za):=h
def zw(h:p:=by first | exact Jd _ | assumption | exact (fun r h=>Ja (by simp [h]))):=h
def zwa(h:p:=by first | exact Jf tb rfl rfl rfl rfl zt (i:=0) zk za | exact Jl tb rfl rfl rfl rfl (i:=0) zk za):=h
def zx(h:p:=by dsimp only;omega):=h
def zxa(h:p:=by (repeat (first | apply List.Sublist.cons (a:=Blk.mk b10 _ _) | apply List.Sublist.cons_cons));exact yx _):=h
def zy(h:p:=by repeat (first | apply zu0 | apply zu1 | apply zu2)):=h
def zya(h:p:=by first | (simp only [yv];done) | (simp only [yv];rfl)):=h
def zza(h:p:=by first | (simp at hc1;rw [Z7];omega) | (simp at hg6;rw [Z7];omega)):=h
inductive BT where
 | ty (t:TypeId)
 | mp (es:Array MapEntry) (clock:Nat)
instance:Coe TypeId BT:=⟨.ty⟩
instance (n:Nat):OfNat BT n:=⟨.ty n⟩
structure Blk where
 b:Nat
 cs:List Value
 T:BT
def BT.obj (cs : List Value) : BT → Obj
 | .ty t=>.cells cs.toArray t (0,0)
 | .mp es ck=>.map es ck
inductive Sl where
 | mk (wd:Nat) (a:Option Addr) (len cap:Nat) (rows:List (List Value)) (subs:List Sl)
def adB (a:Option Addr):Nat:=match a with | some x=>x.block | none=>0
def adO (a:Option Addr):Nat:=match a with | some x=>x.off | none=>0
def eo (a:Option Addr) (wd i j:Nat):Nat:=adO a + i * wd + j
inductive Rep (w : World) (G : Nat → Prop) : Sl → Prop
 | mk {wd a len cap rows subs} (hl : rows.length = len) (hc : len ≤ cap) (hm : cap < 9223372036854775808) (hw : ∀ r ∈ rows, r.length = wd)
  (hr:rows=[]∨∃b off,a=some ⟨b,off,none⟩∧G b∧∀i j,i < len→j < wd→w.cell? ⟨b,off + i * wd + j,none⟩=(rows[i]?).bind (·[j]?))
  (hs:∀s∈subs,Rep w G s):Rep w G (.mk wd a len cap rows subs)
inductive Sub (s : Sl) : Sl → Prop
 | here:Sub s s
 | deep {wd a len cap rows subs x} (h:x∈subs) (k:Sub s x):Sub s (.mk wd a len cap rows subs)
def InR (s:Sl) (R:List Sl):Prop:=∃r∈R,Sub s r
def Rep.mono {w w':World} {G G':Nat→Prop} (hG:∀b,G b→G' b) (hw:∀b,G b→w'.heap[b]?=w.heap[b]?) {s:Sl} (h:Rep w G s):Rep w' G' s:=by
 induction h with
 | mk hl hc hm hw2 hr hs ih=>
  refine .mk hl hc hm hw2 ?_ ih;rcases hr with h | ⟨b,off,ha,hb,Kjb⟩;·exact .inl h
  ·refine .inr ⟨b, off, ha, hG b hb, fun i j hi hj => ?_⟩;rw [← Kjb i j hi hj];exact World.cell?_of_block (w:=w) (hw b hb)
def Rep.sub {w:World} {G:Nat→Prop} {s r:Sl} (h:Rep w G r) (k:Sub s r):Rep w G s:=by
 induction k with
 | here=>exact h
 | deep hx _ ih=>cases h with | mk _ _ _ _ _ hs=>exact ih (hs _ hx)
structure Holds (L:List Blk) (G:Nat→Prop) (R:List Sl) (w:World):Prop where
 nd:(L.map (·.b)).Nodup
 own:∀e∈L,w.heap[e.b]?=some (e.T.obj e.cs)
 ng:∀e∈L,¬ G e.b
 gs:∀b,G b→b < w.heap.size
 rep:∀r∈R,Rep w G r
structure Ctx where
 w0:World
 own0:Nat→Prop
 G0:Nat→Prop
structure Keep (c:Ctx) (w:World):Prop where
 os:w.os=c.w0.os
 tape:w.tape=c.w0.tape
 output:w.output=c.w0.output
 size:c.w0.heap.size≤w.heap.size
 block:∀b,b < c.w0.heap.size→¬ c.own0 b→w.heap[b]?=c.w0.heap[b]?
 frz:∀a,w.frozen? a=c.w0.frozen? a
structure St (c:Ctx) (L:List Blk) (R:List Sl) (w:World):Prop where
 G:∃G,Holds L G R w∧∀b,G b→c.G0 b∨c.w0.heap.size≤b∨c.own0 b
 own:∀e∈L,c.own0 e.b∨c.w0.heap.size≤e.b
 keep:Keep c w
def inL (L:List Blk) (b:Nat):Prop:=∃e∈L,e.b=b
def St.init {L:List Blk} {G:Nat→Prop} {R:List Sl} {w:World} (h:Holds L G R w):St ⟨w,inL L,G⟩ L R w:=
 ⟨⟨G,h,fun _ hb=>.inl hb⟩,fun e he=>.inl ⟨e,he,rfl⟩,⟨rfl,rfl,rfl,yl _,fun _ _ _=>rfl,fun _=>rfl⟩⟩
def Holds.lt {L G R w} (h:Holds L G R w) {e:Blk} (he:e∈L):e.b < w.heap.size:=by
 have:=h.own e he;rcases yk e.b w.heap.size with h' | h';·exact h'
 ·simp [yA h'] at this
def St.trans {c : Ctx} {L M : List Blk} {R U : List Sl} {G : Nat → Prop} {w w' : World} (h : St c L R w)
 (hG:∀b,G b→c.G0 b∨c.w0.heap.size≤b∨c.own0 b) (k:St ⟨w,inL L,G⟩ M U w'):St c M U w':=by
 obtain ⟨⟨G',hh,hg⟩,ho,hk⟩:=k;have inl:∀b,inL L b→c.own0 b∨c.w0.heap.size≤b:=fun b ⟨e,he,hb⟩=>hb ▸ h.own e he;have hsz:=h.keep.size;refine ⟨⟨G',hh,fun b hb=>?_⟩,fun e he=>?_,⟨hk.os.trans h.keep.os,hk.tape.trans h.keep.tape,hk.output.trans h.keep.output,yqa hsz hk.size,fun b hb hn=>?_,fun a=>(hk.frz a).trans (h.keep.frz a)⟩⟩;·
  rcases hg b hb with h1 | h1 | h1;·exact hG b h1
  ·exact .inr (.inl (yqa hsz h1))
  ·
   rcases inl b h1 with h2 | h2;·exact .inr (.inr h2)
   ·exact .inr (.inl h2)
 ·
  rcases ho e he with h1 | h1;·exact inl _ h1
  ·exact .inr (yqa hsz h1)
 ·
  rw [hk.block b (ydb hb hsz) (fun hi => ?_), h.keep.block b hb hn];rcases inl b hi with h2 | h2;·exact hn h2
  ·exact absurd h2 (Nat.not_le.2 hb)
def St.weak {c:Ctx} {L M:List Blk} {R U:List Sl} {w:World} (h:St c L R w) (hL:M.Sublist L) (hR:∀r∈U,InR r R):St c M U w:=by obtain ⟨⟨G,hh,hg⟩,ho,hk⟩:=h;refine ⟨⟨G,⟨hh.nd.sublist (hL.map _),fun e he=>hh.own e (hL.subset he),fun e he=>hh.ng e (hL.subset he),hh.gs,fun r hr=>?_⟩,hg⟩,fun e he=>ho e (hL.subset he),hk⟩;obtain ⟨r',hr',hs⟩:=hR r hr;exact (hh.rep r' hr').sub hs
def ev (t : Nat → Value) : Operand → Value
 | .tmp k=>t k
 | .const v=>v
 | .global g=>.pointer (some ⟨g,0,none⟩)
 | .func f=>.func (.func f) #[] #[]
def Une {k d:Nat} (h:¬ k=d):Nat.beq k d=false:=by
 cases hb:Nat.beq k d with
 | false=>rfl
 | true=>exact absurd (yeb hb) h
def upd (t:Nat→Value) (d:Nat) (v:Value):Nat→Value:=fun k=>bif Nat.beq k d then v else t k
def Z2b (t:Nat→Value) (d:Option Tmp) (v:Value):Nat→Value:=
 match d with
 | some d=>upd t d v
 | none=>t
def dOk (n:Nat) (d:Option Tmp):Bool:=
 match d with
 | some d=>Nat.blt d n
 | none=>true
structure Fr (n:Nat) (t:Nat→Value) (a:Act):Prop where
 defers:a.defers=[]
 size:a.tmps.size=n
 val:∀k,a.tmps.getD k undef=t k
def Fr.eval {n t a} (h:Fr n t a):a.eval=ev t:=by
 funext x;cases x with
 | tmp k=>exact h.val k
 | _=>rfl
def Fr.put {n t a} (h:Fr n t a) {d:Option Tmp} (hd:dOk n d=true) (v:Value):Fr n (Z2b t d v) (a.put d v):=by
 cases d with
 | none=>exact h
 | some d=>
  have hlt:d < n:=by simpa [dOk] using hd
  refine ⟨h.defers,by simp [Act.put,h.size],fun k=>?_⟩;have hv:=h.val k;simp only [Act.put,Z2b,upd];by_cases hk:k=d;·subst hk;(have:k < a.tmps.size:=by rw [h.size];exact hlt);simp [this]
  ·have : Nat.beq k d = false := Une hk;rw [this,cond_false,← hv];simp [yma (yac hk)]
def Ksc (all:Array Oper) (t:Nat→Value) (j:Nat):Option Bool:=
 match (all[j]?).bind (·.dst) with
 | some d=>match t d with
  | .bool b=>some b
  | _=>none
 | none=>none
def Yk (all:Array Oper) (t:Nat→Value) (g:Option (Nat×Bool)):Bool:=
 match g with
 | none=>true
 | some (j,want)=>Ksc all t j == some want
def Fr.wanted {n t a} (h:Fr n t a) (all:Array Oper) (o:Oper):Region.wanted o (yielded all a.tmps)=Yk all t o.guard:=by
 unfold Region.wanted Yk;cases hg:o.guard with
 | none=>rfl
 | some p=>
  obtain ⟨j,want⟩:=p;have:yielded all a.tmps j=Ksc all t j:=by
   unfold yielded Ksc;cases hd:(all[j]?).bind (·.dst) with
   | none=>rfl
   | some d=>
    have hv:=h.val d;simp only [yFa];rcases yk d a.tmps.size with h' | h';·(have e : a.tmps[d]? = some (t d) := by rw [← hv]; simp [h']);rw [e];cases t d <;> rfl
    ·have e : a.tmps[d]? = none := yA h';(have e2:t d=undef:=by rw [← hv];simp [e]);rw [e,e2];rfl
  simp only [this]
abbrev Kt:=Exit→(Nat→Value)→List Blk→List Sl→Prop
def NP : Exit → Prop
 | .panic _=>False
 | _=>True
def Ysa (n:Nat) (c:Ctx) (K:Kt):Exit→Act→World→Prop:=
 fun e a w=>NP e∧∃t L R,K e t L R∧Fr n t a∧St c L R w
def CJ (P:Program) (n:Nat) (code:Code) (t:Nat→Value) (L:List Blk) (R:List Sl) (Q:Kt):Prop:=
 ∀c a w,Fr n t a→St c L R w→code.wp P (Ysa n c Q) a w
def LJ (P:Program) (n:Nat) (all:Array Oper) (ops:List Oper) (t:Nat→Value) (L:List Blk) (R:List Sl) (Q:Kt):Prop:=
 ∀c a w,Fr n t a→St c L R w→wpList P all (Ysa n c Q) ops a w
abbrev Yy:=Value→List Blk→List Sl→Prop
def Tri (P:Program) (f:FuncId) (args:Array Value) (L:List Blk) (R:List Sl) (Post:Yy):Prop:=
 (∀(xs:Array Value) (w:World),(callFunc f xs).run P w=.ok (.enter f xs) w)∧
 ∀(w:World) (G:Nat→Prop),Holds L G R w→Calls P f args w fun e w'=>∃v M U,e=.returned v∧Post v M U∧St ⟨w,inL L,G⟩ M U w'
def Tri.mono {P f args L R} {Post Post':Yy} (h:Tri P f args L R Post) (k:∀v M U,Post v M U→Post' v M U):Tri P f args L R Post':=
 ⟨h.1,fun w G hh=>(h.2 w G hh).mono fun _ _ ⟨v,M,U,e,p,s⟩=>⟨v,M,U,e,k _ _ _ p,s⟩⟩
def Gives (P:Program) (op:Oper) (ρ:Operand→Value) (L:List Blk) (R:List Sl) (Post:Yy):Prop:=
 ∀(c:Ctx) (w:World),St c L R w→∀(a:Act) (next:Act→World→Prop) (Q:Exit→Act→World→Prop),
  (∀v M U w',Post v M U→St c M U w'→next (a.put op.dst v) w')→op.upon P a next Q ((execOp ρ op).run P w)
def YV (P:Program) (op:Oper) (ρ:Operand→Value) (L:List Blk) (R:List Sl) (v:Value):Prop:=
 ∀(c:Ctx) (w:World),St c L R w→(execOp ρ op).run P w=.ok (.value v) w
def YV.gives {P op ρ L R v} (h:YV P op ρ L R v):Gives P op ρ L R (fun v' M U=>v'=v∧M=L∧U=R):=by exact ubp
def J6 {P n all t L R} {Q:Kt} (h:Q .normal t L R):LJ P n all [] t L R Q:=
 fun _ _ _ hf hs=>⟨trivial,t,L,R,h,hf,hs⟩
def Vtb {P n all o rest t L R} {Q : Kt} {Post : Yy} (hg : Gives P o (ev t) L R Post) (hw : Yk all t o.guard = true) (hd : dOk n o.dst = true)
 (h:∀v M U,Post v M U→LJ P n all rest (Z2b t o.dst v) M U Q):LJ P n all (o :: rest) t L R Q:=by intro c a w hf hs;unfold wpList;rw [hf.wanted,hw,if_pos rfl];refine .inl ?_;unfold Oper.wp;rw [hf.eval];exact hg c w hs a _ _ fun v M U w' hp hs'=>h v M U hp c _ w' (hf.put hd v) hs'
def Vwd {P n all o rest t L R} {Q : Kt} {v : Value} (hv : YV P o (ev t) L R v) (hw : Yk all t o.guard = true) (hd : dOk n o.dst = true)
 (h:LJ P n all rest (Z2b t o.dst v) L R Q):LJ P n all (o :: rest) t L R Q:=
 Vtb hv.gives hw hd fun _ _ _ ⟨e1,e2,e3⟩=>by subst e1;subst e2;subst e3;exact h
def Unf {P n all o rest t L R} {Q : Kt} (hw : Yk all t o.guard = false) (hd : dOk n o.dst = true)
 (h:LJ P n all rest (Z2b t o.dst undef) L R Q):LJ P n all (o :: rest) t L R Q:=by intro c a w hf hs;unfold wpList;rw [hf.wanted,hw,if_neg zo];exact h c _ w (hf.put hd _) hs
def U4a {P dst f xs ts pos after guard ty ρ L R args} {Post : Yy} (ha : xs.map ρ = args) (hρ : ρ (.func f) = .func (.func f) #[] #[])
 (h:Tri P f args L R Post):Gives P ⟨dst,.call ⟨.value (.func f),xs,ts⟩,ty,pos,after,guard⟩ ρ L R Post:=by
 intro x w hs a next Q k
 have hrun:(execOp ρ ⟨dst,.call ⟨.value (.func f),xs,ts⟩,ty,pos,after,guard⟩).run P w=.ok (.enter f args) w:=by have h1:=h.1 args w;simp only [execOp,resolve,ha,hρ,Deferred.ofValue];simpa [invoke] using h1
 exact uaH
def Jh {P n id ops t L R} {Q:Kt} (h:LJ P n ops.toArray ops t L R Q):CJ P n (.region id ops.toArray false) t L R Q:=
 fun c a w hf hs=>wp_region_lit (h c a w hf hs)
def U0 (P : Program) (n : Nat) (y : Code) (Q : Kt) : Kt
 | .normal,t,L,R=>CJ P n y t L R Q
 | e,t,L,R=>Q e t L R
def Jr {P n x y t L R} {Q:Kt} (h:CJ P n x t L R (U0 P n y Q)):CJ P n (.seq x y) t L R Q:=by
 intro c a w hf hs;refine wp_seq (wp_mono (h c a w hf hs) ?_);rintro e a w ⟨hnp,t',M,U,hq,hf',hs'⟩;cases e with
 | normal=>exact hq c a w hf' hs'
 | _=>exact ⟨hnp,t',M,U,hq,hf',hs'⟩
def Jc {P n y t L R} {Q:Kt} (h:CJ P n y t L R Q):U0 P n y Q .normal t L R:=h
def Ke {P n y t L R} {Q:Kt} (h:Q .ret t L R):U0 P n y Q .ret t L R:=h
def Kw {P n y id t L R} {Q:Kt} (h:Q (.exit id) t L R):U0 P n y Q (.exit id) t L R:=h
def Ka {P n t L R} {Q:Kt} (h:Q .normal t L R):CJ P n .skip t L R Q:=
 fun _ _ _ hf hs=>wp_skip ⟨trivial,t,L,R,h,hf,hs⟩
def U4 {P n t L R} {Q:Kt} (h:Q .ret t L R):CJ P n .ret t L R Q:=
 fun _ _ _ hf hs=>wp_ret ⟨trivial,t,L,R,h,hf,hs⟩
def Ug {P n id t L R} {Q:Kt} (h:Q (.exit id) t L R):CJ P n (.exit id) t L R Q:=
 fun _ _ _ hf hs=>wp_exit ⟨trivial,t,L,R,h,hf,hs⟩
def Kad {P n x A B t L R} {Q:Kt} {b:Bool} (hc:ev t x=.bool b) (ht:b=true→CJ P n A t L R Q) (hf:b=false→CJ P n B t L R Q):
 CJ P n (.cond x A B) t L R Q:=
 fun c a w hfr hs=>wp_cond_split (by rw [hfr.eval];exact hc) (fun e=>ht e c a w hfr hs) (fun e=>hf e c a w hfr hs)
def Ua {P n x A B t L R} {Q:Kt} (hc:ev t x=.bool true) (ht:CJ P n A t L R Q):CJ P n (.cond x A B) t L R Q:=
 Kad hc (fun _=>ht) (fun e=>by cases e)
def Y7 {P n x A B t L R} {Q:Kt} (hc:ev t x=.bool false) (hf:CJ P n B t L R Q):CJ P n (.cond x A B) t L R Q:=
 Kad hc (fun e=>by cases e) (fun _=>hf)
def J3 (id : Nat) (Q : Kt) : Kt
 | .exit k,t,L,R=>bif Nat.beq k id then Q .normal t L R else Q (.exit k) t L R
 | e,t,L,R=>Q e t L R
def Km {P n id x t L R} {Q:Kt} (h:CJ P n x t L R (J3 id Q)):CJ P n (.block id x) t L R Q:=by
 intro c a w hf hs;refine wp_block (wp_mono (h c a w hf hs) ?_);rintro e a w ⟨hnp,t',M,U,hq,hf',hs'⟩;cases e with
 | exit k=>
  simp only [Exit.inBlock];by_cases hk:k=id;·subst hk;(have:Nat.beq k k=true:=by simp);simp only [J3,this,cond_true] at hq;rw [if_pos rfl];exact ⟨trivial,t',M,U,hq,hf',hs'⟩
  ·have : Nat.beq k id = false := Une hk;simp only [J3,this,cond_false] at hq;rw [if_neg hk];exact ⟨trivial,t',M,U,hq,hf',hs'⟩
 | _=>exact ⟨hnp,t',M,U,hq,hf',hs'⟩
def Jk {id t L R} {Q:Kt} (h:Q .normal t L R):J3 id Q .normal t L R:=h
def J8 {id t L R} {Q:Kt} (h:Q .ret t L R):J3 id Q .ret t L R:=h
def Kd {id t L R} {Q:Kt} (h:Q .normal t L R):J3 id Q (.exit id) t L R:=by
 have:Nat.beq id id=true:=by simp
 simp only [J3,this,cond_true];exact h
def V2c {id k t L R} {Q:Kt} (hk:Nat.beq k id=false) (h:Q (.exit k) t L R):J3 id Q (.exit k) t L R:=by simp only [J3,hk,cond_false];exact h
def Z3b (k : Nat) : List Nat → Bool
 | []=>false
 | x :: l=>bif Nat.beq k x then true else Z3b k l
def havoc (ws:List Nat) (t junk:Nat→Value):Nat→Value:=fun k=>bif Z3b k ws then junk k else t k
def updL (t : Nat → Value) : List (Nat × Value) → Nat → Value
 | []=>t
 | (d,v) :: l=>upd (updL t l) d v
def Off (ws:List Nat) (t t':Nat→Value):Prop:=∀k,Z3b k ws=false→t' k=t k
def Off.refl {ws t}:Off ws t t:=fun _ _=>rfl
def Off.upd {ws t t' d v} (hd:Z3b d ws=true) (h:Off ws t t'):Off ws t (upd t' d v):=fun k hk=>by
 unfold Aw.upd
 cases hb:Nat.beq k d with
 | false=>exact h k hk
 | true=>
  have:k=d:=by simpa [yzb] using hb
  subst this
  rw [hd] at hk
  cases hk
def Off.updL {ws t t' l} (hd:l.all (fun p=>Z3b p.1 ws)=true) (h:Off ws t t'):Off ws t (updL t' l):=by
 induction l with
 | nil=>exact h
 | cons p l ih=>obtain ⟨d,v⟩:=p;simp only [List.all_cons,yn] at hd;exact Off.upd hd.1 (ih hd.2)
def Off.havoc {ws ws' t t' junk} (hd:ws'.all (fun k=>Z3b k ws)=true) (h:Off ws t t'):Off ws t (havoc ws' t' junk):=fun k hk=>by
 unfold Aw.havoc
 cases hb:Z3b k ws' with
 | false=>exact h k hk
 | true=>
  have:∀l:List Nat,l.all (fun k=>Z3b k ws)=true→Z3b k l=true→Z3b k ws=true:=by
   intro l
   induction l with
   | nil=>intro _ h;cases h
   | cons x l ih=>
    intro ha hm
    simp only [List.all_cons,yn] at ha
    simp only [Z3b] at hm
    cases hx:Nat.beq k x with
    | true=>
     have:k=x:=by simpa [yzb] using hx
     rw [this];exact ha.1
    | false=>rw [hx] at hm;exact ih ha.2 hm
  rw [this ws' hd hb] at hk
  cases hk
def Yea (t : Nat → Value) : List (Nat × Value) → Prop
 | []=>True
 | (d,v) :: l=>t d=v∧Yea t l
def Y5 {t : Nat → Value} : ∀ {l : List (Nat × Value)}, Yea t l → updL t l = t
 | [],_=>rfl
 | (d,v) :: l,h=>by
  funext k
  simp only [updL,Y5 h.2,upd]
  cases hb:Nat.beq k d with
  | false=>rfl
  | true=>
   have:k=d:=by simpa [yzb] using hb
   rw [cond_true,this];exact h.1.symm
structure Head (γ:Type) where
 slots:γ→List (Nat×Value)
 L:γ→List Blk
 R:γ→List Sl
 m:γ→Nat
def Kj {γ : Type} (ws : List Nat) (t0 : Nat → Value) (hd : Head γ) (m0 : Nat) (Q : Kt) : Kt
 | .normal,t,L,R=>∃g,Off ws t0 t∧Yea t (hd.slots g)∧(hd.L g).Sublist L∧(∀r∈hd.R g,InR r R)∧hd.m g < m0
 | e,t,L,R=>Q e t L R
def Yg {γ ws t0 m0 t L R} {hd:Head γ} {Q:Kt} (h:Q .ret t L R):Kj ws t0 hd m0 Q .ret t L R:=h
def Ux {γ ws t0 m0 id t L R} {hd:Head γ} {Q:Kt} (h:Q (.exit id) t L R):Kj ws t0 hd m0 Q (.exit id) t L R:=h
def Z8 {ws:List Nat} {t0 t:Nat→Value} (h:Off ws t0 t):havoc ws t0 t=t:=by
 funext k;unfold havoc;cases hb:Z3b k ws with
 | true=>rfl
 | false=>exact (h k hb).symm
def Vx {γ : Type} {P n body t L R} {Q : Kt} (ws : List Nat) (hd : Head γ) (g0 : γ) (h0 : Yea t (hd.slots g0)) (hL : (hd.L g0).Sublist L) (hR : ∀ r ∈ hd.R g0, InR r R)
 (hstep:∀g junk,CJ P n body (updL (havoc ws t junk) (hd.slots g)) (hd.L g) (hd.R g) (Kj ws t hd (hd.m g) Q)):CJ P n (.loop body) t L R Q:=by
 intro c a w hf hs;let I:Act→World→Prop:=fun a w=>∃g t',Off ws t t'∧Yea t' (hd.slots g)∧Fr n t' a∧St c (hd.L g) (hd.R g) w
 -- the measure is carried in the invariant: 'the least measure at which the state shows'
 have key:∀m,∀g t' a w,hd.m g=m→Off ws t t'→Yea t' (hd.slots g)→Fr n t' a→St c (hd.L g) (hd.R g) w→
  ∀b k cs,∃e a' w',Ysa n c Q e a' w'∧Arrives P (lone (b.at a (.code body :: .inLoop body :: k)) cs w) b k cs e a' w':=by
  intro m;induction m using Nat.strongRecOn with
  | _ m ih=>
   intro g t' a w hm ho hsh hfr hst b k cs;(have e:updL (havoc ws t t') (hd.slots g)=t':=by rw [Z8 ho,Y5 hsh]);obtain ⟨ex,a₁,w₁,⟨hnp,t₁,L₁,R₁,hq,hf₁,hs₁⟩,harr⟩:=hstep g t' c a w (by rw [e];exact hfr) hst b (.inLoop body :: k) cs;cases ex with
   | normal=>obtain ⟨g',ho',hsh',hL',hR',hlt⟩:=hq;obtain ⟨e₂,a₂,w₂,hq₂,harr₂⟩:=ih (hd.m g') (hm ▸ hlt) g' t₁ a₁ w₁ rfl ho' hsh' hf₁ (hs₁.weak hL' hR') b k cs;exact ⟨e₂,a₂,w₂,hq₂,.of_steps (Steps.trans harr (.one step_inLoop)) harr₂⟩
   | exit id=>exact ⟨_,a₁,w₁,⟨hnp,t₁,L₁,R₁,hq,hf₁,hs₁⟩,.pass (x:=.inLoop body) rfl (fun _ _=>.inl zo) harr⟩
   | goto l=>exact ⟨_,a₁,w₁,⟨hnp,t₁,L₁,R₁,hq,hf₁,hs₁⟩,.pass (x:=.inLoop body) rfl (fun _ _=>.inl zo) harr⟩
   | ret=>exact ⟨_,a₁,w₁,⟨hnp,t₁,L₁,R₁,hq,hf₁,hs₁⟩,.pass (x:=.inLoop body) rfl (fun _ _=>.inl zo) harr⟩
   | panic ch=>exact ⟨_,a₁,w₁,⟨hnp,t₁,L₁,R₁,hq,hf₁,hs₁⟩,.pass (x:=.inLoop body) rfl (fun _ _=>.inl zo) harr⟩
   | outgrown=>exact ⟨_,a₁,w₁,⟨hnp,t₁,L₁,R₁,hq,hf₁,hs₁⟩,.pass (x:=.inLoop body) rfl (fun _ _=>.inl zo) harr⟩
 intro b k cs;obtain ⟨e,a',w',hq,harr⟩:=key _ g0 t a w rfl .refl h0 hf (hs.weak hL hR) b k cs;exact ⟨e,a',w',hq,.of_steps (.one step_loop) harr⟩
end Go.Aw
end
section
namespace Go.Aw
open Go
inductive TK where
 | scalar | bool | struct | array (n e:Nat) | slice (e:Nat) | ptr (e:Nat) | int (k:IntKind) | string | other
structure TI where
 k:TK
 sz:Nat
 fl:List (Nat×Nat)
 bt:Nat
 z:List Value
def Jie (P:Program) (i:TypeInfo) (u:TypeDesc) (z:Value):TI:=
  { k:=match u with
      | .struct _=>.struct
      | .array n e=>.array n e
      | .slice e=>.slice e
      | .pointer e=>.ptr e
      | .int k=>.int k
      | .bool=>.bool
      | .string=>.string
      | _=>.other
    sz:=i.size
    fl:=match u with
      | .struct fs=>fs.toList.map fun f=>(f.offset,((P.info? f.type).map (·.size)).getD 0)
      | _=>[]
    bt:=i.bytes
    z:=z.cells.toList }
def Zt (P:Program) (T:Nat):Option TI:=
 match P.info? T,P.underlying T with
 | some i,some u=>match i.zero with
  | some z=>some (Jie P i u z)
  | none=>none
 | _,_=>none
def Y4 (tab:List (List (Option TI))) (T:Nat):Option TI:=((tab[T / 16]?).bind (·[T % 16]?)).join
structure Tabs (P:Program) where
 tab:List (List (Option TI))
 ok:∀T ti,Y4 tab T=some ti→Zt P T=some ti
def Ugf (P:Program) (tab:List (List (Option TI))) (c:Nat):List (Option TI):=
 (List.range 16).map fun j=>match Y4 tab (16 * c + j) with
  | some _=>Zt P (16 * c + j)
  | none=>none
def Uqf {P:Program} {tab:List (List (Option TI))} (h:tab=(List.range tab.length).map (Ugf P tab)):∀T ti,Y4 tab T=some ti→Zt P T=some ti:=by
 intro T ti hg;have hg':=hg;unfold Y4 at hg;rw [h] at hg;rcases yk (T / 16) tab.length with h1 | h1;·rw [yt, yN h1] at hg;simp only [yLa,yFa,Ugf] at hg;rw [yt,yN (Nat.mod_lt _ za)] at hg;simp only [yLa,Option.join_some] at hg;rw [Nat.div_add_mod,hg'] at hg;exact hg
 ·rw [yt, yr (by simpa using h1)] at hg;simp at hg
section facts
variable {P:Program} {T:Nat} {ti:TI}
def Vl (h:Zt P T=some ti):∃i u z,P.info? T=some i∧P.underlying T=some u∧i.zero=some z∧ti=Jie P i u z:=by
 unfold Zt at h;split at h;·
  rename_i i u hi hu;split at h;·rename_i z hz;exact ⟨i,u,z,hi,hu,hz,(yL h).symm⟩
  ·cases h
 ·cases h
def run_sizeOf (h:Zt P T=some ti) (w:World):(sizeOf T).run P w=.ok ti.sz w:=by obtain ⟨i,u,z,hi,hu,hz,rfl⟩:=Vl h;simp [sizeOf,typeInfo,hi,Jie]
def Zy (h:Zt P T=some ti) (w:World):∃z:Value,(zeroValue T).run P w=.ok z w∧z.cells.toList=ti.z:=by obtain ⟨i,u,z,hi,hu,hz,rfl⟩:=Vl h;exact ⟨z,by simp [zeroValue,typeInfo,hi,hz],rfl⟩
def TK.isAgg : TK → Bool
 | .struct | .array _ _=>true
 | _=>false
def Zrb (h:Zt P T=some ti) (w:World):(Go.isAgg T).run P w=.ok ti.k.isAgg w:=by obtain ⟨i,u,z,hi,hu,hz,rfl⟩:=Vl h;cases u <;> simp [Go.isAgg,run_underlying hu,Jie,TK.isAgg]
def Vi {e:Nat} (h:Zt P T=some ti) (hk:ti.k=.slice e):P.underlying T=some (.slice e):=by obtain ⟨i,u,z,hi,hu,hz,rfl⟩:=Vl h;cases u <;> simp [Jie] at hk;rw [hu,hk]
def V5c {k:IntKind} (h:Zt P T=some ti) (hk:ti.k=.int k):P.underlying T=some (.int k):=by obtain ⟨i,u,z,hi,hu,hz,rfl⟩:=Vl h;cases u <;> simp [Jie] at hk;rw [hu,hk]
def Y3a (h:Zt P T=some ti) (hk:ti.k=.struct):
 ∃fs,P.underlying T=some (.struct fs)∧ti.fl=fs.toList.map fun f=>(f.offset,((P.info? f.type).map (·.size)).getD 0):=by obtain ⟨i,u,z,hi,hu,hz,rfl⟩:=Vl h;cases u <;> simp [Jie] at hk;exact ⟨_,hu,rfl⟩
end facts
inductive In1 (e : Blk) : List Blk → Prop
 | here {L}:In1 e (e :: L)
 | cons {x L} (h:In1 e L):In1 e (x :: L)
 | app {X L} (h:In1 e L):In1 e (X ++ L)
def In1.mem {e:Blk} {L:List Blk} (h:In1 e L):e∈L:=by
 induction h with
 | here=>simp
 | cons _ ih=>exact yS _ ih
 | app _ ih=>exact yi _ ih
def Und (a b:Int):(a == b)=decide (a=b):=by by_cases h:a=b <;> simp [h]
section quiet
variable {P:Program} {ρ:Operand→Value} {L:List Blk} {R:List Sl} {dst:Option Tmp} {ty:TypeId} {pos:String} {after:Array Edge} {guard:Option (Nat×Bool)}
def Jt {x:Operand} {v:Value} (h:ρ x=v):YV P ⟨dst,.move x,ty,pos,after,guard⟩ ρ L R v:=fun _ _ _=>by simp [execOp,h]
def Uc {x:Operand} {v:Value} (h:ρ x=v):YV P ⟨dst,.assign x,ty,pos,after,guard⟩ ρ L R v:=fun _ _ _=>by simp [execOp,h]
def Uqa {c x y:Operand} {b:Bool} (h:ρ c=.bool b):YV P ⟨dst,.pick c x y,ty,pos,after,guard⟩ ρ L R (if b then ρ x else ρ y):=fun _ _ _=>by
 simp [execOp,h,asBool]
def Vu {c x y:Operand} {v:Value} (h:ρ c=.bool true) (hv:ρ x=v):YV P ⟨dst,.pick c x y,ty,pos,after,guard⟩ ρ L R v:=fun _ _ _=>by
 simp [execOp,h,asBool,hv]
def U9 {c x y:Operand} {v:Value} (h:ρ c=.bool false) (hv:ρ y=v):YV P ⟨dst,.pick c x y,ty,pos,after,guard⟩ ρ L R v:=fun _ _ _=>by
 simp [execOp,h,asBool,hv]
def K5b {n:Int} (h1:-9223372036854775808≤n) (h2:n≤9223372036854775807):IntKind.i64.wrap n=n:=by rw [IntKind.wrap_i64];omega
variable {T T2:TypeId} {x y:Operand} {k:IntKind} {a b:Int}
def Y2b (hx:ρ x=.int k a) (hy:ρ y=.int k b):YV P ⟨dst,.binOp .add T x y T2,ty,pos,after,guard⟩ ρ L R (.int k (k.wrap (a + b))):=fun _ _ _=>by
 simp [execOp,hx,hy,eqGuard,binOp,Op.intArith]
def U4d (hx:ρ x=.int k a) (hy:ρ y=.int k b):YV P ⟨dst,.binOp .sub T x y T2,ty,pos,after,guard⟩ ρ L R (.int k (k.wrap (a - b))):=fun _ _ _=>by
 simp [execOp,hx,hy,eqGuard,binOp,Op.intArith]
def Jlc (hx:ρ x=.int k a) (hy:ρ y=.int k b):YV P ⟨dst,.binOp .mul T x y T2,ty,pos,after,guard⟩ ρ L R (.int k (k.wrap (a * b))):=fun _ _ _=>by
 simp [execOp,hx,hy,eqGuard,binOp,Op.intArith]
def Jvb (hx:ρ x=.int .i64 a) (hy:ρ y=.int .i64 b) (h1:-9223372036854775808≤a + b) (h2:a + b≤9223372036854775807):
 YV P ⟨dst,.binOp .add T x y T2,ty,pos,after,guard⟩ ρ L R (.int .i64 (a + b)):=by have:=Y2b (P:=P) (L:=L) (R:=R) (dst:=dst) (ty:=ty) (pos:=pos) (after:=after) (guard:=guard) (T:=T) (T2:=T2) hx hy;rwa [K5b h1 h2] at this
def Vyb (hx:ρ x=.int .i64 a) (hy:ρ y=.int .i64 b) (h1:-9223372036854775808≤a - b) (h2:a - b≤9223372036854775807):
 YV P ⟨dst,.binOp .sub T x y T2,ty,pos,after,guard⟩ ρ L R (.int .i64 (a - b)):=by have:=U4d (P:=P) (L:=L) (R:=R) (dst:=dst) (ty:=ty) (pos:=pos) (after:=after) (guard:=guard) (T:=T) (T2:=T2) hx hy;rwa [K5b h1 h2] at this
def Vzb (hx:ρ x=.int .i64 a) (hy:ρ y=.int .i64 b) (h1:-9223372036854775808≤a * b) (h2:a * b≤9223372036854775807):
 YV P ⟨dst,.binOp .mul T x y T2,ty,pos,after,guard⟩ ρ L R (.int .i64 (a * b)):=by have:=Jlc (P:=P) (L:=L) (R:=R) (dst:=dst) (ty:=ty) (pos:=pos) (after:=after) (guard:=guard) (T:=T) (T2:=T2) hx hy;rwa [K5b h1 h2] at this
def Utd (hx:ρ x=.int k a) (hy:ρ y=.int k b) (h:¬ b=0):YV P ⟨dst,.binOp .quo T x y T2,ty,pos,after,guard⟩ ρ L R (.int k (k.wrap (a.tdiv b))):=fun _ _ _=>by
 simp [execOp,hx,hy,eqGuard,binOp,Op.intDiv,h]
def U6e (hx:ρ x=.int k a) (hy:ρ y=.int k b) (h:¬ b=0):YV P ⟨dst,.binOp .rem T x y T2,ty,pos,after,guard⟩ ρ L R (.int k (a.tmod b)):=fun _ _ _=>by
 simp [execOp,hx,hy,eqGuard,binOp,Op.intDiv,h]
def U6d (hx:ρ x=.int .i64 a) (hy:ρ y=.int .i64 b) (h:¬ b=0) (h1:-9223372036854775808≤a.tdiv b) (h2:a.tdiv b≤9223372036854775807):
 YV P ⟨dst,.binOp .quo T x y T2,ty,pos,after,guard⟩ ρ L R (.int .i64 (a.tdiv b)):=by have:=Utd (P:=P) (L:=L) (R:=R) (dst:=dst) (ty:=ty) (pos:=pos) (after:=after) (guard:=guard) (T:=T) (T2:=T2) hx hy h;rwa [K5b h1 h2] at this
def Utb (hx:ρ x=.int k a) (hy:ρ y=.int k b):YV P ⟨dst,.binOp .lss T x y T2,ty,pos,after,guard⟩ ρ L R (.bool (decide (a < b))):=fun _ _ _=>by
 simp [execOp,hx,hy,eqGuard,binOp,Op.intCmp]
def Khf (hx:ρ x=.int k a) (hy:ρ y=.int k b):YV P ⟨dst,.binOp .leq T x y T2,ty,pos,after,guard⟩ ρ L R (.bool (decide (a≤b))):=fun _ _ _=>by
 simp [execOp,hx,hy,eqGuard,binOp,Op.intCmp]
def Kvc (hx:ρ x=.int k a) (hy:ρ y=.int k b):YV P ⟨dst,.binOp .gtr T x y T2,ty,pos,after,guard⟩ ρ L R (.bool (decide (b < a))):=fun _ _ _=>by
 simp [execOp,hx,hy,eqGuard,binOp,Op.intCmp]
def Jkc (hx:ρ x=.int k a) (hy:ρ y=.int k b):YV P ⟨dst,.binOp .geq T x y T2,ty,pos,after,guard⟩ ρ L R (.bool (decide (b≤a))):=fun _ _ _=>by
 simp [execOp,hx,hy,eqGuard,binOp,Op.intCmp]
def Yqa (hx:ρ x=.int k a) (hy:ρ y=.int k b):YV P ⟨dst,.binOp .eql T x y T2,ty,pos,after,guard⟩ ρ L R (.bool (decide (a=b))):=fun _ _ _=>by
 simp [execOp,hx,hy,eqGuard,binOp,Op.intCmp,Und]
def Jnc (hx:ρ x=.int k a) (hy:ρ y=.int k b):YV P ⟨dst,.binOp .neq T x y T2,ty,pos,after,guard⟩ ρ L R (.bool (decide (¬ a=b))):=fun _ _ _=>by
 simp [execOp,hx,hy,eqGuard,binOp,Op.intCmp,bne,Und]
def U7d (hx:ρ x=.int .i64 a) (h1:-9223372036854775807≤a) (h2:a≤9223372036854775808):YV P ⟨dst,.unOp .neg T x,ty,pos,after,guard⟩ ρ L R (.int .i64 (-a)):=fun _ _ _=>by
 have:IntKind.i64.wrap (0 - a)= -a:=by rw [K5b za za];omega
 simp only [Int.zero_sub] at this
 simp [execOp,hx,Op.unary,Op.intArith,this]
def V8a {c:Bool} (hx:ρ x=.bool c):YV P ⟨dst,.unOp .not T x,ty,pos,after,guard⟩ ρ L R (.bool (!c)):=fun _ _ _=>by
 simp [execOp,hx,Op.unary]
variable (tb:Tabs P)
def Ksa {k k':IntKind} {n1 n2 f1 f2 b1 b2 z1 z2} (h1:Y4 tb.tab T=some ⟨.int k',n1,f1,b1,z1⟩) (h2:Y4 tb.tab T2=some ⟨.int k,n2,f2,b2,z2⟩) (hx:ρ x=.int k' a):
 YV P ⟨dst,.convert T T2 x,ty,pos,after,guard⟩ ρ L R (.int k (k.wrap a)):=fun _ w _=>by
 have u1:=V5c (tb.ok _ _ h1) rfl
 have u2:=V5c (tb.ok _ _ h2) rfl
 simp [execOp,hx,convert,run_underlying u1,run_underlying u2,Conv.intToInt]
def K9a {k' : IntKind} {n1 n2 f1 f2 b1 b2 z1 z2} (h1 : Y4 tb.tab T = some ⟨.int k', n1, f1, b1, z1⟩) (h2 : Y4 tb.tab T2 = some ⟨.int .i64, n2, f2, b2, z2⟩) (hx : ρ x = .int k' a)
 (h3:-9223372036854775808≤a) (h4:a≤9223372036854775807):YV P ⟨dst,.convert T T2 x,ty,pos,after,guard⟩ ρ L R (.int .i64 a):=by have:=Ksa (P:=P) (L:=L) (R:=R) (dst:=dst) (ty:=ty) (pos:=pos) (after:=after) (guard:=guard) tb h1 h2 hx;rwa [K5b h3 h4] at this
def Uha (b off n:Nat):(⟨b,off,none⟩:Addr).add n=⟨b,off + n,none⟩:=by unfold Addr.add;split <;> simp_all
def K7 {f off sz n b o:Nat} {fl:List (Nat×Nat)} {bt z} (hT:Y4 tb.tab T=some ⟨.struct,n,fl,bt,z⟩) (hx:ρ x=.pointer (some ⟨b,o,none⟩)) (hf:fl[f]?=some (off,sz + 1)):
 YV P ⟨dst,.fieldAddr T x f,ty,pos,after,guard⟩ ρ L R (.pointer (some ⟨b,o + off,none⟩)):=fun _ w _=>by
 obtain ⟨fs,hu,hfl⟩:=Y3a (tb.ok _ _ hT) rfl
 simp only at hfl
 subst hfl
 rw [yt] at hf
 obtain ⟨fd,hfd,he⟩:=Option.map_eq_some_iff.1 hf
 obtain ⟨h1,h2⟩:=Prod.mk.inj he
 have hfd':fs[f]?=some fd:=by rw [← Array.getElem?_toList];exact hfd
 have hsz:∃i,P.info? fd.type=some i∧i.size=sz + 1:=by
  cases hi:P.info? fd.type with
  | none=>rw [hi] at h2;simp at h2
  | some i=>rw [hi] at h2;exact ⟨i,rfl,by simpa using h2⟩
 obtain ⟨i,hi,hs⟩:=hsz
 simp [execOp,hx,Instr.fieldAt,run_underlying hu,hfd',Instr.sureAddr,fieldPlace,sizeOf,typeInfo,hi,hs,Uha,h1]
def Vha {f off sz n wd i j:Nat} {ar:Option Addr} {fl:List (Nat×Nat)} {bt z} (hT:Y4 tb.tab T=some ⟨.struct,n,fl,bt,z⟩) (hx:ρ x=.pointer (some ⟨adB ar,eo ar wd i j,none⟩)) (hf:fl[f]?=some (off,sz + 1)):
 YV P ⟨dst,.fieldAddr T x f,ty,pos,after,guard⟩ ρ L R (.pointer (some ⟨adB ar,eo ar wd i (j + off),none⟩)):=by
 have:=K7 (P:=P) (L:=L) (R:=R) (dst:=dst) (ty:=ty) (pos:=pos) (after:=after) (guard:=guard) tb hT hx hf;have e:eo ar wd i j + off=eo ar wd i (j + off):=by simp [eo,ybc]
 rwa [e] at this
def Jl {e n n2 bt z bt2 z2 k2} {fl fl2 : List (Nat × Nat)} {len cap i : Nat} {b o : Nat} (hT : Y4 tb.tab T = some ⟨.slice e, n, fl, bt, z⟩) (hE : Y4 tb.tab e = some ⟨k2, n2, fl2, bt2, z2⟩)
 (hx:ρ x=.slice (some ⟨b,o,none⟩) len cap) (hy:ρ y=.int k a) (hi:a=(i:Int)) (hlt:i < len):
 YV P ⟨dst,.indexAddr T x y,ty,pos,after,guard⟩ ρ L R (.pointer (some ⟨adB (some ⟨b,o,none⟩),eo (some ⟨b,o,none⟩) n2 i 0,none⟩)):=fun _ w _=>by
 have hu:=Vi (tb.ok _ _ hT) rfl
 have hs:=run_sizeOf (tb.ok _ _ hE)
 simp only at hs
 subst hi
 simp [execOp,hx,hy,Instr.indexAt,asIntOf,run_underlying hu,hs,hlt,Uha,adB,eo,adO]
def Jf {e n n2 bt z bt2 z2 k2} {fl fl2 : List (Nat × Nat)} {len cap i : Nat} {ar : Option Addr} {rows : List (List Value)} {subs : List Sl} (hT : Y4 tb.tab T = some ⟨.slice e, n, fl, bt, z⟩) (hE : Y4 tb.tab e = some ⟨k2, n2, fl2, bt2, z2⟩)
 (hx:ρ x=.slice ar len cap) (hy:ρ y=.int k a) (hR:InR (.mk n2 ar len cap rows subs) R) (hi:a=(i:Int)) (hlt:i < len):
 YV P ⟨dst,.indexAddr T x y,ty,pos,after,guard⟩ ρ L R (.pointer (some ⟨adB ar,eo ar n2 i 0,none⟩)):=fun c w hst=>by
 obtain ⟨⟨G,hh,hg⟩,ho,hk⟩:=hst
 obtain ⟨r,hr,hsub⟩:=hR
 have hrep:=(hh.rep r hr).sub hsub
 cases hrep with
 | mk hl hc hm hw hmem hs=>
  rcases hmem with h0 | ⟨b,off,ha,_,_⟩
  ·subst h0;simp only [yea] at hl;omega
  ·subst ha
   exact Jl tb hT hE hx hy hi hlt c w ⟨⟨G,hh,hg⟩,ho,hk⟩
def Z4 {c:Ctx} {w:World} (h:St c L R w) {b:Nat} {cs:List Value} {T:TypeId} (he:(⟨b,cs,T⟩:Blk)∈L) (o:Nat):w.cell? ⟨b,o,none⟩=cs[o]?:=by obtain ⟨⟨G,hh,hg⟩,ho,hk⟩:=h;have:=hh.own _ he;simp [World.cell?,BT.obj] at this ⊢;rw [this];simp
def Ynb {w:World} {T:TypeId} {ti:TI} (h:Zt P T=some ti) (hk:ti.k.isAgg=false) {b o:Nat} {v:Value} (hc:w.cell? ⟨b,o,none⟩=some v):
 (loadVar T ⟨b,o,none⟩).run P w=.ok v w:=by simp [loadVar,Zrb h,hk,load,Sem.run,hc]
def J9b {w : World} {T : TypeId} {ti : TI} (h : Zt P T = some ti) (hk : ti.k.isAgg = true) {b o : Nat} {row : List Value} (hn : row.length = ti.sz)
 (hc:∀j v,row[j]?=some v→w.cell? ⟨b,o + j,none⟩=some v):(loadVar T ⟨b,o,none⟩).run P w=.ok (.agg row.toArray) w:=by have hl:=run_loadCells_list (P:=P) w ⟨b,o,none⟩ row (fun j v hj=>by rw [Uha];exact hc j v hj);simp [loadVar,Zrb h,hk,run_sizeOf h,← hn,hl]
def Kv {n b o : Nat} {fl bt z v} {kk : TK} {cs : List Value} {T' : TypeId} (hx : ρ x = .pointer (some ⟨b, o, none⟩)) (hT : Y4 tb.tab T = some ⟨kk, n, fl, bt, z⟩) (hk : kk.isAgg = false)
 (hin:In1 ⟨b,cs,T'⟩ L) (hv:cs[o]?=some v):YV P ⟨dst,.load T x,ty,pos,after,guard⟩ ρ L R v:=fun c w hst=>by
 have:=Ynb (P:=P) (w:=w) (tb.ok _ _ hT) hk (b:=b) (o:=o) (v:=v) (by rw [Z4 hst hin.mem];exact hv)
 simp [execOp,hx,Instr.loadAt,Instr.sureAddr,this]
def sub (cs:List Value) (o n:Nat):List Value:=(cs.drop o).take n
def Jm {n b o : Nat} {fl bt z} {kk : TK} {cs row : List Value} {T' : TypeId} (hx : ρ x = .pointer (some ⟨b, o, none⟩)) (hT : Y4 tb.tab T = some ⟨kk, n, fl, bt, z⟩) (hk : kk.isAgg = true)
 (hin:In1 ⟨b,cs,T'⟩ L) (hv:sub cs o n=row) (hn:row.length=n):YV P ⟨dst,.load T x,ty,pos,after,guard⟩ ρ L R (.agg row.toArray):=fun c w hst=>by
 have:=J9b (P:=P) (w:=w) (tb.ok _ _ hT) hk (b:=b) (o:=o) (row:=row) hn (fun j v hj=>by
  rw [Z4 hst hin.mem]
  rw [← hv,sub,ysa] at hj
  split at hj
  ·simpa using hj
  ·cases hj)
 simp [execOp,hx,Instr.loadAt,Instr.sureAddr,this]
def Knd {c:Ctx} {w:World} (h:St c L R w) {wd len cap i j:Nat} {ar:Option Addr} {rows:List (List Value)} {subs:List Sl} (hR:InR (.mk wd ar len cap rows subs) R) {row:List Value} (hr:rows[i]?=some row) {v:Value} (hj:row[j]?=some v):
 w.cell? ⟨adB ar,eo ar wd i j,none⟩=some v:=by
 obtain ⟨⟨G,hh,hg⟩,ho,hk⟩:=h;obtain ⟨r,hr',hsub⟩:=hR;have hrep:=(hh.rep r hr').sub hsub;cases hrep with
 | mk hl hc hm hw hmem hs=>
  have hi:i < rows.length:=(List.getElem?_eq_some_iff.1 hr).1;rcases hmem with h0 | ⟨b,off,ha,_,Kjb⟩;·subst h0;simp at hi
  ·subst ha;(have hjw:j < wd:=by have h1:=(List.getElem?_eq_some_iff.1 hj).1;have h2:=hw row (yj hr);omega);rw [show adB (some ⟨b,off,none⟩)=b from rfl,show eo (some ⟨b,off,none⟩) wd i j=off + i * wd + j from rfl,Kjb i j za hjw,hr];exact hj
def Yv {α : Type} {n wd len cap i j : Nat} {fl bt z v} {kk : TK} {ar : Option Addr} {f : α → List Value} {l : List α} {xx : α} {subs : List Sl} (hx : ρ x = .pointer (some ⟨adB ar, eo ar wd i j, none⟩)) (hT : Y4 tb.tab T = some ⟨kk, n, fl, bt, z⟩) (hk : kk.isAgg = false)
 (hR:InR (.mk wd ar len cap (l.map f) subs) R) (hr:l[i]?=some xx) (hj:(f xx)[j]?=some v):YV P ⟨dst,.load T x,ty,pos,after,guard⟩ ρ L R v:=fun c w hst=>by
 have:=Ynb (P:=P) (w:=w) (tb.ok _ _ hT) hk (v:=v) (Knd hst hR (row:=f xx) (by rw [yt,hr];rfl) hj)
 simp [execOp,hx,Instr.loadAt,Instr.sureAddr,this]
def Kz {α : Type} {n wd len cap i j : Nat} {fl bt z} {kk : TK} {ar : Option Addr} {f : α → List Value} {l : List α} {xx : α} {row : List Value} {subs : List Sl} (hx : ρ x = .pointer (some ⟨adB ar, eo ar wd i j, none⟩)) (hT : Y4 tb.tab T = some ⟨kk, n, fl, bt, z⟩) (hk : kk.isAgg = true)
 (hR:InR (.mk wd ar len cap (l.map f) subs) R) (hr:l[i]?=some xx) (hv:sub (f xx) j n=row) (hn:row.length=n):YV P ⟨dst,.load T x,ty,pos,after,guard⟩ ρ L R (.agg row.toArray):=fun c w hst=>by
 have:=J9b (P:=P) (w:=w) (tb.ok _ _ hT) hk (b:=adB ar) (o:=eo ar wd i j) (row:=row) hn (fun jj v hj=>by
  rw [← hv,sub,ysa] at hj
  split at hj
  ·have := Knd hst hR (row := f xx) (i := i) (j := j + jj) (v := v) (by rw [yt, hr]; rfl) (by simpa using hj)
   rw [← this]
   simp [eo,ybc]
  ·cases hj)
 simp [execOp,hx,Instr.loadAt,Instr.sureAddr,this]
def Kda {ts:Array TypeId} {e n fl bt z} {ar:Option Addr} {len cap:Nat} (hts:ts[0]?=some T) (hT:Y4 tb.tab T=some ⟨.slice e,n,fl,bt,z⟩) (hx:ρ x=.slice ar len cap):
 YV P ⟨dst,.call ⟨.builtin .len,#[x],ts⟩,ty,pos,after,guard⟩ ρ L R (.int .i64 (len:Int)):=fun _ w _=>by
 have hu:=Vi (tb.ok _ _ hT) rfl
 simp [execOp,resolve,invoke,builtin,Builtin.len_,hts,hx,run_underlying hu,goInt]
def J2 {ad:Addr} (hx:ρ x=.pointer (some ad)):YV P ⟨dst,.nilCheck x,ty,pos,after,guard⟩ ρ L R (.pointer (some ad)):=fun _ w _=>by
 simp [execOp,hx]
def Zib {ts:Array TypeId} (hx:ρ x=.int k a) (hy:ρ y=.int k b):YV P ⟨dst,.call ⟨.builtin .min,#[x,y],ts⟩,ty,pos,after,guard⟩ ρ L R (.int k (min a b)):=fun _ w _=>by
 simp only [execOp,resolve,invoke,builtin,Builtin.min_,ylb,yJ,ypb,hx,hy]
 have:(if b < a then b else a)=min a b:=by rw [Int.min_def];split <;> split <;> omega
 simp [Builtin.min2,this]
def Vwa {ts:Array TypeId} (hx:ρ x=.int k a) (hy:ρ y=.int k b):YV P ⟨dst,.call ⟨.builtin .max,#[x,y],ts⟩,ty,pos,after,guard⟩ ρ L R (.int k (max a b)):=fun _ w _=>by
 simp only [execOp,resolve,invoke,builtin,Builtin.max_,ylb,yJ,ypb,hx,hy]
 have:(if b > a then b else a)=max a b:=by rw [Int.max_def];split <;> split <;> omega
 simp [Builtin.max2,this]
def K0 {i:Nat} {vs:Array Value} {v:Value} (hx:ρ x=.tuple vs) (hv:vs[i]?=some v):YV P ⟨dst,.extract x i,ty,pos,after,guard⟩ ρ L R v:=fun _ w _=>by
 simp [execOp,hx,Instr.extract,hv]
end quiet
end Go.Aw
end
section
namespace Go.Aw
open Go
def Kpg (args:List Value):Nat→Value:=fun k=>args.getD k undef
def RV (P:Program) (t:Nat→Value) (L:List Blk) (R:List Sl) (r:ResultVar) (v:Value):Prop:=
 match r with
 | .tmp k=>t k=v
 | .cell k T=>∀c w,St c L R w→∃a,t k=.pointer (some a)∧(loadVar T a).run P w=.ok v w
def Uz (P : Program) (fn : Func) (Post : Yy) : Kt
 | .normal,t,L,R=>∃v M U,(∀c n a w,Fr n t a→St c L R w→(results fn a.tmps).run P w=.ok v w)∧Post v M U∧M.Sublist L∧∀r∈U,InR r R
 | .ret,t,L,R=>∃v M U,(∀c n a w,Fr n t a→St c L R w→(results fn a.tmps).run P w=.ok v w)∧Post v M U∧M.Sublist L∧∀r∈U,InR r R
 | _,_,_,_=>False
def Jj {P : Program} {f : FuncId} {fn : Func} {code : Code} {args : List Value} {L : List Blk} {R : List Sl} {Post : Yy} (n : Nat)
 (hcall:∀(xs:Array Value) (w:World),(callFunc f xs).run P w=.ok (.enter f xs) w) (hf:P.funcs[f]?=some fn) (hb:fn.body=some code) (hn:fn.ntmps=n) (ha:Nat.ble args.length n=true)
 (h:CJ P n code (Kpg args) L R (Uz P fn Post)):Tri P f args.toArray L R Post:=by
 refine ⟨hcall,fun w G hh=>?_⟩;have ha':args.length≤n:=yQ ha;refine calls_of_wp hf hb (wp_mono (h ⟨w,inL L,G⟩ _ w ⟨rfl,?_,fun k=>?_⟩ (St.init hh)) ?_);·simp [hn];omega
 ·
  simp only [Kpg, hn];rcases yk k args.length with hk | hk;·simp [List.getD,hk,yBb]
  ·
   rcases yk k n with hk2 | hk2;·(have : k - args.length < n - args.length := by omega);simp [List.getD,yBb,Nat.not_lt.2 hk,this]
   ·(have : ¬ k - args.length < n - args.length := by omega);simp [List.getD,yBb,Nat.not_lt.2 hk,this]
 ·
  rintro e a w' ⟨_, t, M, U, hq, hf', hs'⟩;have key:(∃v L'' R'',(∀c n a w,Fr n t a→St c M U w→(results fn a.tmps).run P w=.ok v w)∧Post v L'' R''∧L''.Sublist M∧∀r∈R'',InR r U)→
   a.defers=[]∧∃v,(results fn a.tmps).run P w'=.ok v w'∧∃v_1 L'_1 R'_1,Ending.returned v=.returned v_1∧Post v_1 L'_1 R'_1∧St ⟨w,inL L,G⟩ L'_1 R'_1 w':=by
   rintro ⟨v,L'',R'',hr,hp,hL,hR⟩;exact ⟨hf'.defers,v,hr _ _ a w' hf' hs',v,L'',R'',rfl,hp,hs'.weak hL hR⟩
  cases e with
  | normal=>exact key hq
  | ret=>exact key hq
  | _=>exact hq.elim
section
variable {P:Program} {fn:Func} {Post:Yy} {t:Nat→Value} {L:List Blk} {R:List Sl}
def Ulf (tmps : Array Value) : ResultVar → Sem Value
 | .tmp t=>pure (tmps.getD t undef)
 | .cell a t=>do loadVar t (← asAddr (tmps.getD a undef))
def U3a (tmps:Array Value):results fn tmps=(do
 let vs ← fn.results.mapM (Ulf tmps)
 pure (if h:vs.size=1 then vs[0] else .tuple vs)):=rfl
def Zza {r:ResultVar} {v:Value} (h:RV P t L R r v) {c n a w} (hf:Fr n t a) (hs:St c L R w):(Ulf a.tmps r).run P w=.ok v w:=by
 cases r with
 | tmp k=>have e:t k=v:=h;rw [← e,← hf.val k];rfl
 | cell k T=>obtain ⟨ad,h1,h2⟩:=h c w hs;have h3:=hf.val k;rw [h1] at h3;simp only [Ulf,h3];simp [asAddr,h2]
def Yc {r:ResultVar} {v:Value} (hr:fn.results=#[r]) (h:RV P t L R r v):∀c n a w,Fr n t a→St c L R w→(results fn a.tmps).run P w=.ok v w:=by intro c n a w hf hs;have h1:=Zza h hf hs;rw [U3a,hr];simp [h1]
def U1 {r s:ResultVar} {v u:Value} (hr:fn.results=#[r,s]) (h:RV P t L R r v) (k:RV P t L R s u):∀c n a w,Fr n t a→St c L R w→(results fn a.tmps).run P w=.ok (.tuple #[v,u]) w:=by intro c n a w hf hs;have h1:=Zza h hf hs;have h2:=Zza k hf hs;rw [U3a,hr];simp [h1,h2]
def Vdb {r s q:ResultVar} {v u x:Value} (hr:fn.results=#[r,s,q]) (h:RV P t L R r v) (k:RV P t L R s u) (m:RV P t L R q x):∀c n a w,Fr n t a→St c L R w→(results fn a.tmps).run P w=.ok (.tuple #[v,u,x]) w:=by intro c n a w hf hs;have h1:=Zza h hf hs;have h2:=Zza k hf hs;have h3:=Zza m hf hs;rw [U3a,hr];simp [h1,h2,h3]
def Jg {k:Nat} {v:Value} (h:t k=v):RV P t L R (.tmp k) v:=h
def Jq (tb : Tabs P) {k T n b o : Nat} {fl bt z} {kk : TK} {cs row : List Value} {T' : TypeId} (hx : t k = .pointer (some ⟨b, o, none⟩)) (hT : Y4 tb.tab T = some ⟨kk, n, fl, bt, z⟩) (hk : kk.isAgg = true)
 (hin:In1 ⟨b,cs,T'⟩ L) (hv:sub cs o n=row) (hn:row.length=n):RV P t L R (.cell k T) (.agg row.toArray):=by
 intro c w hst;refine ⟨_,hx,J9b (tb.ok _ _ hT) hk hn (fun j v hj=>?_)⟩;rw [Z4 hst hin.mem];rw [← hv,sub,ysa] at hj;split at hj;·simpa using hj
 ·cases hj
def Ja {r:Sl} {R:List Sl} (h:r∈R):InR r R:=⟨r,h,.here⟩
def Jd (R:List Sl):∀r∈R,InR r R:=fun _ h=>Ja h
def Kq {v:Value} {M:List Blk} {U:List Sl} (h:∀c n a w,Fr n t a→St c L R w→(results fn a.tmps).run P w=.ok v w) (hp:Post v M U) (hL:M.Sublist L) (hR:∀r∈U,InR r R):Uz P fn Post .ret t L R:=
 ⟨v,M,U,h,hp,hL,hR⟩
def K5a {v:Value} {M:List Blk} {U:List Sl} (h:∀c n a w,Fr n t a→St c L R w→(results fn a.tmps).run P w=.ok v w) (hp:Post v M U) (hL:M.Sublist L) (hR:∀r∈U,InR r R):Uz P fn Post .normal t L R:=
 ⟨v,M,U,h,hp,hL,hR⟩
end
section
variable {P:Program} {n:Nat} {all:Array Oper} {op:Op} {ty:TypeId} {pos:String} {after:Array Edge} {rest:List Oper} {t:Nat→Value} {L:List Blk} {R:List Sl} {Q:Kt} {d:Tmp} {v:Value}
def Jx (hv:YV P ⟨some d,op,ty,pos,after,none⟩ (ev t) L R v) (hd:Nat.blt d n=true) (h:LJ P n all rest (upd t d v) L R Q):LJ P n all (⟨some d,op,ty,pos,after,none⟩ :: rest) t L R Q:=
 Vwd hv rfl hd h
def Jqa {Post:Yy} (hg:Gives P ⟨some d,op,ty,pos,after,none⟩ (ev t) L R Post) (hd:Nat.blt d n=true) (h:∀v M U,Post v M U→LJ P n all rest (upd t d v) M U Q):LJ P n all (⟨some d,op,ty,pos,after,none⟩ :: rest) t L R Q:=
 Vtb hg rfl hd h
def Ym {Post:Yy} (hg:Gives P ⟨none,op,ty,pos,after,none⟩ (ev t) L R Post) (h:∀v M U,Post v M U→LJ P n all rest t M U Q):LJ P n all (⟨none,op,ty,pos,after,none⟩ :: rest) t L R Q:=
 Vtb hg rfl rfl h
end
def Z7a (j:Nat) (want:Bool) (l:List Oper):List Oper:=
 l.map fun o=>match o.guard with
  | some (k,w)=>bif Nat.beq k j && (w == want) then { o with guard:=none } else o
  | none=>o
def Vza (all : Array Oper) (j : Nat) (want : Bool) (cj : Nat) : List Nat → List Oper → Bool
 | _,[]=>true
 | ds,o :: l=>
  (match o.guard with
   | some (k,w)=>(Nat.beq k j && (w == want)) || (match (all[k]?).bind (·.dst) with
    | some d=>Z3b d ds
    | none=>false)
   | none=>false) &&
  (match o.dst with
   | some d=>!Nat.beq d cj && Vza all j want cj (d :: ds) l
   | none=>Vza all j want cj ds l)
def Jbd : List Oper → List Nat
 | []=>[]
 | o :: l=>match o.dst with
  | some d=>d :: Jbd l
  | none=>Jbd l
def J5 (ws : List Nat) (t : Nat → Value) (x : Operand) (v : Bool) (L : List Blk) (R : List Sl) : Kt
 | .normal,t',M,U=>ev t' x=.bool v∧M=L∧U=R∧Off ws t t'
 | _,_,_,_=>False
end Go.Aw
end
section
namespace Go.Aw
open Go
def V6 {P:Program} {o:Oper} {ρ:Operand→Value} {a:Act} {next:Act→World→Prop} {Q:Exit→Act→World→Prop} {w w':World} {v:Value} (h:(execOp ρ o).run P w=.ok (.value v) w') (k:next (a.put o.dst v) w'):o.upon P a next Q ((execOp ρ o).run P w):=by rw [h];exact k
def Ygb {P:Program} {o:Oper} {ρ:Operand→Value} {a:Act} {next:Act→World→Prop} {Q:Exit→Act→World→Prop} {w w':World} (h:(execOp ρ o).run P w=.ok .skip w') (k:next (a.put o.dst undef) w'):o.upon P a next Q ((execOp ρ o).run P w):=by rw [h];exact k
def St.alloc {c:Ctx} {L:List Blk} {R:List Sl} {w:World} (h:St c L R w) (cs:Array Value) (T:TypeId):St c (⟨w.heap.size,cs.toList,T⟩ :: L) R (w.alloc (.cells cs T)):=by
 obtain ⟨⟨G,hh,hg⟩,ho,hk⟩:=h;have old:∀b,b < w.heap.size→(w.alloc (.cells cs T)).heap[b]?=w.heap[b]?:=fun b hb=>by exact ubj
 refine ⟨⟨G,⟨?_,?_,?_,fun b hb=>?_,fun r hr=>(hh.rep r hr).mono (fun _ h=>h) (fun b hb=>old b (hh.gs b hb))⟩,hg⟩,?_,⟨hk.os,hk.tape,hk.output,?_,fun b hb hn=>?_,fun a=>?_⟩⟩;·simp only [yJ, yia];refine ⟨fun hm=>?_,hh.nd⟩;obtain ⟨e,he,hb⟩:=List.mem_map.1 hm;have:=hh.lt he;omega
 ·
  intro e he;rcases List.mem_cons.1 he with rfl | he;·show (w.heap.push _)[w.heap.size]? = _;simp [BT.obj]
  ·rw [old _ (hh.lt he)];exact hh.own e he
 ·
  intro e he;rcases List.mem_cons.1 he with rfl | he;·exact fun h=>absurd (hh.gs _ h) (Nat.lt_irrefl _)
  ·exact hh.ng e he
 ·have := hh.gs b hb;simp;omega
 ·
  intro e he;rcases List.mem_cons.1 he with rfl | he;·exact .inr hk.size
  ·exact ho e he
 ·have := hk.size;simp;omega
 ·rw [old b (ydb hb hk.size)];exact hk.block b hb hn
 ·rw [RowKit.frozen?_alloc_cells];exact hk.frz a
def St.drew {c:Ctx} {L:List Blk} {R:List Sl} {w:World} (h:St c L R w):St c L R w.drew:=by obtain ⟨⟨G,hh,hg⟩,ho,hk⟩:=h;exact ⟨⟨G,⟨hh.nd,hh.own,hh.ng,hh.gs,fun r hr=>Rep.mono (w:=w) (w':=w.drew) (G:=G) (fun _ h=>h) (fun _ _=>rfl) (hh.rep r hr)⟩,hg⟩,ho,⟨hk.os,hk.tape,hk.output,hk.size,hk.block,hk.frz⟩⟩
inductive Upd1 (b : Nat) (cs : List Value) (T : TypeId) (cs' : List Value) : List Blk → List Blk → Prop
 | here {L}:Upd1 b cs T cs' (⟨b,cs,T⟩ :: L) (⟨b,cs',T⟩ :: L)
 | cons {x L M} (h:Upd1 b cs T cs' L M):Upd1 b cs T cs' (x :: L) (x :: M)
 | app {X L M} (h:Upd1 b cs T cs' L M):Upd1 b cs T cs' (X ++ L) (X ++ M)
def Upd1.mem {b cs T cs' L M} (h:Upd1 b cs T cs' L M):(⟨b,cs,T⟩:Blk)∈L:=by
 induction h with
 | here=>simp
 | cons _ ih=>exact yS _ ih
 | app _ ih=>exact yi _ ih
def Upd1.bs {b cs T cs' L M} (h:Upd1 b cs T cs' L M):M.map (·.b)=L.map (·.b):=by
 induction h with
 | here=>rfl
 | cons _ ih=>simp [ih]
 | app _ ih=>simp [ih]
def Upd1.back {b cs T cs' L M} (h:Upd1 b cs T cs' L M):∀e∈M,e=⟨b,cs',T⟩∨e∈L:=by
 induction h with
 | here=>intro e he;rcases List.mem_cons.1 he with h | h;exact .inl h;exact .inr (yS _ h)
 | cons _ ih=>intro e he;rcases List.mem_cons.1 he with h | h;exact .inr (by rw [h];simp);exact (ih e h).imp id (yS _)
 | app _ ih=>intro e he;rcases List.mem_append.1 he with h | h;exact .inr (ym _ h);exact (ih e h).imp id (yi _)
def Vjc (w:World) (g:Nat) (cs:Array Value) (a:Addr):(w.setRow g cs).frozen? a=w.frozen? a:=by
 by_cases h:a.block=g;·
  subst h;unfold World.frozen?;cases hb:w.heap[a.block]? with
  | none=>simp [World.setRow,Array.getElem?_modify,hb]
  | some o=>cases o <;> simp [World.setRow,Array.getElem?_modify,hb]
 ·exact yvb (w:=w) (setRow_other w g _ cs h)
def St.setRow {c:Ctx} {L M:List Blk} {R:List Sl} {w:World} {b:Nat} {cs cs':List Value} {T:TypeId} (h:St c L R w) (hu:Upd1 b cs T cs' L M):St c M R (w.setRow b cs'.toArray):=by
 obtain ⟨⟨G,hh,hg⟩,ho,hk⟩:=h;have hb:=hh.own _ hu.mem;have hbG:=hh.ng _ hu.mem;have nd':(M.map (·.b)).Nodup:=by rw [hu.bs];exact hh.nd
 -- an entry of M with the number b is the new one
 have same:∀e∈M,e.b=b→e=⟨b,cs',T⟩:=by
  have:∀{L M:List Blk},Upd1 b cs T cs' L M→(L.map (·.b)).Nodup→∀e∈M,e.b=b→e=⟨b,cs',T⟩:=by
   intro L M hu;induction hu with
   | here=>
    intro nd e he hb;rcases List.mem_cons.1 he with h | h;·exact h
    ·simp only [yJ, yia] at nd;exact absurd (List.mem_map.2 ⟨e,h,hb⟩) nd.1
   | cons hu ih=>
    intro nd e he hb;simp only [yJ,yia] at nd;rcases List.mem_cons.1 he with h | h;·refine absurd (List.mem_map.2 ⟨_, hu.mem, ?_⟩) nd.1;rw [← h];exact hb.symm
    ·exact ih nd.2 e h hb
   | app hu ih=>
    intro nd e he hb;rw [yO,yJa] at nd;rcases List.mem_append.1 he with h | h;·exact absurd hb (nd.2.2 e.b (List.mem_map.2 ⟨e,h,rfl⟩) b (List.mem_map.2 ⟨_,hu.mem,rfl⟩))
    ·exact ih nd.2.1 e h hb
  exact this hu hh.nd
 refine ⟨⟨G,⟨nd',fun e he=>?_,fun e he=>?_,fun x hx=>by simpa using hh.gs x hx,fun r hr=>(hh.rep r hr).mono (fun _ h=>h) (fun x hx=>setRow_other w b x _ (fun e=>hbG (e ▸ hx)))⟩,hg⟩,fun e he=>?_,⟨hk.os,hk.tape,hk.output,by simpa using hk.size,fun x hx hn=>?_,fun a=>?_⟩⟩;·
  by_cases hbe : e.b = b;·rw [same e he hbe];exact setRow_heap w b _ _ T _ hb
  ·
   rw [setRow_other w b _ _ hbe];rcases hu.back e he with h | h;·exact absurd (by rw [h]) hbe
   ·exact hh.own e h
 ·
  rcases hu.back e he with h | h;·rw [h];exact hbG
  ·exact hh.ng e h
 ·
  rcases hu.back e he with h | h;·have := ho _ hu.mem;rw [h];exact this
  ·exact ho e h
 ·
  by_cases hxb : x = b;·
   subst hxb;rcases ho _ hu.mem with h | h;·exact absurd h hn
   ·exact absurd h (Nat.not_le.2 hx)
  ·rw [setRow_other w b x _ hxb];exact hk.block x hx hn
 ·rw [Vjc];exact hk.frz a
section
variable {P:Program} {ρ:Operand→Value} {L M:List Blk} {R:List Sl} {dst:Option Tmp} {ty:TypeId} {pos:String} {after:Array Edge} {guard:Option (Nat×Bool)} (tb:Tabs P) {T:TypeId} {x y:Operand}
def J4 {k n fl bt z} (hT:Y4 tb.tab T=some ⟨k,n,fl,bt,z⟩):
 Gives P ⟨dst,.alloc T,ty,pos,after,guard⟩ ρ L R (fun v M U=>∃b,v=.pointer (some ⟨b,0,none⟩)∧M=⟨b,z,T⟩ :: L∧U=R):=by
 intro c w hs a next Q kk
 obtain ⟨zv,hz1,hz2⟩:=Zy (tb.ok _ _ hT) w;simp only at hz2;refine V6 (w':=w.alloc (.cells zv.cells T)) (v:=.pointer (some ⟨w.heap.size,0,none⟩)) ?_ (kk _ _ _ _ ⟨w.heap.size,rfl,rfl,rfl⟩ ?_);·simp [execOp,Instr.alloc,hz1,newVar,newRow]
 ·rw [← hz2];exact hs.alloc _ _
def Z6d {v:Value} (hx:ρ x=v) (h1:v.oneCell'=true):
 Gives P ⟨dst,.box T x,ty,pos,after,guard⟩ ρ L R (fun u M U=>∃b,u=.pointer (some ⟨b,0,none⟩)∧M=⟨b,[v],T⟩ :: L∧U=R):=by
 intro c w hs a next Q kk
 have hc:v.cells=#[v]:=by cases v <;> first | rfl | (simp [Value.oneCell'] at h1)
 refine V6 (w':=w.alloc (.cells #[v] T)) (v:=.pointer (some ⟨w.heap.size,0,none⟩)) ?_ (kk _ _ _ _ ⟨w.heap.size,rfl,rfl,rfl⟩ (hs.alloc _ _));simp [execOp,hx,Instr.box,newVar,newRow,hc]
def Y4d {row:List Value} (hx:ρ x=.agg row.toArray):
 Gives P ⟨dst,.box T x,ty,pos,after,guard⟩ ρ L R (fun u M U=>∃b,u=.pointer (some ⟨b,0,none⟩)∧M=⟨b,row,T⟩ :: L∧U=R):=by
 intro c w hs a next Q kk
 refine V6 (w':=w.alloc (.cells row.toArray T)) (v:=.pointer (some ⟨w.heap.size,0,none⟩)) ?_ (kk _ _ _ _ ⟨w.heap.size,rfl,rfl,rfl⟩ (hs.alloc _ _));simp [execOp,hx,Instr.box,newVar,newRow,Value.cells]
def V5a {c : Ctx} {w : World} (hs : St c L R w) {b o : Nat} {cs vs : List Value} {T' : TypeId} {ti : TI} (hT : Zt P T = some ti) (hn : vs.length = ti.sz) (hu : Upd1 b cs T' (cs.take o ++ vs ++ cs.drop (o + vs.length)) L M)
 (hfit:o + vs.length≤cs.length) (h1:∀v∈vs,v.oneCell'=true) {val:Value} (hv:val.cells=vs.toArray):
 (storeVar T ⟨b,o,none⟩ val).run P w=.ok () (w.setRow b (cs.take o ++ vs ++ cs.drop (o + vs.length)).toArray):=by
 have hb:w.heap[b]?=some (.cells cs.toArray T' (0,0)):=by obtain ⟨⟨G,hh,_⟩,_,_⟩:=hs;exact hh.own _ hu.mem
 have hst:=run_storeCells_at P b o T' vs 0 cs.toArray w hb (by simpa using hfit) h1;simp only [Nat.add_zero] at hst;simp only [storeVar,yga,run_sizeOf hT,yE,hv];simp [hn,hst]
def U6b {k n fl bt z b o} {cs vs cs' : List Value} {T' : TypeId} (hT : Y4 tb.tab T = some ⟨k, n, fl, bt, z⟩) (hx : ρ x = .pointer (some ⟨b, o, none⟩)) (hy : ρ y = .agg vs.toArray) (hn : vs.length = n)
 (hu:Upd1 b cs T' cs' L M) (hfit:Nat.ble (o + vs.length) cs.length=true) (hcs:cs.take o ++ vs ++ cs.drop (o + vs.length)=cs') (h1:vs.all (·.oneCell')=true):
 Gives P ⟨none,.store T x y,ty,pos,after,guard⟩ ρ L R (fun _ L'' U=>L''=M∧U=R):=by
 intro c w hs a next Q kk
 subst hcs;have:=V5a (P:=P) hs (tb.ok _ _ hT) hn hu (yQ hfit) (List.all_eq_true.1 h1) (val:=.agg vs.toArray) rfl;exact uaT
def J7f (cs:List Value) (o:Nat) (v:Value) (h:o < cs.length):cs.take o ++ [v] ++ cs.drop (o + 1)=cs.set o v:=by rw [List.set_eq_take_append_cons_drop,if_pos h];simp
def Uqb {k n fl bt z b o} {cs cs' : List Value} {v : Value} {T' : TypeId} (hT : Y4 tb.tab T = some ⟨k, n, fl, bt, z⟩) (hx : ρ x = .pointer (some ⟨b, o, none⟩)) (hy : ρ y = v) (hn : n = 1)
 (hu:Upd1 b cs T' cs' L M) (hfit:Nat.blt o cs.length=true) (hcs:cs.set o v=cs') (h1:v.oneCell'=true):
 Gives P ⟨none,.store T x y,ty,pos,after,guard⟩ ρ L R (fun _ L'' U=>L''=M∧U=R):=by
 intro c w hs a next Q kk
 have hlt:o < cs.length:=by simpa using hfit
 subst hcs;rw [← J7f cs o v hlt] at hu;have hc:v.cells=#[v]:=by cases v <;> first | rfl | (simp [Value.oneCell'] at h1)
 have:=V5a (P:=P) (vs:=[v]) hs (tb.ok _ _ hT) (by simp [hn]) hu (by simpa using Nat.succ_le_of_lt hlt) (by simpa using h1) hc;exact uaT
def Vtc : List Value → Nat → List Value → List Value
 | cs,_,[]=>cs
 | cs,o,v :: vs=>Vtc (cs.set o v) (o + 1) vs
def Vme (fl : List (Nat × Nat)) (cs : List Value) : List (Nat × List Value) → Option (List Value)
 | []=>some cs
 | (i,vs) :: rest=>match fl[i]? with
  | some (off,size)=>bif Nat.beq vs.length size && Nat.ble (off + vs.length) cs.length then Vme fl (Vtc cs off vs) rest else none
  | none=>none
def V6b : ∀ (vs : List Value) (off j : Nat) (cs : Array Value), (vs.zipIdx j).foldl (fun cs (p : Value × Nat) => cs.setIfInBounds (off + p.2) p.1) cs = (Vtc cs.toList (off + j) vs).toArray
 | [],_,_,cs=>by simp [Vtc]
 | v :: vs,off,j,cs=>by
  simp only [List.zipIdx_cons,yNb,Vtc]
  rw [V6b vs off (j + 1)]
  simp [ybc]
def Uwe (fl:List (Nat×Nat)) (place:Nat→Option (Nat×Nat)) (hp:∀i,place i=fl[i]?):∀(parts:List (Nat×Value)) (cs:List Value) (out:List Value),
 Vme fl cs (parts.map fun p=>(p.1,p.2.cells.toList))=some out→Instr.fill place cs.toArray parts=some out.toArray
 | [],cs,out,h=>by simp only [ypb,Vme,yWa] at h;simp [Instr.fill,h]
 | (i,v) :: rest,cs,out,h=>by
  simp only [yJ,Vme] at h
  simp only [Instr.fill,hp]
  cases hf:fl[i]? with
  | none=>rw [hf] at h;cases h
  | some p=>
   obtain ⟨off,size⟩:=p
   rw [hf] at h
   simp only at h
   cases hb:(Nat.beq v.cells.toList.length size && Nat.ble (off + v.cells.toList.length) cs.length) with
   | false=>rw [hb] at h;cases h
   | true=>
    rw [hb,cond_true] at h
    simp only [yn,yzb,Nat.ble_eq,yPb] at hb
    have:=Uwe fl place hp rest _ out h
    simp only
    rw [if_neg (by simp [hb.1];omega)]
    have hz:v.cells.zipIdx.foldl (fun cs (x:Value×Nat)=>cs.setIfInBounds (off + x.2) x.1) cs.toArray=(Vtc cs off v.cells.toList).toArray:=by
     rw [← Array.foldl_toList]
     have:=V6b v.cells.toList off 0 cs.toArray
     simpa using this
    rw [show (v.cells.zipIdx.foldl (fun cs (c,j)=>cs.setIfInBounds (off + j) c) cs.toArray)=(Vtc cs off v.cells.toList).toArray from hz]
    exact this
def evP (ρ : Operand → Value) : List (Nat × Operand) → List (Nat × List Value)
 | []=>[]
 | (i,x) :: l=>(i,(ρ x).cells.toList) :: evP ρ l
def Kcf (ρ:Operand→Value) (l:List (Nat×Operand)):evP ρ l=(l.map fun p=>(p.1,ρ p.2)).map fun p=>(p.1,p.2.cells.toList):=by
 induction l with
 | nil=>rfl
 | cons p l ih=>obtain ⟨i,x⟩:=p;simp [evP,ih]
def Y2d (w:World):∀(l:List Field),(∀f∈l,((P.info? f.type).map (·.size)).getD 0≠0)→
 (l.mapM fun f=>(do pure (f.offset,← sizeOf f.type):Sem (Nat×Nat))).run P w=.ok (l.map fun f=>(f.offset,((P.info? f.type).map (·.size)).getD 0)) w:=by
 intro l;induction l with
 | nil=>intro _;simp
 | cons f l ih=>
  intro hl;have h1:=hl f zo;cases hj:P.info? f.type with
  | none=>rw [hj] at h1;simp at h1
  | some j=>have ih':=ih fun g hg=>hl g (by simp [hg]);(have hs:(sizeOf f.type).run P w=.ok j.size w:=by simp [sizeOf,typeInfo,hj]);rw [List.mapM_cons];simp only [yga,hs,yE,yBa,ih',yJ,hj,yLa,ydc]
def Kf {n fl bt z} {ps:List (Nat×Operand)} {qs:List (Nat×List Value)} {out:List Value} (hT:Y4 tb.tab T=some ⟨.struct,n,fl,bt,z⟩) (hz0:fl.all (fun p=>!Nat.beq p.2 0)=true) (hq:evP ρ ps=qs) (hf:Vme fl z qs=some out):
 YV P ⟨dst,.build T ps.toArray,ty,pos,after,guard⟩ ρ L R (.agg out.toArray):=fun _ w _=>by
 obtain ⟨fs,hu,hfl⟩:=Y3a (tb.ok _ _ hT) rfl
 obtain ⟨zv,hz1,hz2⟩:=Zy (tb.ok _ _ hT) w
 simp only at hfl hz2
 subst hq
 rw [Kcf] at hf
 have hall:∀f∈fs.toList,((P.info? f.type).map (·.size)).getD 0≠0:=by
  intro f hm h0
  rw [hfl,List.all_map,List.all_eq_true] at hz0
  have:=hz0 f hm
  simp [h0] at this
 have hpl:=Y2d (P:=P) w fs.toList hall
 rw [← hfl] at hpl
 have hfill:=Uwe fl (fun i=>fl.toArray[i]?) (fun i=>by simp) (ps.map fun p=>(p.1,ρ p.2)) z out hf
 have hzc:zv.cells=z.toArray:=by rw [← hz2]
 have hmap:(ps.toArray.map fun (p:Nat×Operand)=>(p.1,ρ p.2)).toList=ps.map fun p=>(p.1,ρ p.2):=by simp
 have hfs:fs=fs.toList.toArray:=by simp
 have hm:(fs.mapM fun f=>(do pure (f.offset,← sizeOf f.type):Sem (Nat×Nat))).run P w=.ok fl.toArray w:=by
  rw [hfs,List.mapM_toArray]
  simp only [Sem.run_map,hpl,yE]
 have hgoal:(Instr.build T (ps.toArray.map fun (p:Nat×Operand)=>(p.1,ρ p.2))).run P w=.ok (.agg out.toArray) w:=by
  unfold Instr.build
  simp only [yga,hz1,yE,run_underlying hu,hm,hzc,hmap]
  rw [hfill]
  simp
 show (execOp ρ ⟨dst,.build T ps.toArray,ty,pos,after,guard⟩).run P w=_
 have e:execOp ρ ⟨dst,.build T ps.toArray,ty,pos,after,guard⟩=(do pure (.value (← Instr.build T (ps.toArray.map fun (p:Nat×Operand)=>(p.1,ρ p.2))))):=rfl
 rw [e]
 simp only [yga,hgoal,yE]
 rfl
end
end Go.Aw
end
section
namespace Go.Aw
open Go
section
variable {P:Program} {n:Nat} {all:Array Oper} {ty:TypeId} {pos:String} {after:Array Edge} {rest:List Oper} {t:Nat→Value} {L M:List Blk} {R:List Sl} {Q:Kt} {d:Tmp} (tb:Tabs P) {T:TypeId} {x y:Operand}
def Jy {f : FuncId} {xs : List Operand} {ts : Array TypeId} {args : List Value} {Post : Yy} (ha : xs.map (ev t) = args) (h : Tri P f args.toArray L R Post) (hd : Nat.blt d n = true)
 (k:∀v M U,Post v M U→LJ P n all rest (upd t d v) M U Q):LJ P n all (⟨some d,.call ⟨.value (.func f),xs.toArray,ts⟩,ty,pos,after,none⟩ :: rest) t L R Q:=
 Jqa (U4a zoa rfl h) hd k
def Ype {k m fl bt z} (hT : Y4 tb.tab T = some ⟨k, m, fl, bt, z⟩) (hd : Nat.blt d n = true)
 (h:∀b,LJ P n all rest (upd t d (.pointer (some ⟨b,0,none⟩))) (⟨b,z,T⟩ :: L) R Q):LJ P n all (⟨some d,.alloc T,ty,pos,after,none⟩ :: rest) t L R Q:=
 Jqa (J4 tb hT) hd fun v M U ⟨b,e1,e2,e3⟩=>by subst e1;subst e2;subst e3;exact h b
def Upd {v : Value} (hx : ev t x = v) (h1 : v.oneCell' = true) (hd : Nat.blt d n = true)
 (h:∀b,LJ P n all rest (upd t d (.pointer (some ⟨b,0,none⟩))) (⟨b,[v],T⟩ :: L) R Q):LJ P n all (⟨some d,.box T x,ty,pos,after,none⟩ :: rest) t L R Q:=
 Jqa (Z6d hx h1) hd fun v M U ⟨b,e1,e2,e3⟩=>by subst e1;subst e2;subst e3;exact h b
def Uuf {row : List Value} (hx : ev t x = .agg row.toArray) (hd : Nat.blt d n = true)
 (h:∀b,LJ P n all rest (upd t d (.pointer (some ⟨b,0,none⟩))) (⟨b,row,T⟩ :: L) R Q):LJ P n all (⟨some d,.box T x,ty,pos,after,none⟩ :: rest) t L R Q:=
 Jqa (Y4d hx) hd fun v M U ⟨b,e1,e2,e3⟩=>by subst e1;subst e2;subst e3;exact h b
def Ura {k m fl bt z b o} {cs cs' : List Value} {v : Value} {T' : TypeId} (hT : Y4 tb.tab T = some ⟨k, m, fl, bt, z⟩) (hx : ev t x = .pointer (some ⟨b, o, none⟩)) (hy : ev t y = v) (hn : m = 1)
 (hu:Upd1 b cs T' cs' L M) (hfit:Nat.blt o cs.length=true) (hcs:cs.set o v=cs') (h1:v.oneCell'=true)
 (h:LJ P n all rest t M R Q):LJ P n all (⟨none,.store T x y,ty,pos,after,none⟩ :: rest) t L R Q:=
 Ym (Uqb tb hT hx hy hn hu hfit hcs h1) fun _ L'' U ⟨e1,e2⟩=>by subst e1;subst e2;exact h
def K4a {k m fl bt z b o} {cs vs cs' : List Value} {T' : TypeId} (hT : Y4 tb.tab T = some ⟨k, m, fl, bt, z⟩) (hx : ev t x = .pointer (some ⟨b, o, none⟩)) (hy : ev t y = .agg vs.toArray) (hn : vs.length = m)
 (hu:Upd1 b cs T' cs' L M) (hfit:Nat.ble (o + vs.length) cs.length=true) (hcs:cs.take o ++ vs ++ cs.drop (o + vs.length)=cs') (h1:vs.all (·.oneCell')=true)
 (h:LJ P n all rest t M R Q):LJ P n all (⟨none,.store T x y,ty,pos,after,none⟩ :: rest) t L R Q:=
 Ym (U6b tb hT hx hy hn hu hfit hcs h1) fun _ L'' U ⟨e1,e2⟩=>by subst e1;subst e2;exact h
def Vie {k m fl bt z b} {cs vs : List Value} {T' : TypeId} (hT : Y4 tb.tab T = some ⟨k, m, fl, bt, z⟩) (hx : ev t x = .pointer (some ⟨b, 0, none⟩)) (hy : ev t y = .agg vs.toArray) (hn : vs.length = m)
 (hu:Upd1 b cs T' vs L M) (hfit:vs.length=cs.length) (h1:vs.all (·.oneCell')=true)
 (h:LJ P n all rest t M R Q):LJ P n all (⟨none,.store T x y,ty,pos,after,none⟩ :: rest) t L R Q:=
 K4a tb hT hx hy hn hu (by simp [hfit]) (by simp [hfit]) h1 h
end
def Oper.wp_put {P:Program} {o:Oper} {a:Act} {w:World} {K:Act→World→Prop} {Q:Exit→Act→World→Prop} (h:o.wp P a w K Q):
 o.wp P a w (fun a' w'=>K a' w'∧∃v,a'.tmps=(a.put o.dst v).tmps) Q:=by
 unfold Oper.wp at *;generalize (execOp a.eval o).run P w=r at *;cases r with
 | ok x w'=>
  cases x <;> simp only [Oper.upon] at h ⊢ <;>
   first
    |exact ⟨h,_,rfl⟩
    |exact Calls.mono h (fun e w'' he=>by cases e <;> first | exact ⟨he,_,rfl⟩ | exact he)
    |exact Rows.mono h (fun _ _ he=>⟨he,_,rfl⟩)
    |exact h
    | skip
  case defer d=>exact ⟨h,undef,by cases o.dst <;> rfl⟩
 | halt x w'=>cases x <;> exact h
def Job {P : Program} {all : Array Oper} {j : Nat} {want : Bool} {cj : Nat} {Q Q' : Exit → Act → World → Prop} {tail : List Oper} (hj : (all[j]?).bind (·.dst) = some cj)
 (hQ:∀e a w,e≠.normal→Q e a w→Q' e a w) (hT:∀a w,Q .normal a w→wpList P all Q' tail a w):
 ∀(G:List Oper) (ds:List Nat),Vza all j want cj ds G=true→∀(a:Act) (w:World),a.tmps[cj]?=some (.bool want)→
  wpList P all Q (Z7a j want G) a w→wpList P all Q' (G ++ tail) a w
 | [],_,_,a,w,_,h=>hT a w h
 | o :: G,ds,hok,a,w,hc,h=>by
  simp only [Vza,yn] at hok
  obtain ⟨hg,hrest⟩:=hok
  have hyj:yielded all a.tmps j=some want:=by
   unfold yielded
   rw [hj]
   simp [hc]
  -- the stripped operation runs as the operation itself
  have hsame:∃o',Z7a j want (o :: G)=o' :: Z7a j want G∧o'.op=o.op∧o'.dst=o.dst∧o'.type=o.type∧Region.wanted o' (yielded all a.tmps)=Region.wanted o (yielded all a.tmps):=by
   cases hgd:o.guard with
   | none=>exact ⟨o,by simp [Z7a,hgd],rfl,rfl,rfl,rfl⟩
   | some p=>
    obtain ⟨k,wk⟩:=p
    cases hb:(Nat.beq k j && (wk == want)) with
    | false=>exact ⟨o,by simp [Z7a,hgd,hb],rfl,rfl,rfl,rfl⟩
    | true=>
     simp only [yn,yzb,beq_iff_eq] at hb
     refine ⟨{ o with guard:=none },by simp [Z7a,hgd,hb.1,hb.2],rfl,rfl,rfl,?_⟩
     simp [Region.wanted,hgd,hb.1,hb.2,hyj]
  obtain ⟨o',e1,e2,e3,e4,e5⟩:=hsame
  rw [e1] at h
  have next:∀(a':Act) (w':World) (v:Value),a'.tmps=(a.put o.dst v).tmps→wpList P all Q (Z7a j want G) a' w'→wpList P all Q' (G ++ tail) a' w':=by
   intro a' w' v hv h'
   have hc':a'.tmps[cj]?=some (.bool want):=by
    rw [hv]
    cases hd:o.dst with
    | none=>exact hc
    | some d=>
     rw [hd] at hrest
     simp only [yn,yhb] at hrest
     have hne:d≠cj:=fun e=>by rw [e] at hrest;simp at hrest
     simp only [Act.put]
     rw [yma hne]
     exact hc
   cases hd:o.dst with
   | none=>rw [hd] at hrest;exact Job hj hQ hT G ds hrest a' w' hc' h'
   | some d=>rw [hd] at hrest;simp only [yn] at hrest;exact Job hj hQ hT G _ hrest.2 a' w' hc' h'
  have hexec:∀a:Act,execOp a.eval o'=execOp a.eval o:=by
   intro a
   obtain ⟨od,oo,ot,op,oa,og⟩:=o
   obtain ⟨pd,po,pt,pp,pa,pg⟩:=o'
   simp only at e2 e3 e4
   subst e2;subst e3;subst e4
   rfl
  simp only [yp]
  unfold wpList at h ⊢
  rw [e5] at h
  split
  ·rename_i hw
   rw [if_pos hw] at h
   rcases h with h | ⟨h,h2⟩
   ·refine .inl ?_
    have h':=Oper.wp_put h
    unfold Oper.wp at h' ⊢
    rw [hexec] at h'
    generalize (execOp a.eval o).run P w=r at *
    cases r with
    | ok x w'=>
     cases x <;> simp only [Oper.upon, e3] at h' ⊢ <;>
      first
       | (obtain ⟨h1,v,hv⟩:=h';exact next _ _ v hv h1)
       | exact h'
       | skip
     case enter f args=>
      refine Calls.mono h' fun e w'' he=>?_
      cases e with
      | returned u=>obtain ⟨h1,v,hv⟩:=he;exact next _ _ v hv h1
      | panicked c=>exact hQ _ _ _ zo he
      | outgrown=>obtain ⟨a0,w0,he⟩:=he;exact ⟨a0,w0,hQ _ _ _ zo he⟩
     case row row args=>exact Rows.mono h' fun u w'' he=>by obtain ⟨h1,v,hv⟩:=he;exact next _ _ v hv h1
    | halt x w'=>
     cases x <;> simp only [Oper.upon] at h' ⊢ <;> first | exact h' | exact hQ _ _ _ zo h'
   ·refine .inr ⟨?_, ?_⟩
    ·unfold Oper.asks at *
     rw [hexec] at h
     exact h
    ·obtain ⟨a0,w0,he⟩:=h2;exact ⟨a0,w0,hQ _ _ _ zo he⟩
  ·rename_i hw
   rw [if_neg hw,e3] at h
   exact next _ _ undef rfl h
def Udb {P:Program} {all:Array Oper} {j:Nat} {want:Bool} {cj:Nat} {Q':Exit→Act→World→Prop} {tail:List Oper} (hj:(all[j]?).bind (·.dst)=some cj):
 ∀(G:List Oper) (ds:List Nat),Vza all j want cj ds G=true→∀(a:Act) (w:World),a.tmps[cj]?=some (.bool (!want))→(∀d,Z3b d ds=true→a.tmps.getD d undef=undef)→
  (∀a':Act,a'.defers=a.defers→a'.tmps.size=a.tmps.size→(∀d,Z3b d (Jbd G)=false→a'.tmps.getD d undef=a.tmps.getD d undef)→wpList P all Q' tail a' w)→wpList P all Q' (G ++ tail) a w
 | [],_,_,a,w,_,_,h=>h a rfl rfl (fun _ _=>rfl)
 | o :: G,ds,hok,a,w,hc,hds,h=>by
  simp only [Vza,yn] at hok
  obtain ⟨hg,hrest⟩:=hok
  have hw:Region.wanted o (yielded all a.tmps)=false:=by
   cases hgd:o.guard with
   | none=>rw [hgd] at hg;cases hg
   | some p=>
    obtain ⟨k,wk⟩:=p
    rw [hgd] at hg
    simp only [yQb,yn,yzb,beq_iff_eq] at hg
    unfold Region.wanted
    rw [hgd]
    rcases hg with ⟨hk,hwk⟩ | hg
    ·subst hk; subst hwk
     have:yielded all a.tmps k=some (!wk):=by unfold yielded;rw [hj];simp [hc]
     simp only [this]
     cases wk <;> rfl
    ·cases hd:(all[k]?).bind (·.dst) with
     | none=>rw [hd] at hg;cases hg
     | some d=>
      rw [hd] at hg
      have h0:=hds d hg
      have:yielded all a.tmps k=none:=by
       unfold yielded
       rw [hd]
       simp only [yFa]
       rcases yk d a.tmps.size with h' | h'
       ·simp only [yKa, Array.getElem?_eq_getElem h', ydc] at h0
        rw [Array.getElem?_eq_getElem h',h0]
        rfl
       ·rw [yA h']
      simp [this]
  simp only [yp]
  unfold wpList
  rw [hw,if_neg zo]
  cases hd:o.dst with
  | none=>
   rw [hd] at hrest
   refine Udb hj G ds hrest a w hc hds ?_
   intro a' h1 h2 h3
   exact h a' h1 h2 (by simpa [Jbd,hd] using h3)
  | some d=>
   rw [hd] at hrest
   simp only [yn,yhb] at hrest
   have hne:d≠cj:=fun e=>by have:=hrest.1;rw [e] at this;simp at this
   refine Udb hj G (d :: ds) hrest.2 _ w ?_ ?_ ?_
   ·simp only [Act.put]
    rw [yma hne]
    exact hc
   ·intro x hx
    simp only [Act.put]
    by_cases hxd:x=d
    ·subst hxd
     rcases yk x a.tmps.size with h' | h'
     ·simp [h']
     ·simp [h']
    ·simp only [Z3b, Une hxd, cond_false] at hx
     have:=hds x hx
     simp only [yKa] at this ⊢
     rw [yma (yac hxd)]
     exact this
   ·intro a' h1 h2 h3
    refine h a' h1 (by rw [h2];simp [Act.put]) (fun x hx=>?_)
    simp only [Jbd,hd,Z3b] at hx
    have hxd:x≠d:=fun e=>by rw [e] at hx;simp at hx
    rw [Une hxd,cond_false] at hx
    rw [h3 x hx]
    simp only [Act.put,yKa]
    rw [yma (yac hxd)]
section
variable {P:Program} {n:Nat} {all:Array Oper} {ty:TypeId} {pos:String} {after:Array Edge} {rest:List Oper} {t:Nat→Value} {L M:List Blk} {R:List Sl} {Q:Kt} {d:Tmp} {y:Operand}
def V1d {G : List Oper} {j cj : Nat} {want u v : Bool} {c : Bool} {x1 x2 xin : Operand} (hj : (all[j]?).bind (·.dst) = some cj) (hcn : Nat.blt cj n = true) (hok : Vza all j want cj [] G = true) (hmc : Z3b cj (Jbd G) = false)
 (hc:t cj=.bool c) (hd:Nat.blt d n=true)
 (hpick:(if want then x1 else x2)=xin∧(if want then x2 else x1)=.const (.bool u))
 (h:c=want→LJ P n all (Z7a j want G) t L R (J5 (Jbd G) t xin v L R))
 (k:∀junk,LJ P n all rest (upd (havoc (Jbd G) t junk) d (.bool (if c=want then v else u))) L R Q):
 LJ P n all (G ++ ⟨some d,.pick (.tmp cj) x1 x2,ty,pos,after,none⟩ :: rest) t L R Q:=by
 intro cx a w hf hs;have hcn':cj < a.tmps.size:=by rw [hf.size];simpa using hcn
 have hca:a.tmps[cj]?=some (.bool c):=by have:=hf.val cj;rw [hc] at this;simpa [hcn'] using this
 have fin:∀(a':Act) (w':World) (t':Nat→Value) (b:Bool),Fr n t' a'→St cx L R w'→Off (Jbd G) t t'→(if c then ev t' x1 else ev t' x2)=.bool b→b=(if c=want then v else u)→
  wpList P all (Ysa n cx Q) (⟨some d,.pick (.tmp cj) x1 x2,ty,pos,after,none⟩ :: rest) a' w':=by
  intro a' w' t' b hf' hs' ho hb e;have hcj:ev t' (.tmp cj)=.bool c:=(ho cj hmc).trans hc;have hy:YV P ⟨some d,.pick (.tmp cj) x1 x2,ty,pos,after,none⟩ (ev t') L R (.bool b):=by rw [← hb];exact Uqa hcj
  refine Jx hy hd ?_ cx a' w' hf' hs';rw [e];have:=k t';rwa [Z8 ho] at this
 by_cases hcw:c=want;·
  subst hcw;refine Job (Q:=Ysa n cx (J5 (Jbd G) t xin v L R)) hj (fun e a w hne hq=>?_) (fun a' w' hq=>?_) G [] hok a w hca (h rfl cx a w hf hs);·obtain ⟨_, t', M, U, hq, _⟩ := hq;cases e <;> first | exact hq.elim | exact absurd rfl hne
  ·obtain ⟨_, t', M, U, hq, hf', hs'⟩ := hq;obtain ⟨e1,e2,e3,e4⟩:=hq;subst e2;subst e3;refine fin a' w' t' v hf' hs' e4 ?_ zo;rw [← e1,← hpick.1];cases c <;> rfl
 ·
  have hca' : a.tmps[cj]? = some (.bool (!want)) := by rw [hca]; cases c <;> cases want <;> simp_all
  refine Udb hj G [] hok a w hca' (fun d hd=>by cases hd) (fun a' h1 h2 h3=>?_);refine fin a' w (fun k=>a'.tmps.getD k undef) u ⟨h1.trans hf.defers,h2.trans hf.size,fun _=>rfl⟩ hs (fun k hk=>(h3 k hk).trans (hf.val k)) ?_ (by rw [if_neg hcw]);have:(if want then x2 else x1)=.const (.bool u):=hpick.2;cases c <;> cases want <;> simp_all [ev]
def Ui {G : List Oper} {j cj : Nat} {v c : Bool} {xin : Operand} (hj : (all[j]?).bind (·.dst) = some cj) (hcn : Nat.blt cj n = true) (hok : Vza all j true cj [] G = true) (hmc : Z3b cj (Jbd G) = false)
 (hc:t cj=.bool c) (hd:Nat.blt d n=true) (h:c=true→LJ P n all (Z7a j true G) t L R (J5 (Jbd G) t xin v L R))
 (k:∀junk,LJ P n all rest (upd (havoc (Jbd G) t junk) d (.bool (c && v))) L R Q):
 LJ P n all (G ++ ⟨some d,.pick (.tmp cj) xin (.const (.bool false)),ty,pos,after,none⟩ :: rest) t L R Q:=
 V1d (want:=true) (u:=false) hj hcn hok hmc hc hd ⟨rfl,rfl⟩ h (fun junk=>by have:=k junk;cases c <;> exact this)
def J9 {G : List Oper} {j cj : Nat} {v c : Bool} {xin : Operand} (hj : (all[j]?).bind (·.dst) = some cj) (hcn : Nat.blt cj n = true) (hok : Vza all j false cj [] G = true) (hmc : Z3b cj (Jbd G) = false)
 (hc:t cj=.bool c) (hd:Nat.blt d n=true) (h:c=false→LJ P n all (Z7a j false G) t L R (J5 (Jbd G) t xin v L R))
 (k:∀junk,LJ P n all rest (upd (havoc (Jbd G) t junk) d (.bool (c || v))) L R Q):
 LJ P n all (G ++ ⟨some d,.pick (.tmp cj) (.const (.bool true)) xin,ty,pos,after,none⟩ :: rest) t L R Q:=
 V1d (want:=false) (u:=true) hj hcn hok hmc hc hd ⟨rfl,rfl⟩ h (fun junk=>by have:=k junk;cases c <;> exact this)
def Jre {ws:List Nat} {t0:Nat→Value} {xin:Operand} {v:Bool} (h1:ev t xin=.bool v) (h2:Off ws t0 t):J5 ws t0 xin v L R .normal t L R:=⟨h1,rfl,rfl,h2⟩
end
end Go.Aw
end
section
namespace Go.Aw
open Go
def St.frame {F L M:List Blk} {R U:List Sl} {G:Nat→Prop} {w w':World} (h:Holds (F ++ L) G R w) (k:St ⟨w,inL L,G⟩ M U w'):St ⟨w,inL (F ++ L),G⟩ (F ++ M) U w':=by
 obtain ⟨⟨G',hh,hg⟩,ho,hk⟩:=k;have hnd:=h.nd;rw [yO,yJa] at hnd;have fL:∀e∈F,¬ inL L e.b:=fun e he ⟨e',he',hb⟩=>hnd.2.2 e.b (List.mem_map.2 ⟨e,he,rfl⟩) e'.b (List.mem_map.2 ⟨e',he',rfl⟩) hb.symm;have flt:∀e∈F,e.b < w.heap.size:=fun e he=>h.lt (ym _ he);have fG:∀e∈F,¬ G e.b:=fun e he=>h.ng e (ym _ he);have fsame:∀e∈F,w'.heap[e.b]?=w.heap[e.b]?:=fun e he=>hk.block e.b (flt e he) (fL e he);refine ⟨⟨G',⟨?_,fun e he=>?_,fun e he hG=>?_,hh.gs,hh.rep⟩,fun b hb=>?_⟩,fun e he=>?_,⟨hk.os,hk.tape,hk.output,hk.size,fun b hb hn=>hk.block b hb (fun hi=>hn ?_),hk.frz⟩⟩;·
  rw [yO, yJa];refine ⟨hnd.1,hh.nd,fun x hx y hy hxy=>?_⟩;obtain ⟨e,he,rfl⟩:=List.mem_map.1 hx;obtain ⟨e',he',rfl⟩:=List.mem_map.1 hy;rcases ho e' he' with h1 | h1;·rw [← hxy] at h1;exact fL e he h1
  ·rw [← hxy] at h1;exact absurd (flt e he) (Nat.not_lt.2 h1)
 ·
  rcases List.mem_append.1 he with he | he;·rw [fsame e he];exact h.own e (ym _ he)
  ·exact hh.own e he
 ·
  rcases List.mem_append.1 he with he | he;·
   rcases hg e.b hG with h1 | h1 | h1;·exact fG e he h1
   ·exact absurd (flt e he) (Nat.not_lt.2 h1)
   ·exact fL e he h1
  ·exact hh.ng e he hG
 ·
  rcases hg b hb with h1 | h1 | ⟨e, he, h1⟩;·exact .inl h1
  ·exact .inr (.inl h1)
  ·exact .inr (.inr ⟨e,yi _ he,h1⟩)
 ·
  rcases List.mem_append.1 he with he | he;·exact .inl ⟨e,ym _ he,rfl⟩
  ·
   rcases ho e he with ⟨e', he', h1⟩ | h1;·exact .inl ⟨e',yi _ he',h1⟩
   ·exact .inr h1
 ·obtain ⟨e, he, h1⟩ := hi;exact ⟨e,yi _ he,h1⟩
def Gives.frame {P op ρ L R} {Post:Yy} (h:Gives P op ρ L R Post) (F:List Blk):Gives P op ρ (F ++ L) R (fun v L'' U=>∃M,L''=F ++ M∧Post v M U):=by
 intro c w hs a next Q k
 obtain ⟨⟨G,hh,hg⟩,ho,hk⟩:=hs;have hL:Holds L G R w:=⟨(List.nodup_append.1 (by have:=hh.nd;rwa [yO] at this)).2.1,fun e he=>hh.own e (yi _ he),fun e he=>hh.ng e (yi _ he),hh.gs,hh.rep⟩;exact h ⟨w,inL L,G⟩ w (St.init hL) a next Q fun v M U w' hp hst=>k v _ U w' ⟨M,rfl,hp⟩ (St.trans ⟨⟨G,hh,hg⟩,ho,hk⟩ hg (St.frame hh hst))
def U7 : Op → Nat
 | .alloc _=>1
 | .move _ | .assign _ | .pick .. | .build .. | .load .. | .nilCheck _ | .binOp .. | .unOp .. | .convert .. | .slice .. | .fieldAddr .. | .field .. | .indexAddr .. | .index .. | .extract .. | .makeInterface ..=>0
 | .call c=>match c.callee with
  | .builtin .len | .builtin .cap | .builtin .min | .builtin .max=>0
  | _=>2
 | _=>2
def zT {P:Program} (tb:Tabs P) (T:TypeId):List Value:=match Y4 tb.tab T with
 | some ti=>ti.z
 | none=>[]
def DJ (P : Program) (tb : Tabs P) (n : Nat) (all : Array Oper) (Lc : List Blk) (K : Kt) : List Oper → (Nat → Value) → List Blk → List Sl → Prop
 | [],t,L,R=>K .normal t L R
 | o :: rest,t,L,R=>dOk n o.dst=true∧
  ((Yk all t o.guard=false∧U7 o.op≠1∧DJ P tb n all Lc K rest (Z2b t o.dst undef) L R)∨
   (Yk all t o.guard=true∧U7 o.op=0∧∃v,YV P o (ev t) Lc R v∧DJ P tb n all Lc K rest (Z2b t o.dst v) L R)∨
   (U7 o.op=1∧∃T,o.op=.alloc T∧∀b,DJ P tb n all Lc K rest (Z2b t o.dst (.pointer (some ⟨b,0,none⟩))) (⟨b,zT tb T,T⟩ :: L) R)∨
   (Yk all t o.guard=true∧U7 o.op=2∧∃Post,Gives P o (ev t) L R Post∧∀v M U,Post v M U→Lc.Sublist M∧(∀r∈R,InR r U)∧DJ P tb n all Lc K rest (Z2b t o.dst v) M U))
def V1 (ops:Array Oper) (i:Nat):Nat:=match ops[i]? with
 | some o=>U7 o.op
 | none=>3
def U5e (ops:Array Oper) (p:Nat→Bool) (done:Array Bool):Array Bool:=
 (Array.range ops.size).map fun i=>done.getD i true || (Nat.beq (V1 ops i) 1 && p i)
def Kea (ops : Array Oper) (done : Array Bool) : List Nat → Bool
 | []=>(Region.ready .any ops done).isEmpty
 | i :: rest=>
  (Region.ready .any ops done).contains i &&
  (match V1 ops i with
   | 0=>Region.free .any ops done i
   | 1=>(Region.ready .any ops (U5e ops (fun k=>!Nat.beq k i) done)).all fun j=>Nat.beq (V1 ops j) 1
   | _=>(Region.ready .any ops (U5e ops (fun _=>true) done)).all fun j=>Nat.beq j i) &&
  Kea ops (done.setIfInBounds i true) rest
def Vta {P:Program} (tb:Tabs P) (n:Nat) (ops:Array Oper):Bool:=
 (List.range ops.size).all fun i=>match ops[i]? with
  | some o=>match o.op with
   | .alloc T=>o.guard.isNone && (Y4 tb.tab T).isSome && (match o.dst with
    | some d=>Nat.blt d n && (List.range ops.size).all fun j=>Nat.beq j i || match ops[j]? with
     | some oj=>oj.dst != some d
     | none=>true
    | none=>false) && Region.free .any ops (Array.replicate ops.size false) i
   | _=>true
  | none=>true
structure Early where
 i:Nat
 d:Nat
 b:Nat
 T:TypeId
def ovr (t : Nat → Value) : List Early → Nat → Value
 | []=>t
 | e :: E=>upd (ovr t E) e.d (.pointer (some ⟨e.b,0,none⟩))
def Jfc {P:Program} (tb:Tabs P) (E:List Early):List Blk:=E.map fun e=>⟨e.b,zT tb e.T,e.T⟩
def Zkb {P:Program} {md:Region.Mode} {ops:Array Oper} {Q:Exit→Act→World→Prop} {S S':World→Prop} (hS:∀w,S' w→S w):∀(f:Nat) (l:Array Bool) (a:Act) (w:World),
 wpAnyH P md ops Q S' f l a w→wpAnyH P md ops Q S f l a w
 | 0,_,_,_,h=>h
 | f + 1,_,_,_,h=>⟨h.1,fun i hi=>wpOp_mono (fun a' w' h'=>⟨hS _ h'.1,Zkb hS f _ a' w' h'.2⟩) (h.2 i hi)⟩
structure EOk {P:Program} (tb:Tabs P) (n:Nat) (ops:Array Oper) (done listed:Array Bool) (E:List Early):Prop where
 size:listed.size=done.size
 listed:∀i d,listed.getD i d=true↔done.getD i d=true∨∃e∈E,e.i=i
 op:∀e∈E,∃o,ops[e.i]?=some o∧o.op=.alloc e.T∧o.dst=some e.d∧o.guard=none
 fresh:∀e∈E,done.getD e.i true=false
 nd:(E.map (·.i)).Nodup
 ndd:(E.map (·.d)).Nodup
def Yrd {ops : Array Oper} {i : Nat} {oi : Oper} (hi : ops[i]? = some oi) (h : Region.free .any ops (Array.replicate ops.size false) i = true) {j : Nat} {oj : Oper} (hj : ops[j]? = some oj) (hne : j ≠ i)
 (hno:∀e∈oj.after,Region.binds .any e=true→e.on≠i):oi.apart ops oj=true:=by refine yCb hi h j oj hj hne ?_ hno;have:j < ops.size:=(Array.getElem?_eq_some_iff.1 hj).1;simp [this]
section
variable {P:Program} {tb:Tabs P} {n:Nat} {ops:Array Oper} {c:Ctx} {Lc:List Blk} {K:Kt}
def Via (h:Vta tb n ops=true) {i:Nat} {o:Oper} {T:TypeId} (hi:ops[i]?=some o) (ho:o.op=.alloc T):
 o.guard=none∧(∃ti,Y4 tb.tab T=some ti)∧(∃d,o.dst=some d∧d < n∧∀j oj,ops[j]?=some oj→j≠i→oj.dst≠some d)∧Region.free .any ops (Array.replicate ops.size false) i=true:=by
 have h1:=List.all_eq_true.1 h i (List.mem_range.2 (Array.getElem?_eq_some_iff.1 hi).1);simp only [hi,ho,yn,Option.isNone_iff_eq_none] at h1;obtain ⟨⟨⟨h1,h2⟩,h3⟩,h4⟩:=h1;refine ⟨h1,Option.isSome_iff_exists.1 h2,?_,h4⟩;cases hd:o.dst with
 | none=>rw [hd] at h3;cases h3
 | some d=>rw [hd] at h3;simp only [yn] at h3;refine ⟨d,rfl,by simpa using h3.1,fun j oj hj hne e=>?_⟩;have h5:=List.all_eq_true.1 h3.2 j (List.mem_range.2 (Array.getElem?_eq_some_iff.1 hj).1);simp [hj,Une hne,e] at h5
def Ked {t : Nat → Value} {k : Nat} : ∀ {E : List Early}, (∀ e ∈ E, e.d ≠ k) → ovr t E k = t k
 | [],_=>rfl
 | e :: E,h=>by
  have h1:=h e zo
  simp only [ovr,upd,Une (yac h1),cond_false]
  exact Ked fun e he=>h e (by simp [he])
def Vob {t : Nat → Value} {d : Option Tmp} {v : Value} : ∀ {E : List Early}, (∀ e ∈ E, d ≠ some e.d) → Z2b (ovr t E) d v = ovr (Z2b t d v) E
 | [],_=>rfl
 | e :: E,h=>by
  have h1:=h e zo
  have ih:=Vob (t:=t) (d:=d) (v:=v) (E:=E) fun e he=>h e (by simp [he])
  simp only [ovr]
  rw [← ih]
  cases d with
  | none=>rfl
  | some d=>
   have hne:d≠e.d:=fun e'=>h1 (by rw [e'])
   funext k
   simp only [Z2b,upd]
   by_cases hk:k=d
   ·subst hk
    simp [Une hne]
   ·rw [Une hk,cond_false,cond_false]
def Vkd {t:Nat→Value} {o:Oper} (hs:∀cs b,o.op≠.select cs b) {E:List Early} (h:∀e∈E,e.d ∉ o.looksAt ops):execOp (ev (ovr t E)) o=execOp (ev t) o:=by
 refine execOp_congr o hs fun x hx=>?_;cases x with
 | tmp k=>refine Ked fun e he hk=>h e he ?_;subst hk;exact ym _ (List.mem_filterMap.2 ⟨.tmp e.d,by simpa using hx,rfl⟩)
 | _=>rfl
def U1d {t:Nat→Value} {o:Oper} {E:List Early} (h:∀e∈E,e.d ∉ o.looksAt ops):Yk ops (ovr t E) o.guard=Yk ops t o.guard:=by
 unfold Yk;cases hg:o.guard with
 | none=>rfl
 | some p=>
  obtain ⟨j,want⟩:=p;have:Ksc ops (ovr t E) j=Ksc ops t j:=by
   unfold Ksc;cases hd:(ops[j]?).bind (·.dst) with
   | none=>rfl
   | some d=>have:ovr t E d=t d:=Ked fun e he hk=>h e he (by subst hk;exact yi _ (by simp [hg,hd]));simp only [this]
  simp only [this]
def Znb (hal : Vta tb n ops = true) {done listed : Array Bool} {E : List Early} (hE : EOk tb n ops done listed E) {i : Nat} {o : Oper} (hi : ops[i]? = some o) (hin : ∀ e ∈ E, e.i ≠ i)
 (hready:∀e∈o.after,Region.binds .any e=true→done.getD e.on false=true):∀e∈E,e.d ∉ o.looksAt ops∧o.dst≠some e.d:=by
 intro e he;obtain ⟨oe,h1,h2,h3,h4⟩:=hE.op e he;obtain ⟨_,_,_,hfree⟩:=Via hal h1 h2;have hap:=Yrd h1 hfree hi (yac (hin e he)) (fun x hx hb hon=>by
  have h5:=hready x hx hb;rw [hon] at h5;have h6:=hE.fresh e he;have:done.getD e.i false=false:=by
   rcases yk e.i done.size with h' | h';·simp [h'] at h6 ⊢;exact h6
   ·simp [yA h']
  rw [this] at h5;cases h5)
 obtain ⟨a1,a2,a3⟩:=Oper.apart_spec hap;exact ⟨a1 e.d h3,a2 e.d h3⟩
def Jfb {o:Oper} {T:TypeId} (h:o.op=.alloc T):U7 o.op=1:=by rw [h];rfl
def Z6a {o:Oper} (h:U7 o.op=1):∃T,o.op=.alloc T:=by
 cases ho:o.op <;> rw [ho] at h <;> simp only [U7] at h <;> first | exact ⟨_,rfl⟩ | (exact absurd h ze) | skip
 split at h <;> exact absurd h ze
def Uvd (op:Op):U7 op=0∨U7 op=1∨U7 op=2:=by
 unfold U7;split <;> first | (exact .inl rfl) | (exact .inr (.inl rfl)) | (exact .inr (.inr rfl)) | skip
 split <;> first | (exact .inl rfl) | (exact .inr (.inr rfl))
def K8 {l:Array Bool} {i:Nat} (h:i < l.size) (d:Bool):(l.setIfInBounds i true).getD i d=true:=by simp [h]
def EOk.step {done listed:Array Bool} {E:List Early} (hE:EOk tb n ops done listed E) {i:Nat} (hin:∀e∈E,e.i≠i) (hi:i < done.size):
 EOk tb n ops (done.setIfInBounds i true) (listed.setIfInBounds i true) E:=by
 refine ⟨by simp [hE.size],fun k d=>?_,hE.op,fun e he=>?_,hE.nd,hE.ndd⟩;·
  by_cases hk : i = k;·subst hk;rw [K8 hi,K8 (by rw [hE.size];exact hi)];simp
  ·rw [getD_set_ne d hk, getD_set_ne d hk];exact hE.listed k d
 ·rw [getD_set_ne true (yac (hin e he))];exact hE.fresh e he
def Vt : ∀ (l1 l2 : List Nat), l1.Nodup → (∀ x ∈ l1, x ∈ l2) → l1.length ≤ l2.length
 | [],_,_,_=>by simp
 | x :: l1,l2,hn,hs=>by
  rw [yia] at hn
  have hx:=hs x zo
  have:=Vt l1 (l2.erase x) hn.2 fun y hy=>by
   have hne:y≠x:=fun e=>hn.1 (e ▸ hy)
   exact (List.mem_erase_of_ne hne).2 (hs y (by simp [hy]))
  rw [List.length_erase_of_mem hx] at this
  have:0 < l2.length:=List.length_pos_of_mem hx
  simp only [yw]
  omega
def Yib {t : Nat → Value} {e : Early} {E2 : List Early} : ∀ {E1 : List Early}, ((E1 ++ e :: E2).map (·.d)).Nodup → ovr t (E1 ++ e :: E2) = ovr (upd t e.d (.pointer (some ⟨e.b, 0, none⟩))) (E1 ++ E2)
 | [],h=>by
  simp only [yv,yJ,yia] at h
  have:=Vob (t:=t) (d:=some e.d) (v:=.pointer (some ⟨e.b,0,none⟩)) (E:=E2) fun x hx hd=>h.1 (List.mem_map.2 ⟨x,hx,(yL hd).symm⟩)
  exact this
 | x :: E1,h=>by
  simp only [yp,yJ,yia] at h
  simp only [yp,ovr,Yib h.2]
def St.perm {L M:List Blk} {R:List Sl} {w:World} (h:St c L R w) (hp:L.Perm M):St c M R w:=by obtain ⟨⟨G,hh,hg⟩,ho,hk⟩:=h;exact ⟨⟨G,⟨(hp.map _).nodup_iff.1 hh.nd,fun e he=>hh.own e (hp.mem_iff.2 he),fun e he=>hh.ng e (hp.mem_iff.2 he),hh.gs,hh.rep⟩,hg⟩,fun e he=>ho e (hp.mem_iff.2 he),hk⟩
def Jrc {p:Nat→Bool} {done:Array Bool} {i:Nat} (hi:i < ops.size) (d:Bool):(U5e ops p done).getD i d=(done.getD i true || (Nat.beq (V1 ops i) 1 && p i)):=by simp [U5e,hi]
def Vca {p:Nat→Bool} {done listed:Array Bool} {E:List Early} (hE:EOk tb n ops done listed E) (hp:∀e∈E,p e.i=true) (hds:done.size=ops.size) {j:Nat} (hj:j∈Region.ready .any ops listed) (hk:V1 ops j≠1):
 j∈Region.ready .any ops (U5e ops p done):=by
 obtain ⟨h0,o,ho,hall⟩:=mem_ready.1 hj;have hlt:j < ops.size:=(Array.getElem?_eq_some_iff.1 ho).1;refine mem_ready.2 ⟨?_,o,ho,fun e he hb=>?_⟩;·
  rw [Jrc hlt];have h1:done.getD j true=false:=by
   cases hd:done.getD j true with
   | false=>rfl
   | true=>rw [(hE.listed j true).2 (.inl hd)] at h0;cases h0
  have h2:Nat.beq (V1 ops j) 1=false:=Une hk;simp [h1,h2]
 ·
  have h1 := hall e he hb;have hlt2:e.on < ops.size:=by
   rcases yk e.on listed.size with h' | h';·rw [hE.size,hds] at h';exact h'
   ·simp [yA h'] at h1
  rw [Jrc hlt2];rcases (hE.listed e.on false).1 h1 with h2 | ⟨x,hx,hxi⟩;·
   have:done.getD e.on true=true:=by
    rcases yk e.on done.size with h' | h';·simp [h'] at h2 ⊢;exact h2
    ·simp [yA h']
   simp only [this,Bool.true_or]
  ·obtain ⟨ox, h3, h4, _, _⟩ := hE.op x hx;(have h5:V1 ops e.on=1:=by rw [← hxi];simp only [V1,h3];exact Jfb h4);have h6:=hp x hx;rw [hxi] at h6;simp [h5,h6]
def Uxb {o:Oper} {a:Act} {ρ:Operand→Value} {w:World} {next:Act→World→Prop} {Q:Exit→Act→World→Prop} (he:execOp a.eval o=execOp ρ o) (h:o.upon P a next Q ((execOp ρ o).run P w)):o.wp P a w next Q:=by unfold Oper.wp;rw [he];exact h
def J8f {done listed : Array Bool} {t : Nat → Value} {L : List Blk} {R : List Sl} {a : Act} {w : World} (hpl : Kea ops done [] = true) (hE : EOk tb n ops done listed []) (hdj : DJ P tb n ops Lc K [] t L R)
 (hfr:Fr n (ovr t []) a) (hst:St c (Jfc tb [] ++ L) R w) {S:World→Prop} (fuel:Nat):wpAnyH P .any ops (Ysa n c K) S fuel listed a w:=by
 refine wpAnyH_done ?_ ⟨trivial,t,L,R,hdj,hfr,hst⟩ fuel;simp only [Kea,List.isEmpty_iff] at hpl;refine List.eq_nil_iff_forall_not_mem.2 fun j hj=>?_;obtain ⟨h0,o,ho,hall⟩:=mem_ready.1 hj;have h1:done.getD j true=false:=by
  cases hd:done.getD j true with
  | false=>rfl
  | true=>rw [(hE.listed j true).2 (.inl hd)] at h0;cases h0
 have:j∈Region.ready .any ops done:=by
  refine mem_ready.2 ⟨h1,o,ho,fun e he hb=>?_⟩;rcases (hE.listed e.on false).1 (hall e he hb) with h | ⟨x,hx,_⟩;·exact h
  ·cases hx
 rw [hpl] at this;cases this
def J2f (hsel:Region.noSelect ops=true) (hal:Vta tb n ops=true):∀(m fuel:Nat) (plan:List Nat) (os:List Oper) (done listed:Array Bool) (E:List Early) (t:Nat→Value) (L:List Blk) (R:List Sl) (a:Act) (w:World),
 fuel + plan.length≤m→plan.length≤fuel + E.length→plan.map (ops[·]?)=os.map some→Kea ops done plan=true→EOk tb n ops done listed E→(∀e∈E,e.i∈plan)→done.size=ops.size→
 (∀i,i < ops.size→done.getD i true=false→i∈plan)→
 Fr n (ovr t E) a→St c (Jfc tb E ++ L) R w→Lc.Sublist L→DJ P tb n ops Lc K os t L R→wpAnyH P .any ops (Ysa n c K) (St c Lc R) fuel listed a w:=by
 intro m;induction m with
 | zero=>
  intro fuel plan os done listed E t L R a w hm hfu hos hpl hE hEp hds hcov hfr hst hLc hdj;obtain rfl:plan=[]:=by cases plan with | nil=>rfl | cons x l=>simp at hm
  exact uaC
 | succ m ih=>
  intro fuel plan os done listed E t L R a w hm hfu hos hpl hE hEp hds hcov hfr hst hLc hdj;have hS:St c Lc R w:=hst.weak (hLc.trans (yW _ _)) (fun r hr=>⟨r,hr,.here⟩)
  -- a making of a variable that comes up early
  have early:∀(f:Nat),fuel=f + 1→∀j,j∈Region.ready .any ops listed→V1 ops j=1→
   wpOp P ops (Ysa n c K) j (fun a' w'=>St c Lc R w'∧wpAnyH P .any ops (Ysa n c K) (St c Lc R) f (listed.setIfInBounds j true) a' w') a w:=by
   intro f hf j hj hkj;obtain ⟨h0,oj,hoj,hall⟩:=mem_ready.1 hj;(have hkj':U7 oj.op=1:=by simpa [V1,hoj] using hkj);obtain ⟨T,hT⟩:=Z6a hkj';obtain ⟨hg,⟨ti,hti⟩,⟨d,hd,hdn,hdw⟩,hfree⟩:=Via hal hoj hT;obtain ⟨zv,hz1,hz2⟩:=Zy (tb.ok _ _ hti) w;have hjd:done.getD j true=false:=by
    cases hd:done.getD j true with
    | false=>rfl
    | true=>rw [(hE.listed j true).2 (.inl hd)] at h0;cases h0
   (have hjE:∀e∈E,e.i≠j:=fun e he hi=>by rw [(hE.listed j true).2 (.inr ⟨e,he,hi⟩)] at h0;cases h0);(have hzT:zv.cells.toList=zT tb T:=by rw [hz2];simp [zT,hti]);(have hst':St c (Jfc tb (⟨j,d,w.heap.size,T⟩ :: E) ++ L) R (w.alloc (.cells zv.cells T)):=by have:=hst.alloc zv.cells T;rw [hzT] at this;exact this);unfold wpOp;simp only [hoj];rw [hfr.wanted,hg];simp only [Yk,if_true];refine .inl ?_;(have hrun:(execOp a.eval oj).run P w=.ok (.value (.pointer (some ⟨w.heap.size,0,none⟩))) (w.alloc (.cells zv.cells T)):=by exact ua4);unfold Oper.wp;rw [hrun];refine ⟨hst'.weak (hLc.trans (yW _ _)) (fun r hr=>⟨r,hr,.here⟩),?_⟩;have hjlt:j < ops.size:=(Array.getElem?_eq_some_iff.1 hoj).1;(have hjl:j < listed.size:=by rw [hE.size,hds];exact hjlt);have hjp:j∈plan:=hcov j hjlt hjd;refine ih f plan os done _ (⟨j,d,w.heap.size,T⟩ :: E) t L R _ _ za (by simp only [yw];omega) hos hpl ?_ ?_ hds hcov ?_ hst' hLc hdj;·exact uai
   ·exact ubk
   ·exact uaM
  cases plan with
  | nil=>exact uaC
  | cons i rest=>
   cases os with
   | nil=>simp at hos
   | cons o os=>
    simp only [yJ,List.cons.injEq] at hos;obtain ⟨hio,hos⟩:=hos;simp only [Kea,yn] at hpl;obtain ⟨⟨hir,hkind⟩,hpl'⟩:=hpl;(have hir:i∈Region.ready .any ops done:=by simpa using hir);obtain ⟨hi0,o',ho',hpre⟩:=mem_ready.1 hir;obtain rfl:o'=o:=yL (ho'.symm.trans hio);have hilt:i < ops.size:=(Array.getElem?_eq_some_iff.1 hio).1;(have hids:i < done.size:=by rw [hds];exact hilt);(have hka:V1 ops i=U7 o'.op:=by simp [V1,hio]);have hcov':∀k,k < ops.size→(done.setIfInBounds i true).getD k true=false→k∈rest:=by
     intro k hk hd;by_cases hki:i=k;·subst hki;rw [K8 hids] at hd;cases hd
     ·
      rw [getD_set_ne true hki] at hd;rcases List.mem_cons.1 (hcov k hk hd) with h | h;·exact absurd h.symm hki
      ·exact h
    (have hds':(done.setIfInBounds i true).size=ops.size:=by simp [hds]);(have hdone:∀k,done.getD k true=true→∀d,listed.getD k d=true∨k ≥ done.size:=by exact uaO);obtain ⟨hd,hdj⟩:=hdj
    -- if the operation is no making of a variable, it has not come up, and is apart from the early ones
    (have notE:U7 o'.op≠1→∀e∈E,e.i≠i:=by exact uaX);(have cnt:U7 o'.op≠1→E.length≤rest.length:=by exact uaA);have hready:U7 o'.op≠1→i∈Region.ready .any ops listed:=by
     intro hk;refine mem_ready.2 ⟨?_,o',hio,fun e he hb=>(hE.listed _ _).2 (.inl (hpre e he hb))⟩;cases hl:listed.getD i true with
     | false=>rfl
     | true=>exact uaZ
    have apart:U7 o'.op≠1→∀e∈E,e.d ∉ o'.looksAt ops∧o'.dst≠some e.d:=fun hk=>Znb hal hE hio (notE hk) hpre;(have hEp':U7 o'.op≠1→∀e∈E,e.i∈rest:=fun hk e he=>by exact uba);(have frame:U7 o'.op≠1→∀v,Fr n (ovr (Z2b t o'.dst v) E) (a.put o'.dst v):=fun hk v=>by rw [← Vob (fun e he=>(apart hk e he).2)];exact hfr.put hd v);(have hwant:U7 o'.op≠1→Region.wanted o' (yielded ops a.tmps)=Yk ops t o'.guard:=fun hk=>by rw [hfr.wanted,U1d (fun e he=>(apart hk e he).1)]);(have hexec:U7 o'.op≠1→execOp a.eval o'=execOp (ev t) o':=fun hk=>by exact ua5);rcases Uvd o'.op with hk | hk | hk;·
     -- it leaves the world alone
     (have hk1:U7 o'.op≠1:=by rw [hk];decide);have hlen:=cnt hk1;obtain ⟨f,rfl⟩:∃f,fuel=f + 1:=⟨fuel - 1,by simp only [yw] at hfu;omega⟩;rw [hka,hk] at hkind;have hfree:∀j oj,ops[j]?=some oj→j≠i→listed.getD j true=false→(∀e∈oj.after,Region.binds .any e=true→e.on≠i)→o'.apart ops oj=true:=by
      intro j oj hj hne hl hno;refine yCb hio hkind j oj hj hne ?_ hno;cases hd:done.getD j true with
      | false=>rfl
      | true=>rw [(hE.listed j true).2 (.inl hd)] at hl;cases hl
     (have go:∀v,YieldsIf P ops (St c Lc R) o' v a→DJ P tb n ops Lc K os (Z2b t o'.dst v) L R→wpAnyH P .any ops (Ysa n c K) (St c Lc R) (f + 1) listed a w:=by intro v hy hdj';refine wpAnyH_first hio (yRa hsel) (fun _ _ _ h=>h.1.elim) f listed a w hfree (hready hk1) hy hS ?_;exact ih f rest os _ _ E _ L R _ w zL zR hos hpl' (hE.step (notE hk1) hids) (hEp' hk1) hds' hcov' (frame hk1 v) hst hLc hdj');rcases hdj with ⟨hw,_,hdj'⟩ | ⟨hw,_,v,hv,hdj'⟩ | ⟨h1,_⟩ | ⟨_,h2,_⟩;·exact go undef (.inr ⟨by rw [hwant hk1];exact hw,rfl⟩) hdj'
     ·exact go v (.inl ⟨by rw [hwant hk1];exact hw,fun w' hw'=>by rw [hexec hk1];exact hv c w' hw'⟩) hdj'
     ·exact absurd h1 hk1
     ·rw [hk] at h2;cases h2
    ·
     -- it makes a variable
     rw [hka,hk] at hkind;rcases hdj with ⟨_,h1,_⟩ | ⟨_,h2,_⟩ | ⟨_,T,hT,hdj'⟩ | ⟨_,h2,_⟩;·exact absurd hk h1
     ·rw [hk] at h2;cases h2
     ·
      by_cases hin : ∃ e ∈ E, e.i = i;·
       -- it has come up early
       obtain ⟨e,he,hei⟩:=hin;obtain ⟨oe,h1,h2,h3,h4⟩:=hE.op e he;rw [hei] at h1;obtain rfl:oe=o':=yL (h1.symm.trans hio);(obtain rfl:e.T=T:=by rw [h2] at hT;exact Op.alloc.inj hT);obtain ⟨E1,E2,rfl⟩:=List.append_of_mem he;(have hmem:∀x∈E1 ++ E2,x∈E1 ++ e :: E2:=fun x hx=>by exact ubo);(have hni:∀x∈E1 ++ E2,x.i≠i:=by exact uay);refine ih fuel rest os _ listed (E1 ++ E2) _ _ R a w zL zSa hos hpl' ?_ ?_ hds' hcov' ?_ ?_ (hLc.cons _) (hdj' e.b);·exact uag
       ·exact ua3
       ·rw [h3];have:=Yib (t:=t) hE.ndd;rw [this] at hfr;exact hfr
       ·exact uaV
      ·
       -- it has not: whatever comes up now makes a variable
       have hin':∀e∈E,e.i≠i:=fun e he hi=>hin ⟨e,he,hi⟩;have hrl:i∈Region.ready .any ops listed:=by
        refine mem_ready.2 ⟨?_,o',hio,fun e he hb=>(hE.listed _ _).2 (.inl (hpre e he hb))⟩;cases hl:listed.getD i true with
        | false=>rfl
        | true=>exact ua0
       (have hlen:E.length + 1≤(i :: rest).length:=by exact uat);obtain ⟨f,rfl⟩:∃f,fuel=f + 1:=⟨fuel - 1,by omega⟩;refine wpAnyH_all rfl (yPa hrl) fun j hj=>early f rfl j hj ?_;exact uaB
     ·rw [hk] at h2;cases h2
    ·
     -- it turns the world
     (have hk1:U7 o'.op≠1:=by rw [hk];decide);have hlen:=cnt hk1;obtain ⟨f,rfl⟩:∃f,fuel=f + 1:=⟨fuel - 1,by simp only [yw] at hfu;omega⟩;rw [hka,hk] at hkind;refine wpAnyH_all rfl (yPa (hready hk1)) fun j hj=>?_;by_cases hkj:V1 ops j=1;·exact early f rfl j hj hkj
     ·
      have hji := Vca (p := fun _ => true) hE (fun _ _ => rfl) hds hj hkj;have:=List.all_eq_true.1 hkind j hji;(obtain rfl:j=i:=by simpa using this);unfold wpOp;simp only [hio];rw [hwant hk1];rcases hdj with ⟨hw,_,hdj'⟩ | ⟨_,h2,_⟩ | ⟨h1,_⟩ | ⟨hw,_,Post,hg,hdj'⟩;·rw [hw, if_neg zo];exact ⟨hS,ih f rest os _ _ E _ L R _ w zL zR hos hpl' (hE.step (notE hk1) hids) (hEp' hk1) hds' hcov' (frame hk1 undef) hst hLc hdj'⟩
      ·rw [hk] at h2;cases h2
      ·exact absurd h1 hk1
      ·rw [hw, if_pos rfl];refine .inl (Uxb (hexec hk1) ?_);refine (hg.frame (Jfc tb E)) c w hst a _ _ ?_;rintro v L'' U w' ⟨M,rfl,hp⟩ hst';obtain ⟨hLc',hR',hdj''⟩:=hdj' v M U hp;refine ⟨hst'.weak (hLc'.trans (yW _ _)) hR',?_⟩;refine Zkb (S':=St c Lc U) (fun x hx=>hx.weak ye hR') _ _ _ _ ?_;exact ih f rest os _ _ E _ M U _ w' zL zR hos hpl' (hE.step (notE hk1) hids) (hEp' hk1) hds' hcov' (frame hk1 v) hst' hLc' hdj''
end
end Go.Aw
end
section
namespace Go.Aw
open Go
def Yn (ops : List Oper) : List Nat → List Oper
 | []=>[]
 | i :: l=>match ops[i]? with
  | some o=>o :: Yn ops l
  | none=>Yn ops l
def Vya {P:Program} (tb:Tabs P) (n:Nat) (ops:Array Oper) (plan:List Nat):Bool:=
 Region.noSelect ops && Vta tb n ops && Kea ops (Array.replicate ops.size false) plan && ((List.range ops.size).all fun i=>plan.contains i) && plan.all fun i=>Nat.blt i ops.size
def V6a (ops : List Oper) : ∀ (plan : List Nat), (∀ i ∈ plan, i < ops.length) → plan.map (ops.toArray[·]?) = (Yn ops plan).map some
 | [],_=>rfl
 | i :: l,h=>by
  have hi:=h i zo
  have ih:=V6a ops l fun j hj=>h j (by simp [hj])
  simp only [yJ,Yn,List.getElem?_toArray,yC hi]
  congr 1
  simpa using ih
def Kp {P : Program} (tb : Tabs P) {n id : Nat} {ops : List Oper} {t : Nat → Value} {L : List Blk} {R : List Sl} {Q : Kt} (plan : List Nat) (Lc : List Blk) (hm : P.follows .mixedOrders = true) (hB : Vya tb n ops.toArray plan = true) (hLc : Lc.Sublist L)
 (h:DJ P tb n ops.toArray Lc Q (Yn ops plan) t L R):CJ P n (.region id ops.toArray true) t L R Q:=by
 simp only [Vya,yn] at hB;obtain ⟨⟨⟨⟨h1,h2⟩,h3⟩,h4⟩,h5⟩:=hB;have hlt:∀i∈plan,i < ops.length:=fun i hi=>by simpa using List.all_eq_true.1 h5 i hi
 intro c a w hf hs;refine wp_region_held (S:=St c Lc R) hm ?_;have hlen:plan.length≤ops.toArray.size∨True:=.inr trivial;refine J2f (tb:=tb) (Lc:=Lc) h1 h2 (ops.toArray.size + plan.length) ops.toArray.size plan (Yn ops plan) (Array.replicate ops.toArray.size false) _ [] t L R a _ (yl _) ?_ (V6a ops plan hlt) h3 ?_ (fun e he=>by cases he) zo ?_ hf ?_ hLc h;·
  -- the plan lists each operation once: what is ready is not done
  have key:∀(pl:List Nat) (done:Array Bool),Kea ops.toArray done pl=true→pl.Nodup∧∀i∈pl,done.getD i true=false:=by
   intro pl;induction pl with
   | nil=>intro _ _;exact ⟨yna,fun i hi=>by cases hi⟩
   | cons i pl ih=>exact uaq
  have:=Vt plan (List.range ops.length) (key plan _ h3).1 (fun i hi=>List.mem_range.2 (hlt i hi));simpa using this
 ·exact ⟨by simp,fun i d=>by simp,by simp,by simp,yna,yna⟩
 ·exact ubl
 ·exact St.drew hs
section
variable {P:Program} {tb:Tabs P} {n:Nat} {all:Array Oper} {Lc:List Blk} {K:Kt} {op:Op} {ty:TypeId} {pos:String} {after:Array Edge} {rest:List Oper} {t:Nat→Value} {L M:List Blk} {R U:List Sl} {d:Tmp} {v:Value} {g:Option (Nat×Bool)} {T:TypeId} {x y:Operand}
def Jz (h:K .normal t L R):DJ P tb n all Lc K [] t L R:=h
def K2 (hv:YV P ⟨some d,op,ty,pos,after,g⟩ (ev t) Lc R v) (hk:U7 op=0) (hg:Yk all t g=true) (hd:Nat.blt d n=true) (h:DJ P tb n all Lc K rest (upd t d v) L R):DJ P tb n all Lc K (⟨some d,op,ty,pos,after,g⟩ :: rest) t L R:=
 ⟨hd,.inr (.inl ⟨hg,hk,v,hv,h⟩)⟩
def K1f (hk:Nat.beq (U7 op) 1=false) (hg:Yk all t g=false) (hd:Nat.blt d n=true) (h:DJ P tb n all Lc K rest (upd t d undef) L R):DJ P tb n all Lc K (⟨some d,op,ty,pos,after,g⟩ :: rest) t L R:=
 ⟨hd,.inl ⟨hg,fun e=>by simp [e] at hk,h⟩⟩
def Zle {k m fl bt z} (hT : Y4 tb.tab T = some ⟨k, m, fl, bt, z⟩) (hd : Nat.blt d n = true)
 (h:∀b,DJ P tb n all Lc K rest (upd t d (.pointer (some ⟨b,0,none⟩))) (⟨b,z,T⟩ :: L) R):DJ P tb n all Lc K (⟨some d,.alloc T,ty,pos,after,none⟩ :: rest) t L R:=
 ⟨hd,.inr (.inr (.inl ⟨rfl,T,rfl,fun b=>by
  have:=h b
  have e:zT tb T=z:=by simp [zT,hT]
  rw [e]
  exact this⟩))⟩
def Z4b {Post : Yy} (hg : Gives P ⟨some d, op, ty, pos, after, g⟩ (ev t) L R Post) (hk : U7 op = 2) (hw : Yk all t g = true) (hd : Nat.blt d n = true)
 (h:∀v M U,Post v M U→Lc.Sublist M∧(∀r∈R,InR r U)∧DJ P tb n all Lc K rest (upd t d v) M U):DJ P tb n all Lc K (⟨some d,op,ty,pos,after,g⟩ :: rest) t L R:=
 ⟨hd,.inr (.inr (.inr ⟨hw,hk,Post,hg,h⟩))⟩
def Kvb {Post : Yy} (hg : Gives P ⟨none, op, ty, pos, after, g⟩ (ev t) L R Post) (hk : U7 op = 2) (hw : Yk all t g = true)
 (h:∀v M U,Post v M U→Lc.Sublist M∧(∀r∈R,InR r U)∧DJ P tb n all Lc K rest t M U):DJ P tb n all Lc K (⟨none,op,ty,pos,after,g⟩ :: rest) t L R:=
 ⟨rfl,.inr (.inr (.inr ⟨hw,hk,Post,hg,fun v M U hp=>h v M U hp⟩))⟩
def Yj {f : FuncId} {xs : List Operand} {ts : Array TypeId} {args : List Value} {Post : Yy} (ha : xs.map (ev t) = args) (h : Tri P f args.toArray L R Post) (hw : Yk all t g = true) (hd : Nat.blt d n = true)
 (k:∀v M U,Post v M U→Lc.Sublist M∧(∀r∈R,InR r U)∧DJ P tb n all Lc K rest (upd t d v) M U):DJ P tb n all Lc K (⟨some d,.call ⟨.value (.func f),xs.toArray,ts⟩,ty,pos,after,g⟩ :: rest) t L R:=
 Z4b (U4a zoa rfl h) rfl hw hd k
def Zi {k m fl bt z b o} {cs cs' : List Value} {v : Value} {T' : TypeId} (hT : Y4 tb.tab T = some ⟨k, m, fl, bt, z⟩) (hx : ev t x = .pointer (some ⟨b, o, none⟩)) (hy : ev t y = v) (hn : m = 1)
 (hu:Upd1 b cs T' cs' L M) (hfit:Nat.blt o cs.length=true) (hcs:cs.set o v=cs') (h1:v.oneCell'=true) (hLc:Lc.Sublist M)
 (h:DJ P tb n all Lc K rest t M R):DJ P tb n all Lc K (⟨none,.store T x y,ty,pos,after,none⟩ :: rest) t L R:=
 Kvb (Uqb tb hT hx hy hn hu hfit hcs h1) rfl rfl fun _ L'' U ⟨e1,e2⟩=>by subst e1;subst e2;exact ⟨hLc,Jd _,h⟩
def Kab {k m fl bt z b o} {cs vs cs' : List Value} {T' : TypeId} (hT : Y4 tb.tab T = some ⟨k, m, fl, bt, z⟩) (hx : ev t x = .pointer (some ⟨b, o, none⟩)) (hy : ev t y = .agg vs.toArray) (hn : vs.length = m)
 (hu:Upd1 b cs T' cs' L M) (hfit:Nat.ble (o + vs.length) cs.length=true) (hcs:cs.take o ++ vs ++ cs.drop (o + vs.length)=cs') (h1:vs.all (·.oneCell')=true) (hLc:Lc.Sublist M)
 (h:DJ P tb n all Lc K rest t M R):DJ P tb n all Lc K (⟨none,.store T x y,ty,pos,after,none⟩ :: rest) t L R:=
 Kvb (U6b tb hT hx hy hn hu hfit hcs h1) rfl rfl fun _ L'' U ⟨e1,e2⟩=>by subst e1;subst e2;exact ⟨hLc,Jd _,h⟩
def Jze {k m fl bt z b} {cs vs : List Value} {T' : TypeId} (hT : Y4 tb.tab T = some ⟨k, m, fl, bt, z⟩) (hx : ev t x = .pointer (some ⟨b, 0, none⟩)) (hy : ev t y = .agg vs.toArray) (hn : vs.length = m)
 (hu:Upd1 b cs T' vs L M) (hfit:vs.length=cs.length) (h1:vs.all (·.oneCell')=true) (hLc:Lc.Sublist M)
 (h:DJ P tb n all Lc K rest t M R):DJ P tb n all Lc K (⟨none,.store T x y,ty,pos,after,none⟩ :: rest) t L R:=
 Kab hT hx hy hn hu (by simp [hfit]) (by simp [hfit]) h1 hLc h
def Zga {t:Nat→Value} {k:Nat} {v:Value} (h:t k=v):upd t k v=t:=by
 funext i;unfold upd;cases hb:Nat.beq i k with
 | false=>rfl
 | true=>rw [cond_true,yeb hb];exact h.symm
def Yl {os:List Oper} {k:Nat} {b:Bool} (hb:t k=.bool b) (h1:b=true→DJ P tb n all Lc K os (upd t k (.bool true)) L R) (h2:b=false→DJ P tb n all Lc K os (upd t k (.bool false)) L R):DJ P tb n all Lc K os t L R:=by
 cases b with
 | true=>have:=h1 rfl;rwa [Zga hb] at this
 | false=>have:=h2 rfl;rwa [Zga hb] at this
def Z2 {os:List Oper} {k:Nat} {b:Bool} {Q:Kt} (hb:t k=.bool b) (h1:b=true→LJ P n all os (upd t k (.bool true)) L R Q) (h2:b=false→LJ P n all os (upd t k (.bool false)) L R Q):LJ P n all os t L R Q:=by
 cases b with
 | true=>have:=h1 rfl;rwa [Zga hb] at this
 | false=>have:=h2 rfl;rwa [Zga hb] at this
end
def Vhb (z : List Value) : Nat → List Value
 | 0=>[]
 | n + 1=>z ++ Vhb z n
def J3d (z:List Value) (n:Nat):(Vhb z n).length=n * z.length:=by
 induction n with
 | zero=>simp [Vhb]
 | succ n ih=>simp [Vhb,ih,yva,yRb]
def Vnd (z : List Value) (hz : 0 < z.length) : ∀ (n i : Nat), i < n * z.length → (Vhb z n)[i]? = z[i % z.length]?
 | 0,i,h=>by simp at h
 | n + 1,i,h=>by
  simp only [Vhb]
  rcases yk i z.length with h' | h'
  ·rw [yV h',ymb h']
  ·rw [yX h', Vnd z hz n (i - z.length) (by rw [yva] at h; omega)]
   rw [Nat.mod_eq_sub_mod h']
def Koe (z:Array Value) (n:Nat):((Array.range (n * z.size)).map (z[· % z.size]!)).toList=Vhb z.toList n:=by
 apply yxa;intro i;rcases yk i (n * z.size) with h | h;·
  have hz:0 < z.size:=by
   rcases yrb z.size with h0 | h0;·rw [h0] at h;simp at h
   ·exact h0
  have hm:i % z.size < z.size:=Nat.mod_lt _ hz;rw [Vnd z.toList (by simpa using hz) n i zX];simp [h,hm]
 ·rw [yr zX,yr (by rw [J3d];simpa using h)]
def Voe (size : Nat) (cs : List Value) : List (Nat × List Value) → Option (List Value)
 | []=>some cs
 | (i,vs) :: rest=>bif Nat.beq vs.length size && Nat.ble (i * size + vs.length) cs.length then Voe size (Vtc cs (i * size) vs) rest else none
def Ydd (size:Nat):∀(parts:List (Nat×Value)) (cs:List Value) (out:List Value),
 Voe size cs (parts.map fun p=>(p.1,p.2.cells.toList))=some out→Instr.fill (fun i=>some (i * size,size)) cs.toArray parts=some out.toArray
 | [],cs,out,h=>by simp only [ypb,Voe,yWa] at h;simp [Instr.fill,h]
 | (i,v) :: rest,cs,out,h=>by
  simp only [yJ,Voe] at h
  simp only [Instr.fill]
  cases hb:(Nat.beq v.cells.toList.length size && Nat.ble (i * size + v.cells.toList.length) cs.length) with
  | false=>rw [hb] at h;cases h
  | true=>
   rw [hb,cond_true] at h
   simp only [yn,yzb,Nat.ble_eq,yPb] at hb
   have:=Ydd size rest _ out h
   rw [if_neg (by simp [hb.1];omega)]
   have hz:(v.cells.zipIdx.foldl (fun cs (c,j)=>cs.setIfInBounds (i * size + j) c) cs.toArray)=(Vtc cs (i * size) v.cells.toList).toArray:=by
    show v.cells.zipIdx.foldl (fun cs (x:Value×Nat)=>cs.setIfInBounds (i * size + x.2) x.1) cs.toArray=_
    rw [← Array.foldl_toList]
    have:=V6b v.cells.toList (i * size) 0 cs.toArray
    simpa using this
   rw [hz]
   exact this
inductive Ow where
 | nil
 | own (g cap:Nat) (spare:List Value)
def Ow.val : Ow → Nat → Value
 | .nil,_=>.slice none 0 0
 | .own g cap _,n=>.slice (some ⟨g,0,none⟩) n cap
def Ow.L (e : TypeId) (xs : List Value) : Ow → List Blk
 | .nil=>[]
 | .own g _ spare=>[⟨g,xs ++ spare,e⟩]
def Ow.ok (size : Nat) (xs : List Value) (n : Nat) : Ow → Prop
 | .nil=>n=0∧xs=[]
 | .own _ cap spare=>xs.length=n * size∧n≤cap∧cap≤maxLen∧(xs ++ spare).length=cap * size
inductive Seg (X : List Blk) : List Blk → (List Blk → List Blk) → Prop
 | here {B}:Seg X (X ++ B) (fun Y=>Y ++ B)
 | cons {x L f} (h:Seg X L f):Seg X (x :: L) (fun Y=>x :: f Y)
 | app {Z L f} (h:Seg X L f):Seg X (Z ++ L) (fun Y=>Z ++ f Y)
def Seg.split {X L f} (h:Seg X L f):∃A B,L=A ++ X ++ B∧∀Y,f Y=A ++ Y ++ B:=by
 induction h with
 | @here B=>exact ⟨[],B,by simp,fun Y=>by simp⟩
 | @cons x L f _ ih=>obtain ⟨A,B,h1,h2⟩:=ih;exact ⟨x :: A,B,by simp [h1],fun Y=>by simp [h2]⟩
 | @app Z L f _ ih=>obtain ⟨A,B,h1,h2⟩:=ih;exact ⟨Z ++ A,B,by simp [h1],fun Y=>by simp [h2]⟩
def Znd (L:List Blk) (R:List Sl) (v:Value) (m size:Nat) (news:List Value):Prop:=
 ∃a cap,v=.slice (some a) m cap∧news.length=m * size∧∀c w,St c L R w→∀j u,news[j]?=some u→w.cell? (a.add j)=some u
def K4 {L:List Blk} {R:List Sl} {b m cap size:Nat} {cs news:List Value} {T:TypeId} (hin:In1 ⟨b,cs,T⟩ L) (hl:news.length=m * size) (hp:cs.take (m * size)=news):Znd L R (.slice (some ⟨b,0,none⟩) m cap) m size news:=by
 refine ⟨_,_,rfl,hl,fun c w hst j u hj=>?_⟩;rw [Uha,yCa,Z4 hst hin.mem];rw [← hp,ysa] at hj;split at hj;·exact hj
 ·cases hj
def Jgb {size : Nat} : ∀ (rows : List (List Value)), (∀ r ∈ rows, r.length = size) → ∀ j, 0 < size → (rows.flatten)[j]? = (rows[j / size]?).bind (·[j % size]?)
 | [],_,j,_=>by simp
 | r :: rows,h,j,hs=>by
  have hr:=h r zo
  rw [yYb]
  rcases yk j size with h' | h'
  ·rw [yV za, Nat.div_eq_of_lt h', ymb h']
   simp
  ·rw [yX za, hr, Jgb rows (fun x hx => h x (by simp [hx])) _ hs]
   rw [Nat.mod_eq_sub_mod h',Nat.div_eq_sub_div hs h']
   simp
def U8d {L : List Blk} {R : List Sl} {ar : Option Addr} {size len cap : Nat} {rows : List (List Value)} {subs : List Sl} (hR : InR (.mk size ar len cap rows subs) R) (hs : 0 < size) (har : ∀ c w, St c L R w → ∃ b off, ar = some ⟨b, off, none⟩)
 (hl:rows.flatten.length=len * size):(∃c w,St c L R w)→Znd L R (.slice ar len cap) len size rows.flatten:=by
 rintro ⟨c0,w0,h0⟩;obtain ⟨b,off,ha⟩:=har c0 w0 h0;subst ha;refine ⟨_,_,rfl,hl,fun c w hst j u hj=>?_⟩;rw [Uha];have hst':=hst;obtain ⟨⟨G,hh,hg⟩,ho,hk⟩:=hst;obtain ⟨r,hr',hsub⟩:=hR;have hrep:=(hh.rep r hr').sub hsub;cases hrep with
 | mk hl2 hc hm hw hmem hs2=>
  rw [Jgb rows hw j hs] at hj;cases hrow:rows[j / size]? with
  | none=>rw [hrow] at hj;cases hj
  | some row=>rw [hrow] at hj;have:=Knd hst' (wd:=size) (len:=len) (cap:=cap) (i:=j / size) (j:=j % size) (ar:=some ⟨b,off,none⟩) (rows:=rows) (subs:=subs) ⟨r,hr',hsub⟩ hrow hj;rw [← this];simp only [adB,eo,adO];congr 2;have:=Nat.div_add_mod j size;rw [ygc] at this;omega
section
variable {P:Program} {ρ:Operand→Value} {L:List Blk} {R:List Sl} {dst:Option Tmp} {ty:TypeId} {pos:String} {after:Array Edge} {guard:Option (Nat×Bool)} (tb:Tabs P) {T:TypeId} {x y:Operand}
def J0 {e n fl bt z k2 n2 fl2 bt2 z2 len} {ps : List (Nat × Operand)} {qs : List (Nat × List Value)} {out : List Value} (hT : Y4 tb.tab T = some ⟨.slice e, n, fl, bt, z⟩) (hE : Y4 tb.tab e = some ⟨k2, n2, fl2, bt2, z2⟩)
 (hn2:z2.length=n2) (hsz:Nat.ble (len * n2) 16777216=true) (hpos:Nat.beq (len * n2) 0=false) (hq:evP ρ ps=qs) (hf:Voe n2 (Vhb z2 len) qs=some out):
 Gives P ⟨dst,.buildSlice T len ps.toArray,ty,pos,after,guard⟩ ρ L R (fun v M U=>∃b,v=.slice (some ⟨b,0,none⟩) len len∧M=⟨b,out,e⟩ :: L∧U=R):=by
 intro c w hs a next Q kk
 have hu:=Vi (tb.ok _ _ hT) rfl;have hsize:=run_sizeOf (tb.ok _ _ hE) w;obtain ⟨zv,hz1,hz2⟩:=Zy (tb.ok _ _ hE) w;simp only at hsize hz2;subst hq;rw [Kcf] at hf;have hzs:zv.cells.size=n2:=by rw [← hn2,← hz2];simp
 have hme:((Array.range (len * n2)).map (zv.cells[· % zv.cells.size]!))=(Vhb z2 len).toArray:=by have:=Koe zv.cells len;rw [hz2,hzs] at this;rw [← this,hzs]
 have hfill:=Ydd n2 (ps.map fun p=>(p.1,ρ p.2)) (Vhb z2 len) out hf;have hmap:(ps.toArray.map fun (p:Nat×Operand)=>(p.1,ρ p.2)).toList=ps.map fun p=>(p.1,ρ p.2):=by simp
 have h24:¬ (len * n2 > 2 ^ 24):=by have:=yQ hsz;omega
 have h0:¬ (len * n2=0):=fun h=>by rw [h] at hpos;cases hpos
 have hgoal:(Instr.buildSlice T len (ps.toArray.map fun (p:Nat×Operand)=>(p.1,ρ p.2))).run P w=.ok (.slice (some ⟨w.heap.size,0,none⟩) len len) (w.alloc (.cells out.toArray e)):=by unfold Instr.buildSlice;simp only [yga,run_underlying hu,yE,hsize];rw [if_neg h24,if_neg h0];simp only [yga,hz1,yE,yBa,hmap];rw [hme,hfill];simp [newRow]
 refine V6 (w':=w.alloc (.cells out.toArray e)) (v:=.slice (some ⟨w.heap.size,0,none⟩) len len) ?_ (kk _ _ _ _ ⟨w.heap.size,rfl,rfl,rfl⟩ (hs.alloc _ _));have e1:execOp ρ ⟨dst,.buildSlice T len ps.toArray,ty,pos,after,guard⟩=(do pure (.value (← Instr.buildSlice T len (ps.toArray.map fun (p:Nat×Operand)=>(p.1,ρ p.2))))):=rfl;rw [e1];simp only [yga,hgoal,yE,yBa]
def Yw {e n fl bt z k2 n2 fl2 bt2 z2 k3 k4} {m : Nat} {i j : Int} (hT : Y4 tb.tab T = some ⟨.slice e, n, fl, bt, z⟩) (hE : Y4 tb.tab e = some ⟨k2, n2, fl2, bt2, z2⟩) (hn2 : z2.length = n2)
 (hx:ρ x=.int k3 i) (hy:ρ y=.int k4 j) (hi:i=(m:Int)) (hj:j=(m:Int)) (hb:bt2 * m≤281474976710656) (hm:m≤9223372036854775807):
 Gives P ⟨dst,.makeSlice T x y,ty,pos,after,guard⟩ ρ L R (fun v M U=>∃b,v=.slice (some ⟨b,0,none⟩) m m∧M=⟨b,Vhb z2 m,e⟩ :: L∧U=R):=by
 intro c w hs a next Q kk
 subst hi;subst hj;have hu:=Vi (tb.ok _ _ hT) rfl;obtain ⟨ti,u,zv,h1,h2,h3,h4⟩:=Vl (tb.ok _ _ hE);have hsz:ti.size=n2:=by have:=congrArg TI.sz h4;simpa [Jie] using this.symm
 have hbt:ti.bytes=bt2:=by have:=congrArg TI.bt h4;simpa [Jie] using this.symm
 have hz:zv.cells.toList=z2:=by have:=congrArg TI.z h4;simpa [Jie] using this.symm
 have hzs:zv.cells.size=n2:=by rw [← hn2,← hz];simp
 have hb':(ti.bytes:Int) * (m:Int)≤281474976710656:=by rw [hbt,← Int.natCast_mul];omega
 have hr:=run_make (P:=P) w T e ti zv hu h1 h3 k3 k4 (m:Int) (m:Int) za (yD _) hb' za;have hme:madeCells zv.cells ((m:Int).toNat * ti.size)=(Vhb z2 m).toArray:=by have:=Koe zv.cells m;rw [hz,hzs] at this;rw [yu,hsz,madeCells,← this,hzs]
 rw [hme,yu] at hr;refine V6 (w':=w.alloc (.cells (Vhb z2 m).toArray e)) (v:=.slice (some ⟨w.heap.size,0,none⟩) m m) ?_ (kk _ _ _ _ ⟨w.heap.size,rfl,rfl,rfl⟩ (hs.alloc _ _));simp [execOp,hx,hy,hr]
def Y2a {e n fl bt z k2 n2 fl2 bt2 z2} {s : Ow} {xs news : List Value} {len m : Nat} {f : List Blk → List Blk} (hT : Y4 tb.tab T = some ⟨.slice e, n, fl, bt, z⟩) (hE : Y4 tb.tab e = some ⟨k2, n2, fl2, bt2, z2⟩) (hn2 : z2.length = n2)
 (hx:ρ x=s.val len) (hok:s.ok n2 xs len) (hseg:Seg (s.L e xs) L f) (hs:Znd L R (ρ y) m n2 news) (hm:0 < m) (h1:news.all (·.oneCell')=true) (hlen:len + m≤9223372036854775807) (hby:(len + m) * bt2≤140737488355328):
 Gives P ⟨dst,.call ⟨.builtin .append,#[x,y],#[T,T]⟩,ty,pos,after,guard⟩ ρ L R (fun v M U=>∃g cap spare,v=(Ow.own g cap spare).val (len + m)∧(Ow.own g cap spare).ok n2 (xs ++ news) (len + m)∧M=f ((Ow.own g cap spare).L e (xs ++ news))∧U=R):=by
 intro c w hst a next Q kk
 have hu:=Vi (tb.ok _ _ hT) rfl;obtain ⟨ti,u,zv,i1,i2,i3,i4⟩:=Vl (tb.ok _ _ hE);have hsz:ti.size=n2:=by have:=congrArg TI.sz i4;simpa [Jie] using this.symm
 have hbt:ti.bytes=bt2:=by have:=congrArg TI.bt i4;simpa [Jie] using this.symm
 have hz:zv.cells.toList=z2:=by have:=congrArg TI.z i4;simpa [Jie] using this.symm
 have hzs:zv.cells.size=n2:=by rw [← hn2,← hz];simp
 obtain ⟨ad,cap2,hy,hnl,hcells⟩:=hs;have hcw:=hcells c w hst;obtain ⟨A,B,hL,hf⟩:=hseg.split;have hone:∀u∈news,u.oneCell'=true:=List.all_eq_true.1 h1;have e1:execOp ρ ⟨dst,.call ⟨.builtin .append,#[x,y],#[T,T]⟩,ty,pos,after,guard⟩=(do pure (.value (← Builtin.append_ #[T,T] ty #[ρ x,ρ y]))):=by exact ua8
 have zlen:∀k,(Builtin.zeroCells zv.cells k).toList.length=k * n2:=fun k=>by rw [yPb,size_zeroCells,hzs]
 -- the ends of both kinds
 have newEnd:∀(old:Nat) (L0:List Blk),L0=A ++ B→St c (A ++ B) R w→old < len + m→xs.length=len * n2→
  (∀wv:World,wv=w.drew.alloc (.cells (xs.toArray ++ news.toArray ++ Builtin.zeroCells zv.cells (grownCap w (len + m) old e - (len + m))) e)→
   next (a.put dst (.slice (some ⟨w.heap.size,0,none⟩) (len + m) (grownCap w (len + m) old e))) wv):=by
  intro old L0 hL0 hst0 ho hxl wv hwv;have hge:=grownCap_ge w (len + m) old e;have hcm:grownCap w (len + m) old e≤maxLen:=grownCap_le_maxLen w (len + m) old e zE;have h2:=(hst0.drew).alloc (xs.toArray ++ news.toArray ++ Builtin.zeroCells zv.cells (grownCap w (len + m) old e - (len + m))) e;rw [hwv];refine kk _ _ R _ ⟨w.heap.size,grownCap w (len + m) old e,(Builtin.zeroCells zv.cells (grownCap w (len + m) old e - (len + m))).toList,rfl,⟨?_,hge,hcm,?_⟩,rfl,rfl⟩ ?_;·rw [yo,hxl,hnl,yxb]
  ·rw [yo, yo, hxl, hnl, zlen, ← yxb, ← yxb];congr 1;omega
  ·rw [hf];refine h2.perm ?_;simp only [Ow.L,World.size_drew,Array.toList_append,yq,yp,yv];exact List.perm_middle.symm
 cases s with
 | nil=>
  obtain ⟨rfl,rfl⟩:=hok;simp only [Ow.L,yZ] at hL;have hr:=run_append_nil (P:=P) w T ty e ti zv hu i1 i3 ad m cap2 news (by rw [hsz];exact hnl) hcw hm za (by rw [hbt];simp only [yCa] at hby;omega);have hst0:St c (A ++ B) R w:=by rw [← hL];exact hst
  refine V6 (w':=_) (v:=_) (h:=?_) (k:=newEnd 0 _ rfl hst0 za zo _ rfl);rw [e1,hx,hy];simp only [Ow.val,yga,hr,yE,yBa,yCa];simp
 | own g cap spare=>
  obtain ⟨o1,o2,o3,o4⟩:=hok;have hmem:(⟨g,xs ++ spare,e⟩:Blk)∈L:=by rw [hL];simp [Ow.L]
  have hb:w.heap[g]?=some (.cells (xs ++ spare).toArray e (0,0)):=by obtain ⟨⟨G,hh,_⟩,_,_⟩:=hst;exact hh.own _ hmem
  by_cases hroom:len + m≤cap;·
   (have hfit:len * ti.size + news.length≤(xs ++ spare).toArray.size:=by rw [hsz,hnl,ygb,o4,← yxb];exact ySa _ hroom);have hr:=run_append_room (P:=P) w T ty e ti hu i1 g len cap (xs ++ spare).toArray hb ad m cap2 news (by rw [hsz];exact hnl) hcw hone hroom hfit;(have hcs:(List.take (len * ti.size) (xs ++ spare).toArray.toList ++ news ++ List.drop (len * ti.size + news.length) (xs ++ spare).toArray.toList)=(xs ++ news) ++ spare.drop news.length:=by rw [hsz,← o1];simp only [List.take_left',yq];have h0:List.drop (xs.length + news.length) xs=[]:=ycb za;(have h2:xs.length + news.length - xs.length=news.length:=by omega);rw [List.drop_append,h0,h2,yv]);rw [hcs] at hr;(have hu1:Upd1 g (xs ++ spare) e ((xs ++ news) ++ spare.drop news.length) L (f ((Ow.own g cap (spare.drop news.length)).L e (xs ++ news))):=by rw [hL,hf];simp only [Ow.L,yq,yp,yv];exact .app .here);refine V6 (w':=_) (v:=_) (h:=?_) (k:=kk (.slice (some ⟨g,0,none⟩) (len + m) cap) _ R _ ⟨g,cap,spare.drop news.length,rfl,⟨?_,hroom,o3,?_⟩,rfl,rfl⟩ (hst.setRow hu1));·rw [e1, hx, hy];simp only [Ow.val,yga,hr,yE,yBa]
   ·rw [yo,o1,hnl,yxb]
   ·rw [yo] at o4;have h5:(len + m) * n2≤cap * n2:=ySa _ hroom;rw [yxb,← o1,← hnl] at h5;simp only [yo,yP];omega
  ·(have holds:∀j v,xs[j]?=some v→w.cell? ((⟨g,0,none⟩:Addr).add j)=some v:=fun j v hj=>by rw [Uha,yCa,Z4 hst hmem];rw [yV (List.getElem?_eq_some_iff.1 hj).1];exact hj);have hr:=run_append_grow (P:=P) w T ty e ti zv hu i1 i3 ⟨g,0,none⟩ len cap xs (by rw [hsz];exact o1) holds ad m cap2 news (by rw [hsz];exact hnl) hcw za za (growslice_fits za (by rw [hbt];exact hby));(have hst0:St c (A ++ B) R w:=by refine hst.weak ?_ (fun r hr=>⟨r,hr,.here⟩);rw [hL];exact yNa (List.sublist_append_left _ _) ye);refine V6 (w':=_) (v:=_) (h:=?_) (k:=newEnd cap _ rfl hst0 za o1 _ rfl);rw [e1,hx,hy];simp only [Ow.val,yga,hr,yE,yBa]
end
def St.frz {c : Ctx} {L : List Blk} {R : List Sl} {w : World} {b : Nat} {cs : List Value} {T : TypeId} {wd len cap : Nat} {rows : List (List Value)} {subs : List Sl} (h : St c (⟨b, cs, T⟩ :: L) R w)
 (hl:rows.length=len) (hc:len≤cap) (hm:cap < 9223372036854775808) (hw:∀r∈rows,r.length=wd) (hp:0 < wd) (hcs:cs.take (len * wd)=rows.flatten) (hsub:∀s∈subs,InR s R):
 St c L (.mk wd (some ⟨b,0,none⟩) len cap rows subs :: R) w:=by
 obtain ⟨⟨G,hh,hg⟩,ho,hk⟩:=h;have hb:=hh.own ⟨b,cs,T⟩ zo;have hnd:=hh.nd;simp only [yJ,yia] at hnd;have up:∀s,Rep w G s→Rep w (fun x=>G x∨x=b) s:=fun s hs=>hs.mono (fun _ h=>.inl h) (fun _ _=>rfl);have hlt:b < w.heap.size:=hh.lt (e:=⟨b,cs,T⟩) zo;refine ⟨⟨fun x=>G x∨x=b,⟨hnd.2,fun e he=>hh.own e (by simp [he]),fun e he hx=>?_,fun x hx=>?_,fun r hr=>?_⟩,fun x hx=>?_⟩,fun e he=>ho e (by simp [he]),hk⟩;·
  rcases hx with hx | hx;·exact hh.ng e (by simp [he]) hx
  ·exact hnd.1 (List.mem_map.2 ⟨e,he,hx⟩)
 ·
  rcases hx with hx | rfl;·exact hh.gs x hx
  ·exact hlt
 ·
  rcases List.mem_cons.1 hr with rfl | hr;·
   refine .mk hl hc hm hw ?_ (fun s hs => ?_);·refine .inr ⟨b, 0, rfl, .inr rfl, fun i j hi hj => ?_⟩;(have h1:w.cell? ⟨b,0 + i * wd + j,none⟩=cs[i * wd + j]?:=by simp only [BT.obj] at hb;simp [World.cell?,hb]);rw [h1];(have h2:i * wd + j < len * wd:=by have:(i + 1) * wd≤len * wd:=ySa _ hi;rw [yva] at this;omega);(have h3:cs[i * wd + j]?=rows.flatten[i * wd + j]?:=by rw [← hcs,ysa,if_pos h2]);rw [h3,Jgb rows hw _ hp];(have d1:(i * wd + j) / wd=i:=by rw [ygc,Nat.mul_add_div hp,Nat.div_eq_of_lt hj,Nat.add_zero]);(have d2:(i * wd + j) % wd=j:=by rw [ygc,Nat.mul_add_mod,ymb hj]);rw [d1,d2]
   ·obtain ⟨r, hr, hs2⟩ := hsub s hs;exact up _ ((hh.rep r hr).sub hs2)
  ·exact up _ (hh.rep r hr)
 ·
  rcases hx with hx | rfl;·exact hg x hx
  ·
   rcases ho ⟨x, cs, T⟩ zo with h | h;·exact .inr (.inr h)
   ·exact .inr (.inl h)
def Uxa {P : Program} {n : Nat} {all : Array Oper} {ops : List Oper} {t : Nat → Value} {L : List Blk} {R : List Sl} {Q : Kt} {b : Nat} {cs : List Value} {T : TypeId} {wd len cap : Nat} {rows : List (List Value)} {subs : List Sl}
 (hl:rows.length=len) (hc:len≤cap) (hm:cap < 9223372036854775808) (hw:∀r∈rows,r.length=wd) (hp:0 < wd) (hcs:cs.take (len * wd)=rows.flatten) (hsub:∀s∈subs,InR s R)
 (h:LJ P n all ops t L (.mk wd (some ⟨b,0,none⟩) len cap rows subs :: R) Q):LJ P n all ops t (⟨b,cs,T⟩ :: L) R Q:=
 fun c a w hf hs=>h c a w hf (hs.frz hl hc hm hw hp hcs hsub)
def Vn {P:Program} {n:Nat} {code:Code} {t:Nat→Value} {L M:List Blk} {R U:List Sl} {Q:Kt} (hL:M.Sublist L) (hR:∀r∈U,InR r R) (h:CJ P n code t M U Q):CJ P n code t L R Q:=
 fun c a w hf hs=>h c a w hf (hs.weak hL hR)
end Go.Aw
end
section
namespace Go.Aw
open Go
def Z2e (late:List Nat) (Lc Lc2:List Blk) (d:Option Tmp):List Blk:=match d with
 | some d=>bif late.contains d then Lc2 else Lc
 | none=>Lc2
def J7a (late:List Nat) (ops:Array Oper) (k:Nat):Bool:=match (ops[k]?).bind (·.dst) with
 | some d=>late.contains d
 | none=>true
def Vue {late:List Nat} {Lc Lc2:List Blk} {ops:Array Oper} {i:Nat} {o:Oper} (hio:ops[i]?=some o):Z2e late Lc Lc2 o.dst=if J7a late ops i=true then Lc2 else Lc:=by
 have h:J7a late ops i=(match o.dst with | some d=>late.contains d | none=>true):=by unfold J7a;rw [hio];rfl
 rw [h];obtain ⟨d,op,ty,pos,af,g⟩:=o;cases d with
 | none=>rfl
 | some d=>
  simp only [Z2e];by_cases hc:late.contains d=true;·rw [if_pos hc,hc];rfl
  ·rw [if_neg hc,Bool.eq_false_iff.2 hc];rfl
def DJ3 (P : Program) (tb : Tabs P) (n : Nat) (all : Array Oper) (late : List Nat) (Lc Lc2 : List Blk) (K : Kt) : List Oper → (Nat → Value) → List Blk → List Sl → Prop
 | [],t,L,R=>K .normal t L R
 | o :: rest,t,L,R=>dOk n o.dst=true∧
  ((Yk all t o.guard=false∧U7 o.op≠1∧DJ3 P tb n all late Lc Lc2 K rest (Z2b t o.dst undef) L R)∨
   (Yk all t o.guard=true∧U7 o.op=0∧∃v,YV P o (ev t) (Z2e late Lc Lc2 o.dst) R v∧DJ3 P tb n all late Lc Lc2 K rest (Z2b t o.dst v) L R)∨
   (U7 o.op=1∧∃T,o.op=.alloc T∧∀b,DJ3 P tb n all late Lc Lc2 K rest (Z2b t o.dst (.pointer (some ⟨b,0,none⟩))) (⟨b,zT tb T,T⟩ :: L) R)∨
   (Yk all t o.guard=true∧U7 o.op=2∧∃Post,Gives P o (ev t) L R Post∧∀v M U,Post v M U→Lc.Sublist M∧(∀r∈R,InR r U)∧DJ3 P tb n all late Lc Lc2 K rest (Z2b t o.dst v) M U))
def waits (ops:Array Oper) (i:Nat) (D:List Nat) (k:Nat):Bool:=Nat.beq k i || (match ops[k]? with
 | some o=>o.after.any fun e=>Region.binds .any e && D.contains e.on
 | none=>false)
def K8e (ops:Array Oper) (i:Nat) (plan:List Nat):List Nat:=plan.foldl (fun D k=>bif waits ops i D k then k :: D else D) []
def Kbe (n:Nat) (p1:List Nat) (D:List Nat):Array Bool:=(Array.range n).map fun i=>p1.contains i && !D.contains i
def Closed (ops:Array Oper) (listed:Array Bool):Prop:=∀j oj,ops[j]?=some oj→listed.getD j true=true→∀e∈oj.after,Region.binds .any e=true→listed.getD e.on false=true
def Closed.set {ops:Array Oper} {listed:Array Bool} (h:Closed ops listed) {j:Nat} (hj:j∈Region.ready .any ops listed):Closed ops (listed.setIfInBounds j true):=by
 intro k ok hk hl e he hb;by_cases hkj:j=k;·subst hkj;obtain ⟨_,o,ho,hall⟩:=mem_ready.1 hj;obtain rfl:o=ok:=yL (ho.symm.trans hk);exact getD_set_true (hall e he hb)
 ·rw [getD_set_ne true hkj] at hl;exact getD_set_true (h k ok hk hl e he hb)
def Closed.zero {ops:Array Oper}:Closed ops (Array.replicate ops.size false):=by intro j oj hj hl;have:j < ops.size:=(Array.getElem?_eq_some_iff.1 hj).1;simp [this] at hl
def Jic {ops:Array Oper} {i:Nat} {listed:Array Bool} (hc:Closed ops listed) (hi:listed.getD i true=false) (plan:List Nat):∀k∈K8e ops i plan,listed.getD k true=false:=by
 have key:∀(plan D:List Nat),(∀k∈D,listed.getD k true=false)→∀k∈plan.foldl (fun D k=>bif waits ops i D k then k :: D else D) D,listed.getD k true=false:=by
  intro plan;induction plan with
  | nil=>intro D h;exact h
  | cons x plan ih=>
   intro D h;rw [yNb];refine ih _ ?_;cases hx:waits ops i D x with
   | false=>rw [cond_false];exact h
   | true=>
    rw [cond_true];intro k hk;rcases List.mem_cons.1 hk with rfl | hk;·
     simp only [waits, yQb, yzb] at hx;rcases hx with rfl | hx;·exact hi
     ·
      cases ho:ops[k]? with
      | none=>rw [ho] at hx;cases hx
      | some o=>
       rw [ho] at hx;obtain ⟨e,he,hx⟩:=Array.any_eq_true'.1 hx;simp only [yn] at hx;cases hl:listed.getD k true with
       | false=>rfl
       | true=>
        have h1:=hc k o ho hl e he hx.1;have h2:=h e.on (by simpa using hx.2);rcases yk e.on listed.size with h' | h';·simp [h'] at h1 h2;rw [h1] at h2;cases h2
        ·simp [yA h'] at h1
    ·exact h k hk
 exact key plan [] (fun k hk=>by cases hk)
def zOk (late:List Nat) (ops:Array Oper) (p1 p2:List Nat):Bool:=
 (p2.all fun k=>!Nat.beq (V1 ops k) 1 && !p1.contains k) &&
 (p1.all fun k=>Nat.blt k ops.size && (!Nat.beq (V1 ops k) 0 || J7a late ops k || (Region.ready .any ops (Kbe ops.size p1 (K8e ops k p1))).all fun j=>!p2.contains j)) &&
 ((List.range ops.size).all fun k=>p1.contains k || p2.contains k)
section
variable {P:Program} {ops:Array Oper} {late:List Nat} {Q:Exit→Act→World→Prop} {S S2:World→Prop} {p1 p2:List Nat}
def Zce (h:zOk late ops p1 p2=true) {k:Nat} (hk:k∈p2):V1 ops k≠1:=by simp only [zOk,yn] at h;have:=List.all_eq_true.1 h.1.1 k hk;simp only [yn] at this;intro e;rw [e] at this;exact absurd this.1 ze
def Kwb (h:zOk late ops p1 p2=true) {k:Nat} (hk:k∈p2):k ∉ p1:=by simp only [zOk,yn] at h;have:=List.all_eq_true.1 h.1.1 k hk;simp only [yn,yhb] at this;intro hm;rw [List.contains_iff_mem.2 hm] at this;cases this.2
def Y1e (h : zOk late ops p1 p2 = true) {i : Nat} (hi : i ∈ p1) (hk : V1 ops i = 0) (hp : J7a late ops i = false) {listed : Array Bool} (hcl : Closed ops listed) (hls : listed.size = ops.size) (hInv : ∀ k ∈ p2, listed.getD k true = false) (hl : listed.getD i true = false)
 {j:Nat} (hj:j∈Region.ready .any ops listed):j ∉ p2:=by
 simp only [zOk,yn] at h;obtain ⟨⟨_,h1⟩,hcov⟩:=h;have h2:=List.all_eq_true.1 h1 i hi;simp only [hk,hp,yn] at h2;have h3:((Region.ready .any ops (Kbe ops.size p1 (K8e ops i p1))).all fun j=>!p2.contains j)=true:=by have h4:=h2.2;rw [show Nat.beq 0 0=true from rfl] at h4;simpa using h4
 intro hj2;obtain ⟨h0,o,ho,hall⟩:=mem_ready.1 hj;have hjlt:j < ops.size:=(Array.getElem?_eq_some_iff.1 ho).1;have hjp:j ∉ p1:=Kwb (by simp only [zOk,yn];exact ⟨⟨by assumption,h1⟩,hcov⟩) hj2;have:j∈Region.ready .any ops (Kbe ops.size p1 (K8e ops i p1)):=by
  refine mem_ready.2 ⟨by simp [Kbe,hjlt,hjp],o,ho,fun e he hb=>?_⟩;have h5:=hall e he hb;have hlt:e.on < ops.size:=by
   rcases yk e.on listed.size with h' | h';·rw [hls] at h';exact h'
   ·simp [yA h'] at h5
  have h6:listed.getD e.on true=true:=by (have:e.on < listed.size:=by rw [hls];exact hlt);simp [this] at h5 ⊢;exact h5
  have hin:e.on∈p1:=by
   have h7:=List.all_eq_true.1 hcov e.on (List.mem_range.2 hlt);simp only [yQb,List.contains_iff_mem] at h7;rcases h7 with h | h;·exact h
   ·rw [hInv _ h] at h6;cases h6
  have hne:e.on ∉ K8e ops i p1:=fun he=>by rw [Jic hcl hl p1 _ he] at h6;cases h6
  simp [Kbe,hlt,hin,hne]
 have:=List.all_eq_true.1 h3 j this;rw [List.contains_iff_mem.2 hj2] at this;cases this
def wpZ (P : Program) (ops : Array Oper) (Q : Exit → Act → World → Prop) (S S2 : World → Prop) (p2 : List Nat) : Nat → Array Bool → Act → World → Prop
 | 0,listed,a,w=>Region.ready .any ops listed=[]∧Q .normal a w
 | fuel + 1,listed,a,w=>(Region.ready .any ops listed=[]→Q .normal a w)∧
  ∀i∈Region.ready .any ops listed,wpOp P ops Q i (fun a' w'=>(S2 w'∧(p2.any (fun k=>(listed.setIfInBounds i true).getD k false)=true∨S w'))∧wpZ P ops Q S S2 p2 fuel (listed.setIfInBounds i true) a' w') a w
def Uea : ∀ (fuel : Nat) (listed : Array Bool) (a : Act) (w : World), wpZ P ops Q S S2 p2 fuel listed a w → wpAny P .any ops Q fuel listed a w
 | 0,_,_,_,h=>h
 | fuel + 1,_,_,_,h=>⟨h.1,fun i hi=>wpOp_mono (fun a' w' h'=>Uea fuel _ a' w' h'.2) (h.2 i hi)⟩
def Zmb {fuel : Nat} {listed : Array Bool} {a : Act} {w : World} (hne : Region.ready .any ops listed ≠ [])
 (h:∀i∈Region.ready .any ops listed,wpOp P ops Q i (fun a' w'=>(S2 w'∧(p2.any (fun k=>(listed.setIfInBounds i true).getD k false)=true∨S w'))∧wpZ P ops Q S S2 p2 fuel (listed.setIfInBounds i true) a' w') a w):wpZ P ops Q S S2 p2 (fuel + 1) listed a w:=
 ⟨fun h0=>absurd h0 hne,h⟩
def U8c {S' S2' : World → Prop} (hS : ∀ w, S' w → S w) (hS2 : ∀ w, S2' w → S2 w) : ∀ (f : Nat) (l : Array Bool) (a : Act) (w : World), wpZ P ops Q S' S2' p2 f l a w → wpZ P ops Q S S2 p2 f l a w
 | 0,_,_,_,h=>h
 | f + 1,_,_,_,h=>⟨h.1,fun i hi=>wpOp_mono (fun a' w' h'=>⟨⟨hS2 _ h'.1.1,h'.1.2.imp id (hS _)⟩,U8c hS hS2 f _ a' w' h'.2⟩) (h.2 i hi)⟩
def Yyb {listed:Array Bool} (h:∀k∈p2,listed.getD k true=false):p2.any (fun k=>listed.getD k false)=false:=by
 cases hb:p2.any (fun k=>listed.getD k false) with
 | false=>rfl
 | true=>
  obtain ⟨k,hk,hl⟩:=List.any_eq_true.1 hb;have:=h k hk;rcases yk k listed.size with h' | h';·simp [h'] at this hl;rw [this] at hl;cases hl
  ·simp [yA h'] at hl
def U5d {i : Nat} {oi : Oper} {v : Value} (hz : zOk late ops p1 p2 = true) (hi1 : i ∈ p1) (hk0 : V1 ops i = 0) (hi : ops[i]? = some oi) (hsel : ∀ (j : Nat) (o : Oper) cs b, ops[j]? = some o → o.op ≠ .select cs b)
 (hQ : ∀ c a w, Q (.panic c) (a.put oi.dst v) w → Q (.panic c) a w) (fuel : Nat) (listed : Array Bool) (a : Act) (w : World) (hcl : Closed ops listed) (hls : listed.size = ops.size) (hInv : ∀ k ∈ p2, listed.getD k true = false)
  (hfree:∀j oj,ops[j]?=some oj→j≠i→listed.getD j true=false→(∀e∈oj.after,Region.binds .any e=true→e.on≠i)→oi.apart ops oj=true)
  (hr:i∈Region.ready .any ops listed) (hy:YieldsIf P ops (if J7a late ops i=true then S2 else S) oi v a) (hS:S w) (hSS:∀w,S w→S2 w)
  (H:wpZ P ops Q S S2 p2 fuel (listed.setIfInBounds i true) (a.put oi.dst v) w):wpZ P ops Q S S2 p2 (fuel + 1) listed a w:=by
 -- what holds of it for as long as it has not come up
 let Z:World→Prop:=if J7a late ops i=true then S2 else S;have hyZ:YieldsIf P ops Z oi v a:=hy;have hZS:∀w,S w→Z w:=by
  intro w hw;show (if J7a late ops i=true then S2 else S) w;split;·exact hSS w hw
  ·exact hw
 have hZp:J7a late ops i=true→∀w,S2 w→Z w:=by intro hp w hw;show (if J7a late ops i=true then S2 else S) w;rw [if_pos hp];exact hw
 have hz2:J7a late ops i=false→∀listed:Array Bool,Closed ops listed→listed.size=ops.size→(∀k∈p2,listed.getD k true=false)→listed.getD i true=false→∀j∈Region.ready .any ops listed,j ∉ p2:=fun hp listed hcl hls hInv hl j hj=>
  Y1e hz hi1 hk0 hp hcl hls hInv hl hj
 have hi2:i ∉ p2:=fun h=>Kwb hz h hi1;clear hz hy
 -- along all orders
 have main:∀(fuel:Nat) (listed:Array Bool) (a:Act) (w:World),Closed ops listed→listed.size=ops.size→(J7a late ops i=false→∀k∈p2,listed.getD k true=false)→
  (∀j oj,ops[j]?=some oj→j≠i→listed.getD j true=false→(∀e∈oj.after,Region.binds .any e=true→e.on≠i)→oi.apart ops oj=true)→
  i∈Region.ready .any ops listed→YieldsIf P ops Z oi v a→Z w→S2 w→(p2.any (fun k=>listed.getD k false)=true∨S w)→
  wpZ P ops Q S S2 p2 fuel (listed.setIfInBounds i true) (a.put oi.dst v) w→wpZ P ops Q S S2 p2 (fuel + 1) listed a w:=by
  intro fuel;induction fuel with
  | zero=>
   intro listed a w _ hls hInv _ hr hy hZ hS2 hS H;refine Zmb (yPa hr) fun j hj=>?_;by_cases hji:j=i;·exact uaJ
   ·have := ready_mono hj hji;rw [H.1] at this;cases this
  | succ fuel ih=>
   intro listed a w hcl hls hInv hfree hr hy hZ hS2 hS H;refine Zmb (yPa hr) fun j hj=>?_;by_cases hji:j=i;·exact uaJ
   ·
    have h1 := H.2 j (ready_mono hj hji);obtain ⟨hjun,oj,hoj,hall⟩:=mem_ready.1 hj;have hnot:∀e∈oj.after,Region.binds .any e=true→e.on≠i:=fun e he hb heq=>by
     have h1:=hall e he hb;have h0:=(mem_ready.1 hr).1;rw [heq] at h1;rcases yk i listed.size with h' | h';·simp [h'] at h0 h1;rw [h0] at h1;cases h1
     ·simp [yA h'] at h1
    have hfree':∀k ok,ops[k]?=some ok→k≠i→(listed.setIfInBounds j true).getD k true=false→(∀e∈ok.after,Region.binds .any e=true→e.on≠i)→oi.apart ops ok=true:=by
     intro k ok hk hne hl hno;refine hfree k ok hk hne ?_ hno;by_cases hjk:j=k;·subst hjk;exact hjun
     ·rwa [getD_set_ne true hjk] at hl
    (have hls':(listed.setIfInBounds j true).size=ops.size:=by simp [hls]);(have hInv':J7a late ops i=false→∀k∈p2,(listed.setIfInBounds j true).getD k true=false:=fun hp k hk=>by have hj2:=hz2 hp listed hcl hls (hInv hp) (mem_ready.1 hr).1 j hj;rw [getD_set_ne true (show ¬ j=k from fun e=>hj2 (e ▸ hk))];exact hInv hp k hk);have h2:=wpOp_putIf hoj (hfree j oj hoj hji hjun hnot) (fun cs b=>hsel i oi cs b hi) (fun cs b=>hsel j oj cs b hoj) hQ hy h1;(have back:∀{l:Array Bool},p2.any (fun k=>(l.setIfInBounds i true).getD k false)=true→p2.any (fun k=>l.getD k false)=true:=by intro l h;obtain ⟨k,hk,hl⟩:=List.any_eq_true.1 h;refine List.any_eq_true.2 ⟨k,hk,?_⟩;rwa [getD_set_ne false (show ¬ i=k from fun e=>hi2 (e ▸ hk))] at hl);refine wpOp_mono (fun a' w' h3=>?_) h2;obtain ⟨hy',⟨hc2,hc⟩,hrec⟩:=h3;have hcomm:(listed.setIfInBounds i true).setIfInBounds j true=(listed.setIfInBounds j true).setIfInBounds i true:=by
     first
      |exact Array.setIfInBounds_comm _ _ hji
      |exact Array.setIfInBounds_comm _ _ (yac hji)
    rw [hcomm] at hrec hc;have hc':p2.any (fun k=>(listed.setIfInBounds j true).getD k false)=true∨S w':=hc.imp (fun h=>back h) id;have hZ':Z w':=by
     cases hp:J7a late ops i with
     | true=>exact hZp hp w' hc2
     | false=>exact hZS w' (hc'.resolve_left (by rw [Yyb (hInv' hp)];decide))
    exact ⟨⟨hc2,hc'⟩,ih (listed.setIfInBounds j true) a' w' (hcl.set hj) hls' hInv' hfree' (ready_mono hr (yac hji)) hy' hZ' hc2 hc' hrec⟩
 exact main fuel listed a w hcl hls (fun _=>hInv) hfree hr hyZ (hZS w hS) (hSS w hS) (.inr hS) H
end
section
variable {P:Program} {tb:Tabs P} {n:Nat} {ops:Array Oper} {c:Ctx} {Lc:List Blk} {K:Kt}
def Zab {Q:Exit→Act→World→Prop} {S S2:World→Prop} {p2:List Nat}:∀(fuel:Nat) (listed:Array Bool) (a:Act) (w:World),listed.size=ops.size→(∀k,k < ops.size→k ∉ p2→listed.getD k true=true)→
 wpAnyH P .any ops Q S2 fuel listed a w→wpZ P ops Q S S2 p2 fuel listed a w
 | 0,_,_,_,_,_,h=>h
 | fuel + 1,listed,_,_,hls,hall,h=>⟨h.1,fun i hi=>by
  obtain ⟨h0,o,ho,_⟩:=mem_ready.1 hi
  have hilt:i < ops.size:=(Array.getElem?_eq_some_iff.1 ho).1
  have hi2:i∈p2:=by
   rcases yca (i∈p2) with h | h
   ·exact h
   ·rw [hall i hilt h] at h0;cases h0
  refine wpOp_mono (fun a' w' h'=>⟨⟨h'.1,.inl (List.any_eq_true.2 ⟨i,hi2,K8 (by rw [hls];exact hilt) false⟩)⟩,Zab fuel _ a' w' (by simp [hls]) (fun k hk hn=>?_) h'.2⟩) (h.2 i hi)
  by_cases hik:i=k
  ·subst hik;exact K8 (by rw [hls];exact hilt) true
  ·rw [getD_set_ne true hik];exact hall k hk hn⟩
def Kdd {Q2 : Kt} {p2 : List Nat} {Lc2 : List Blk} {S : World → Prop} (hsel : Region.noSelect ops = true) (hal : Vta tb n ops = true) {os : List Oper} {fuel : Nat} {done listed : Array Bool} {t : Nat → Value} {L : List Blk} {R : List Sl} {a : Act} {w : World}
 (hos:p2.map (ops[·]?)=os.map some) (hpl:Kea ops done p2=true) (hE:EOk tb n ops done listed []) (hds:done.size=ops.size) (hfu:p2.length≤fuel) (hcov:∀i,i < ops.size→done.getD i true=false→i∈p2) (hfr:Fr n (ovr t []) a) (hst:St c (Jfc tb [] ++ L) R w) (hL2:Lc2.Sublist L)
 (hdj:DJ P tb n ops Lc2 Q2 os t L R):wpZ P ops (Ysa n c Q2) S (St c Lc2 R) p2 fuel listed a w:=by
 refine Zab fuel listed a w (by rw [hE.size,hds]) (fun k hk hn=>?_) ?_;·
  cases hd:done.getD k true with
  | true=>exact (hE.listed k true).2 (.inl hd)
  | false=>exact absurd (hcov k hk hd) hn
 ·exact J2f hsel hal (fuel + p2.length) fuel p2 os done listed [] t L R a w (yl _) (by simpa using hfu) hos hpl hE (fun e he=>by cases he) hds hcov hfr hst hL2 hdj
def Uce {Q2:Kt} {os2:List Oper} {late p1 p2:List Nat} {Lc2:List Blk} (hL2:Lc2.Sublist Lc) (hz:zOk late ops p1 p2=true) (hos2:p2.map (ops[·]?)=os2.map some) (hK:K=fun _ t L R=>DJ P tb n ops Lc2 Q2 os2 t L R) (hsel:Region.noSelect ops=true) (hal:Vta tb n ops=true):∀(m fuel:Nat) (plan:List Nat) (os:List Oper) (done listed:Array Bool) (E:List Early) (t:Nat→Value) (L:List Blk) (R:List Sl) (a:Act) (w:World),
 fuel + plan.length≤m→plan.length + p2.length≤fuel + E.length→plan.map (ops[·]?)=os.map some→Kea ops done (plan ++ p2)=true→(∀k∈plan,k∈p1)→(∀k∈p2,done.getD k true=false)→Closed ops listed→EOk tb n ops done listed E→(∀e∈E,e.i∈plan)→done.size=ops.size→
 (∀i,i < ops.size→done.getD i true=false→i∈plan∨i∈p2)→
 Fr n (ovr t E) a→St c (Jfc tb E ++ L) R w→Lc.Sublist L→DJ3 P tb n ops late Lc Lc2 K os t L R→wpZ P ops (Ysa n c Q2) (St c Lc R) (St c Lc2 R) p2 fuel listed a w:=by
 intro m;induction m with
 | zero=>
  intro fuel plan os done listed E t L R a w hm hfu hos hpl hp1 hd2 hcl hE hEp hds hcov hfr hst hLc hdj;obtain rfl:plan=[]:=by cases plan with | nil=>rfl | cons x l=>simp at hm
  exact uau
 | succ m ih=>
  intro fuel plan os done listed E t L R a w hm hfu hos hpl hp1 hd2 hcl hE hEp hds hcov hfr hst hLc hdj;have hS:St c Lc R w:=hst.weak (hLc.trans (yW _ _)) (fun r hr=>⟨r,hr,.here⟩);have hls:listed.size=ops.size:=by rw [hE.size,hds]
  have hInv:∀k∈p2,listed.getD k true=false:=by
   intro k hk;cases hl:listed.getD k true with
   | false=>rfl
   | true=>
    rcases (hE.listed k true).1 hl with h | ⟨e,he,hi⟩;·rw [hd2 k hk] at h;cases h
    ·exact absurd (hp1 _ (hEp e he)) (by rw [hi];exact Kwb hz hk)
  -- a making of a variable that comes up early
  have early:∀(f:Nat),fuel=f + 1→∀j,j∈Region.ready .any ops listed→V1 ops j=1→
   wpOp P ops (Ysa n c Q2) j (fun a' w'=>(St c Lc2 R w'∧(p2.any (fun k=>(listed.setIfInBounds j true).getD k false)=true∨St c Lc R w'))∧wpZ P ops (Ysa n c Q2) (St c Lc R) (St c Lc2 R) p2 f (listed.setIfInBounds j true) a' w') a w:=by
   intro f hf j hj hkj;obtain ⟨h0,oj,hoj,hall⟩:=mem_ready.1 hj;(have hkj':U7 oj.op=1:=by simpa [V1,hoj] using hkj);obtain ⟨T,hT⟩:=Z6a hkj';obtain ⟨hg,⟨ti,hti⟩,⟨d,hd,hdn,hdw⟩,hfree⟩:=Via hal hoj hT;obtain ⟨zv,hz1,hz2⟩:=Zy (tb.ok _ _ hti) w;have hjd:done.getD j true=false:=by
    cases hd:done.getD j true with
    | false=>rfl
    | true=>rw [(hE.listed j true).2 (.inl hd)] at h0;cases h0
   (have hjE:∀e∈E,e.i≠j:=fun e he hi=>by rw [(hE.listed j true).2 (.inr ⟨e,he,hi⟩)] at h0;cases h0);(have hzT:zv.cells.toList=zT tb T:=by rw [hz2];simp [zT,hti]);(have hst':St c (Jfc tb (⟨j,d,w.heap.size,T⟩ :: E) ++ L) R (w.alloc (.cells zv.cells T)):=by have:=hst.alloc zv.cells T;rw [hzT] at this;exact this);unfold wpOp;simp only [hoj];rw [hfr.wanted,hg];simp only [Yk,if_true];refine .inl ?_;(have hrun:(execOp a.eval oj).run P w=.ok (.value (.pointer (some ⟨w.heap.size,0,none⟩))) (w.alloc (.cells zv.cells T)):=by exact ua4);unfold Oper.wp;rw [hrun];refine ⟨⟨hst'.weak ((hL2.trans hLc).trans (yW _ _)) (fun r hr=>⟨r,hr,.here⟩),.inr (hst'.weak (hLc.trans (yW _ _)) (fun r hr=>⟨r,hr,.here⟩))⟩,?_⟩;have hjlt:j < ops.size:=(Array.getElem?_eq_some_iff.1 hoj).1;(have hjl:j < listed.size:=by rw [hE.size,hds];exact hjlt);have hjp:j∈plan:=(hcov j hjlt hjd).resolve_right fun h=>Zce hz h hkj;refine ih f plan os done _ (⟨j,d,w.heap.size,T⟩ :: E) t L R _ _ za (by simp only [yw];omega) hos hpl hp1 hd2 (hcl.set hj) ?_ ?_ hds hcov ?_ hst' hLc hdj;·exact uai
   ·exact ubk
   ·exact uaM
  cases plan with
  | nil=>exact uau
  | cons i rest=>
   cases os with
   | nil=>simp at hos
   | cons o os=>
    simp only [yJ,List.cons.injEq] at hos;obtain ⟨hio,hos⟩:=hos;simp only [yp,Kea,yn] at hpl;obtain ⟨⟨hir,hkind⟩,hpl'⟩:=hpl;(have hir:i∈Region.ready .any ops done:=by simpa using hir);obtain ⟨hi0,o',ho',hpre⟩:=mem_ready.1 hir;obtain rfl:o'=o:=yL (ho'.symm.trans hio);have hilt:i < ops.size:=(Array.getElem?_eq_some_iff.1 hio).1;(have hids:i < done.size:=by rw [hds];exact hilt);(have hka:V1 ops i=U7 o'.op:=by simp [V1,hio]);have hcov':∀k,k < ops.size→(done.setIfInBounds i true).getD k true=false→k∈rest∨k∈p2:=by
     intro k hk hd;by_cases hki:i=k;·subst hki;rw [K8 hids] at hd;cases hd
     ·
      rw [getD_set_ne true hki] at hd;rcases hcov k hk hd with h | h;·
       rcases List.mem_cons.1 h with h | h;·exact absurd h.symm hki
       ·exact .inl h
      ·exact .inr h
    have hp1':∀k∈rest,k∈p1:=fun k hk=>hp1 k (yS _ hk);have hi1:i∈p1:=hp1 i zo;(have hd2':∀k∈p2,(done.setIfInBounds i true).getD k true=false:=fun k hk=>by rw [getD_set_ne true (show ¬ i=k from fun e=>Kwb hz hk (e ▸ hi1))];exact hd2 k hk);(have hds':(done.setIfInBounds i true).size=ops.size:=by simp [hds]);(have hdone:∀k,done.getD k true=true→∀d,listed.getD k d=true∨k ≥ done.size:=by exact uaO);obtain ⟨hd,hdj⟩:=hdj
    -- if the operation is no making of a variable, it has not come up, and is apart from the early ones
    (have notE:U7 o'.op≠1→∀e∈E,e.i≠i:=by exact uaX);(have cnt:U7 o'.op≠1→E.length≤rest.length:=by exact uaA);have hready:U7 o'.op≠1→i∈Region.ready .any ops listed:=by
     intro hk;refine mem_ready.2 ⟨?_,o',hio,fun e he hb=>(hE.listed _ _).2 (.inl (hpre e he hb))⟩;cases hl:listed.getD i true with
     | false=>rfl
     | true=>exact uaZ
    have apart:U7 o'.op≠1→∀e∈E,e.d ∉ o'.looksAt ops∧o'.dst≠some e.d:=fun hk=>Znb hal hE hio (notE hk) hpre;(have hEp':U7 o'.op≠1→∀e∈E,e.i∈rest:=fun hk e he=>by exact uba);(have frame:U7 o'.op≠1→∀v,Fr n (ovr (Z2b t o'.dst v) E) (a.put o'.dst v):=fun hk v=>by rw [← Vob (fun e he=>(apart hk e he).2)];exact hfr.put hd v);(have hwant:U7 o'.op≠1→Region.wanted o' (yielded ops a.tmps)=Yk ops t o'.guard:=fun hk=>by rw [hfr.wanted,U1d (fun e he=>(apart hk e he).1)]);(have hexec:U7 o'.op≠1→execOp a.eval o'=execOp (ev t) o':=fun hk=>by exact ua5);rcases Uvd o'.op with hk | hk | hk;·
     -- it leaves the world alone
     (have hk1:U7 o'.op≠1:=by rw [hk];decide);have hlen:=cnt hk1;obtain ⟨f,rfl⟩:∃f,fuel=f + 1:=⟨fuel - 1,by simp only [yw] at hfu;omega⟩;rw [hka,hk] at hkind;have hfree:∀j oj,ops[j]?=some oj→j≠i→listed.getD j true=false→(∀e∈oj.after,Region.binds .any e=true→e.on≠i)→o'.apart ops oj=true:=by
      intro j oj hj hne hl hno;refine yCb hio hkind j oj hj hne ?_ hno;cases hd:done.getD j true with
      | false=>rfl
      | true=>rw [(hE.listed j true).2 (.inl hd)] at hl;cases hl
     have hlc:=Vue (late:=late) (Lc:=Lc) (Lc2:=Lc2) hio;(have hSif:∀w',(if J7a late ops i=true then St c Lc2 R else St c Lc R) w'→St c (Z2e late Lc Lc2 o'.dst) R w':=by exact ua2);(have go:∀v,YieldsIf P ops (if J7a late ops i=true then St c Lc2 R else St c Lc R) o' v a→DJ3 P tb n ops late Lc Lc2 K os (Z2b t o'.dst v) L R→wpZ P ops (Ysa n c Q2) (St c Lc R) (St c Lc2 R) p2 (f + 1) listed a w:=by intro v hy hdj';refine U5d hz hi1 (by rw [hka];exact hk) hio (yRa hsel) (fun _ _ _ h=>h.1.elim) f listed a w hcl hls hInv hfree (hready hk1) hy hS (fun w hw=>hw.weak hL2 (fun r hr=>⟨r,hr,.here⟩)) ?_;exact ih f rest os _ _ E _ L R _ w zL zR hos hpl' hp1' hd2' (hcl.set (hready hk1)) (hE.step (notE hk1) hids) (hEp' hk1) hds' hcov' (frame hk1 v) hst hLc hdj');rcases hdj with ⟨hw,_,hdj'⟩ | ⟨hw,_,v,hv,hdj'⟩ | ⟨h1,_⟩ | ⟨_,h2,_⟩;·exact go undef (.inr ⟨by rw [hwant hk1];exact hw,rfl⟩) hdj'
     ·exact go v (.inl ⟨by rw [hwant hk1];exact hw,fun w' hw'=>by rw [hexec hk1];exact hv c w' (hSif w' hw')⟩) hdj'
     ·exact absurd h1 hk1
     ·rw [hk] at h2;cases h2
    ·
     -- it makes a variable
     rw [hka,hk] at hkind;rcases hdj with ⟨_,h1,_⟩ | ⟨_,h2,_⟩ | ⟨_,T,hT,hdj'⟩ | ⟨_,h2,_⟩;·exact absurd hk h1
     ·rw [hk] at h2;cases h2
     ·
      by_cases hin : ∃ e ∈ E, e.i = i;·
       -- it has come up early
       obtain ⟨e,he,hei⟩:=hin;obtain ⟨oe,h1,h2,h3,h4⟩:=hE.op e he;rw [hei] at h1;obtain rfl:oe=o':=yL (h1.symm.trans hio);(obtain rfl:e.T=T:=by rw [h2] at hT;exact Op.alloc.inj hT);obtain ⟨E1,E2,rfl⟩:=List.append_of_mem he;(have hmem:∀x∈E1 ++ E2,x∈E1 ++ e :: E2:=fun x hx=>by exact ubo);(have hni:∀x∈E1 ++ E2,x.i≠i:=by exact uay);refine ih fuel rest os _ listed (E1 ++ E2) _ _ R a w zL zSa hos hpl' hp1' hd2' hcl ?_ ?_ hds' hcov' ?_ ?_ (hLc.cons _) (hdj' e.b);·exact uag
       ·exact ua3
       ·rw [h3];have:=Yib (t:=t) hE.ndd;rw [this] at hfr;exact hfr
       ·exact uaV
      ·
       -- it has not: whatever comes up now makes a variable
       have hin':∀e∈E,e.i≠i:=fun e he hi=>hin ⟨e,he,hi⟩;have hrl:i∈Region.ready .any ops listed:=by
        refine mem_ready.2 ⟨?_,o',hio,fun e he hb=>(hE.listed _ _).2 (.inl (hpre e he hb))⟩;cases hl:listed.getD i true with
        | false=>rfl
        | true=>exact ua0
       (have hlen:E.length + 1≤(i :: rest).length:=by exact uat);obtain ⟨f,rfl⟩:∃f,fuel=f + 1:=⟨fuel - 1,by omega⟩;refine Zmb (yPa hrl) fun j hj=>early f rfl j hj ?_;exact uaB
     ·rw [hk] at h2;cases h2
    ·
     -- it turns the world
     (have hk1:U7 o'.op≠1:=by rw [hk];decide);have hlen:=cnt hk1;obtain ⟨f,rfl⟩:∃f,fuel=f + 1:=⟨fuel - 1,by simp only [yw] at hfu;omega⟩;rw [hka,hk] at hkind;refine Zmb (yPa (hready hk1)) fun j hj=>?_;by_cases hkj:V1 ops j=1;·exact early f rfl j hj hkj
     ·
      have hji := Vca (p := fun _ => true) hE (fun _ _ => rfl) hds hj hkj;have:=List.all_eq_true.1 hkind j hji;(obtain rfl:j=i:=by simpa using this);unfold wpOp;simp only [hio];rw [hwant hk1];rcases hdj with ⟨hw,_,hdj'⟩ | ⟨_,h2,_⟩ | ⟨h1,_⟩ | ⟨hw,_,Post,hg,hdj'⟩;·rw [hw, if_neg zo];exact ⟨⟨hS.weak hL2 (fun r hr=>⟨r,hr,.here⟩),.inr hS⟩,ih f rest os _ _ E _ L R _ w zL zR hos hpl' hp1' hd2' (hcl.set (hready hk1)) (hE.step (notE hk1) hids) (hEp' hk1) hds' hcov' (frame hk1 undef) hst hLc hdj'⟩
      ·rw [hk] at h2;cases h2
      ·exact absurd h1 hk1
      ·rw [hw, if_pos rfl];refine .inl (Uxb (hexec hk1) ?_);refine (hg.frame (Jfc tb E)) c w hst a _ _ ?_;rintro v L'' U w' ⟨M,rfl,hp⟩ hst';obtain ⟨hLc',hR',hdj''⟩:=hdj' v M U hp;refine ⟨⟨hst'.weak ((hL2.trans hLc').trans (yW _ _)) hR',.inr (hst'.weak (hLc'.trans (yW _ _)) hR')⟩,?_⟩;refine U8c (S':=St c Lc U) (S2':=St c Lc2 U) (fun x hx=>hx.weak ye hR') (fun x hx=>hx.weak ye hR') _ _ _ _ ?_;exact ih f rest os _ _ E _ M U _ w' zL zR hos hpl' hp1' hd2' (hcl.set (hready hk1)) (hE.step (notE hk1) hids) (hEp' hk1) hds' hcov' (frame hk1 v) hst' hLc' hdj''
end
def Kh {P : Program} (tb : Tabs P) {n id : Nat} {ops : List Oper} {t : Nat → Value} {L : List Blk} {R : List Sl} {Q : Kt} (late plan p2 : List Nat) (Lc Lc2 : List Blk) (hm : P.follows .mixedOrders = true) (hB : (Vya tb n ops.toArray (plan ++ p2) && zOk late ops.toArray plan p2) = true) (hLc : Lc.Sublist L) (hL2 : Lc2.Sublist Lc)
 (h:DJ3 P tb n ops.toArray late Lc Lc2 (fun _ t L R=>DJ P tb n ops.toArray Lc2 Q (Yn ops p2) t L R) (Yn ops plan) t L R):CJ P n (.region id ops.toArray true) t L R Q:=by
 simp only [yn] at hB;obtain ⟨hB,hz⟩:=hB;simp only [Vya,yn] at hB;obtain ⟨⟨⟨⟨h1,h2⟩,h3⟩,h4⟩,h5⟩:=hB;have hlt:∀i∈plan ++ p2,i < ops.length:=fun i hi=>by simpa using List.all_eq_true.1 h5 i hi
 intro c a w hf hs;refine wp_region_any hm (Uea (S:=St c Lc R) (S2:=St c Lc2 R) (p2:=p2) _ _ _ _ ?_);exact uac
section
variable {P:Program} {tb:Tabs P} {n:Nat} {all:Array Oper} {late:List Nat} {Lc Lc2:List Blk} {K:Kt} {op:Op} {ty:TypeId} {pos:String} {after:Array Edge} {rest:List Oper} {t:Nat→Value} {L M:List Blk} {R U:List Sl} {d:Tmp} {v:Value} {g:Option (Nat×Bool)} {T:TypeId} {x y:Operand}
def Kde {Q:Kt} {os2:List Oper} (h:DJ P tb n all Lc2 Q os2 t L R):DJ3 P tb n all late Lc Lc2 (fun _ t L R=>DJ P tb n all Lc2 Q os2 t L R) [] t L R:=h
def Ku (hv:YV P ⟨some d,op,ty,pos,after,g⟩ (ev t) Lc R v) (hl:late.contains d=false) (hk:U7 op=0) (hg:Yk all t g=true) (hd:Nat.blt d n=true) (h:DJ3 P tb n all late Lc Lc2 K rest (upd t d v) L R):DJ3 P tb n all late Lc Lc2 K (⟨some d,op,ty,pos,after,g⟩ :: rest) t L R:=
 ⟨hd,.inr (.inl ⟨hg,hk,v,by simp only [Z2e];rw [hl];exact hv,h⟩)⟩
def V2 (hv:YV P ⟨some d,op,ty,pos,after,g⟩ (ev t) Lc2 R v) (hl:late.contains d=true) (hk:U7 op=0) (hg:Yk all t g=true) (hd:Nat.blt d n=true) (h:DJ3 P tb n all late Lc Lc2 K rest (upd t d v) L R):DJ3 P tb n all late Lc Lc2 K (⟨some d,op,ty,pos,after,g⟩ :: rest) t L R:=
 ⟨hd,.inr (.inl ⟨hg,hk,v,by simp only [Z2e];rw [hl];exact hv,h⟩)⟩
def Vqc (hk:Nat.beq (U7 op) 1=false) (hg:Yk all t g=false) (hd:Nat.blt d n=true) (h:DJ3 P tb n all late Lc Lc2 K rest (upd t d undef) L R):DJ3 P tb n all late Lc Lc2 K (⟨some d,op,ty,pos,after,g⟩ :: rest) t L R:=
 ⟨hd,.inl ⟨hg,fun e=>by simp [e] at hk,h⟩⟩
def K0d {Post : Yy} (hg : Gives P ⟨some d, op, ty, pos, after, g⟩ (ev t) L R Post) (hk : U7 op = 2) (hw : Yk all t g = true) (hd : Nat.blt d n = true)
 (h:∀v M U,Post v M U→Lc.Sublist M∧(∀r∈R,InR r U)∧DJ3 P tb n all late Lc Lc2 K rest (upd t d v) M U):DJ3 P tb n all late Lc Lc2 K (⟨some d,op,ty,pos,after,g⟩ :: rest) t L R:=
 ⟨hd,.inr (.inr (.inr ⟨hw,hk,Post,hg,h⟩))⟩
def Up {f : FuncId} {xs : List Operand} {ts : Array TypeId} {args : List Value} {Post : Yy} (ha : xs.map (ev t) = args) (h : Tri P f args.toArray L R Post) (hw : Yk all t g = true) (hd : Nat.blt d n = true)
 (k:∀v M U,Post v M U→Lc.Sublist M∧(∀r∈R,InR r U)∧DJ3 P tb n all late Lc Lc2 K rest (upd t d v) M U):DJ3 P tb n all late Lc Lc2 K (⟨some d,.call ⟨.value (.func f),xs.toArray,ts⟩,ty,pos,after,g⟩ :: rest) t L R:=
 K0d (U4a zoa rfl h) rfl hw hd k
def Vad {os:List Oper} {k:Nat} {b:Bool} (hb:t k=.bool b) (h1:b=true→DJ3 P tb n all late Lc Lc2 K os (upd t k (.bool true)) L R) (h2:b=false→DJ3 P tb n all late Lc Lc2 K os (upd t k (.bool false)) L R):DJ3 P tb n all late Lc Lc2 K os t L R:=by
 cases b with
 | true=>have:=h1 rfl;rwa [Zga hb] at this
 | false=>have:=h2 rfl;rwa [Zga hb] at this
end
def Tri.at {P f args X L R F} {Post:Yy} (hseg:Seg X L F) (h:Tri P f args X R Post):Tri P f args L R (fun v L'' U=>∃M,L''=F M∧Post v M U):=by
 obtain ⟨A,B,hL,hF⟩:=hseg.split;refine ⟨h.1,fun w G hh=>?_⟩;subst hL;have hp:(A ++ X ++ B).Perm ((A ++ B) ++ X):=by rw [yq,yq];exact yfb _ yAa
 have hh':Holds ((A ++ B) ++ X) G R w:=⟨(hp.map _).nodup_iff.1 hh.nd,fun e he=>hh.own e (hp.mem_iff.2 he),fun e he=>hh.ng e (hp.mem_iff.2 he),hh.gs,hh.rep⟩;have hX:Holds X G R w:=⟨(List.nodup_append.1 (by have:=hh'.nd;rwa [yO] at this)).2.1,fun e he=>hh'.own e (yi _ he),fun e he=>hh'.ng e (yi _ he),hh'.gs,hh'.rep⟩;refine (h.2 w G hX).mono fun e w' ⟨v,M,U,he,hpost,hst⟩=>⟨v,F M,U,he,⟨M,rfl,hpost⟩,?_⟩;have h1:=St.frame hh' hst;rw [hF];have hp2:((A ++ B) ++ M).Perm (A ++ M ++ B):=by rw [yq,yq];exact yfb _ yAa
 have h2:=h1.perm hp2;exact uar
def Kod {P n code t L R} {Q:Kt} {s:Sl} (hs:∀w G,(∀r∈R,Rep w G r)→Rep w G s) (h:CJ P n code t L (s :: R) Q):CJ P n code t L R Q:=by
 intro c a w hf hst;refine h c a w hf ?_;obtain ⟨⟨G,hh,hg⟩,ho,hk⟩:=hst;refine ⟨⟨G,⟨hh.nd,hh.own,hh.ng,hh.gs,fun r hr=>?_⟩,hg⟩,ho,hk⟩;rcases List.mem_cons.1 hr with rfl | hr;·exact hs w G hh.rep
 ·exact hh.rep r hr
inductive USeg (b : Nat) (cs : List Value) (T : TypeId) : List Blk → (List Value → List Blk) → Prop
 | here {L}:USeg b cs T (⟨b,cs,T⟩ :: L) (fun cs'=>⟨b,cs',T⟩ :: L)
 | cons {x L f} (h:USeg b cs T L f):USeg b cs T (x :: L) (fun cs'=>x :: f cs')
 | app {X L f} (h:USeg b cs T L f):USeg b cs T (X ++ L) (fun cs'=>X ++ f cs')
def USeg.split {b cs T L f} (h:USeg b cs T L f):∃A B,L=A ++ ([⟨b,cs,T⟩] ++ B)∧∀cs',f cs'=A ++ ([⟨b,cs',T⟩] ++ B):=by
 induction h with
 | @here L=>exact ⟨[],L,rfl,fun _=>rfl⟩
 | @cons x L f _ ih=>obtain ⟨A,B,h1,h2⟩:=ih;exact ⟨x :: A,B,by simp [h1],fun cs'=>by simp [h2]⟩
 | @app X L f _ ih=>obtain ⟨A,B,h1,h2⟩:=ih;exact ⟨X ++ A,B,by simp [h1],fun cs'=>by simp [h2]⟩
def Tri.at1 {P f args b cs T L F R} {Post:Yy} {Post':Value→List Value→List Sl→Prop} (hseg:USeg b cs T L F) (h:Tri P f args [⟨b,cs,T⟩] R Post) (hp:∀v M U,Post v M U→∃cs',[⟨b,cs',T⟩]=M∧Post' v cs' U):
 Tri P f args L R (fun v L'' U=>∃cs',F cs'=L''∧Post' v cs' U):=by obtain ⟨A,B,hL,hF⟩:=hseg.split;subst hL;refine (Tri.at (.app .here) h).mono ?_;rintro v L'' U ⟨M,rfl,hpost⟩;obtain ⟨cs',rfl,h'⟩:=hp v M U hpost;exact ⟨cs',hF cs',h'⟩
end Go.Aw
end
section
namespace Go.Aw
open Go
section
variable {P:Program} {ρ:Operand→Value} {L:List Blk} {R:List Sl} {dst:Option Tmp} {ty:TypeId} {pos:String} {after:Array Edge} {guard:Option (Nat×Bool)} {T T2:TypeId} {x y z:Operand} {a b c:Int} {k:IntKind}
def K4e {n:Int} (h1:0≤n) (h2:n≤18446744073709551615):IntKind.u64.wrap n=n:=by rw [IntKind.wrap_u64];omega
def Zgb (hx:ρ x=.int .u64 a) (hy:ρ y=.int .u64 b) (h1:0≤a + b) (h2:a + b≤18446744073709551615):
 YV P ⟨dst,.binOp .add T x y T2,ty,pos,after,guard⟩ ρ L R (.int .u64 (a + b)):=by have:=Y2b (P:=P) (L:=L) (R:=R) (dst:=dst) (ty:=ty) (pos:=pos) (after:=after) (guard:=guard) (T:=T) (T2:=T2) hx hy;rwa [K4e h1 h2] at this
def Vlc (hx:ρ x=.int .u64 a) (hy:ρ y=.int .u64 b) (h1:0≤a * b) (h2:a * b≤18446744073709551615):
 YV P ⟨dst,.binOp .mul T x y T2,ty,pos,after,guard⟩ ρ L R (.int .u64 (a * b)):=by have:=Jlc (P:=P) (L:=L) (R:=R) (dst:=dst) (ty:=ty) (pos:=pos) (after:=after) (guard:=guard) (T:=T) (T2:=T2) hx hy;rwa [K4e h1 h2] at this
def U9e (hx:ρ x=.int .u64 a) (hy:ρ y=.int .u64 b) (ha:0≤a) (ha2:a≤18446744073709551615) (hb:0 < b):YV P ⟨dst,.binOp .quo T x y T2,ty,pos,after,guard⟩ ρ L R (.int .u64 (a / b)):=by have:=Utd (P:=P) (L:=L) (R:=R) (dst:=dst) (ty:=ty) (pos:=pos) (after:=after) (guard:=guard) (T:=T) (T2:=T2) hx hy za;rw [yR ha] at this;have h1:0≤a / b:=yMb ha za;have h2:a / b≤a:=ycc _ ha;rwa [K4e h1 za] at this
def K5e (hx:ρ x=.int .u64 a) (hy:ρ y=.int .u64 b) (ha:0≤a) (hb:0 < b):YV P ⟨dst,.binOp .rem T x y T2,ty,pos,after,guard⟩ ρ L R (.int .u64 (a % b)):=by have:=U6e (P:=P) (L:=L) (R:=R) (dst:=dst) (ty:=ty) (pos:=pos) (after:=after) (guard:=guard) (T:=T) (T2:=T2) hx hy za;rwa [Int.tmod_eq_emod_of_nonneg ha] at this
def Ycb (hx:ρ x=.int .u64 a) (hy:ρ y=.int .u64 4294967295) (h1:0≤a) (h2:a≤18446744073709551615):
 YV P ⟨dst,.binOp .and T x y T2,ty,pos,after,guard⟩ ρ L R (.int .u64 (a % 4294967296)):=fun _ _ _=>by
 obtain ⟨n,rfl⟩:∃n:Nat,a=(n:Int):=⟨a.toNat,by omega⟩
 have e:(BitVec.ofInt IntKind.u64.bits ((n:Nat):Int) &&& BitVec.ofInt IntKind.u64.bits 4294967295).toNat=n % 4294967296:=by
  show (BitVec.ofInt 64 ((n:Nat):Int) &&& BitVec.ofInt 64 4294967295).toNat=n % 4294967296
  rw [BitVec.ofInt_natCast,yEb,BitVec.toNat_ofNat,ymb za]
  exact yDa n 32
 have e2:IntKind.u64.wrap ((n % 4294967296:Nat):Int)=((n:Int) % 4294967296):=by rw [K4e za za];omega
 have hb:Op.intBits .and .u64 ((n:Nat):Int) 4294967295=(pure (.int .u64 ((n:Int) % 4294967296)):Sem Value):=by
  unfold Op.intBits
  dsimp only
  rw [e,e2]
 simp [execOp,hx,hy,eqGuard,binOp,hb]
def J3b (hx:ρ x=.int .u64 a) (hy:ρ y=.int k 32):YV P ⟨dst,.binOp .shr T x y T2,ty,pos,after,guard⟩ ρ L R (.int .u64 (a / 4294967296)):=fun _ _ _=>by
 have e:a.fdiv (2 ^ 32)=a / 4294967296:=by rw [yOa _ ze];rfl
 have e0:min (32:Int).toNat IntKind.u64.bits=32:=by decide
 have hb:Op.shift .shr .u64 a k 32=(pure (.int .u64 (a / 4294967296)):Sem Value):=by
  unfold Op.shift
  rw [if_neg ze]
  dsimp only
  rw [e0,e]
 simp [execOp,hx,hy,eqGuard,binOp,hb]
def Kwf {ts:Array TypeId} (hx:ρ x=.int k a) (hy:ρ y=.int k b) (hz:ρ z=.int k c):YV P ⟨dst,.call ⟨.builtin .min,#[x,y,z],ts⟩,ty,pos,after,guard⟩ ρ L R (.int k (min (min a b) c)):=fun _ w _=>by
 simp only [execOp,resolve,invoke,builtin,Builtin.min_,ylb,yJ,ypb,hx,hy,hz]
 have h1:(if b < a then b else a)=min a b:=by rw [Int.min_def];split <;> split <;> omega
 have h2:(if c < min a b then c else min a b)=min (min a b) c:=by rw [Int.min_def (min a b) c];split <;> split <;> omega
 simp [Builtin.min2,h1,h2]
def Ktf {ts:Array TypeId} (hx:ρ x=.int k a) (hy:ρ y=.int k b) (hz:ρ z=.int k c):YV P ⟨dst,.call ⟨.builtin .max,#[x,y,z],ts⟩,ty,pos,after,guard⟩ ρ L R (.int k (max (max a b) c)):=fun _ w _=>by
 simp only [execOp,resolve,invoke,builtin,Builtin.max_,ylb,yJ,ypb,hx,hy,hz]
 have h1:(if b > a then b else a)=max a b:=by rw [Int.max_def];split <;> split <;> omega
 have h2:(if c > max a b then c else max a b)=max (max a b) c:=by rw [Int.max_def (max a b) c];split <;> split <;> omega
 simp [Builtin.max2,h1,h2]
variable (tb:Tabs P)
def V1a {k' : IntKind} {n1 n2 f1 f2 b1 b2 z1 z2} (h1 : Y4 tb.tab T = some ⟨.int k', n1, f1, b1, z1⟩) (h2 : Y4 tb.tab T2 = some ⟨.int .u64, n2, f2, b2, z2⟩) (hx : ρ x = .int k' a)
 (h3:0≤a) (h4:a≤18446744073709551615):YV P ⟨dst,.convert T T2 x,ty,pos,after,guard⟩ ρ L R (.int .u64 a):=by have:=Ksa (P:=P) (L:=L) (R:=R) (dst:=dst) (ty:=ty) (pos:=pos) (after:=after) (guard:=guard) tb h1 h2 hx;rwa [K4e h3 h4] at this
def Kdf (P:Program) (T f:Nat):Option TypeId:=match P.underlying T with
 | some (.struct fs)=>(fs[f]?).map (·.type)
 | _=>none
def Zsc {e f off n n2 sz : Nat} {fl fl2 : List (Nat × Nat)} {bt z bt2 z2 k2} {cs : List Value} {v : Value} (hT : Y4 tb.tab T = some ⟨.struct, n, fl, bt, z⟩) (hft : Kdf P T f = some e) (hE : Y4 tb.tab e = some ⟨k2, n2, fl2, bt2, z2⟩) (hk : k2.isAgg = false)
 (hx:ρ x=.agg cs.toArray) (hf:fl[f]?=some (off,sz)) (hv:cs[off]?=some v):
 YV P ⟨dst,.field T x f,ty,pos,after,guard⟩ ρ L R v:=fun _ w _=>by
 obtain ⟨fs,hu,hfl⟩:=Y3a (tb.ok _ _ hT) rfl
 simp only at hfl
 subst hfl
 rw [yt] at hf
 obtain ⟨fd,hfd,he⟩:=Option.map_eq_some_iff.1 hf
 obtain ⟨h1,h2⟩:=Prod.mk.inj he
 have hfd':fs[f]?=some fd:=by rw [← Array.getElem?_toList];exact hfd
 have hte:fd.type=e:=by simpa [Kdf,hu,hfd'] using hft
 have hag:=Zrb (tb.ok _ _ hE) w
 rw [show (TI.mk k2 n2 fl2 bt2 z2).k.isAgg=false from hk,← hte] at hag
 subst h1
 simp [execOp,hx,Instr.field,run_underlying hu,hfd',asAgg,part,hag,hv]
end
end Go.Aw
end
section
namespace Go.Aw
open Go
def WZ (P:Program) (n:Nat) (ops:Array Oper) (Lc Lc2:List Blk) (Q:Kt) (p2:List Nat) (m:Nat) (done:Array Bool) (t:Nat→Value) (L:List Blk) (R:List Sl):Prop:=
 ∀c a w,Closed ops done→done.size=ops.size→(∀k∈p2,done.getD k true=false)→Fr n t a→St c L R w→Lc.Sublist L→∀fuel,m + p2.length≤fuel→wpZ P ops (Ysa n c Q) (St c Lc R) (St c Lc2 R) p2 fuel done a w
def J4e (ops:Array Oper) (p1:List Nat) (done:Array Bool) (i:Nat):Bool:=p1.contains i && ((Region.ready .any ops done).contains i && Region.free .any ops done i)
def Yfd (ops:Array Oper) (p1:List Nat) (done:Array Bool) (l:List Nat):Bool:=!l.isEmpty && ((Region.ready .any ops done == l) && l.all fun j=>p1.contains j)
def Ucf (ops:Array Oper) (done:Array Bool) (p2:List Nat):Bool:=Kea ops done p2 && (List.range ops.size).all fun i=>done.getD i true || p2.contains i
def Z5a {P:Program} (tb:Tabs P) (n:Nat) (ops:Array Oper) (late p1 p2:List Nat):Bool:=Region.noSelect ops && (Vta tb n ops && zOk late ops p1 p2)
section
variable {P:Program} {tb:Tabs P} {n m:Nat} {ops:Array Oper} {late p1 p2:List Nat} {Lc Lc2:List Blk} {Q:Kt} {done:Array Bool} {t:Nat→Value} {L:List Blk} {R:List Sl}
def Zye {i : Nat} {o : Oper} {v : Value} (hT : Z5a tb n ops late p1 p2 = true) (hL2 : Lc2.Sublist Lc) (hok : J4e ops p1 done i = true) (hio : ops[i]? = some o) (hk : U7 o.op = 0) (hw : Yk ops t o.guard = true) (hd : dOk n o.dst = true)
 (hv:YV P o (ev t) (Z2e late Lc Lc2 o.dst) R v) (h:WZ P n ops Lc Lc2 Q p2 m (done.setIfInBounds i true) (Z2b t o.dst v) L R):WZ P n ops Lc Lc2 Q p2 (m + 1) done t L R:=by
 intro c a w hcl hds hInv hfr hst hLc fuel hfu;simp only [Z5a,yn] at hT;simp only [J4e,yn] at hok;obtain ⟨hsel,_,hz⟩:=hT;obtain ⟨hi1,hr,hfree⟩:=hok;have hi1:i∈p1:=by simpa using hi1
 have hr:i∈Region.ready .any ops done:=by simpa using hr
 obtain ⟨f,rfl⟩:∃f,fuel=f + 1:=⟨fuel - 1,by omega⟩;have hka:V1 ops i=0:=by simp [V1,hio,hk]
 have hS:St c Lc R w:=hst.weak hLc (fun r hr=>⟨r,hr,.here⟩);have hlc:=Vue (late:=late) (Lc:=Lc) (Lc2:=Lc2) hio;have hSif:∀w',(if J7a late ops i=true then St c Lc2 R else St c Lc R) w'→St c (Z2e late Lc Lc2 o.dst) R w':=by exact ua2
 have hexec:execOp a.eval o=execOp (ev t) o:=by rw [hfr.eval]
 refine U5d (late := late) hz hi1 hka hio (yRa hsel) (fun _ _ _ h => h.1.elim) f done a w hcl hds hInv (fun j oj hj hne hl hno => yCb hio hfree j oj hj hne hl hno) hr
  (v:=v) (.inl ⟨by rw [hfr.wanted];exact hw,fun w' hw'=>by rw [hexec];exact hv c w' (hSif w' hw')⟩) hS (fun w hw=>hw.weak hL2 (fun r hr=>⟨r,hr,.here⟩)) ?_
 refine h c _ w (hcl.set hr) (by simp [hds]) (fun k hk2=>?_) (hfr.put hd v) hst hLc f za;have hne:i≠k:=fun e=>Kwb hz hk2 (e ▸ hi1);rw [getD_set_ne true hne];exact hInv k hk2
def Zne (P:Program) (n:Nat) (ops:Array Oper) (Lc Lc2:List Blk) (Q:Kt) (p2:List Nat) (m:Nat) (done:Array Bool) (t:Nat→Value) (L:List Blk) (R:List Sl) (j:Nat):Prop:=
 ∃o,ops[j]?=some o∧Yk ops t o.guard=true∧dOk n o.dst=true∧∃Post,Gives P o (ev t) L R Post∧∀v M U,Post v M U→Lc.Sublist M∧(∀r∈R,InR r U)∧WZ P n ops Lc Lc2 Q p2 m (done.setIfInBounds j true) (Z2b t o.dst v) M U
def WSteps (P : Program) (n : Nat) (ops : Array Oper) (Lc Lc2 : List Blk) (Q : Kt) (p2 : List Nat) (m : Nat) (done : Array Bool) (t : Nat → Value) (L : List Blk) (R : List Sl) : List Nat → Prop
 | []=>True
 | j :: l=>Zne P n ops Lc Lc2 Q p2 m done t L R j∧WSteps P n ops Lc Lc2 Q p2 m done t L R l
def WSteps.mem {l:List Nat} (h:WSteps P n ops Lc Lc2 Q p2 m done t L R l) {j:Nat} (hj:j∈l):Zne P n ops Lc Lc2 Q p2 m done t L R j:=by
 induction l with
 | nil=>cases hj
 | cons x l ih=>
  rcases List.mem_cons.1 hj with rfl | hj;·exact h.1
  ·exact ih h.2 hj
def Ji (l:List Nat) (hT:Z5a tb n ops late p1 p2=true) (hL2:Lc2.Sublist Lc) (hok:Yfd ops p1 done l=true) (h:WSteps P n ops Lc Lc2 Q p2 m done t L R l):WZ P n ops Lc Lc2 Q p2 (m + 1) done t L R:=by
 intro c a w hcl hds hInv hfr hst hLc fuel hfu;simp only [Z5a,yn] at hT;simp only [Yfd,yn] at hok;obtain ⟨hsel,_,hz⟩:=hT;obtain ⟨hne,hre,hall⟩:=hok;have hre:Region.ready .any ops done=l:=by simpa using hre
 obtain ⟨f,rfl⟩:∃f,fuel=f + 1:=⟨fuel - 1,by omega⟩;refine Zmb (by rw [hre];intro e;rw [e] at hne;cases hne) fun j hj=>?_;have hj':j∈l:=by rw [← hre];exact hj
 obtain ⟨o,hio,hw,hd,Post,hg,hnext⟩:=h.mem hj';have hj1:j∈p1:=by simpa using List.all_eq_true.1 hall j hj'
 unfold wpOp;simp only [hio];rw [hfr.wanted,hw,if_pos rfl];refine .inl ?_;unfold Oper.wp;rw [hfr.eval];refine hg c w hst a _ _ ?_;intro v M U w' hp hst';obtain ⟨hLc',hR',hW⟩:=hnext v M U hp;refine ⟨⟨(hst'.weak hLc' hR').weak hL2 (fun r hr=>⟨r,hr,.here⟩),.inr (hst'.weak hLc' hR')⟩,?_⟩;refine U8c (S':=St c Lc U) (S2':=St c Lc2 U) (fun x hx=>hx.weak ye hR') (fun x hx=>hx.weak ye hR') _ _ _ _ ?_;refine hW c _ w' (hcl.set hj) (by simp [hds]) (fun k hk2=>?_) (hfr.put hd v) hst' hLc' f za;have hne:j≠k:=fun e=>Kwb hz hk2 (e ▸ hj1);rw [getD_set_ne true hne];exact hInv k hk2
def Y1f (os:List Oper) (hT:Z5a tb n ops late p1 p2=true) (hL2:Lc2.Sublist Lc) (hok:Ucf ops done p2=true) (hos:p2.map (ops[·]?)=os.map some) (h:DJ P tb n ops Lc2 Q os t L R):WZ P n ops Lc Lc2 Q p2 m done t L R:=by
 intro c a w hcl hds hInv hfr hst hLc fuel hfu;simp only [Z5a,yn] at hT;simp only [Ucf,yn] at hok;obtain ⟨hsel,hal,hz⟩:=hT;obtain ⟨hpl,hcov⟩:=hok;refine Kdd (tb:=tb) hsel hal hos hpl ⟨rfl,fun i d=>?_,(fun e he=>by cases he),(fun e he=>by cases he),yna,yna⟩ hds za (fun i hi hd=>?_) hfr hst (hL2.trans hLc) h;·simp
 ·have := List.all_eq_true.1 hcov i (List.mem_range.2 hi);rw [hd] at this;simpa using this
end
def J7 {P : Program} {tb : Tabs P} {n m : Nat} {opl : List Oper} {late p1 p2 : List Nat} {Lc Lc2 : List Blk} {Q : Kt} {done : Array Bool} {t : Nat → Value} {L : List Blk} {R : List Sl} (hT : Z5a tb n opl.toArray late p1 p2 = true) (hL2 : Lc2.Sublist Lc) (hok : Ucf opl.toArray done p2 = true) (hp2 : p2.all (fun k => Nat.blt k opl.length) = true)
 (h:DJ P tb n opl.toArray Lc2 Q (Yn opl p2) t L R):WZ P n opl.toArray Lc Lc2 Q p2 m done t L R:=
 Y1f (Yn opl p2) hT hL2 hok (V6a opl p2 fun i hi=>by simpa using List.all_eq_true.1 hp2 i hi) h
def Uwc {P : Program} (tb : Tabs P) {n id : Nat} {ops : List Oper} {t : Nat → Value} {L : List Blk} {R : List Sl} {Q : Kt} (late p1 p2 : List Nat) (Lc Lc2 : List Blk) (m : Nat) (hm : P.follows .mixedOrders = true) (hT : Z5a tb n ops.toArray late p1 p2 = true) (hmm : Nat.ble (m + p2.length) ops.length = true)
 (hp2:p2.all (fun k=>Nat.blt k ops.length)=true) (hLc:Lc.Sublist L) (h:Z5a tb n ops.toArray late p1 p2=true→WZ P n ops.toArray Lc Lc2 Q p2 m (Array.replicate ops.length false) t L R):CJ P n (.region id ops.toArray true) t L R Q:=by
 intro c a w hf hs;refine wp_region_any hm (Uea (S:=St c Lc R) (S2:=St c Lc2 R) (p2:=p2) _ _ _ _ ?_);have e:ops.toArray.size=ops.length:=by simp
 have hcl:=Closed.zero (ops:=ops.toArray);rw [e] at hcl;refine h hT c a _ hcl zo (fun k hk=>?_) hf (St.drew hs) hLc _ ?_;·have := List.all_eq_true.1 hp2 k hk;simp at this;simp [this]
 ·have := yQ hmm;simpa using this
section
variable {P:Program} {tb:Tabs P} {n m:Nat} {ops:Array Oper} {late p1 p2:List Nat} {Lc Lc2:List Blk} {Q:Kt} {done:Array Bool} {t:Nat→Value} {L:List Blk} {R:List Sl} {op:Op} {ty:TypeId} {pos:String} {after:Array Edge} {d:Tmp} {v:Value} {g:Option (Nat×Bool)}
def Vpb (i : Nat) (hT : Z5a tb n ops late p1 p2 = true) (hL2 : Lc2.Sublist Lc) (hok : J4e ops p1 done i = true) (hio : ops[i]? = some ⟨some d, op, ty, pos, after, g⟩) (hk : U7 op = 0) (hw : Yk ops t g = true) (hd : Nat.blt d n = true) (hl : late.contains d = false)
 (hv:YV P ⟨some d,op,ty,pos,after,g⟩ (ev t) Lc R v) (h:WZ P n ops Lc Lc2 Q p2 m (done.setIfInBounds i true) (upd t d v) L R):WZ P n ops Lc Lc2 Q p2 (m + 1) done t L R:=
 Zye hT hL2 hok hio hk hw hd (by simp only [Z2e,hl,cond_false];exact hv) h
def Ko {j : Nat} {Post : Yy} (hio : ops[j]? = some ⟨some d, op, ty, pos, after, g⟩) (hg : Gives P ⟨some d, op, ty, pos, after, g⟩ (ev t) L R Post) (hw : Yk ops t g = true) (hd : Nat.blt d n = true)
 (h:∀v M U,Post v M U→Lc.Sublist M∧(∀r∈R,InR r U)∧WZ P n ops Lc Lc2 Q p2 m (done.setIfInBounds j true) (upd t d v) M U):Zne P n ops Lc Lc2 Q p2 m done t L R j:=
 ⟨_,hio,hw,hd,Post,hg,h⟩
def Jn {j:Nat} {l:List Nat} (h:Zne P n ops Lc Lc2 Q p2 m done t L R j) (k:WSteps P n ops Lc Lc2 Q p2 m done t L R l):WSteps P n ops Lc Lc2 Q p2 m done t L R (j :: l):=⟨h,k⟩
def Zvd:WSteps P n ops Lc Lc2 Q p2 m done t L R []:=trivial
end
end Go.Aw
end
section
namespace Go.Aw
open Go
section
variable {P:Program} {ρ:Operand→Value} {L M:List Blk} {R:List Sl} {dst:Option Tmp} {ty:TypeId} {pos:String} {after:Array Edge} {guard:Option (Nat×Bool)} {T k e:TypeId} {z:Value} {x y u:Operand}
end
section
variable {b:Nat} {l l':List (Int×Value)} {L M:List Blk}
end
section
open ChangeMaps
variable {P:Program} {ρ:Operand→Value} {L M:List Blk} {R:List Sl} {dst:Option Tmp} {ty:TypeId} {pos:String} {after:Array Edge} {guard:Option (Nat×Bool)} {T k e:TypeId} {z:Value} {x y u:Operand}
end
end Go.Aw
end
abbrev Go.Aw.LB:=List Go.Aw.Blk
abbrev Go.Aw.LS:=List Go.Aw.Sl
