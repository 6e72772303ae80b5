/-
  The program logic of the walks, in one text. No program is named here. By an AI agent; no person has read it.
-/
import Derived.WalkKit
import Derived.Orders
import Derived.OrdersHeld
set_option linter.all false
set_option maxHeartbeats 4000000
section
namespace Go.Aw
open Go
abbrev rg:Nat→Nat→List Nat
 | _,0=>[]
 | a,n+1=>a :: rg (a+1) n
variable {p:Prop}
def uaa(h:p:=by
 refine q_c ?_ ?_<;>intro hc2;·
  apply Xcr∘Xab;refine q_l rfl zSb ?_;apply (Xbj);refine q_c ?_ ?_<;>intro hc3;·apply (Xbe);exact ua9
  exact uae
 apply (Xbv);refine q_c ?_ ?_<;>intro hc4;·
  apply Xcr∘Xab;refine q_l rfl zSb ?_;apply (Xcm);apply Kf (G:=[_,_,_,_,_,_,_,_]) (j:=7) (cj:=27) rfl rfl zb rfl zmb rfl;·exact ztd
  intro junk8;apply (qaf);refine q_c ?_ ?_<;>intro hc5;·apply (Xbe);exact ua9
  exact uae
 apply (Xbv);refine q_c ?_ ?_<;>intro hc6;·
  apply (Xcr);iterate 3 apply (qab)
  apply qac∘qag;refine q_l rfl zlc ?_;apply (Xbj);refine q_c ?_ ?_<;>intro hc7;·apply (Xbe);exact ua9
  exact uae
 apply (Xbe);exact ua9):=h
def uab(h:p:=by
 apply qbp∘Jwd∘Jwd;refine J1 ?_;first
  |(have a1:(m.roads.l.getD i default).closed=false:=hg3;have a2:(m.roads.l.getD i default).closed=false:=hg14;exact q_j ⟨(decide (0 < (fl.l.getD i default).high),decide ((fl.l.getD i default).low < 0)),fun h=>⟨fun a=>decide_eq_true a,fun a=>decide_eq_true a⟩⟩)
  |(have a1:(m.roads.l.getD i default).closed=true:=hg3;have a2:(m.roads.l.getD i default).closed=true:=hg14;exact q_j ⟨(false,false),fun h=>absurd (h.symm.trans a1) ze⟩)
  |exact absurd (hg3.symm.trans hg14) ze):=h
def uac(h:p:=by
 apply qbp∘Xc6∘Zac;refine J1 (Jb (Uk (Kd (Kh ?_))));refine q_r L R zad ?_;have hpf:=V6b (n:=n) hc0 hx hc1 hc2;refine ⟨f,d + 1,_,rfl,⟨by omega,fun h=>?_,fun h=>?_⟩,rfl,rfl⟩;·
  cases b with
  | false=>first | (cases h;done) | (simp at hg4;done)
  | true=>rw [hpf,hP.yes rfl];dsimp only;rw [if_pos zM]
 ·
  cases b with
  | false=>rw [hpf,hP.no rfl]
  | true=>first | (simp at hg4;done) | (rw [hpf,hP.yes rfl];dsimp only;rw [if_neg zM])):=h
def uad(h:p:=by
 refine q_c ?_ ?_<;>intro hc4;·
  apply qae∘Xaq∘qa9∘Ybf;rintro v U J ⟨m,r,b,rfl,hP,rfl,rfl⟩;have hPb:=hP.bnd;have hpf:=V7d (n:=n) hc0 hx hc1 hc2 (by first | exact .inl hc3 | exact .inr hc4);refine Jw zRb rfl ?_;iterate 3 apply (qbs)
  apply Xdp∘qaw∘qah∘Xcm;apply Kf (G:=[_,_,_]) (j:=2) (cj:=89) rfl rfl zb rfl zmb rfl;·intro hg3;replace hg3:=qb hg3;exact (Xaa) zvd
  intro junk3;apply (qah);apply Kf (G:=[_,_,_,_,_]) (j:=7) (cj:=94) rfl rfl zb rfl zmb rfl;·intro hg8;replace hg8:=qb hg8;exact (Xdy) zvd
  intro junk8;apply (qah);apply Kf (G:=[_,_,_,_,_]) (j:=14) (cj:=101) rfl rfl zb rfl zmb rfl;·exact zoe
  intro junk15;apply (qaf);refine q_c ?_ ?_<;>intro hc5;·
   apply Xae∘Xa7;refine J9 (Jb (Uk (Kh (Kd (Kh ?_)))));refine q_r L R zad ?_;refine ⟨0,0,false,rfl,⟨by omega,(fun h=>by cases h),fun _=>?_⟩,rfl,rfl⟩;cases b with
   | false=>rw [hpf,hP.no rfl]
   | true=>rw [hpf,hP.yes rfl];dsimp only;rw [if_neg (by simp at hc5;omega)]
  exact zje
 exact zce):=h
def uae(h:p:=by
 refine J5 (Jh (Jb (Jq (Jq (Jg ?_)))));apply (Xbm);apply Kf (G:=[_,_,_]) (j:=3) (cj:=51) rfl rfl zb rfl zmb rfl;·exact zpd
 intro junk4;apply (qaf);refine q_c ?_ ?_<;>intro hc8;·apply (Xa8);exact ua9
 apply (Xdw);refine q_c ?_ ?_<;>intro hc9;·apply Xdi∘Uoc;refine q_l rfl zjc ?_;apply (Xao);exact ua9
 apply (Xcy);exact ua9):=h
def uaf(h:p:=by
 refine ⟨by rw [hE.size]; simp, fun k d => ?_, fun x hx => hE.op x (hmem x hx), fun x hx => ?_, ?_, ?_⟩;·
  rw [hE.listed k d];by_cases hk:i=k;·subst hk;rw [Uj hids];simp only [true_or,iff_true];exact .inr ⟨e,he,hei⟩
  ·
   rw [getD_set_ne d hk];refine or_congr Iff.rfl ⟨fun ⟨x,hx,hxk⟩=>?_,fun ⟨x,hx,hxk⟩=>⟨x,hmem x hx,hxk⟩⟩;rcases List.mem_append.1 hx with h | h;·exact ⟨x,yp _ h,hxk⟩
   ·
    rcases List.mem_cons.1 h with rfl | h;·exact absurd (hei.symm.trans hxk) hk
    ·exact ⟨x,yj _ h,hxk⟩
 ·rw [getD_set_ne true (yic (hni x hx))];exact hE.fresh x (hmem x hx)
 ·exact hE.nd.sublist (yNb _ (yTa ye (yra _ _)))
 ·exact hE.ndd.sublist (yNb _ (yTa ye (yra _ _)))):=h
def uag(h:p:=by
 refine ⟨by simp [hE.size], fun k dd => ?_, fun e he => ?_, fun e he => ?_, ?_, ?_⟩;·
  by_cases hk : j = k;·subst hk;rw [Uj hjl];simp
  ·rw [getD_set_ne dd hk, hE.listed k dd];simp [hk]
 ·
  rcases List.mem_cons.1 he with rfl | he;·exact ⟨oj,hoj,hT,hd,hg⟩
  ·exact hE.op e he
 ·
  rcases List.mem_cons.1 he with rfl | he;·exact hjd
  ·exact hE.fresh e he
 ·simp only [yI, yja];exact ⟨fun hm=>by obtain ⟨e,he,hi⟩:=List.mem_map.1 hm;exact hjE e he hi,hE.nd⟩
 ·simp only [yI, yja];refine ⟨fun hm=>?_,hE.ndd⟩;obtain ⟨e,he,hi⟩:=List.mem_map.1 hm;obtain ⟨oe,h1,h2,h3,h4⟩:=hE.op e he;exact hdw e.i oe h1 (hjE e he) (by rw [h3,hi])):=h
def uah(h:p:=by
 iterate 3 apply (qab)
 apply qac∘Xd1∘Xde;iterate 3 apply (qab)
 apply qac∘Xd1∘qaw∘Xay;refine Jm [(1,.int _ _),(4,.pointer _),(6,.pointer _),(60,.slice _ _ _),(61,.int _ _),(62,.int _ _)] zh fun tq0=>?_;refine Up ([8,9]++rg 62 23) ((⟨fun g=>[(62,.int .i64 ((g.1:Nat):Int))],fun g=>⟨b6,[.int .i64 (Jba p q g.1).low,.int .i64 (Jba p q g.1).high],90⟩ :: ⟨b4,[.int .i64 0,.int .i64 0],90⟩ :: ⟨b2,p.cells,225⟩ :: L,fun _=>R,fun g=>p.fans.l.length - g.1⟩:Head {k:Nat // k≤p.fans.l.length})) (⟨0,by omega⟩) zh zXa zAb ?_;rintro ⟨k,hk⟩ junk;try dsimp only
 apply (Xaj);refine q_c ?_ ?_<;>intro hc1;·exact zke
 exact zse):=h
def uai(h:p:=by
 refine Jf [8,11,13] hT2 yd zc ?_;refine Jt ?_ ?_;·
  skip
  apply (Vj);rintro v U J ⟨b26,rfl,rfl,hR26⟩;replace hR26:=hR26.symm;subst hR26;exact ubi
 refine Jt ?_ ?_;·
  skip
  apply (Y6);rintro v U J ⟨b29,rfl,rfl,hR29⟩;replace hR29:=hR29.symm;subst hR29;apply (qa1);exact uaX
 apply (qca);refine Kq rfl zMb rfl rfl ?_;rintro v U J ⟨b5,rfl,rfl,hR5⟩;replace hR5:=hR5.symm;subst hR5;apply (qa1);exact uaY):=h
def uaj(h:p:=by
 refine Jf [3,8,13] hT2 yd zc ?_;refine Jt ?_ ?_;·
  skip
  apply (Y1);rintro v U J ⟨b21,rfl,rfl,hR21⟩;replace hR21:=hR21.symm;subst hR21;apply (qa1);exact uaX
 refine Jt ?_ ?_;·
  skip
  apply (Vj);rintro v U J ⟨b26,rfl,rfl,hR26⟩;replace hR26:=hR26.symm;subst hR26;exact ubj
 apply (qca);refine Kq rfl zMb rfl rfl ?_;rintro v U J ⟨b5,rfl,rfl,hR5⟩;replace hR5:=hR5.symm;subst hR5;apply (qa1);exact ua0):=h
def uak(h:p:=by
 refine Jf [3,8,11] hT2 yd zc ?_;refine Jt ?_ ?_;·
  skip
  apply (Y1);rintro v U J ⟨b21,rfl,rfl,hR21⟩;replace hR21:=hR21.symm;subst hR21;apply (qa1);exact uaY
 refine Jt ?_ ?_;·
  skip
  apply (Vj);rintro v U J ⟨b26,rfl,rfl,hR26⟩;replace hR26:=hR26.symm;subst hR26;exact ubk
 apply qca∘Y6;rintro v U J ⟨b29,rfl,rfl,hR29⟩;replace hR29:=hR29.symm;subst hR29;apply (qa1);exact ua0):=h
def ual(h:p:=by
 first
  |exact q_k ⟨(k + 1,P,G),by dsimp only;omega,hP.stay hc4,hG.stay hc4⟩
  |have hre:Va a s (k:Int) a.doors.l.length=⟨(a.mine.roads.l.getD k default).rest.low + y.low,(a.mine.roads.l.getD k default).rest.high + y.high⟩:=by
    cases hc:Va a s (k:Int) a.doors.l.length with
    | mk lo hi=>rw [hc] at hy1 hy2;dsimp only at hy1 hy2;rw [hy1,hy2]
   (have hcc:¬ (a.mine.roads.l.getD k default).closed=true:=by simpa using hc4);exact q_k ⟨(k + 1,_,_),by dsimp only;omega,hP.next hcc ⟨by rw [yw,hre],rfl,hfk2.2⟩ (hS fk (yh hfk)) hok177,hG.next hcc za za hne hp hq za hok129 hok143⟩):=h
def uam(h:p:=by
 apply qbj∘Xcc;exact Ka ⟨(z - 1,(⟨o61,la.l ++ [z]⟩,op),S2),by dsimp only;omega,by
 dsimp only;have hn4:¬ (0≤x.above∧((sw.set z.toNat ⟨x.above,x.since,x.shown,x.closed,true⟩).getD x.above.toNat default).closed=true):=by rintro ⟨h1,h2⟩;first | omega | exact hc4 h2 | (rw [h2] at hc4;cases hc4)
 have e2:S2=(sw.set z.toNat ⟨x.above,x.since,x.shown,x.closed,true⟩):=by
  rcases yga (0≤x.above) with h1 | h1;·rw [hS2,if_pos h1,Ye,if_neg (fun h2=>hn4 ⟨h1,h2⟩)]
  ·rw [hS2,if_neg h1]
 rw [hsu,if_neg hn4,e2,yma za],hok61,hok2⟩ zm zh zi zAb zx):=h
def uan(h:p:=by
 refine Jf [5] hT3 yd zc ?_;apply qca∘Ytf;rintro v U J ⟨o30,rfl,hok30,rfl,rfl⟩;apply (qa1);refine Kb hT3 yd zc rfl ?_;apply (Xdq);refine J1 ?_;first
  |exact Jx ⟨(o27,o30),hok27,hok30⟩ zm zh (yua _) ye zAb
  |exact Jx ⟨(o27,o30),hok27,hok30⟩ zm zh (yoa _ _ _) ye zAb):=h
def uao(h:p:=by
 intro done hp;simp only [Uoa,yo] at hp;obtain ⟨hn,hd⟩:=ih _ hp.2;have hr:i∈Region.ready .any ops.toArray done:=by simpa using hp.1.1
 obtain ⟨h0,_⟩:=mem_ready.1 hr;refine ⟨List.nodup_cons.2 ⟨fun hm=>?_,hn⟩,fun k hk=>?_⟩;·
  have := hd i hm;rcases yk i done.size with h' | h';·rw [Uj h'] at this;cases this
  ·simp [yF h'] at h0
 ·
  rcases List.mem_cons.1 hk with rfl | hk;·exact h0
  ·
   by_cases hik : i = k;·subst hik;exact h0
   ·have := hd k hk;rwa [getD_set_ne true hik] at this):=h
def uap(h:p:=by
 refine ⟨?_,?_,?_⟩;·
  obtain ⟨G', hG', hg⟩ := h2.G;refine ⟨G',hG',fun b hb=>?_⟩;rcases hg b hb with h | h | ⟨e,he,hb'⟩;·exact .inl h
  ·exact .inr (.inl h)
  ·exact .inr (.inr ⟨e,hp.mem_iff.2 he,hb'⟩)
 ·
  intro e he;rcases h2.own e he with ⟨e',he',hb'⟩ | h;·exact .inl ⟨e',hp.mem_iff.2 he',hb'⟩
  ·exact .inr h
 ·have k := h2.keep;refine ⟨k.os,k.tape,k.output,k.size,fun b hb hn=>k.block b hb fun ⟨e,he,hb'⟩=>hn ⟨e,hp.mem_iff.2 he,hb'⟩,k.frz⟩):=h
def uaq(h:p:=by
 apply (qa1);refine Jf [3,5] hT2 yd zc ?_;refine Jt ?_ ?_;·
  skip
  apply (Y1);rintro v U J ⟨b21,rfl,rfl,hR21⟩;replace hR21:=hR21.symm;subst hR21;exact zve
 apply qca∘Zwa;rintro v U J ⟨r2,k2,rfl,g2,g2',hk2,he2,rfl,rfl⟩;refine ⟨zi,zt,?_⟩;apply Zua∘Zqa;exact ua0):=h
def uar(h:p:=by apply Xah∘qcx;rintro v U J ⟨b49,rfl,rfl,hR49⟩;replace hR49:=hR49.symm;subst hR49;apply (Jtg);rintro v U J ⟨o50,rfl,hok50,rfl,rfl⟩;apply Xbo∘qcs∘Xbw;first | exact q_k ⟨(k2,j + 1,_),hk2,by dsimp only;omega,hok50,hD2.next (.inl rfl)⟩ | exact q_k ⟨(k2,j + 1,_),hk2,by dsimp only;omega,hok50,hD2.next (.inr hsj)⟩):=h
def uas(h:p:=by apply Xah∘qcx;rintro v U J ⟨b29,rfl,rfl,hR29⟩;replace hR29:=hR29.symm;subst hR29;apply (Khg);rintro v U J ⟨o30,rfl,hok30,rfl,rfl⟩;apply Xbo∘qcs∘Xbw;first | exact q_k ⟨(k1,i + 1,_),hk1,by dsimp only;omega,hok30,hD.next (.inl rfl)⟩ | exact q_k ⟨(k1,i + 1,_),hk1,by dsimp only;omega,hok30,hD.next (.inr hsi)⟩):=h
def uat(h:p:=by
 apply (Xaw);first
  |(have hz:=hok44;exact q_k ⟨(k + 1,(⟨o44,_⟩:OwL XArc)),by dsimp only;omega,hok44,by dsimp only;rw [Una,w3,Uua,if_neg zZ,if_neg hc4,if_pos hc3];rfl⟩)
  |exact q_k ⟨(k + 1,p),by dsimp only;omega,w2,by dsimp only;rw [Una,w3,Uua,if_neg zZ,if_neg hc4,if_neg hc3];simp⟩):=h
def uau(h:p:=by
 have:=Yj (i :: E.map (·.i)) (i :: rest) (List.nodup_cons.2 ⟨fun hm=>by obtain ⟨e,he,hi⟩:=List.mem_map.1 hm;exact hin' e he hi,hE.nd⟩) (fun x hx=>by
  rcases List.mem_cons.1 hx with rfl | hx;·simp
  ·obtain ⟨e, he, rfl⟩ := List.mem_map.1 hx;exact hEp e he)
 simpa using this):=h
def uav(h:p:=by
 apply (Xbh);refine U1 (k:=27) zmb (fun hg9=>?_) (fun hg9=>?_);·
  replace hg9:=qb hg9;apply qao∘Xal;refine Ks (Ywc rfl rfl) rfl rfl rfl ?_;apply (Xb0);refine q_c ?_ ?_<;>intro hc2;·exact zAd
  exact zud
 replace hg9:=qb hg9;iterate 4 apply (qap)
 apply (Xb0);refine V4 rfl ?_;exact zud):=h
def uaw(h:p:=by
 obtain rfl:E=[]:=by cases E with | nil=>rfl | cons e E=>exact absurd (hEp e zo) zo
 obtain rfl:os=[]:=by cases os with | nil=>rfl | cons x l=>simp at hos
 exact K2d hsel hal hos2 hpl hE hds (by simpa using hfu) (by simpa using hcov) hfr hst (hL2.trans hLc) (by rw [hK] at hdj;exact hdj)):=h
def uax(h:p:=by
 apply qbp∘Xal;refine Ks (U5a rfl) rfl rfl rfl ?_;apply (qb2);refine U1 (k:=150) zmb (fun hg14=>?_) (fun hg14=>?_);·replace hg14:=qb hg14;apply Uae∘qao∘Uxe∘qce∘qbl;refine Ks zvc rfl rfl rfl ?_;exact uab
 replace hg14:=qb hg14;iterate 6 apply (qap)
 exact uab):=h
def uay(h:p:=by
 apply Xae∘qaz;refine J9 (Jb (Uk (Kjb ?_)));refine q_r (LL _) R zgd ?_;refine ⟨0,false,_,rfl,⟨(fun h=>by cases h),fun _=>⟨rfl,fun j h1 h2=>?_⟩⟩,rfl,rfl⟩;by_cases hj:j=0;·rw [hj,h00];exact hc0
 ·
  first
   |(exfalso;omega)
   |exact hm.no h1 h2 (yz _) zaa):=h
def uaz(h:p:=by first | exact q_k ⟨(kd + 1,rs + (Zm (a.doors.l.getD kd default) (s.doors.l.getD kd 0)).low),by dsimp only;omega,by dsimp only;rw [Y5b,if_pos hc2,hrs,Int.add_assoc]⟩ | exact q_k ⟨(kd + 1,rs),by dsimp only;omega,by dsimp only;rw [Y5b,if_neg hc2,hrs]⟩):=h
def uaA(h:p:=by first | exact q_k ⟨(kf + 1,lf - (Un (a.fans.l.getD kf default) (s.fans.l.getD kf 0) q).low),by dsimp only;omega,by dsimp only;rw [fSum,if_pos hc4,hlf,Int.sub_sub]⟩ | exact q_k ⟨(kf + 1,lf),by dsimp only;omega,by dsimp only;rw [fSum,if_neg hc4,hlf]⟩):=h
def uaB(h:p:=by
 apply (qa1);refine Jf [5,13] hT2 yd zc ?_;refine Jt ?_ ?_;·
  skip
  apply (Zwa);rintro v U J ⟨r2,k2,rfl,g2,g2',hk2,he2,rfl,rfl⟩;refine ⟨zi,zt,?_⟩;apply Zua∘Zqa;exact uaX
 exact zIe):=h
def uaC(h:p:=by
 apply (qa1);refine Jf [5,11] hT2 yd zc ?_;refine Jt ?_ ?_;·
  skip
  apply (Zwa);rintro v U J ⟨r2,k2,rfl,g2,g2',hk2,he2,rfl,rfl⟩;refine ⟨zi,zt,?_⟩;apply Zua∘Zqa;exact uaY
 exact zJe):=h
def uaD(h:p:=by
 rintro v U J ⟨o59,rfl,hok59,rfl,rfl⟩;apply (Xdr);exact Ka ⟨(k + 1,(⟨o59,_⟩:OwL XArc)),by dsimp only;omega,hok59,by
 dsimp only;rw [Una,w3,Uua,if_neg zZ,if_pos hc4];first
  |rw [if_pos hc3,yn]
  |rw [if_neg hc3];rfl⟩ zm zh zi zAb zx):=h
def uaE(h:p:=by
 intro x hx hxi;have hn:=hE.nd;rw [yU,yI,yQa,yja] at hn;rcases List.mem_append.1 hx with h | h;·exact hn.2.2 x.i (List.mem_map.2 ⟨x,h,rfl⟩) e.i zo (by rw [hxi,hei])
 ·exact hn.2.1.1 (List.mem_map.2 ⟨x,h,by rw [hxi,hei]⟩)):=h
def uaF(h:p:=by
 refine ⟨by simp,fun r p hp=>?_⟩;rw [yC] at hp;split at hp;·cases hp;exact ⟨OwL.nil_ok,rfl⟩
 ·cases hp):=h
def uaG(h:p:=by
 intro hk;have:=Yj (E.map (·.i)) rest hE.nd (fun x hx=>by
  obtain ⟨e,he,rfl⟩:=List.mem_map.1 hx;rcases List.mem_cons.1 (hEp e he) with h | h;·exact absurd h (notE hk e he)
  ·exact h)
 simpa using this):=h
def uaH(h:p:=by
 by_cases hkj:Yc ops j=1;·exact hkj
 ·have := Vga (p := fun k => !Nat.beq k i) hE (fun e he => by simp [Kce (hin' e he)]) hds hj hkj;exact absurd (ymb (List.all_eq_true.1 hkind j this)) hkj):=h
def uaI(h:p:=by
 obtain rfl:E=[]:=by cases E with | nil=>rfl | cons e E=>exact absurd (hEp e zo) zo
 obtain rfl:os=[]:=by cases os with | nil=>rfl | cons x l=>simp at hos
 exact K9f hpl hE hdj hfr hst fuel):=h
def uaJ(h:p:=by
 refine kk _ _ _ w' ⟨.own g cap spare,?_,?_,?_,rfl⟩ hst';·rw [OwL.val];dsimp only;rw [hl];rfl
 ·rw [OwL.ok];dsimp only;rw [hl];exact hok'
 ·rw [hF,OwL.L];dsimp only;rw [← e]):=h
def uaK(h:p:=by
 rw [yi,yM,yi];split;·rename_i h;subst h;simp [hk]
 ·rename_i h;rw [if_neg (fun e=>h e.symm)]):=h
def uaL(h:p:=by
 have hl:=h.len;refine ⟨by simp [hl],fun j hj=>?_,fun j h1 h2=>?_⟩;·
  rw [yM];split;·rename_i e;rw [if_pos za,hx,e]
  ·exact h.don j za
 ·rw [yba za];exact h.non j za h2):=h
def uaM(h:p:=by
 apply qa1∘Jlg∘J9g;refine Kb hT8 yd zc rfl ?_;refine J1 ?_;first
  |exact Jx ⟨(b58,o60),hok60⟩ zm zh (yua _) zpa zAb
  |exact Jx ⟨(b58,o60),hok60⟩ zm zh yfb zpa zAb):=h
def uaN(h:p:=by rw [hrun];obtain ⟨⟨G,hh,hg⟩,ho,hk⟩:=hs;refine (h.2 w G hh).mono ?_;rintro e w' ⟨v,U,J,rfl,hp,hst⟩;exact k v U J w' hp (St.trans ⟨⟨G,hh,hg⟩,ho,hk⟩ hg hst)):=h
def uaO(h:p:=by
 split at this;·cases this
 ·omega):=h
def uaP(h:p:=by apply qca∘Kfe;rintro v U J ⟨rfl,rfl,rfl⟩;apply (qa1);refine Jf [2] hT3 yd zc ?_;apply qca∘Yqf;rintro v U J ⟨o27,rfl,hok27,rfl,rfl⟩;apply qa1∘Uxf;exact uan):=h
def uaQ(h:p:=by subst hji;refine hy.wpOp hi hZ ⟨⟨hS2,hS.imp (fun h=>?_) id⟩,H⟩;obtain ⟨k,hk,hl⟩:=List.any_eq_true.1 h;exact List.any_eq_true.2 ⟨k,hk,getD_set_true hl⟩):=h
def uaR(h:p:=by
 refine ⟨h.len,fun j hj=>?_,fun j h1 h2=>h.non j za h2⟩;rcases yk j i with h1 | h1;·exact h.don j h1
 ·
  obtain rfl : j = i := by omega
  rw [h.non j (ym _) hi,hx]):=h
def uaS(h:p:=by
 apply (Xaw);exact Ka (⟨k + 1,by omega,fun j hj=>by
 rcases yk j k with h | h;·exact hal j h
 ·
  obtain rfl : j = k := by omega
  omega⟩) zm zh zi zAb zx):=h
def uaT(h:p:=by
 refine Kb hT12 yd zc rfl ?_;refine J1 ?_;first
  |exact Jx (b64,b68) zm zh (yua _) ye zAb
  |exact Jx (b64,b68) zm zh (List.Perm.swap _ _ _) ye zAb):=h
def uaU(h:p:=by have := hfr.put (d := oj.dst) (by rw [hd]; simpa [dOk] using hdn) (.pointer (some ⟨w.heap.size, 0, none⟩));rw [hd] at this ⊢;exact this):=h
def uaV(h:p:=by
 exact Ka ⟨k + 1,by omega,fun j hj=>by
 rcases yk j k with h | h;·exact hal j h
 ·
  obtain rfl : j = k := by omega
  omega⟩ zm zh zi zAb zx):=h
def uaW(h:p:=by
 intro k hk d;rcases yk k done.size with h' | h';·exact .inl ((hE.listed k d).2 (.inl (by simp [h'] at hk ⊢;exact hk)))
 ·exact .inr h'):=h
def uaX(h:p:=by
 refine Jf [8,13] hT2 yd zc ?_;refine Jt ?_ ?_;·
  skip
  exact zAe
 exact zwe):=h
def uaY(h:p:=by
 refine Jf [8,11] hT2 yd zc ?_;refine Jt ?_ ?_;·
  skip
  exact zBe
 exact zxe):=h
def uaZ(h:p:=by first | exact q_k ⟨(k + 1,_),by dsimp only;omega,hF.next hc2 za hp hok94⟩ | exact q_k ⟨(k + 1,F),by dsimp only;omega,hF.stay zO⟩):=h
def ua0(h:p:=by
 refine Jf [3,8] hT2 yd zc ?_;refine Jt ?_ ?_;·
  skip
  exact zye
 exact zze):=h
def ua1(h:p:=by
 simp only [if_neg ht];refine ⟨yz _,fun ⟨v,hv,_⟩=>?_⟩;rcases hv.2 with h4 | h4;·exact absurd h4.1 hf
 ·exact absurd h4.2 ht):=h
def ua2(h:p:=by refine Jgc (w':=w.setRow b _) ?_ (kk undef U R _ ⟨rfl,rfl⟩ (hs.setRow hu));simp [execOp,hx,hy,Instr.storeAt,Instr.sureAddr,this]):=h
def ua3(h:p:=by refine q_j ⟨_,?_⟩;rw [Zda];(repeat' split) <;> first | rfl | omega):=h
def ua4(h:p:=by refine hst.perm ?_;simp only [Juc,yU,yI,yn,yr];refine yob _ ?_;exact (yfb (l₁:=E2.map fun e=>(⟨e.b,zT tb e.T,e.T⟩:Blk))).symm):=h
def ua5(h:p:=by intro hk e he hi;obtain ⟨oe,h1,h2,_,_⟩:=hE.op e he;rw [hi] at h1;obtain rfl:oe=o':=yG (h1.symm.trans hio);exact hk (Jeb h2)):=h
def ua6(h:p:=by
 rcases (hE.listed i true).1 hl with h | ⟨e,he,hi⟩;·rw [h] at hi0;cases hi0
 ·exact absurd hi (notE hk e he)):=h
def ua7(h:p:=by
 rcases (hE.listed i true).1 hl with h | ⟨e,he,hi⟩;·rw [h] at hi0;cases hi0
 ·exact absurd hi (hin' e he)):=h
def ua8(h:p:=by
 split at hp;·cases hp;cases h
 ·cases hp):=h
def ua9(h:p:=by refine q_i L R ?_;exact yb):=h
def uba(h:p:=by
 intro w' hw';rw [hlc];split at hw';·rename_i h;rw [if_pos h];exact hw'
 ·rename_i h;rw [if_neg h];exact hw'):=h
def ubb(h:p:=by
 intro x hx;rcases List.mem_cons.1 (hEp x (hmem x hx)) with h | h;·exact absurd h (hni x hx)
 ·exact h):=h
def ubc(h:p:=by obtain ⟨od,oo,ot,op,oa,og⟩:=oj;simp only at hT;subst hT;simp [execOp,Instr.alloc,hz1,newVar,newRow]):=h
def ubd(h:p:=by rw [hfr.eval];exact Ytd (ops:=ops) (fun cs b=>yZa hsel i o' cs b hio) (fun e he=>(apart hk e he).1)):=h
def ube(h:p:=by simp [execOp,resolve,invoke,builtin]):=h
def ubf(h:p:=by rename_i h1;exact absurd h h1):=h
def ubg(h:p:=by
 rcases List.mem_cons.1 (hEp e he) with h | h;·exact absurd h (notE hk e he)
 ·exact h):=h
def ubh(h:p:=by exact ⟨.nil,by rw [he];rfl,OwL.nil_ok,by rw [he];rfl,by rw [Kk];rfl,fun r hr=>Ja hr⟩):=h
def ubi(h:p:=by
 apply (qa1);refine Jf [11,13] hT2 yd zc ?_;refine Jt ?_ ?_;·
  skip
  exact zFe
 exact zCe):=h
def ubj(h:p:=by
 apply (qa1);refine Jf [3,13] hT2 yd zc ?_;refine Jt ?_ ?_;·
  skip
  exact zGe
 exact zDe):=h
def ubk(h:p:=by
 apply (qa1);refine Jf [3,11] hT2 yd zc ?_;refine Jt ?_ ?_;·
  skip
  exact zHe
 exact zEe):=h
def ubl(h:p:=by rcases hv.2 with h4 | h4 <;> omega):=h
def ubm(h:p:=by
 split at h3;·exact ⟨by omega,by omega,h4,by omega,by omega,by omega⟩
 ·omega):=h
def ubn(h:p:=by exact q_k ⟨(k + 1,l.set P.num.toNat _),by dsimp only;omega,w2.next hP za hrf⟩):=h
def ubo(h:p:=by intro hg4;replace hg4:=qb hg4;exact (Xah) zyd):=h
def ubp(h:p:=by intro hg4;replace hg4:=qb hg4;exact (Xaa) zvd):=h
def ubq(h:p:=by show (w.heap.push _)[b]?=_;rw [yXb,if_neg za]):=h
def ubr(h:p:=by
 intro e he;rcases List.mem_cons.1 he with rfl | he;·exact hjp
 ·exact hEp e he):=h
def ubs(h:p:=by intro i hi _;have:=List.all_eq_true.1 h4 i (List.mem_range.2 hi);simpa using this):=h
def ubt(h:p:=by split <;> first | omega | (dsimp only;omega)):=h
def ubu(h:p:=by apply (Xaw);exact Ka ⟨(i + 1,pl),by dsimp only;omega,hpc⟩ zm zh zi zAb zK):=h
def ubv(h:p:=by
 rcases List.mem_append.1 hx with h | h;·exact yp _ h
 ·exact yj _ (yW _ h)):=h
def ubw(h:p:=by
 intro c w hs a next Q k
 rw [h c w hs];exact k v L R w ⟨rfl,rfl,rfl⟩ hs):=h
def yh:=@List.mem_of_getElem?
def yi:=@List.getD_eq_getElem?_getD
def yj:=@List.mem_append_right
def yk:=@Nat.lt_or_ge
def yl:=@List.length_append
def ym:=@Nat.le_refl
def yn:=@List.append_assoc
def yo:=@Bool.and_eq_true
def yp:=@List.mem_append_left
def yq:=@List.getElem?_map
def yr:=@List.cons_append
def yt:=@List.Sublist.refl
def yu:=@List.getElem?_eq_none
def yv:=@List.nil_append
def yw:=@Int.toNat_natCast
def yx:=@List.length_singleton
def yy:=@List.exists_of_findSome?_eq_some
def yz:=@Int.le_refl
def yA:=@List.length_cons
def yB:=@List.getElem?_eq_getElem
def yC:=@List.getElem?_replicate
def yD:=@List.length_map
def yE:=@Result.andThen_ok
def yF:=@Array.getElem?_eq_none
def yG:=@Option.some.inj
def yH:=@List.getElem?_set_self
def yI:=@List.map_cons
def yJ:=@List.findSome?_eq_none_iff
def yK:=@List.length_set
def yL:=@List.getElem?_range
def yM:=@List.getElem?_set
def yN:=@List.flatMap_cons
def yO:=@List.take_of_length_le
def yP:=@List.getElem?_append_left
def yQ:=@Int.mul_nonneg
def yR:=@Nat.le_of_ble_eq_true
def yS:=@Nat.zero_le
def yT:=@Int.tdiv_eq_ediv_of_nonneg
def yU:=@List.map_append
def yV:=@List.length_drop
def yW:=@List.mem_cons_of_mem
def yX:=@List.sublist_append_right
def yY:=@List.not_mem_nil
def yZ:=@List.getElem?_append_right
def yaa:=@List.append_nil
def yba:=@List.getElem?_set_ne
def yca:=@List.mem_cons
def yda:=@List.length_nil
def yea:=@Sem.run_bind
def yfa:=@List.take_add_one
def yga:=@Classical.em
def yha:=@List.eq_nil_of_length_eq_zero
def yia:=@Int.mul_le_mul_of_nonneg_left
def yja:=@List.nodup_cons
def yka:=@Int.mul_le_mul
def yla:=@Int.lt_or_le
def yma:=@Int.toNat_of_nonneg
def yna:=@List.mem_append
def yoa:=@List.perm_append_comm_assoc
def ypa:=@List.getElem?_singleton
def yqa:=@Array.getElem?_setIfInBounds_ne
def yra:=@List.sublist_cons_self
def ysa:=@Nat.le_trans
def yta:=@List.length_replicate
def yua:=@List.Perm.refl
def yva:=@List.getElem?_take
def ywa:=@List.mem_of_mem_drop
def yxa:=@List.getElem?_append
def yya:=@Nat.succ_mul
def yza:=@List.getElem_of_mem
def yAa:=@List.foldl_append
def yBa:=@List.ext_getElem?
def yCa:=@Sem.run_pure
def yDa:=@Int.mul_le_mul_of_nonneg_right
def yEa:=@List.perm_append_comm
def yFa:=@Nat.and_two_pow_sub_one_eq_mod
def yGa:=@List.sublist_append_left
def yHa:=@List.length_take
def yIa:=@List.take_append_of_le_length
def yJa:=@Option.bind_some
def yKa:=@Option.bind_eq_some_iff
def yLa:=@List.set_set
def yMa:=@List.mem_range
def yNa:=@Nat.zero_add
def yOa:=@List.nodup_nil
def yPa:=@Bool.not_eq_true'
def yQa:=@List.nodup_append
def yRa:=@Option.map_some
def ySa:=@Int.ediv_nonneg
def yTa:=@List.Sublist.append
def yUa:=@Int.fdiv_eq_ediv_of_nonneg
def yVa:=@Nat.lt_or_eq_of_le
def yWa:=@List.ne_nil_of_mem
def yXa:=@List.mem_cons_self
def yYa:=@List.mem_or_eq_of_mem_set
def yZa:=@Region.noSelect_spec
def yab:=@Nat.mul_le_mul_right
def ybb:=@List.find?_range_eq_some
def ycb:=@List.eq_of_mem_replicate
def ydb:=@Option.some.injEq
def yeb:=@Nat.le_of_lt_succ
def yfb:=@List.perm_middle
def ygb:=@List.take_length
def yhb:=@List.length_tail
def yib:=@Int.ediv_le_self
def yjb:=@List.drop_eq_nil_of_le
def ykb:=@List.mem_singleton
def ylb:=@Nat.lt_of_lt_of_le
def ymb:=@Nat.eq_of_beq_eq_true
def ynb:=@Array.getD_eq_getD_getElem?
def yob:=@List.Perm.append_left
def ypb:=@Int.tmod_eq_emod_of_nonneg
def yqb:=@Int.ediv_emod_unique
def yrb:=@List.mem_of_mem_take
def ysb:=@List.drop_zero
def ytb:=@List.map_toArray
def yub:=@Nat.mod_eq_of_lt
def yvb:=@List.replicate_succ
def ywb:=@List.map_nil
def yxb:=@Nat.le_mul_of_pos_right
def yyb:=@Bool.false_eq_true
def yzb:=@List.set_cons_zero
def yAb:=@Int.emod_nonneg
def yBb:=@Int.tmod_lt_of_pos
def yCb:=@Bool.eq_iff_iff
def yDb:=@Int.mul_assoc
def yEb:=@Bool.or_eq_true
def yFb:=@List.getElem?_cons_zero
def yGb:=@Int.ediv_nonpos_of_nonpos_of_neg
def yHb:=@World.frozen?_of_block
def yIb:=@Nat.add_mul
def yJb:=@Int.neg_mul
def yKb:=@Nat.beq_eq
def yLb:=@Array.getElem?_append
def yMb:=@Region.free_spec
def yNb:=@List.Sublist.map
def yOb:=@BitVec.toNat_and
def yPb:=@List.drop_append_of_le_length
def yQb:=@List.mem_of_mem_tail
def yRb:=@List.replicate_succ'
def ySb:=@Nat.mul_le_mul_left
def yTb:=@List.range_succ
def yUb:=@List.flatMap_append
def yVb:=@Int.mul_neg
def yWb:=@Int.tmod_nonneg
def yXb:=@Array.getElem?_push
def yYb:=@Array.length_toList
def yZb:=@Nat.add_comm
def yac:=@Nat.eq_zero_or_pos
def ybc:=@Int.le_trans
def ycc:=@List.findSome?_map
def ydc:=@Int.sub_eq_add_neg
def yec:=@List.set_cons_succ
def yfc:=@List.length_range
def ygc:=@List.flatten_cons
def yhc:=@List.size_toArray
def yic:=@Ne.symm
def yjc:=@Nat.add_assoc
def ykc:=@List.nil_sublist
def ylc:=@Option.getD_some
def ymc:=@Int.ediv_le_ediv
def ync:=@Nat.sub_self
def yoc:=@Bool.or_true
def ypc:=@Int.mul_zero
def yqc:=@Nat.mul_comm
def yg(h:p:=by exact fun s hs=>by cases hs):=h
def yf(h:p:=by exact fun _=>rfl):=h
def ye {α:Type}{l:List α}:l.Sublist l:=yt l
def yd {α:Type}{l:List α}:[].Sublist l:=ykc l
def ya(h:p:=by exact ⟨by refine congrArg Value.bool ?_;rw [yCb];simp,rfl,rfl⟩):=h
def yb(h:p:=by exact ⟨by refine congrArg (Value.int .i64) ?_;rw [Kv,Kr];(repeat' split) <;> omega,rfl,rfl⟩):=h
def yc(h:p:=by exact ⟨by refine congrArg (Value.int .i64) ?_;rw [Uja];(repeat' split) <;> omega,rfl,rfl⟩):=h
def zmd(h:p:=by refine Kb hT2 yd zc rfl ?_;apply (qbg);refine J1 ?_;exact Jx (⟨b21,b26,b29,b5⟩,⟨(r2,k2),⟨g2,g2'⟩,hk2,he2⟩) zm zh zw ye zAb):=h
def znd(h:p:=by (iterate 14 apply (qap));apply (Xb0);refine Uh rfl ?_;apply qae∘Ypa∘Xa3;refine q_r L R zdd ?_;(have he:confirmE s c.l fl.l r p t=19:=by rw [confirmE,if_neg hc0,if_neg za,if_pos zba]);exact ⟨by rw [V6 he za,he],rfl,rfl⟩):=h
def zod(h:p:=by apply (qa1);refine Jf [10] hT35 yd zc ?_;apply qca∘Y1f;rintro v U J ⟨o173,rfl,hok173,rfl,rfl⟩;apply qa1∘Yxf∘V8f;refine Kb hT35 yd zc rfl ?_;apply Xdq∘qby∘Xbw;exact q_k ⟨(k13,j + 1,⟨o168,_⟩,⟨o173,_⟩),hk13,⟨by dsimp only;omega,by dsimp only;omega⟩,⟨hok168,hok173⟩,hS.next hj1 hG hq hcl hend⟩):=h
def zpd(h:p:=by intro hg4;replace hg4:=qb hg4;exact (Xbg) qai):=h
def zqd(h:p:=by apply qbp∘Xc6∘Zac;refine J1 (Jb (Uk (Kd (Kh ?_))));refine q_r L R zad ?_;(have hpf:Jaa l.l (n + 1) i=if x.left=0∧x.right=0∧0≤x.cond∧x.cond < 64 then some (i,1) else none:=by rw [Jaa,if_neg hc0,← hx,if_pos hc1]);exact J2f):=h
def zrd(h:p:=by apply (qa1);refine Jf [10] hT26 yd zc ?_;apply qca∘Vyf;rintro v U J ⟨o116,rfl,hok116,rfl,rfl⟩;apply qa1∘Yyf∘Uff;refine Kb hT26 yd zc rfl ?_;apply (Xdq);refine J1 ?_;exact q_j ⟨(o111,o116),hok111,hok116⟩):=h
def zsd(h:p:=by intro hg3;replace hg3:=qb hg3;exact (Xcn) qai):=h
def ztd(h:p:=by intro hg8;replace hg8:=qb hg8;(have hsg:=Jp (l:=s.sensors.l) (k:=c.target.toNat) default (by (try simp at hg8);omega));apply (Xa0);(have htt:0≤c.target∧c.target < s.sensors.l.length:=by (try simp at hg8);omega);exact (Ucf∘Xbc∘qbq) qai):=h
def zud(h:p:=by apply qbj∘Xbw;exact q_k (⟨z + 1,by omega,Zla hno (fun h=>by first | exact hc2 h.2.2 | exact hg9 h.2.1 | exact Yue hg3 h)⟩)):=h
def zvd(h:p:=by exact (qbq) qai):=h
def zwd(h:p:=by refine Ku zN rfl rfl rfl rfl ?_;apply Yof∘qcv∘qba∘J7g;rintro v U J ⟨rfl,rfl⟩;apply (qa1);refine J1 (Jb (Jq (Jg ?_)));apply Yuc∘Xb2;refine q_r (q.L 3 Jj ++ ((⟨p.o,(p.l.set s.toNat ⟨x.above,x.since,t,x.closed,x.late⟩).set s.toNat ⟨x.above,x.since,t,x.closed,lt⟩⟩:OwL XSwitch).L 76 XSwitch.cells ++ L)) R zbd ?_;exact Zof):=h
def zxd(h:p:=by exact (Xbg) qai):=h
def zyd(h:p:=by exact (qbz) qai):=h
def zzd(h:p:=by rw [← yn,← yn];exact List.Perm.append_right _ yEa):=h
def zAd(h:p:=by (have hh:J3e s q z:=by first | exact K7f (Classical.not_and_iff_not_or_not.2 hg3) hg9 hc2 | cases hg9);apply Xbi∘Xa7∘qbt;refine q_r L R zgd ?_;exact ⟨z,true,rfl,⟨fun _=>hE,by omega,fun _=>hh,(fun h=>by cases h)⟩,rfl,rfl⟩):=h
def zBd(h:p:=by refine Za zNc rfl ?_;rintro v U J ⟨o103,rfl,hok103,rfl,rfl⟩;apply qaa∘Utg∘qbm∘qak∘Xci;refine q_r ((⟨o103,l.l⟩:OwL Int).L 5 Z9 ++ (out.L 118 XFrame.cells ++ L)) S (U3 rfl zpb zRc) ?_;exact Z9f):=h
def zCd(h:p:=by have hPb2:=hP2.bnd;refine Jw zRb rfl ?_;(iterate 3 apply (qbs));apply Xdp∘qam;(iterate 3 apply (qaa));refine Jw zfc rfl ?_;apply qar∘qah∘Xdp∘qdb;refine q_r L R zad ?_;exact Ztf):=h
def zDd(h:p:=by exact ⟨rfl,rfl,rfl⟩):=h
def zEd(h:p:=by apply qa8∘Xah;refine q_l rfl zmc ?_;apply (qaq);intro b9;apply Xaz∘Xa0∘Xd1;refine J9 (Jb (Jg ?_));apply Xa0∘Xd1∘Xa4;exact q_k ⟨k + 1,by omega⟩):=h
def zFd(h:p:=by exact ⟨0,by rw [he],fun h=>by omega,rfl,Jc _⟩):=h
def zGd(h:p:=by apply qad∘Xa4;exact Ka ⟨k + 1,by omega⟩ zm zwa zi zAb zx):=h
def zHd(h:p:=by exact (Xcv) qai):=h
def zId(h:p:=by intro hg5;replace hg5:=qb hg5;exact (Xdj) qai):=h
def zJd(h:p:=by intro hg4;replace hg4:=qb hg4;exact (Xaa∘qbn) qai):=h
def zKd(h:p:=by refine K9 (Km (Uc (J6 ?_)));exact V0b ⟨(bad,good,_),by dsimp only;omega,hbf,hbr,fun h=>by first | (exfalso;have h':good < Kgb up start:=h;omega) | simpa using hc2⟩ zSa zh zi zAb):=h
def zLd(h:p:=by exact (qbn) qai):=h
def zMd(h:p:=by apply (Xcf);refine q_i L (Zja n.pipes :: Yma n.at_ :: (S ++ R)) ?_;exact Vdf):=h
def zNd(h:p:=by exact (qb4) qai):=h
def zOd(h:p:=by exact (qaj) qai):=h
def zPd(h:p:=by (obtain rfl:k=l.l.length:=by omega);apply Xdg∘Xam;refine q_i L R ?_;exact ⟨by rw [yO (ym _)],rfl,rfl⟩):=h
def zQd(h:p:=by apply qay∘qab∘V9f∘Xbk;refine J9 (Jh (Jb (Jq (Jg ?_))));apply Yhc∘Xb2;refine q_r L R zbd ?_;exact Uhg):=h
def zRd(h:p:=by rintro v U J ⟨r,rfl,hr,rfl,rfl⟩;apply qbz∘Xbs;refine q_b L R ?_;exact ⟨congrArg Value.bool (decide_eq_decide.2 hr),rfl,rfl⟩):=h
def zSd(h:p:=by rintro v U J ⟨p,S,rfl,hpk,hpl,rfl,rfl⟩;apply Xd3∘Xam;refine q_r (p.L 3 Jj ++ L) (S ++ R) zed ?_;exact ⟨p,S,rfl,hpk,hpl,rfl,rfl⟩):=h
def zTd(h:p:=by rintro v U J ⟨z,ok,y',rfl,hF,rfl,rfl⟩;apply Xba∘Xa7∘qa0;refine q_r L R zgd ?_;exact ⟨z,ok,rfl,hF,rfl,rfl⟩):=h
def zUd(h:p:=by refine K9 (Km (J6 (Jb (Jg ?_))));apply (Xcc);exact q_k ⟨(z - 1,(la,op),sw),by dsimp only;omega,by dsimp only;rw [hsu,if_neg zab],hlk,hok2⟩):=h
def zVd(h:p:=by apply (Xa8);refine q_i [cblk c x k] R ?_;exact ⟨0,k,rfl,by omega,fun _=>by omega,fun _=>rfl,hk,fun _=>⟨rfl,rfl⟩,rfl,rfl⟩):=h
def zWd(h:p:=by refine q_r L R zjd ?_;(have he:Vu S.l f.tele t=6:=by rw [Vu,if_neg hE1,hadr,if_neg hE2,if_neg za,if_pos za]);exact U0e):=h
def zXd(h:p:=by obtain ⟨y,hy,rfl⟩:=List.mem_map.1 hx;obtain ⟨p,hp,rfl⟩:=List.mem_map.1 hy;exact (hS2 p hp).mono fun r h=>Ja (by simp [h])):=h
def zYd(h:p:=by exact h2.mono fun v L'' J ⟨U,e,⟨a1,a2⟩,a3⟩=>⟨a1,by rw [← a2,yaa] at e;exact e,a3⟩):=h
def zZd(h:p:=by apply (qad);refine J9 (Jh ?_);exact qc0):=h
def zae(h:p:=by apply (Xa5);refine Jw (Ybe rfl rfl (K6g za)) rfl ?_;exact (qad∘qcs∘Xcc) Jvg):=h
def zbe(h:p:=by apply (Xaw);exact q_k ⟨k0 + 1,Zk hp0 za (by first | exact Krc hp za za | exact J5c hp za za hq za)⟩):=h
def zce(h:p:=by refine J5 (Jh (Jb (Jq (Jg ?_))));apply Xdp∘qa0;refine q_r L R zad ?_;exact Ulg):=h
def zde(h:p:=by refine J5 (Jh (Jb (Jq (Jg ?_))));apply Yhc∘Xb2;refine q_r L R zbd ?_;exact Krg):=h
def zee(h:p:=by rw [yq] at hx;obtain ⟨p,hp,rfl⟩:=Option.map_eq_some_iff.1 hx;exact (hG.ok v p hp).2):=h
def zfe(h:p:=by refine Jf [8] hT2 yd zc ?_;apply qca∘Vj;rintro v U J ⟨b26,rfl,rfl,hR26⟩;(replace hR26:=hR26.symm;subst hR26);exact (qa1∘Us) zmd):=h
def zge(h:p:=by apply qa1∘Us;refine Jf [13] hT2 yd zc ?_;apply (qca);refine Kq rfl zMb rfl rfl ?_;rintro v U J ⟨b5,rfl,rfl,hR5⟩;(replace hR5:=hR5.symm;subst hR5);exact (qa1) zmd):=h
def zhe(h:p:=by apply (qa1);refine Jf [11] hT2 yd zc ?_;apply qca∘Y6;rintro v U J ⟨b29,rfl,rfl,hR29⟩;(replace hR29:=hR29.symm;subst hR29);exact (qa1∘Us) zmd):=h
def zie(h:p:=by apply (qa1);refine Jf [3] hT2 yd zc ?_;apply qca∘Y1;rintro v U J ⟨b21,rfl,rfl,hR21⟩;(replace hR21:=hR21.symm;subst hR21);exact (qa1∘Us) zmd):=h
def zje(h:p:=by (have hbt:b=true:=by cases b with | true=>rfl | false=>simp at hc5);have hmb:=(Uha _ _ _ _ (hP.yes hbt)).1;rw [hP.yes hbt] at hpf;dsimp only at hpf;(rw [if_pos (by rw [hbt] at hc5;simp at hc5;omega)] at hpf);apply qbv∘Xaq∘qa9;refine Jv rfl (ih (m - 1) _ za za za) rfl ?_;rintro v U J ⟨f,q,b2,rfl,hP2,rfl,rfl⟩;exact zCd):=h
def zke(h:p:=by have hx:=Jp (l:=p.fans.l) (k:=k) default za;have hdb:=Vta hp hq k za;have hfo:=hp.fan _ _ hx;have hsb:=V0a hfo (p.fans.l.getD k default).state q;apply qbb∘qa3∘qdw∘qaq;intro b8;exact (Xaz∘qab) zEd):=h
def zme(h:p:=by intro hg3;replace hg3:=qb hg3;exact (qaa∘Xab) zyd):=h
def zne(h:p:=by (iterate 3 apply (qap));apply (Xbh);(iterate 4 apply (qap));exact (Xbh) znd):=h
def zoe(h:p:=by intro hg15;replace hg15:=qb hg15;(have hbt:b=true:=by cases b with | true=>rfl | false=>simp at hg15);have hmb:=(Uha _ _ _ _ (hP.yes hbt)).1;exact (Xdy) zvd):=h
def zpe(h:p:=by apply (qa1);refine Jf [5] hT26 yd zc ?_;apply qca∘Upf;rintro v U J ⟨o111,rfl,hok111,rfl,rfl⟩;exact zrd):=h
def zqe(h:p:=by apply (qa1);refine Jf [5] hT35 yd zc ?_;apply qca∘Ubf;rintro v U J ⟨o168,rfl,hok168,rfl,rfl⟩;exact zod):=h
def zre(h:p:=by intro hg9;replace hg9:=qb hg9;exact zHd):=h
def zse(h:p:=by (obtain rfl:k=p.fans.l.length:=by omega);apply qbk∘Xcz;refine q_r L R zQc ?_;exact zDd):=h
def zte(h:p:=by intro hg14;replace hg14:=qb hg14;exact zxd):=h
def zue(h:p:=by (obtain rfl:k=x.l.length:=by omega);apply Xdg∘Xam;refine q_i L R ?_;exact zDd):=h
def zve(h:p:=by apply (qa1);refine Jf [5] hT2 yd zc ?_;apply qca∘Zwa;rintro v U J ⟨r2,k2,rfl,g2,g2',hk2,he2,rfl,rfl⟩;refine ⟨zi,zt,?_⟩;exact (Zua∘Zqa) zfe):=h
def zwe(h:p:=by apply (qca);refine Kq rfl zMb rfl rfl ?_;rintro v U J ⟨b5,rfl,rfl,hR5⟩;(replace hR5:=hR5.symm;subst hR5);exact (qa1) zfe):=h
def zxe(h:p:=by apply qca∘Y6;rintro v U J ⟨b29,rfl,rfl,hR29⟩;(replace hR29:=hR29.symm;subst hR29);exact (qa1) zfe):=h
def zye(h:p:=by apply (Y1);rintro v U J ⟨b21,rfl,rfl,hR21⟩;(replace hR21:=hR21.symm;subst hR21);exact (qa1) zfe):=h
def zze(h:p:=by apply qca∘Vj;rintro v U J ⟨b26,rfl,rfl,hR26⟩;(replace hR26:=hR26.symm;subst hR26);exact zie):=h
def zAe(h:p:=by apply (Vj);rintro v U J ⟨b26,rfl,rfl,hR26⟩;(replace hR26:=hR26.symm;subst hR26);exact zge):=h
def zBe(h:p:=by apply (Vj);rintro v U J ⟨b26,rfl,rfl,hR26⟩;(replace hR26:=hR26.symm;subst hR26);exact zhe):=h
def zCe(h:p:=by apply (qca);refine Kq rfl zMb rfl rfl ?_;rintro v U J ⟨b5,rfl,rfl,hR5⟩;(replace hR5:=hR5.symm;subst hR5);exact zhe):=h
def zDe(h:p:=by apply (qca);refine Kq rfl zMb rfl rfl ?_;rintro v U J ⟨b5,rfl,rfl,hR5⟩;(replace hR5:=hR5.symm;subst hR5);exact zie):=h
def zEe(h:p:=by apply qca∘Y6;rintro v U J ⟨b29,rfl,rfl,hR29⟩;(replace hR29:=hR29.symm;subst hR29);exact zie):=h
def zFe(h:p:=by apply (Y6);rintro v U J ⟨b29,rfl,rfl,hR29⟩;(replace hR29:=hR29.symm;subst hR29);exact zge):=h
def zGe(h:p:=by apply (Y1);rintro v U J ⟨b21,rfl,rfl,hR21⟩;(replace hR21:=hR21.symm;subst hR21);exact zge):=h
def zHe(h:p:=by apply (Y1);rintro v U J ⟨b21,rfl,rfl,hR21⟩;(replace hR21:=hR21.symm;subst hR21);exact zhe):=h
def zIe(h:p:=by apply (qca);refine Kq rfl zMb rfl rfl ?_;rintro v U J ⟨b5,rfl,rfl,hR5⟩;(replace hR5:=hR5.symm;subst hR5);exact zve):=h
def zJe(h:p:=by apply qca∘Y6;rintro v U J ⟨b29,rfl,rfl,hR29⟩;(replace hR29:=hR29.symm;subst hR29);exact zve):=h
def zmb(h:p:=by exact show _=Value.bool _ from rfl):=h
def znb(h:p:=by exact show _=Value.int _ _ from rfl):=h
def zob(h:p:=by exact show _=Value.slice _ _ _ from rfl):=h
def zpb(h:p:=by exact Jr (row:=[_,_]) tb rfl rfl rfl zf zb zb):=h
def zqb(h:p:=by exact Jr (row:=[_,_,_,_,_,_,_,_,_,_,_,_,_,_,_,_,_,_,_,_,_,_,_]) tb rfl rfl rfl zf zb zb):=h
def zrb(h:p:=by exact Js (row:=[_,_,_]) tb rfl rfl rfl zf zb zb):=h
def zsb(h:p:=by exact Jr (row:=[_,_,_]) tb rfl rfl rfl zf zb zb):=h
def ztb(h:p:=by exact Jr (row:=[_,_,_,_,_]) tb rfl rfl rfl zf zb zb):=h
def zub(h:p:=by exact Js (row:=[_,_,_,_,_,_,_,_,_,_,_,_,_,_,_,_,_,_,_,_,_,_,_]) tb rfl rfl rfl zf zb zb):=h
def zvb(h:p:=by exact Js (row:=[_,_,_,_,_,_,_,_]) tb rfl rfl rfl zf zb zb):=h
def zwb(h:p:=by exact Kg zf rfl rfl):=h
def zxb(h:p:=by exact Ju (qs:=[(0,(Value.int _ _).cells.toList),(1,(Value.int _ _).cells.toList)]) (out:=[_,_]) tb rfl rfl rfl rfl rfl rfl rfl):=h
def zyb(h:p:=by exact Ju (qs:=[(0,(Value.agg _).cells.toList)]) (out:=[_,_,_]) tb rfl rfl rfl rfl rfl rfl rfl):=h
def zzb(h:p:=by exact Ue tb rfl rfl rfl):=h
def zAb(h:p:=by exact Jc _):=h
def zBb(h:p:=by exact Ju (qs:=[(0,(Value.agg _).cells.toList)]) (out:=[_,_,_,_]) tb rfl rfl rfl rfl rfl rfl rfl):=h
def zCb(h:p:=by exact Js (row:=[_,_,_,_,_]) tb rfl rfl rfl zf zb zb):=h
def zDb(h:p:=by exact Jr (row:=[_,_,_,_]) tb rfl rfl rfl zf zb zb):=h
def zEb(h:p:=by exact J8 (qs:=[(0,(Value.int _ _).cells.toList),(1,(Value.int _ _).cells.toList)]) (out:=[_,_]) tb rfl rfl rfl rfl):=h
def zFb(h:p:=by exact Ja (.head _)):=h
def zGb(h:p:=by exact Js (row:=[_,_]) tb rfl rfl rfl zf zb zb):=h
def zHb(h:p:=by exact Kz tb rfl rfl rfl zf zb):=h
def zIb(h:p:=by exact J8 (qs:=[(0,(Value.int _ _).cells.toList),(1,(Value.int _ _).cells.toList),(2,(Value.slice _ _ _).cells.toList)]) (out:=[_,_,_]) tb rfl rfl rfl rfl):=h
def zJb(h:p:=by exact J4 tb (p) rfl rfl rfl zj zg yf zg zb):=h
def zKb(h:p:=by exact Ju (qs:=[(0,(Value.agg _).cells.toList)]) (out:=[_,_]) tb rfl rfl rfl rfl rfl rfl rfl):=h
def zLb(h:p:=by exact Ju (qs:=[(0,(Value.int _ _).cells.toList)]) (out:=[_]) tb rfl rfl rfl rfl rfl rfl rfl):=h
def zMb(h:p:=by exact Kc tb rfl):=h
def zNb(h:p:=by exact show _=Value.pointer _ from rfl):=h
def zOb(h:p:=by exact J8 (qs:=[(0,(Value.slice _ _ _).cells.toList),(1,(Value.slice _ _ _).cells.toList)]) (out:=[_,_]) tb rfl rfl rfl rfl):=h
def zPb(h:p:=by exact Jca tb rfl rfl rfl):=h
def zQb(h:p:=by exact J0 rfl):=h
def zRb(h:p:=by exact Jz rfl):=h
def zSb(h:p:=by exact J9a c.target (s.sensors.l.length:Int) _ _):=h
def zTb(h:p:=by exact J8 (qs:=[(0,(Value.agg _).cells.toList),(1,(Value.slice _ _ _).cells.toList),(2,(Value.slice _ _ _).cells.toList),(4,(Value.slice _ _ _).cells.toList)]) (out:=[_,_,_,_,_,_,_,_]) tb rfl rfl rfl rfl):=h
def zUb(h:p:=by exact Vh (f:=blc) (x:=false) rfl _):=h
def zVb(h:p:=by exact J8 (qs:=[]) (out:=[_,_,_]) tb rfl rfl rfl rfl):=h
def zWb(h:p:=by exact Js (row:=[_,_,_,_,_,_,_,_,_,_]) tb rfl rfl rfl zf zb zb):=h
def zXb(h:p:=by exact K5 rfl rfl):=h
def zYb(h:p:=by exact J8 (qs:=[(0,(Value.agg _).cells.toList)]) (out:=[_,_,_,_]) tb rfl rfl rfl rfl):=h
def zZb(h:p:=by exact Y3 tb rfl rfl rfl rfl rfl rfl rfl za za):=h
def zac(h:p:=by exact J8 (qs:=[(1,(Value.bool _).cells.toList)]) (out:=[_,_]) tb rfl rfl rfl rfl):=h
def zbc(h:p:=by exact J8 (qs:=[(0,(Value.int _ _).cells.toList),(1,(Value.int _ _).cells.toList),(2,(Value.int _ _).cells.toList)]) (out:=[_,_,_]) tb rfl rfl rfl rfl):=h
def zcc(h:p:=by exact Jo tb ((⟨pc.o,cl⟩:OwL XCut)) _ rfl rfl rfl rfl zg (i:=k4) zk zp):=h
def zdc(h:p:=by exact Ja (.tail _ (.head _))):=h
def zec(h:p:=by exact Ju (qs:=[(0,(Value.agg _).cells.toList),(1,(Value.agg _).cells.toList)]) (out:=[_,_,_,_]) tb rfl rfl rfl rfl rfl rfl rfl):=h
def zfc(h:p:=by exact Zp rfl rfl):=h
def zgc(h:p:=by exact J8 (qs:=[(0,(Value.bool _).cells.toList),(1,(Value.int _ _).cells.toList)]) (out:=[_,_,_]) tb rfl rfl rfl rfl):=h
def zhc(h:p:=by exact show K1 s=K1 s' from h):=h
def zic(h:p:=by exact Ju (qs:=[(0,(Value.agg _).cells.toList)]) (out:=[_,_,_,_,_,_,_,_,_,_]) tb rfl rfl rfl rfl rfl rfl rfl):=h
def zjc(h:p:=by exact Uu c.level _ _):=h
def zkc(h:p:=by exact Jo tb (p) _ rfl rfl rfl rfl zg (i:=s.toNat) zk zp):=h
def zlc(h:p:=by exact J9a c.target (s.air.mine.roads.l.length:Int) _ _):=h
def zmc(h:p:=by exact Vkd (p.fans.l.getD k default).fan (p.fans.l.getD k default).state q _ _ (hm.blow hx) hfo hq):=h
def znc(h:p:=by exact Ju (qs:=[(0,(Value.agg _).cells.toList)]) (out:=[_,_,_,_,_]) tb rfl rfl rfl rfl rfl rfl rfl):=h
def zoc(h:p:=by exact Jp default za):=h
def zpc(h:p:=by exact Jza x _ _ (.of hI hx) hR):=h
def zqc(h:p:=by exact Z0b (⟨s,t,h,x.dropped,pm.arr,w2,c2,f2,(Jk g p t).rest,q.arr⟩:XSta) g.air _ _ hv2 hA2):=h
def zrc(h:p:=by exact J4 tb ((⟨.own b75 pl.l.length [],nl⟩:OwL Int)) rfl rfl rfl zj zg yf zg zb):=h
def zsc(h:p:=by exact J4 tb ((⟨.own b13 l.l.length [],vs⟩:OwL Int)) rfl rfl rfl zj zg yf zg zb):=h
def ztc(h:p:=by exact Kt (f:=XSwitch.cells) (xs:=f.switches) tb rfl rfl rfl ze rfl rfl (hsR) yf za):=h
def zuc(h:p:=by exact Js (row:=[_,_,_,_]) tb rfl rfl rfl zf zb zb):=h
def zvc(h:p:=by exact Y0a rfl rfl):=h
def zwc(h:p:=by exact show _=R1 by rw [hR1e]):=h
def zxc(h:p:=by exact show 0 ≤ -q by omega):=h
def zyc(h:p:=by exact show _=clL b8 b5 b3 n o10 ps.l u L (ps.l.getD u.toNat 0) from by rw [clL,Zia];rfl):=h
def zzc(h:p:=by exact Jnb p (ps.l.getD p.road.fr.toNat 0 - ps.l.getD p.road.to.toNat 0) _ _ hpI hE.ok):=h
def zAc(h:p:=by exact Y7a p (ps.l.getD p.road.fr.toNat 0 - ps.l.getD p.road.to.toNat 0) _ _ hpI hE.ok):=h
def zBc(h:p:=by exact J8 (qs:=[(0,(Value.int _ _).cells.toList)]) (out:=[_,_,_,_]) tb rfl rfl rfl rfl):=h
def zCc(h:p:=by exact Vh (f:=XSpan.cells) (x:=⟨0,0⟩) rfl _):=h
def zDc(h:p:=by exact K0b (e:=3) tb rfl zc rfl rfl rfl rfl rfl):=h
def zEc(h:p:=by exact J8 (qs:=[(0,(Value.int _ _).cells.toList)]) (out:=[_,_]) tb rfl rfl rfl rfl):=h
def zFc(h:p:=by exact Kwb rfl rfl):=h
def zGc(h:p:=by exact J8 (qs:=[(0,(Value.int _ _).cells.toList)]) (out:=[_]) tb rfl rfl rfl rfl):=h
def zHc(h:p:=by exact Jl tb rfl rfl rfl rfl (i:=(a.mine.roads.l.getD k default).fr.toNat) zk za):=h
def zIc(h:p:=by exact Jl tb rfl rfl rfl rfl (i:=(a.mine.roads.l.getD k default).to.toNat) zk za):=h
def zJc(h:p:=by exact Kt (f:=Jj) (xs:=f.zones) tb rfl rfl rfl ze rfl rfl (hzR) yf za):=h
def zKc(h:p:=by exact Jl tb rfl rfl rfl rfl (i:=(a.fans.l.getD k default).road.toNat) zk za):=h
def zLc(h:p:=by exact Jl tb rfl rfl rfl rfl (i:=(m.roads.l.getD k default).fr.toNat) zk za):=h
def zMc(h:p:=by exact Jl tb rfl rfl rfl rfl (i:=(m.roads.l.getD k default).to.toNat) zk za):=h
def zNc(h:p:=by exact Kt (f:=Z9) (xs:=l) tb rfl rfl rfl ze rfl rfl (hlR) yf za):=h
def zOc(h:p:=by exact Y2a rfl rfl):=h
def zPc(h:p:=by exact Ji znb):=h
def zQc(h:p:=by exact Vs rfl zpb):=h
def zRc(h:p:=by exact Ji zob):=h
def zSc(h:p:=by exact Jo tb ((⟨.own b20 a.mine.roads.l.length [],l⟩:OwL XSpan)) _ rfl rfl ((show _=Value.slice _ _ _ from rfl).trans (K6 hll)) rfl zg (i:=P.num.toNat) zk zp):=h
def zTc(h:p:=by exact Ji zmb):=h
def zUc(h:p:=by exact Jo tb ((⟨o26,O⟩:OwL XSpan)) _ rfl rfl ((show _=Value.slice _ _ _ from rfl).trans (by simp only [OwL.val,z1])) rfl zg (i:=s.target.toNat) zk zp):=h
def zVc(h:p:=by exact Jo tb ((⟨.own b29 fl.l.length [],G⟩:OwL Bool)) _ rfl rfl ((show _=Value.slice _ _ _ from rfl).trans (K6 z2)) rfl zg (i:=s.target.toNat) zk zp):=h
def zWc(h:p:=by exact Jo tb ((⟨.own b13 l.l.length [],vs⟩:OwL Int)) _ rfl rfl ((show _=Value.slice _ _ _ from rfl).trans (K6 hvl)) rfl zg (i:=x.left.toNat) zk zp):=h
def zXc(h:p:=by exact Jo tb ((⟨.own b13 l.l.length [],vs⟩:OwL Int)) _ rfl rfl ((show _=Value.slice _ _ _ from rfl).trans (K6 hvl)) rfl zg (i:=k) zk zp):=h
def zYc(h:p:=by exact Jo tb ((⟨.own b w.l.length [],vs⟩:OwL Int)) _ rfl rfl ((show _=Value.slice _ _ _ from rfl).trans (K6 hvl)) rfl zg (i:=k) zk zp):=h
def zZc(h:p:=by exact Jz zob):=h
def zad(h:p:=by exact Ulb rfl zPc zPc zTc):=h
def zbd(h:p:=by exact U3 rfl zsb zPc):=h
def zcd(h:p:=by exact U3 rfl zqb zPc):=h
def zdd(h:p:=by exact U3 rfl ztb zPc):=h
def zed(h:p:=by exact U3 rfl zRc zPc):=h
def zfd(h:p:=by exact Ulb rfl zRc zRc zPc):=h
def zgd(h:p:=by exact U3 rfl zPc zTc):=h
def zhd(h:p:=by exact Vs rfl zRc):=h
def zid(h:p:=by exact U3 rfl zPc zPc):=h
def zjd(h:p:=by exact U3 rfl zDb zPc):=h
def zkd(h:p:=by exact Vs rfl zPc):=h
def zld(h:p:=by exact Uyf rfl ztb zRc zsb zPc):=h
def zA(h:p:=by repeat (first | apply USeg.here | apply USeg.cons | apply USeg.app)):=h
def zAa(h:p:=by dsimp only;rw [Kk,Kk];exact yt _):=h
def zB(h:p:=by simp only [maxLen];omega):=h
def zBa(h:p:=by rw [hR1e];exact .tail _ (.tail _ (.head _))):=h
def zC(h:p:=by repeat (first | apply zu0 | apply zu1 | apply zu2)):=h
def zCa(h:p:=by rw [hR2e];exact .tail _ (.tail _ (.head _))):=h
def zD(h:p:=by first | exact Jd tb rfl rfl rfl rfl zu (i:=k) zk za | exact Jl tb rfl rfl rfl rfl (i:=k) zk za):=h
def zDa(h:p:=by dsimp only;rw [yV];omega):=h
def zE(h:p:=by simp;omega):=h
def zEa(h:p:=by rw [hR2e];exact .tail _ (.head _)):=h
def zF(h:p:=by simpa using hc0):=h
def zFa(h:p:=by simp only [yv];rfl):=h
def zG(h:p:=by repeat (first | exact V0 | apply V8 | apply Zd)):=h
def zGa(h:p:=by first | exact Vzb rfl rfl za za za | exact Upc rfl rfl za za za | exact Kuc rfl rfl za):=h
def zH(h:p:=by cases h):=h
def zHa(h:p:=by first | exact Vnc rfl rfl za za | exact Ksd rfl rfl za za | exact Z8c rfl rfl):=h
def zI(h:p:=by simp [hr]):=h
def zIa(h:p:=by first | exact Vcd rfl rfl za za | exact V8d rfl rfl za):=h
def zJ(h:p:=by repeat (first | apply Off.upd rfl | apply Off.havoc rfl | refine Off.updL (t':=havoc _ _ _) rfl ?_ | exact Off.refl)):=h
def zJa(h:p:=by first | exact Vwb rfl rfl za za | exact Yxd rfl rfl):=h
def zK(h:p:=by (try dsimp only);omega):=h
def zKa(h:p:=by first | exact Jd tb rfl rfl rfl rfl zu (i:=f.curve.l.length - 1) zk za | exact Jl tb rfl rfl rfl rfl (i:=f.curve.l.length - 1) zk za):=h
def zL(h:p:=by simpa using hc1):=h
def zLa(h:p:=by first | exact K4 (row:=[_,_,_,_]) tb rfl rfl rfl zu zg zb zb | exact Js (row:=[_,_,_,_]) tb rfl rfl rfl zf zb zb):=h
def zM(h:p:=by first | (cases h;done) | (have h':=of_decide_eq_true h;omega) | (have h':=of_decide_eq_false h;omega) | omega):=h
def zMa(h:p:=by first | exact K4 (row:=[_,_]) tb rfl rfl rfl zu zg zb zb | exact Js (row:=[_,_]) tb rfl rfl rfl zf zb zb):=h
def zN(h:p:=by first | exact V1 rfl rfl | exact Vf rfl rfl | exact Upa rfl):=h
def zNa(h:p:=by first | exact Jd tb rfl rfl rfl rfl zu (i:=s.toNat) zk za | exact Jl tb rfl rfl rfl rfl (i:=s.toNat) zk za):=h
def zO(h:p:=by simpa using hc2):=h
def zOa(h:p:=by first | exact Jd tb rfl rfl rfl rfl zu (i:=k1) zk za | exact Jl tb rfl rfl rfl rfl (i:=k1) zk za):=h
def zP(h:p:=by simp only [yA] at hm;omega):=h
def zPa(h:p:=by first | exact Jd tb rfl rfl rfl rfl zu (i:=k2) zk za | exact Jl tb rfl rfl rfl rfl (i:=k2) zk za):=h
def zQ(h:p:=by (repeat (first | apply List.Sublist.cons (a:=Blk.mk b4 _ _) | apply List.Sublist.cons_cons));exact yt _):=h
def zQa(h:p:=by first | exact Jd tb rfl rfl rfl rfl zu (i:=j) zk za | exact Jl tb rfl rfl rfl rfl (i:=j) zk za):=h
def zR(h:p:=by simpa using h):=h
def zRa(h:p:=by first | exact Jd tb rfl rfl rfl rfl zu (i:=0) zk za | exact Jl tb rfl rfl rfl rfl (i:=0) zk za):=h
def zS(h:p:=by dsimp only;rw [Kk,yv];exact zi):=h
def zSa(h:p:=by repeat (first | exact Off.refl | apply Off.upd rfl | apply Off.havoc rfl | apply Off.updL rfl | apply Off.left rfl | apply Off.leftu rfl)):=h
def zTa(h:p:=by repeat (first | exact zs0 _ | exact zs1 _ | exact yGa _ _ | apply zs2 | apply zs3 | apply zs4 | apply zs5)):=h
def zU(h:p:=by exact K1a yf zg ze):=h
def zUa(h:p:=by (repeat (first | apply List.Sublist.cons (a:=Blk.mk b101 _ _) | apply List.Sublist.cons_cons));exact yt _):=h
def zV(h:p:=by first | exact Jd tb rfl rfl rfl rfl zu (i:=i) zk za | exact Jl tb rfl rfl rfl rfl (i:=i) zk za):=h
def zVa(h:p:=by (repeat (first | apply List.Sublist.cons (a:=Blk.mk b18 _ _) | apply List.Sublist.cons_cons));exact yt _):=h
def zW(h:p:=by dsimp only;rw [Kk,yv];exact yt _):=h
def zWa(h:p:=by (repeat (first | apply List.Sublist.cons (a:=Blk.mk b7 _ _) | apply List.Sublist.cons_cons));exact yt _):=h
def zX(h:p:=by simp only [yA] at hfu;omega):=h
def zXa(h:p:=by dsimp only;first | (rw [K7b hc0];exact yt _) | (rw [Upb hc0];exact yt _)):=h
def zY(h:p:=by first | exact Vaa | rfl):=h
def zYa(h:p:=by first | (simp at hc2;rw [Zt];omega) | (simp at hg8;rw [Zt];omega)):=h
def zZ(h:p:=by rw [hc2];decide):=h
def zZa(h:p:=by simp only [yA,yl] at hfu ⊢;omega):=h
def za(h:p:=by omega):=h
def zaa(h:p:=by simpa using hc4):=h
def zab(h:p:=by rintro ⟨h1,h2⟩;first | omega | (rw [h1] at hg5;cases hg5)):=h
def zb(h:p:=by rfl):=h
def zba(h:p:=by rw [Z8];omega):=h
def zbb(h:p:=by first | exact K4 (row:=[_,_,_,_,_,_,_,_,_,_]) tb rfl rfl rfl zu zg zb zb | exact Js (row:=[_,_,_,_,_,_,_,_,_,_]) tb rfl rfl rfl zf zb zb):=h
def zc(h:p:=by kernel_rfl):=h
def zca(h:p:=by first | exact Uta za | rfl):=h
def zcb(h:p:=by first | exact Jd tb rfl rfl rfl rfl zu (i:=(q.l.getD k 0).toNat) zk za | exact Jl tb rfl rfl rfl rfl (i:=(q.l.getD k 0).toNat) zk za):=h
def zda(h:p:=by first | exact K4 (row:=[_,_,_,_,_,_,_,_]) tb rfl rfl rfl zu zg zb zb | exact Js (row:=[_,_,_,_,_,_,_,_]) tb rfl rfl rfl zf zb zb):=h
def zdb(h:p:=by first | exact K4 (row:=[_,_,_,_,_,_]) tb rfl rfl rfl zu zg zb zb | exact Js (row:=[_,_,_,_,_,_]) tb rfl rfl rfl zf zb zb):=h
def ze(h:p:=by decide):=h
def zea(h:p:=by first | exact Jd tb rfl rfl rfl rfl zu (i:=k0) zk za | exact Jl tb rfl rfl rfl rfl (i:=k0) zk za):=h
def zeb(h:p:=by first | exact Jd tb rfl rfl rfl rfl zu (i:=r.zone.toNat) zk za | exact Jl tb rfl rfl rfl rfl (i:=r.zone.toNat) zk za):=h
def zf(h:p:=by repeat (first | exact zi0 | apply zi1 | apply zi2)):=h
def zfa(h:p:=by first | (simp only [yv];done) | (simp only [yv];rfl)):=h
def zfb(h:p:=by first | exact K4 (row:=[_,_,_]) tb rfl rfl rfl zu zg zb zb | exact Js (row:=[_,_,_]) tb rfl rfl rfl zf zb zb):=h
def zg(h:p:=by assumption):=h
def zga(h:p:=by simp only [XFrame.tele];omega):=h
def zgb(h:p:=by first | exact Jd tb rfl rfl rfl rfl zu (i:=n.toNat) zk za | exact Jl tb rfl rfl rfl rfl (i:=n.toNat) zk za):=h
def zh(h:p:=by repeat' (first | exact trivial | refine And.intro rfl ?_)):=h
def zha(h:p:=by rw [yK];omega):=h
def zhb(h:p:=by first | exact Jd tb rfl rfl rfl rfl zu (i:=a.toNat) zk za | exact Jl tb rfl rfl rfl rfl (i:=a.toNat) zk za):=h
def zi(h:p:=by repeat (first | exact zs0 _ | exact zs1 _ | apply zs2 | apply zs3 | apply zs4 | apply zs5)):=h
def zia(h:p:=by rw [hR1e];exact .head _):=h
def zib(h:p:=by first | exact Jd tb rfl rfl rfl rfl zu (i:=p.toNat) zk za | exact Jl tb rfl rfl rfl rfl (i:=p.toNat) zk za):=h
def zj(h:p:=by repeat (first | apply OSeg.cons | exact OSeg.here | exact OSeg.last | exact OSeg.at zg | apply OSeg.app)):=h
def zja(h:p:=by simp at hc0;omega):=h
def zjb(h:p:=by first | exact Jd tb rfl rfl rfl rfl zu (i:=k - 1) zk za | exact Jl tb rfl rfl rfl rfl (i:=k - 1) zk za):=h
def zk(h:p:=by first | rfl | omega | (simp;omega)):=h
def zka(h:p:=by simpa using hc3):=h
def zkb(h:p:=by first | exact Jd tb rfl rfl rfl rfl zu (i:=k + 1) zk za | exact Jl tb rfl rfl rfl rfl (i:=k + 1) zk za):=h
def zla(h:p:=by simp;exact hll):=h
def zlb(h:p:=by first | exact Jd tb rfl rfl rfl rfl zu (i:=1) zk za | exact Jl tb rfl rfl rfl rfl (i:=1) zk za):=h
def zm(h:p:=by repeat (first | exact Off.refl | apply Off.upd rfl | apply Off.havoc rfl | apply Off.updL rfl | apply Off.left rfl)):=h
def zma(h:p:=by first | exact Jka tb rfl rfl rfl zu zg zb | exact Kz tb rfl rfl rfl zf zb | exact Kz tb rfl rfl rfl zf (Uxa zg) | exact Kz tb rfl rfl rfl zf (K8a yf zg rfl)):=h
def zna(h:p:=by (repeat (first | apply List.Sublist.cons (a:=Blk.mk b12 _ _) | apply List.Sublist.cons (a:=Blk.mk b14 _ _) | apply List.Sublist.cons_cons));exact yt _):=h
def zo(h:p:=by simp):=h
def zoa(h:p:=by rw [yr,yn,yr];exact .tail _ hr):=h
def zp(h:p:=by first | omega | (dsimp only;omega) | (dsimp only;rw [yK];omega) | (dsimp only;simp only [yK];omega)):=h
def zpa(h:p:=by dsimp only;rw [← Vh (f:=Jj) (x:=(0:Int)) rfl];exact yt _):=h
def zq(h:p:=by simp only [Kk,yv];rfl):=h
def zqa(h:p:=by simp only [yna];exact .inr (List.mem_append.1 h)):=h
def zra(h:p:=by rw [hR1e];exact .tail _ (.head _)):=h
def zsa(h:p:=by rw [ytb,ha]):=h
def zt(h:p:=by first | exact Jc _ | assumption | exact (fun r h=>Ja (by simp [h]))):=h
def zta(h:p:=by rw [hR2e];exact .head _):=h
def zu(h:p:=by first | assumption | exact zr zo):=h
def zua(h:p:=by first | exact Uea tb rfl rfl rfl za za | exact Vxa tb rfl rfl rfl za za | exact Kra tb rfl rfl rfl):=h
def zva(h:p:=by first | exact V5b rfl rfl za za | exact V6c rfl rfl za za | exact J3c rfl rfl):=h
def zw(h:p:=by repeat (first | exact yua _ | refine pm0 ?_ | refine pm1 ?_ | refine pm2 ?_ | refine pm3 ?_)):=h
def zwa(h:p:=by dsimp only;rw [hst];first | exact zh | (rw [← ydc];exact zh)):=h
def zx(h:p:=by dsimp only;omega):=h
def zxa(h:p:=by first | exact Jd tb rfl rfl rfl rfl zu (i:=z.toNat) zk za | exact Jl tb rfl rfl rfl rfl (i:=z.toNat) zk za):=h
def zy(h:p:=by first | omega | (simp only [yA,yda,yl];omega)):=h
def zya(h:p:=by first | exact Jd tb rfl rfl rfl rfl zu rfl za | exact Jl tb rfl rfl rfl rfl rfl za):=h
def zza(h:p:=by first | (simp at hc1;rw [Zt];omega) | (simp at hg6;rw [Zt];omega)):=h
inductive BT where
 | ty (t:TypeId)
 | mp (es:Array MapEntry) (clock:Nat)
instance:Coe TypeId BT:=⟨.ty⟩
instance (n:Nat):OfNat BT n:=⟨.ty n⟩
structure Blk where
 b:Nat
 cs:List Value
 T:BT
def BT.obj (cs : List Value) : BT → Obj
 | .ty t=>.cells cs.toArray t (0,0)
 | .mp es ck=>.map es ck
inductive Sl where
 | mk (wd:Nat) (a:Option Addr) (len cap:Nat) (rows:List (List Value)) (subs:List Sl)
def adB (a:Option Addr):Nat:=match a with | some x=>x.block | none=>0
def adO (a:Option Addr):Nat:=match a with | some x=>x.off | none=>0
def eo (a:Option Addr) (wd i j:Nat):Nat:=adO a + i * wd + j
inductive Rep (w : World) (G : Nat → Prop) : Sl → Prop
 | mk {wd a len cap rows subs} (hl : rows.length = len) (hc : len ≤ cap) (hm : cap < 9223372036854775808) (hw : ∀ r ∈ rows, r.length = wd)
  (hr:rows=[]∨∃b off,a=some ⟨b,off,none⟩∧G b∧∀i j,i < len→j < wd→w.cell? ⟨b,off + i * wd + j,none⟩=(rows[i]?).bind (·[j]?))
  (hs:∀s∈subs,Rep w G s):Rep w G (.mk wd a len cap rows subs)
inductive Sub (s : Sl) : Sl → Prop
 | here:Sub s s
 | deep {wd a len cap rows subs x} (h:x∈subs) (k:Sub s x):Sub s (.mk wd a len cap rows subs)
def InR (s:Sl) (R:List Sl):Prop:=∃r∈R,Sub s r
def Rep.mono {w w':World} {G G':Nat→Prop} (hG:∀b,G b→G' b) (hw:∀b,G b→w'.heap[b]?=w.heap[b]?) {s:Sl} (h:Rep w G s):Rep w' G' s:=by
 induction h with
 | mk hl hc hm hw2 hr hs ih=>
  refine .mk hl hc hm hw2 ?_ ih;rcases hr with h | ⟨b,off,ha,hb,J1b⟩;·exact .inl h
  ·refine .inr ⟨b, off, ha, hG b hb, fun i j hi hj => ?_⟩;rw [← J1b i j hi hj];exact World.cell?_of_block (w:=w) (hw b hb)
def Rep.sub {w:World} {G:Nat→Prop} {s r:Sl} (h:Rep w G r) (k:Sub s r):Rep w G s:=by
 induction k with
 | here=>exact h
 | deep hx _ ih=>cases h with | mk _ _ _ _ _ hs=>exact ih (hs _ hx)
structure Holds (L:List Blk) (G:Nat→Prop) (R:List Sl) (w:World):Prop where
 nd:(L.map (·.b)).Nodup
 own:∀e∈L,w.heap[e.b]?=some (e.T.obj e.cs)
 ng:∀e∈L,¬ G e.b
 gs:∀b,G b→b < w.heap.size
 rep:∀r∈R,Rep w G r
structure Ctx where
 w0:World
 own0:Nat→Prop
 G0:Nat→Prop
structure Keep (c:Ctx) (w:World):Prop where
 os:w.os=c.w0.os
 tape:w.tape=c.w0.tape
 output:w.output=c.w0.output
 size:c.w0.heap.size≤w.heap.size
 block:∀b,b < c.w0.heap.size→¬ c.own0 b→w.heap[b]?=c.w0.heap[b]?
 frz:∀a,w.frozen? a=c.w0.frozen? a
structure St (c:Ctx) (L:List Blk) (R:List Sl) (w:World):Prop where
 G:∃G,Holds L G R w∧∀b,G b→c.G0 b∨c.w0.heap.size≤b∨c.own0 b
 own:∀e∈L,c.own0 e.b∨c.w0.heap.size≤e.b
 keep:Keep c w
def inL (L:List Blk) (b:Nat):Prop:=∃e∈L,e.b=b
def St.init {L:List Blk} {G:Nat→Prop} {R:List Sl} {w:World} (h:Holds L G R w):St ⟨w,inL L,G⟩ L R w:=
 ⟨⟨G,h,fun _ hb=>.inl hb⟩,fun e he=>.inl ⟨e,he,rfl⟩,⟨rfl,rfl,rfl,ym _,fun _ _ _=>rfl,fun _=>rfl⟩⟩
def Holds.lt {L G R w} (h:Holds L G R w) {e:Blk} (he:e∈L):e.b < w.heap.size:=by
 have:=h.own e he;rcases yk e.b w.heap.size with h' | h';·exact h'
 ·simp [yF h'] at this
def St.trans {c : Ctx} {L U : List Blk} {R J : List Sl} {G : Nat → Prop} {w w' : World} (h : St c L R w)
 (hG:∀b,G b→c.G0 b∨c.w0.heap.size≤b∨c.own0 b) (k:St ⟨w,inL L,G⟩ U J w'):St c U J w':=by
 obtain ⟨⟨G',hh,hg⟩,ho,hk⟩:=k;have inl:∀b,inL L b→c.own0 b∨c.w0.heap.size≤b:=fun b ⟨e,he,hb⟩=>hb ▸ h.own e he;have hsz:=h.keep.size;refine ⟨⟨G',hh,fun b hb=>?_⟩,fun e he=>?_,⟨hk.os.trans h.keep.os,hk.tape.trans h.keep.tape,hk.output.trans h.keep.output,ysa hsz hk.size,fun b hb hn=>?_,fun a=>(hk.frz a).trans (h.keep.frz a)⟩⟩;·
  rcases hg b hb with h1 | h1 | h1;·exact hG b h1
  ·exact .inr (.inl (ysa hsz h1))
  ·
   rcases inl b h1 with h2 | h2;·exact .inr (.inr h2)
   ·exact .inr (.inl h2)
 ·
  rcases ho e he with h1 | h1;·exact inl _ h1
  ·exact .inr (ysa hsz h1)
 ·
  rw [hk.block b (ylb hb hsz) (fun hi => ?_), h.keep.block b hb hn];rcases inl b hi with h2 | h2;·exact hn h2
  ·exact absurd h2 (Nat.not_le.2 hb)
def St.weak {c:Ctx} {L U:List Blk} {R J:List Sl} {w:World} (h:St c L R w) (hL:U.Sublist L) (hR:∀r∈J,InR r R):St c U J w:=by obtain ⟨⟨G,hh,hg⟩,ho,hk⟩:=h;refine ⟨⟨G,⟨hh.nd.sublist (hL.map _),fun e he=>hh.own e (hL.subset he),fun e he=>hh.ng e (hL.subset he),hh.gs,fun r hr=>?_⟩,hg⟩,fun e he=>ho e (hL.subset he),hk⟩;obtain ⟨r',hr',hs⟩:=hR r hr;exact (hh.rep r' hr').sub hs
def ev (t : Nat → Value) : Operand → Value
 | .tmp k=>t k
 | .const v=>v
 | .global g=>.pointer (some ⟨g,0,none⟩)
 | .func f=>.func (.func f) #[] #[]
def Kce {k d:Nat} (h:¬ k=d):Nat.beq k d=false:=by
 cases hb:Nat.beq k d with
 | false=>rfl
 | true=>exact absurd (ymb hb) h
def upd (t:Nat→Value) (d:Nat) (v:Value):Nat→Value:=fun k=>bif Nat.beq k d then v else t k
def Jlc (t:Nat→Value) (d:Option Tmp) (v:Value):Nat→Value:=
 match d with
 | some d=>upd t d v
 | none=>t
def dOk (n:Nat) (d:Option Tmp):Bool:=
 match d with
 | some d=>Nat.blt d n
 | none=>true
structure Fr (n:Nat) (t:Nat→Value) (a:Act):Prop where
 defers:a.defers=[]
 size:a.tmps.size=n
 val:∀k,a.tmps.getD k undef=t k
def Fr.eval {n t a} (h:Fr n t a):a.eval=ev t:=by
 funext x;cases x with
 | tmp k=>exact h.val k
 | _=>rfl
def Fr.put {n t a} (h:Fr n t a) {d:Option Tmp} (hd:dOk n d=true) (v:Value):Fr n (Jlc t d v) (a.put d v):=by
 cases d with
 | none=>exact h
 | some d=>
  have hlt:d < n:=by simpa [dOk] using hd
  refine ⟨h.defers,by simp [Act.put,h.size],fun k=>?_⟩;have hv:=h.val k;simp only [Act.put,Jlc,upd];by_cases hk:k=d;·subst hk;(have:k < a.tmps.size:=by rw [h.size];exact hlt);simp [this]
  ·have : Nat.beq k d = false := Kce hk;rw [this,cond_false,← hv];simp [yqa (yic hk)]
def J2c (all:Array Oper) (t:Nat→Value) (j:Nat):Option Bool:=
 match (all[j]?).bind (·.dst) with
 | some d=>match t d with
  | .bool b=>some b
  | _=>none
 | none=>none
def Yq (all:Array Oper) (t:Nat→Value) (g:Option (Nat×Bool)):Bool:=
 match g with
 | none=>true
 | some (j,want)=>J2c all t j == some want
def Fr.wanted {n t a} (h:Fr n t a) (all:Array Oper) (o:Oper):Region.wanted o (yielded all a.tmps)=Yq all t o.guard:=by
 unfold Region.wanted Yq;cases hg:o.guard with
 | none=>rfl
 | some p=>
  obtain ⟨j,want⟩:=p;have:yielded all a.tmps j=J2c all t j:=by
   unfold yielded J2c;cases hd:(all[j]?).bind (·.dst) with
   | none=>rfl
   | some d=>
    have hv:=h.val d;simp only [yJa];rcases yk d a.tmps.size with h' | h';·(have e : a.tmps[d]? = some (t d) := by rw [← hv]; simp [h']);rw [e];cases t d <;> rfl
    ·have e : a.tmps[d]? = none := yF h';(have e2:t d=undef:=by rw [← hv];simp [e]);rw [e,e2];rfl
  simp only [this]
abbrev Kw:=Exit→(Nat→Value)→List Blk→List Sl→Prop
def NP : Exit → Prop
 | .panic _=>False
 | _=>True
def Zra (n:Nat) (c:Ctx) (K:Kw):Exit→Act→World→Prop:=
 fun e a w=>NP e∧∃t L R,K e t L R∧Fr n t a∧St c L R w
def CJ (P:Program) (n:Nat) (code:Code) (t:Nat→Value) (L:List Blk) (R:List Sl) (Q:Kw):Prop:=
 ∀c a w,Fr n t a→St c L R w→code.wp P (Zra n c Q) a w
def LJ (P:Program) (n:Nat) (all:Array Oper) (ops:List Oper) (t:Nat→Value) (L:List Blk) (R:List Sl) (Q:Kw):Prop:=
 ∀c a w,Fr n t a→St c L R w→wpList P all (Zra n c Q) ops a w
abbrev Ys:=Value→List Blk→List Sl→Prop
def Tri (P:Program) (f:FuncId) (args:Array Value) (L:List Blk) (R:List Sl) (Post:Ys):Prop:=
 (∀(xs:Array Value) (w:World),(callFunc f xs).run P w=.ok (.enter f xs) w)∧
 ∀(w:World) (G:Nat→Prop),Holds L G R w→Calls P f args w fun e w'=>∃v U J,e=.returned v∧Post v U J∧St ⟨w,inL L,G⟩ U J w'
def Tri.mono {P f args L R} {Post Post':Ys} (h:Tri P f args L R Post) (k:∀v U J,Post v U J→Post' v U J):Tri P f args L R Post':=
 ⟨h.1,fun w G hh=>(h.2 w G hh).mono fun _ _ ⟨v,U,J,e,p,s⟩=>⟨v,U,J,e,k _ _ _ p,s⟩⟩
def Gives (P:Program) (op:Oper) (ρ:Operand→Value) (L:List Blk) (R:List Sl) (Post:Ys):Prop:=
 ∀(c:Ctx) (w:World),St c L R w→∀(a:Act) (next:Act→World→Prop) (Q:Exit→Act→World→Prop),
  (∀v U J w',Post v U J→St c U J w'→next (a.put op.dst v) w')→op.upon P a next Q ((execOp ρ op).run P w)
def YV (P:Program) (op:Oper) (ρ:Operand→Value) (L:List Blk) (R:List Sl) (v:Value):Prop:=
 ∀(c:Ctx) (w:World),St c L R w→(execOp ρ op).run P w=.ok (.value v) w
def YV.gives {P op ρ L R v} (h:YV P op ρ L R v):Gives P op ρ L R (fun v' U J=>v'=v∧U=L∧J=R):=by exact ubw
def J9 {P n all t L R} {Q:Kw} (h:Q .normal t L R):LJ P n all [] t L R Q:=
 fun _ _ _ hf hs=>⟨trivial,t,L,R,h,hf,hs⟩
def V4b {P n all o rest t L R} {Q : Kw} {Post : Ys} (hg : Gives P o (ev t) L R Post) (hw : Yq all t o.guard = true) (hd : dOk n o.dst = true)
 (h:∀v U J,Post v U J→LJ P n all rest (Jlc t o.dst v) U J Q):LJ P n all (o :: rest) t L R Q:=by intro c a w hf hs;unfold wpList;rw [hf.wanted,hw,if_pos rfl];refine .inl ?_;unfold Oper.wp;rw [hf.eval];exact hg c w hs a _ _ fun v U J w' hp hs'=>h v U J hp c _ w' (hf.put hd v) hs'
def Vsd {P n all o rest t L R} {Q : Kw} {v : Value} (hv : YV P o (ev t) L R v) (hw : Yq all t o.guard = true) (hd : dOk n o.dst = true)
 (h:LJ P n all rest (Jlc t o.dst v) L R Q):LJ P n all (o :: rest) t L R Q:=
 V4b hv.gives hw hd fun _ _ _ ⟨e1,e2,e3⟩=>by subst e1;subst e2;subst e3;exact h
def U0f {P n all o rest t L R} {Q : Kw} (hw : Yq all t o.guard = false) (hd : dOk n o.dst = true)
 (h:LJ P n all rest (Jlc t o.dst undef) L R Q):LJ P n all (o :: rest) t L R Q:=by intro c a w hf hs;unfold wpList;rw [hf.wanted,hw,if_neg zo];exact h c _ w (hf.put hd _) hs
def Uza {P dst f xs ts pos after guard ty ρ L R args} {Post : Ys} (ha : xs.map ρ = args) (hρ : ρ (.func f) = .func (.func f) #[] #[])
 (h:Tri P f args L R Post):Gives P ⟨dst,.call ⟨.value (.func f),xs,ts⟩,ty,pos,after,guard⟩ ρ L R Post:=by
 intro x w hs a next Q k
 have hrun:(execOp ρ ⟨dst,.call ⟨.value (.func f),xs,ts⟩,ty,pos,after,guard⟩).run P w=.ok (.enter f args) w:=by have h1:=h.1 args w;simp only [execOp,resolve,ha,hρ,Deferred.ofValue];simpa [invoke] using h1
 exact uaN
def Jg {P n id ops t L R} {Q:Kw} (h:LJ P n ops.toArray ops t L R Q):CJ P n (.region id ops.toArray false) t L R Q:=
 fun c a w hf hs=>wp_region_lit (h c a w hf hs)
def Uq (P : Program) (n : Nat) (y : Code) (Q : Kw) : Kw
 | .normal,t,L,R=>CJ P n y t L R Q
 | e,t,L,R=>Q e t L R
def Jq {P n x y t L R} {Q:Kw} (h:CJ P n x t L R (Uq P n y Q)):CJ P n (.seq x y) t L R Q:=by
 intro c a w hf hs;refine wp_seq (wp_mono (h c a w hf hs) ?_);rintro e a w ⟨hnp,t',U,J,hq,hf',hs'⟩;cases e with
 | normal=>exact hq c a w hf' hs'
 | _=>exact ⟨hnp,t',U,J,hq,hf',hs'⟩
def Jb {P n y t L R} {Q:Kw} (h:CJ P n y t L R Q):Uq P n y Q .normal t L R:=h
def Kh {P n y t L R} {Q:Kw} (h:Q .ret t L R):Uq P n y Q .ret t L R:=h
def Km {P n y id t L R} {Q:Kw} (h:Q (.exit id) t L R):Uq P n y Q (.exit id) t L R:=h
def J5 {P n t L R} {Q:Kw} (h:Q .normal t L R):CJ P n .skip t L R Q:=
 fun _ _ _ hf hs=>wp_skip ⟨trivial,t,L,R,h,hf,hs⟩
def Uk {P n t L R} {Q:Kw} (h:Q .ret t L R):CJ P n .ret t L R Q:=
 fun _ _ _ hf hs=>wp_ret ⟨trivial,t,L,R,h,hf,hs⟩
def K9 {P n id t L R} {Q:Kw} (h:Q (.exit id) t L R):CJ P n (.exit id) t L R Q:=
 fun _ _ _ hf hs=>wp_exit ⟨trivial,t,L,R,h,hf,hs⟩
def Ukd {P n x A B t L R} {Q:Kw} {b:Bool} (hc:ev t x=.bool b) (ht:b=true→CJ P n A t L R Q) (hf:b=false→CJ P n B t L R Q):
 CJ P n (.cond x A B) t L R Q:=
 fun c a w hfr hs=>wp_cond_split (by rw [hfr.eval];exact hc) (fun e=>ht e c a w hfr hs) (fun e=>hf e c a w hfr hs)
def Uh {P n x A B t L R} {Q:Kw} (hc:ev t x=.bool true) (ht:CJ P n A t L R Q):CJ P n (.cond x A B) t L R Q:=
 Ukd hc (fun _=>ht) (fun e=>by cases e)
def V4 {P n x A B t L R} {Q:Kw} (hc:ev t x=.bool false) (hf:CJ P n B t L R Q):CJ P n (.cond x A B) t L R Q:=
 Ukd hc (fun e=>by cases e) (fun _=>hf)
def J2 (id : Nat) (Q : Kw) : Kw
 | .exit k,t,L,R=>bif Nat.beq k id then Q .normal t L R else Q (.exit k) t L R
 | e,t,L,R=>Q e t L R
def Ki {P n id x t L R} {Q:Kw} (h:CJ P n x t L R (J2 id Q)):CJ P n (.block id x) t L R Q:=by
 intro c a w hf hs;refine wp_block (wp_mono (h c a w hf hs) ?_);rintro e a w ⟨hnp,t',U,J,hq,hf',hs'⟩;cases e with
 | exit k=>
  simp only [Exit.inBlock];by_cases hk:k=id;·subst hk;(have:Nat.beq k k=true:=by simp);simp only [J2,this,cond_true] at hq;rw [if_pos rfl];exact ⟨trivial,t',U,J,hq,hf',hs'⟩
  ·have : Nat.beq k id = false := Kce hk;simp only [J2,this,cond_false] at hq;rw [if_neg hk];exact ⟨trivial,t',U,J,hq,hf',hs'⟩
 | _=>exact ⟨hnp,t',U,J,hq,hf',hs'⟩
def Jh {id t L R} {Q:Kw} (h:Q .normal t L R):J2 id Q .normal t L R:=h
def Kd {id t L R} {Q:Kw} (h:Q .ret t L R):J2 id Q .ret t L R:=h
def J6 {id t L R} {Q:Kw} (h:Q .normal t L R):J2 id Q (.exit id) t L R:=by
 have:Nat.beq id id=true:=by simp
 simp only [J2,this,cond_true];exact h
def Zpc {id k t L R} {Q:Kw} (hk:Nat.beq k id=false) (h:Q (.exit k) t L R):J2 id Q (.exit k) t L R:=by simp only [J2,hk,cond_false];exact h
def Jjc (k : Nat) : List Nat → Bool
 | []=>false
 | x :: l=>bif Nat.beq k x then true else Jjc k l
def havoc (ws:List Nat) (t junk:Nat→Value):Nat→Value:=fun k=>bif Jjc k ws then junk k else t k
def updL (t : Nat → Value) : List (Nat × Value) → Nat → Value
 | []=>t
 | (d,v) :: l=>upd (updL t l) d v
def Off (ws:List Nat) (t t':Nat→Value):Prop:=∀k,Jjc k ws=false→t' k=t k
def Off.refl {ws t}:Off ws t t:=fun _ _=>rfl
def Off.upd {ws t t' d v} (hd:Jjc d ws=true) (h:Off ws t t'):Off ws t (upd t' d v):=fun k hk=>by
 unfold Aw.upd
 cases hb:Nat.beq k d with
 | false=>exact h k hk
 | true=>
  have:k=d:=by simpa [yKb] using hb
  subst this
  rw [hd] at hk
  cases hk
def Off.updL {ws t t' l} (hd:l.all (fun p=>Jjc p.1 ws)=true) (h:Off ws t t'):Off ws t (updL t' l):=by
 induction l with
 | nil=>exact h
 | cons p l ih=>obtain ⟨d,v⟩:=p;simp only [List.all_cons,yo] at hd;exact Off.upd hd.1 (ih hd.2)
def Off.havoc {ws ws' t t' junk} (hd:ws'.all (fun k=>Jjc k ws)=true) (h:Off ws t t'):Off ws t (havoc ws' t' junk):=fun k hk=>by
 unfold Aw.havoc
 cases hb:Jjc k ws' with
 | false=>exact h k hk
 | true=>
  have:∀l:List Nat,l.all (fun k=>Jjc k ws)=true→Jjc k l=true→Jjc k ws=true:=by
   intro l
   induction l with
   | nil=>intro _ h;cases h
   | cons x l ih=>
    intro ha hm
    simp only [List.all_cons,yo] at ha
    simp only [Jjc] at hm
    cases hx:Nat.beq k x with
    | true=>
     have:k=x:=by simpa [yKb] using hx
     rw [this];exact ha.1
    | false=>rw [hx] at hm;exact ih ha.2 hm
  rw [this ws' hd hb] at hk
  cases hk
def Yja (t : Nat → Value) : List (Nat × Value) → Prop
 | []=>True
 | (d,v) :: l=>t d=v∧Yja t l
def Y9 {t : Nat → Value} : ∀ {l : List (Nat × Value)}, Yja t l → updL t l = t
 | [],_=>rfl
 | (d,v) :: l,h=>by
  funext k
  simp only [updL,Y9 h.2,upd]
  cases hb:Nat.beq k d with
  | false=>rfl
  | true=>
   have:k=d:=by simpa [yKb] using hb
   rw [cond_true,this];exact h.1.symm
structure Head (γ:Type) where
 slots:γ→List (Nat×Value)
 L:γ→List Blk
 R:γ→List Sl
 m:γ→Nat
def Kj {γ : Type} (ws : List Nat) (t0 : Nat → Value) (hd : Head γ) (m0 : Nat) (Q : Kw) : Kw
 | .normal,t,L,R=>∃g,Off ws t0 t∧Yja t (hd.slots g)∧(hd.L g).Sublist L∧(∀r∈hd.R g,InR r R)∧hd.m g < m0
 | e,t,L,R=>Q e t L R
def Ym {γ ws t0 m0 t L R} {hd:Head γ} {Q:Kw} (h:Q .ret t L R):Kj ws t0 hd m0 Q .ret t L R:=h
def Uc {γ ws t0 m0 id t L R} {hd:Head γ} {Q:Kw} (h:Q (.exit id) t L R):Kj ws t0 hd m0 Q (.exit id) t L R:=h
def Zy {ws:List Nat} {t0 t:Nat→Value} (h:Off ws t0 t):havoc ws t0 t=t:=by
 funext k;unfold havoc;cases hb:Jjc k ws with
 | true=>rfl
 | false=>exact (h k hb).symm
def Up {γ : Type} {P n body t L R} {Q : Kw} (ws : List Nat) (hd : Head γ) (g0 : γ) (h0 : Yja t (hd.slots g0)) (hL : (hd.L g0).Sublist L) (hR : ∀ r ∈ hd.R g0, InR r R)
 (hstep:∀g junk,CJ P n body (updL (havoc ws t junk) (hd.slots g)) (hd.L g) (hd.R g) (Kj ws t hd (hd.m g) Q)):CJ P n (.loop body) t L R Q:=by
 intro c a w hf hs;let I:Act→World→Prop:=fun a w=>∃g t',Off ws t t'∧Yja t' (hd.slots g)∧Fr n t' a∧St c (hd.L g) (hd.R g) w
 -- the measure is carried in the invariant: 'the least measure at which the state shows'
 have key:∀m,∀g t' a w,hd.m g=m→Off ws t t'→Yja t' (hd.slots g)→Fr n t' a→St c (hd.L g) (hd.R g) w→
  ∀b k cs,∃e a' w',Zra n c Q e a' w'∧Arrives P (lone (b.at a (.code body :: .inLoop body :: k)) cs w) b k cs e a' w':=by
  intro m;induction m using Nat.strongRecOn with
  | _ m ih=>
   intro g t' a w hm ho hsh hfr hst b k cs;(have e:updL (havoc ws t t') (hd.slots g)=t':=by rw [Zy ho,Y9 hsh]);obtain ⟨ex,a₁,w₁,⟨hnp,t₁,L₁,R₁,hq,hf₁,hs₁⟩,harr⟩:=hstep g t' c a w (by rw [e];exact hfr) hst b (.inLoop body :: k) cs;cases ex with
   | normal=>obtain ⟨g',ho',hsh',hL',hR',hlt⟩:=hq;obtain ⟨e₂,a₂,w₂,hq₂,harr₂⟩:=ih (hd.m g') (hm ▸ hlt) g' t₁ a₁ w₁ rfl ho' hsh' hf₁ (hs₁.weak hL' hR') b k cs;exact ⟨e₂,a₂,w₂,hq₂,.of_steps (Steps.trans harr (.one step_inLoop)) harr₂⟩
   | exit id=>exact ⟨_,a₁,w₁,⟨hnp,t₁,L₁,R₁,hq,hf₁,hs₁⟩,.pass (x:=.inLoop body) rfl (fun _ _=>.inl zo) harr⟩
   | goto l=>exact ⟨_,a₁,w₁,⟨hnp,t₁,L₁,R₁,hq,hf₁,hs₁⟩,.pass (x:=.inLoop body) rfl (fun _ _=>.inl zo) harr⟩
   | ret=>exact ⟨_,a₁,w₁,⟨hnp,t₁,L₁,R₁,hq,hf₁,hs₁⟩,.pass (x:=.inLoop body) rfl (fun _ _=>.inl zo) harr⟩
   | panic ch=>exact ⟨_,a₁,w₁,⟨hnp,t₁,L₁,R₁,hq,hf₁,hs₁⟩,.pass (x:=.inLoop body) rfl (fun _ _=>.inl zo) harr⟩
   | outgrown=>exact ⟨_,a₁,w₁,⟨hnp,t₁,L₁,R₁,hq,hf₁,hs₁⟩,.pass (x:=.inLoop body) rfl (fun _ _=>.inl zo) harr⟩
 intro b k cs;obtain ⟨e,a',w',hq,harr⟩:=key _ g0 t a w rfl .refl h0 hf (hs.weak hL hR) b k cs;exact ⟨e,a',w',hq,.of_steps (.one step_loop) harr⟩
end Go.Aw
end
section
namespace Go.Aw
open Go
inductive TK where
 | scalar | bool | struct | array (n e:Nat) | slice (e:Nat) | ptr (e:Nat) | int (k:IntKind) | string | other
structure TI where
 k:TK
 sz:Nat
 fl:List (Nat×Nat)
 bt:Nat
 z:List Value
def Ypd (P:Program) (i:TypeInfo) (u:TypeDesc) (z:Value):TI:=
  { k:=match u with
      | .struct _=>.struct
      | .array n e=>.array n e
      | .slice e=>.slice e
      | .pointer e=>.ptr e
      | .int k=>.int k
      | .bool=>.bool
      | .string=>.string
      | _=>.other
    sz:=i.size
    fl:=match u with
      | .struct fs=>fs.toList.map fun f=>(f.offset,((P.info? f.type).map (·.size)).getD 0)
      | _=>[]
    bt:=i.bytes
    z:=z.cells.toList }
def Zo (P:Program) (T:Nat):Option TI:=
 match P.info? T,P.underlying T with
 | some i,some u=>match i.zero with
  | some z=>some (Ypd P i u z)
  | none=>none
 | _,_=>none
def Yy (tab:List (List (Option TI))) (T:Nat):Option TI:=((tab[T / 16]?).bind (·[T % 16]?)).join
structure Tabs (P:Program) where
 tab:List (List (Option TI))
 ok:∀T ti,Yy tab T=some ti→Zo P T=some ti
def Vkf (P:Program) (tab:List (List (Option TI))) (c:Nat):List (Option TI):=
 (List.range 16).map fun j=>match Yy tab (16 * c + j) with
  | some _=>Zo P (16 * c + j)
  | none=>none
def Yff {P:Program} {tab:List (List (Option TI))} (h:tab=(List.range tab.length).map (Vkf P tab)):∀T ti,Yy tab T=some ti→Zo P T=some ti:=by
 intro T ti hg;have hg':=hg;unfold Yy at hg;rw [h] at hg;rcases yk (T / 16) tab.length with h1 | h1;·rw [yq, yL h1] at hg;simp only [yRa,yJa,Vkf] at hg;rw [yq,yL (Nat.mod_lt _ za)] at hg;simp only [yRa,Option.join_some] at hg;rw [Nat.div_add_mod,hg'] at hg;exact hg
 ·rw [yq, yu (by simpa using h1)] at hg;simp at hg
section facts
variable {P:Program} {T:Nat} {ti:TI}
def Vb (h:Zo P T=some ti):∃i u z,P.info? T=some i∧P.underlying T=some u∧i.zero=some z∧ti=Ypd P i u z:=by
 unfold Zo at h;split at h;·
  rename_i i u hi hu;split at h;·rename_i z hz;exact ⟨i,u,z,hi,hu,hz,(yG h).symm⟩
  ·cases h
 ·cases h
def run_sizeOf (h:Zo P T=some ti) (w:World):(sizeOf T).run P w=.ok ti.sz w:=by obtain ⟨i,u,z,hi,hu,hz,rfl⟩:=Vb h;simp [sizeOf,typeInfo,hi,Ypd]
def Y8 (h:Zo P T=some ti) (w:World):∃z:Value,(zeroValue T).run P w=.ok z w∧z.cells.toList=ti.z:=by obtain ⟨i,u,z,hi,hu,hz,rfl⟩:=Vb h;exact ⟨z,by simp [zeroValue,typeInfo,hi,hz],rfl⟩
def TK.isAgg : TK → Bool
 | .struct | .array _ _=>true
 | _=>false
def Yzb (h:Zo P T=some ti) (w:World):(Go.isAgg T).run P w=.ok ti.k.isAgg w:=by obtain ⟨i,u,z,hi,hu,hz,rfl⟩:=Vb h;cases u <;> simp [Go.isAgg,run_underlying hu,Ypd,TK.isAgg]
def Vp {e:Nat} (h:Zo P T=some ti) (hk:ti.k=.slice e):P.underlying T=some (.slice e):=by obtain ⟨i,u,z,hi,hu,hz,rfl⟩:=Vb h;cases u <;> simp [Ypd] at hk;rw [hu,hk]
def Yyb {n e:Nat} (h:Zo P T=some ti) (hk:ti.k=.array n e):P.underlying T=some (.array n e):=by obtain ⟨i,u,z,hi,hu,hz,rfl⟩:=Vb h;cases u <;> simp [Ypd] at hk;rw [hu,hk.1,hk.2]
def Jsd {k:IntKind} (h:Zo P T=some ti) (hk:ti.k=.int k):P.underlying T=some (.int k):=by obtain ⟨i,u,z,hi,hu,hz,rfl⟩:=Vb h;cases u <;> simp [Ypd] at hk;rw [hu,hk]
def Zaa (h:Zo P T=some ti) (hk:ti.k=.struct):
 ∃fs,P.underlying T=some (.struct fs)∧ti.fl=fs.toList.map fun f=>(f.offset,((P.info? f.type).map (·.size)).getD 0):=by obtain ⟨i,u,z,hi,hu,hz,rfl⟩:=Vb h;cases u <;> simp [Ypd] at hk;exact ⟨_,hu,rfl⟩
end facts
inductive In1 (e : Blk) : List Blk → Prop
 | here {L}:In1 e (e :: L)
 | cons {x L} (h:In1 e L):In1 e (x :: L)
 | app {X L} (h:In1 e L):In1 e (X ++ L)
def In1.mem {e:Blk} {L:List Blk} (h:In1 e L):e∈L:=by
 induction h with
 | here=>simp
 | cons _ ih=>exact yW _ ih
 | app _ ih=>exact yj _ ih
def Krd (a b:Int):(a == b)=decide (a=b):=by by_cases h:a=b <;> simp [h]
section quiet
variable {P:Program} {ρ:Operand→Value} {L:List Blk} {R:List Sl} {dst:Option Tmp} {ty:TypeId} {pos:String} {after:Array Edge} {guard:Option (Nat×Bool)}
def Jz {x:Operand} {v:Value} (h:ρ x=v):YV P ⟨dst,.move x,ty,pos,after,guard⟩ ρ L R v:=fun _ _ _=>by simp [execOp,h]
def K8 {x:Operand} {v:Value} (h:ρ x=v):YV P ⟨dst,.assign x,ty,pos,after,guard⟩ ρ L R v:=fun _ _ _=>by simp [execOp,h]
def Upa {c x y:Operand} {b:Bool} (h:ρ c=.bool b):YV P ⟨dst,.pick c x y,ty,pos,after,guard⟩ ρ L R (if b then ρ x else ρ y):=fun _ _ _=>by
 simp [execOp,h,asBool]
def V1 {c x y:Operand} {v:Value} (h:ρ c=.bool true) (hv:ρ x=v):YV P ⟨dst,.pick c x y,ty,pos,after,guard⟩ ρ L R v:=fun _ _ _=>by
 simp [execOp,h,asBool,hv]
def Vf {c x y:Operand} {v:Value} (h:ρ c=.bool false) (hv:ρ y=v):YV P ⟨dst,.pick c x y,ty,pos,after,guard⟩ ρ L R v:=fun _ _ _=>by
 simp [execOp,h,asBool,hv]
def Unb {n:Int} (h1:-9223372036854775808≤n) (h2:n≤9223372036854775807):IntKind.i64.wrap n=n:=by rw [IntKind.wrap_i64];omega
variable {T T2:TypeId} {x y:Operand} {k:IntKind} {a b:Int}
def J3c (hx:ρ x=.int k a) (hy:ρ y=.int k b):YV P ⟨dst,.binOp .add T x y T2,ty,pos,after,guard⟩ ρ L R (.int k (k.wrap (a + b))):=fun _ _ _=>by
 simp [execOp,hx,hy,eqGuard,binOp,Op.intArith]
def Yxd (hx:ρ x=.int k a) (hy:ρ y=.int k b):YV P ⟨dst,.binOp .sub T x y T2,ty,pos,after,guard⟩ ρ L R (.int k (k.wrap (a - b))):=fun _ _ _=>by
 simp [execOp,hx,hy,eqGuard,binOp,Op.intArith]
def Z8c (hx:ρ x=.int k a) (hy:ρ y=.int k b):YV P ⟨dst,.binOp .mul T x y T2,ty,pos,after,guard⟩ ρ L R (.int k (k.wrap (a * b))):=fun _ _ _=>by
 simp [execOp,hx,hy,eqGuard,binOp,Op.intArith]
def V5b (hx:ρ x=.int .i64 a) (hy:ρ y=.int .i64 b) (h1:-9223372036854775808≤a + b) (h2:a + b≤9223372036854775807):
 YV P ⟨dst,.binOp .add T x y T2,ty,pos,after,guard⟩ ρ L R (.int .i64 (a + b)):=by have:=J3c (P:=P) (L:=L) (R:=R) (dst:=dst) (ty:=ty) (pos:=pos) (after:=after) (guard:=guard) (T:=T) (T2:=T2) hx hy;rwa [Unb h1 h2] at this
def Vwb (hx:ρ x=.int .i64 a) (hy:ρ y=.int .i64 b) (h1:-9223372036854775808≤a - b) (h2:a - b≤9223372036854775807):
 YV P ⟨dst,.binOp .sub T x y T2,ty,pos,after,guard⟩ ρ L R (.int .i64 (a - b)):=by have:=Yxd (P:=P) (L:=L) (R:=R) (dst:=dst) (ty:=ty) (pos:=pos) (after:=after) (guard:=guard) (T:=T) (T2:=T2) hx hy;rwa [Unb h1 h2] at this
def Vnc (hx:ρ x=.int .i64 a) (hy:ρ y=.int .i64 b) (h1:-9223372036854775808≤a * b) (h2:a * b≤9223372036854775807):
 YV P ⟨dst,.binOp .mul T x y T2,ty,pos,after,guard⟩ ρ L R (.int .i64 (a * b)):=by have:=Z8c (P:=P) (L:=L) (R:=R) (dst:=dst) (ty:=ty) (pos:=pos) (after:=after) (guard:=guard) (T:=T) (T2:=T2) hx hy;rwa [Unb h1 h2] at this
def Kuc (hx:ρ x=.int k a) (hy:ρ y=.int k b) (h:¬ b=0):YV P ⟨dst,.binOp .quo T x y T2,ty,pos,after,guard⟩ ρ L R (.int k (k.wrap (a.tdiv b))):=fun _ _ _=>by
 simp [execOp,hx,hy,eqGuard,binOp,Op.intDiv,h]
def V8d (hx:ρ x=.int k a) (hy:ρ y=.int k b) (h:¬ b=0):YV P ⟨dst,.binOp .rem T x y T2,ty,pos,after,guard⟩ ρ L R (.int k (a.tmod b)):=fun _ _ _=>by
 simp [execOp,hx,hy,eqGuard,binOp,Op.intDiv,h]
def Vzb (hx:ρ x=.int .i64 a) (hy:ρ y=.int .i64 b) (h:¬ b=0) (h1:-9223372036854775808≤a.tdiv b) (h2:a.tdiv b≤9223372036854775807):
 YV P ⟨dst,.binOp .quo T x y T2,ty,pos,after,guard⟩ ρ L R (.int .i64 (a.tdiv b)):=by have:=Kuc (P:=P) (L:=L) (R:=R) (dst:=dst) (ty:=ty) (pos:=pos) (after:=after) (guard:=guard) (T:=T) (T2:=T2) hx hy h;rwa [Unb h1 h2] at this
def Y0a (hx:ρ x=.int k a) (hy:ρ y=.int k b):YV P ⟨dst,.binOp .lss T x y T2,ty,pos,after,guard⟩ ρ L R (.bool (decide (a < b))):=fun _ _ _=>by
 simp [execOp,hx,hy,eqGuard,binOp,Op.intCmp]
def Ywc (hx:ρ x=.int k a) (hy:ρ y=.int k b):YV P ⟨dst,.binOp .leq T x y T2,ty,pos,after,guard⟩ ρ L R (.bool (decide (a≤b))):=fun _ _ _=>by
 simp [execOp,hx,hy,eqGuard,binOp,Op.intCmp]
def U9b (hx:ρ x=.int k a) (hy:ρ y=.int k b):YV P ⟨dst,.binOp .gtr T x y T2,ty,pos,after,guard⟩ ρ L R (.bool (decide (b < a))):=fun _ _ _=>by
 simp [execOp,hx,hy,eqGuard,binOp,Op.intCmp]
def Kvc (hx:ρ x=.int k a) (hy:ρ y=.int k b):YV P ⟨dst,.binOp .geq T x y T2,ty,pos,after,guard⟩ ρ L R (.bool (decide (b≤a))):=fun _ _ _=>by
 simp [execOp,hx,hy,eqGuard,binOp,Op.intCmp]
def Kwb (hx:ρ x=.int k a) (hy:ρ y=.int k b):YV P ⟨dst,.binOp .eql T x y T2,ty,pos,after,guard⟩ ρ L R (.bool (decide (a=b))):=fun _ _ _=>by
 simp [execOp,hx,hy,eqGuard,binOp,Op.intCmp,Krd]
def Zyb (hx:ρ x=.int k a) (hy:ρ y=.int k b):YV P ⟨dst,.binOp .neq T x y T2,ty,pos,after,guard⟩ ρ L R (.bool (decide (¬ a=b))):=fun _ _ _=>by
 simp [execOp,hx,hy,eqGuard,binOp,Op.intCmp,bne,Krd]
def Zha (hx:ρ x=.int .i64 a) (h1:-9223372036854775807≤a) (h2:a≤9223372036854775808):YV P ⟨dst,.unOp .neg T x,ty,pos,after,guard⟩ ρ L R (.int .i64 (-a)):=fun _ _ _=>by
 have:IntKind.i64.wrap (0 - a)= -a:=by rw [Unb za za];omega
 simp only [Int.zero_sub] at this
 simp [execOp,hx,Op.unary,Op.intArith,this]
def U5a {c:Bool} (hx:ρ x=.bool c):YV P ⟨dst,.unOp .not T x,ty,pos,after,guard⟩ ρ L R (.bool (!c)):=fun _ _ _=>by
 simp [execOp,hx,Op.unary]
variable (tb:Tabs P)
def Kra {k k':IntKind} {n1 n2 f1 f2 b1 b2 z1 z2} (h1:Yy tb.tab T=some ⟨.int k',n1,f1,b1,z1⟩) (h2:Yy tb.tab T2=some ⟨.int k,n2,f2,b2,z2⟩) (hx:ρ x=.int k' a):
 YV P ⟨dst,.convert T T2 x,ty,pos,after,guard⟩ ρ L R (.int k (k.wrap a)):=fun _ w _=>by
 have u1:=Jsd (tb.ok _ _ h1) rfl
 have u2:=Jsd (tb.ok _ _ h2) rfl
 simp [execOp,hx,convert,run_underlying u1,run_underlying u2,Conv.intToInt]
def Uea {k' : IntKind} {n1 n2 f1 f2 b1 b2 z1 z2} (h1 : Yy tb.tab T = some ⟨.int k', n1, f1, b1, z1⟩) (h2 : Yy tb.tab T2 = some ⟨.int .i64, n2, f2, b2, z2⟩) (hx : ρ x = .int k' a)
 (h3:-9223372036854775808≤a) (h4:a≤9223372036854775807):YV P ⟨dst,.convert T T2 x,ty,pos,after,guard⟩ ρ L R (.int .i64 a):=by have:=Kra (P:=P) (L:=L) (R:=R) (dst:=dst) (ty:=ty) (pos:=pos) (after:=after) (guard:=guard) tb h1 h2 hx;rwa [Unb h3 h4] at this
def Kja (b off n:Nat):(⟨b,off,none⟩:Addr).add n=⟨b,off + n,none⟩:=by unfold Addr.add;split <;> simp_all
def Ue {f off sz n b o:Nat} {fl:List (Nat×Nat)} {bt z} (hT:Yy tb.tab T=some ⟨.struct,n,fl,bt,z⟩) (hx:ρ x=.pointer (some ⟨b,o,none⟩)) (hf:fl[f]?=some (off,sz + 1)):
 YV P ⟨dst,.fieldAddr T x f,ty,pos,after,guard⟩ ρ L R (.pointer (some ⟨b,o + off,none⟩)):=fun _ w _=>by
 obtain ⟨fs,hu,hfl⟩:=Zaa (tb.ok _ _ hT) rfl
 simp only at hfl
 subst hfl
 rw [yq] at hf
 obtain ⟨fd,hfd,he⟩:=Option.map_eq_some_iff.1 hf
 obtain ⟨h1,h2⟩:=Prod.mk.inj he
 have hfd':fs[f]?=some fd:=by rw [← Array.getElem?_toList];exact hfd
 have hsz:∃i,P.info? fd.type=some i∧i.size=sz + 1:=by
  cases hi:P.info? fd.type with
  | none=>rw [hi] at h2;simp at h2
  | some i=>rw [hi] at h2;exact ⟨i,rfl,by simpa using h2⟩
 obtain ⟨i,hi,hs⟩:=hsz
 simp [execOp,hx,Instr.fieldAt,run_underlying hu,hfd',Instr.sureAddr,fieldPlace,sizeOf,typeInfo,hi,hs,Kja,h1]
def Jmb {f off sz n wd i j:Nat} {ar:Option Addr} {fl:List (Nat×Nat)} {bt z} (hT:Yy tb.tab T=some ⟨.struct,n,fl,bt,z⟩) (hx:ρ x=.pointer (some ⟨adB ar,eo ar wd i j,none⟩)) (hf:fl[f]?=some (off,sz + 1)):
 YV P ⟨dst,.fieldAddr T x f,ty,pos,after,guard⟩ ρ L R (.pointer (some ⟨adB ar,eo ar wd i (j + off),none⟩)):=by
 have:=Ue (P:=P) (L:=L) (R:=R) (dst:=dst) (ty:=ty) (pos:=pos) (after:=after) (guard:=guard) tb hT hx hf;have e:eo ar wd i j + off=eo ar wd i (j + off):=by simp [eo,yjc]
 rwa [e] at this
def Jl {e n n2 bt z bt2 z2 k2} {fl fl2 : List (Nat × Nat)} {len cap i : Nat} {b o : Nat} (hT : Yy tb.tab T = some ⟨.slice e, n, fl, bt, z⟩) (hE : Yy tb.tab e = some ⟨k2, n2, fl2, bt2, z2⟩)
 (hx:ρ x=.slice (some ⟨b,o,none⟩) len cap) (hy:ρ y=.int k a) (hi:a=(i:Int)) (hlt:i < len):
 YV P ⟨dst,.indexAddr T x y,ty,pos,after,guard⟩ ρ L R (.pointer (some ⟨adB (some ⟨b,o,none⟩),eo (some ⟨b,o,none⟩) n2 i 0,none⟩)):=fun _ w _=>by
 have hu:=Vp (tb.ok _ _ hT) rfl
 have hs:=run_sizeOf (tb.ok _ _ hE)
 simp only at hs
 subst hi
 simp [execOp,hx,hy,Instr.indexAt,asIntOf,run_underlying hu,hs,hlt,Kja,adB,eo,adO]
def Jd {e n n2 bt z bt2 z2 k2} {fl fl2 : List (Nat × Nat)} {len cap i : Nat} {ar : Option Addr} {rows : List (List Value)} {subs : List Sl} (hT : Yy tb.tab T = some ⟨.slice e, n, fl, bt, z⟩) (hE : Yy tb.tab e = some ⟨k2, n2, fl2, bt2, z2⟩)
 (hx:ρ x=.slice ar len cap) (hy:ρ y=.int k a) (hR:InR (.mk n2 ar len cap rows subs) R) (hi:a=(i:Int)) (hlt:i < len):
 YV P ⟨dst,.indexAddr T x y,ty,pos,after,guard⟩ ρ L R (.pointer (some ⟨adB ar,eo ar n2 i 0,none⟩)):=fun c w hst=>by
 obtain ⟨⟨G,hh,hg⟩,ho,hk⟩:=hst
 obtain ⟨r,hr,hsub⟩:=hR
 have hrep:=(hh.rep r hr).sub hsub
 cases hrep with
 | mk hl hc hm hw hmem hs=>
  rcases hmem with h0 | ⟨b,off,ha,_,_⟩
  ·subst h0;simp only [yda] at hl;omega
  ·subst ha
   exact Jl tb hT hE hx hy hi hlt c w ⟨⟨G,hh,hg⟩,ho,hk⟩
def Kha {c:Ctx} {w:World} (h:St c L R w) {b:Nat} {cs:List Value} {T:TypeId} (he:(⟨b,cs,T⟩:Blk)∈L) (o:Nat):w.cell? ⟨b,o,none⟩=cs[o]?:=by obtain ⟨⟨G,hh,hg⟩,ho,hk⟩:=h;have:=hh.own _ he;simp [World.cell?,BT.obj] at this ⊢;rw [this];simp
def Y7b {w:World} {T:TypeId} {ti:TI} (h:Zo P T=some ti) (hk:ti.k.isAgg=false) {b o:Nat} {v:Value} (hc:w.cell? ⟨b,o,none⟩=some v):
 (loadVar T ⟨b,o,none⟩).run P w=.ok v w:=by simp [loadVar,Yzb h,hk,load,Sem.run,hc]
def Kkb {w : World} {T : TypeId} {ti : TI} (h : Zo P T = some ti) (hk : ti.k.isAgg = true) {b o : Nat} {row : List Value} (hn : row.length = ti.sz)
 (hc:∀j v,row[j]?=some v→w.cell? ⟨b,o + j,none⟩=some v):(loadVar T ⟨b,o,none⟩).run P w=.ok (.agg row.toArray) w:=by have hl:=run_loadCells_list (P:=P) w ⟨b,o,none⟩ row (fun j v hj=>by rw [Kja];exact hc j v hj);simp [loadVar,Yzb h,hk,run_sizeOf h,← hn,hl]
def Kz {n b o : Nat} {fl bt z v} {kk : TK} {cs : List Value} {T' : TypeId} (hx : ρ x = .pointer (some ⟨b, o, none⟩)) (hT : Yy tb.tab T = some ⟨kk, n, fl, bt, z⟩) (hk : kk.isAgg = false)
 (hin:In1 ⟨b,cs,T'⟩ L) (hv:cs[o]?=some v):YV P ⟨dst,.load T x,ty,pos,after,guard⟩ ρ L R v:=fun c w hst=>by
 have:=Y7b (P:=P) (w:=w) (tb.ok _ _ hT) hk (b:=b) (o:=o) (v:=v) (by rw [Kha hst hin.mem];exact hv)
 simp [execOp,hx,Instr.loadAt,Instr.sureAddr,this]
def sub (cs:List Value) (o n:Nat):List Value:=(cs.drop o).take n
def Js {n b o : Nat} {fl bt z} {kk : TK} {cs row : List Value} {T' : TypeId} (hx : ρ x = .pointer (some ⟨b, o, none⟩)) (hT : Yy tb.tab T = some ⟨kk, n, fl, bt, z⟩) (hk : kk.isAgg = true)
 (hin:In1 ⟨b,cs,T'⟩ L) (hv:sub cs o n=row) (hn:row.length=n):YV P ⟨dst,.load T x,ty,pos,after,guard⟩ ρ L R (.agg row.toArray):=fun c w hst=>by
 have:=Kkb (P:=P) (w:=w) (tb.ok _ _ hT) hk (b:=b) (o:=o) (row:=row) hn (fun j v hj=>by
  rw [Kha hst hin.mem]
  rw [← hv,sub,yva] at hj
  split at hj
  ·simpa using hj
  ·cases hj)
 simp [execOp,hx,Instr.loadAt,Instr.sureAddr,this]
def K3d {c:Ctx} {w:World} (h:St c L R w) {wd len cap i j:Nat} {ar:Option Addr} {rows:List (List Value)} {subs:List Sl} (hR:InR (.mk wd ar len cap rows subs) R) {row:List Value} (hr:rows[i]?=some row) {v:Value} (hj:row[j]?=some v):
 w.cell? ⟨adB ar,eo ar wd i j,none⟩=some v:=by
 obtain ⟨⟨G,hh,hg⟩,ho,hk⟩:=h;obtain ⟨r,hr',hsub⟩:=hR;have hrep:=(hh.rep r hr').sub hsub;cases hrep with
 | mk hl hc hm hw hmem hs=>
  have hi:i < rows.length:=(List.getElem?_eq_some_iff.1 hr).1;rcases hmem with h0 | ⟨b,off,ha,_,J1b⟩;·subst h0;simp at hi
  ·subst ha;(have hjw:j < wd:=by have h1:=(List.getElem?_eq_some_iff.1 hj).1;have h2:=hw row (yh hr);omega);rw [show adB (some ⟨b,off,none⟩)=b from rfl,show eo (some ⟨b,off,none⟩) wd i j=off + i * wd + j from rfl,J1b i j za hjw,hr];exact hj
def Jka {α : Type} {n wd len cap i j : Nat} {fl bt z v} {kk : TK} {ar : Option Addr} {f : α → List Value} {l : List α} {xx : α} {subs : List Sl} (hx : ρ x = .pointer (some ⟨adB ar, eo ar wd i j, none⟩)) (hT : Yy tb.tab T = some ⟨kk, n, fl, bt, z⟩) (hk : kk.isAgg = false)
 (hR:InR (.mk wd ar len cap (l.map f) subs) R) (hr:l[i]?=some xx) (hj:(f xx)[j]?=some v):YV P ⟨dst,.load T x,ty,pos,after,guard⟩ ρ L R v:=fun c w hst=>by
 have:=Y7b (P:=P) (w:=w) (tb.ok _ _ hT) hk (v:=v) (K3d hst hR (row:=f xx) (by rw [yq,hr];rfl) hj)
 simp [execOp,hx,Instr.loadAt,Instr.sureAddr,this]
def K4 {α : Type} {n wd len cap i j : Nat} {fl bt z} {kk : TK} {ar : Option Addr} {f : α → List Value} {l : List α} {xx : α} {row : List Value} {subs : List Sl} (hx : ρ x = .pointer (some ⟨adB ar, eo ar wd i j, none⟩)) (hT : Yy tb.tab T = some ⟨kk, n, fl, bt, z⟩) (hk : kk.isAgg = true)
 (hR:InR (.mk wd ar len cap (l.map f) subs) R) (hr:l[i]?=some xx) (hv:sub (f xx) j n=row) (hn:row.length=n):YV P ⟨dst,.load T x,ty,pos,after,guard⟩ ρ L R (.agg row.toArray):=fun c w hst=>by
 have:=Kkb (P:=P) (w:=w) (tb.ok _ _ hT) hk (b:=adB ar) (o:=eo ar wd i j) (row:=row) hn (fun jj v hj=>by
  rw [← hv,sub,yva] at hj
  split at hj
  ·have := K3d hst hR (row := f xx) (i := i) (j := j + jj) (v := v) (by rw [yq, hr]; rfl) (by simpa using hj)
   rw [← this]
   simp [eo,yjc]
  ·cases hj)
 simp [execOp,hx,Instr.loadAt,Instr.sureAddr,this]
def Jca {ts:Array TypeId} {e n fl bt z} {ar:Option Addr} {len cap:Nat} (hts:ts[0]?=some T) (hT:Yy tb.tab T=some ⟨.slice e,n,fl,bt,z⟩) (hx:ρ x=.slice ar len cap):
 YV P ⟨dst,.call ⟨.builtin .len,#[x],ts⟩,ty,pos,after,guard⟩ ρ L R (.int .i64 (len:Int)):=fun _ w _=>by
 have hu:=Vp (tb.ok _ _ hT) rfl
 simp [execOp,resolve,invoke,builtin,Builtin.len_,hts,hx,run_underlying hu,goInt]
def J0 {ad:Addr} (hx:ρ x=.pointer (some ad)):YV P ⟨dst,.nilCheck x,ty,pos,after,guard⟩ ρ L R (.pointer (some ad)):=fun _ w _=>by
 simp [execOp,hx]
def Y2a {ts:Array TypeId} (hx:ρ x=.int k a) (hy:ρ y=.int k b):YV P ⟨dst,.call ⟨.builtin .min,#[x,y],ts⟩,ty,pos,after,guard⟩ ρ L R (.int k (min a b)):=fun _ w _=>by
 simp only [execOp,resolve,invoke,builtin,Builtin.min_,ytb,yI,ywb,hx,hy]
 have:(if b < a then b else a)=min a b:=by rw [Int.min_def];split <;> split <;> omega
 simp [Builtin.min2,this]
def Zp {ts:Array TypeId} (hx:ρ x=.int k a) (hy:ρ y=.int k b):YV P ⟨dst,.call ⟨.builtin .max,#[x,y],ts⟩,ty,pos,after,guard⟩ ρ L R (.int k (max a b)):=fun _ w _=>by
 simp only [execOp,resolve,invoke,builtin,Builtin.max_,ytb,yI,ywb,hx,hy]
 have:(if b > a then b else a)=max a b:=by rw [Int.max_def];split <;> split <;> omega
 simp [Builtin.max2,this]
def K5 {i:Nat} {vs:Array Value} {v:Value} (hx:ρ x=.tuple vs) (hv:vs[i]?=some v):YV P ⟨dst,.extract x i,ty,pos,after,guard⟩ ρ L R v:=fun _ w _=>by
 simp [execOp,hx,Instr.extract,hv]
end quiet
end Go.Aw
end
section
namespace Go.Aw
open Go
def Vog (args:List Value):Nat→Value:=fun k=>args.getD k undef
def RV (P:Program) (t:Nat→Value) (L:List Blk) (R:List Sl) (r:ResultVar) (v:Value):Prop:=
 match r with
 | .tmp k=>t k=v
 | .cell k T=>∀c w,St c L R w→∃a,t k=.pointer (some a)∧(loadVar T a).run P w=.ok v w
def Ut (P : Program) (fn : Func) (Post : Ys) : Kw
 | .normal,t,L,R=>∃v U J,(∀c n a w,Fr n t a→St c L R w→(results fn a.tmps).run P w=.ok v w)∧Post v U J∧U.Sublist L∧∀r∈J,InR r R
 | .ret,t,L,R=>∃v U J,(∀c n a w,Fr n t a→St c L R w→(results fn a.tmps).run P w=.ok v w)∧Post v U J∧U.Sublist L∧∀r∈J,InR r R
 | _,_,_,_=>False
def Je {P : Program} {f : FuncId} {fn : Func} {code : Code} {args : List Value} {L : List Blk} {R : List Sl} {Post : Ys} (n : Nat)
 (hcall:∀(xs:Array Value) (w:World),(callFunc f xs).run P w=.ok (.enter f xs) w) (hf:P.funcs[f]?=some fn) (hb:fn.body=some code) (hn:fn.ntmps=n) (ha:Nat.ble args.length n=true)
 (h:CJ P n code (Vog args) L R (Ut P fn Post)):Tri P f args.toArray L R Post:=by
 refine ⟨hcall,fun w G hh=>?_⟩;have ha':args.length≤n:=yR ha;refine calls_of_wp hf hb (wp_mono (h ⟨w,inL L,G⟩ _ w ⟨rfl,?_,fun k=>?_⟩ (St.init hh)) ?_);·simp [hn];omega
 ·
  simp only [Vog, hn];rcases yk k args.length with hk | hk;·simp [List.getD,hk,yLb]
  ·
   rcases yk k n with hk2 | hk2;·(have : k - args.length < n - args.length := by omega);simp [List.getD,yLb,Nat.not_lt.2 hk,this]
   ·(have : ¬ k - args.length < n - args.length := by omega);simp [List.getD,yLb,Nat.not_lt.2 hk,this]
 ·
  rintro e a w' ⟨_, t, U, J, hq, hf', hs'⟩;have key:(∃v L'' R'',(∀c n a w,Fr n t a→St c U J w→(results fn a.tmps).run P w=.ok v w)∧Post v L'' R''∧L''.Sublist U∧∀r∈R'',InR r J)→
   a.defers=[]∧∃v,(results fn a.tmps).run P w'=.ok v w'∧∃v_1 L'_1 R'_1,Ending.returned v=.returned v_1∧Post v_1 L'_1 R'_1∧St ⟨w,inL L,G⟩ L'_1 R'_1 w':=by
   rintro ⟨v,L'',R'',hr,hp,hL,hR⟩;exact ⟨hf'.defers,v,hr _ _ a w' hf' hs',v,L'',R'',rfl,hp,hs'.weak hL hR⟩
  cases e with
  | normal=>exact key hq
  | ret=>exact key hq
  | _=>exact hq.elim
section
variable {P:Program} {fn:Func} {Post:Ys} {t:Nat→Value} {L:List Blk} {R:List Sl}
def Ydf (tmps : Array Value) : ResultVar → Sem Value
 | .tmp t=>pure (tmps.getD t undef)
 | .cell a t=>do loadVar t (← asAddr (tmps.getD a undef))
def U7a (tmps:Array Value):results fn tmps=(do
 let vs ← fn.results.mapM (Ydf tmps)
 pure (if h:vs.size=1 then vs[0] else .tuple vs)):=rfl
def Z1a {r:ResultVar} {v:Value} (h:RV P t L R r v) {c n a w} (hf:Fr n t a) (hs:St c L R w):(Ydf a.tmps r).run P w=.ok v w:=by
 cases r with
 | tmp k=>have e:t k=v:=h;rw [← e,← hf.val k];rfl
 | cell k T=>obtain ⟨ad,h1,h2⟩:=h c w hs;have h3:=hf.val k;rw [h1] at h3;simp only [Ydf,h3];simp [asAddr,h2]
def Vs {r:ResultVar} {v:Value} (hr:fn.results=#[r]) (h:RV P t L R r v):∀c n a w,Fr n t a→St c L R w→(results fn a.tmps).run P w=.ok v w:=by intro c n a w hf hs;have h1:=Z1a h hf hs;rw [U7a,hr];simp [h1]
def U3 {r s:ResultVar} {v u:Value} (hr:fn.results=#[r,s]) (h:RV P t L R r v) (k:RV P t L R s u):∀c n a w,Fr n t a→St c L R w→(results fn a.tmps).run P w=.ok (.tuple #[v,u]) w:=by intro c n a w hf hs;have h1:=Z1a h hf hs;have h2:=Z1a k hf hs;rw [U7a,hr];simp [h1,h2]
def Ulb {r s q:ResultVar} {v u x:Value} (hr:fn.results=#[r,s,q]) (h:RV P t L R r v) (k:RV P t L R s u) (m:RV P t L R q x):∀c n a w,Fr n t a→St c L R w→(results fn a.tmps).run P w=.ok (.tuple #[v,u,x]) w:=by intro c n a w hf hs;have h1:=Z1a h hf hs;have h2:=Z1a k hf hs;have h3:=Z1a m hf hs;rw [U7a,hr];simp [h1,h2,h3]
def Ji {k:Nat} {v:Value} (h:t k=v):RV P t L R (.tmp k) v:=h
def Jr (tb : Tabs P) {k T n b o : Nat} {fl bt z} {kk : TK} {cs row : List Value} {T' : TypeId} (hx : t k = .pointer (some ⟨b, o, none⟩)) (hT : Yy tb.tab T = some ⟨kk, n, fl, bt, z⟩) (hk : kk.isAgg = true)
 (hin:In1 ⟨b,cs,T'⟩ L) (hv:sub cs o n=row) (hn:row.length=n):RV P t L R (.cell k T) (.agg row.toArray):=by
 intro c w hst;refine ⟨_,hx,Kkb (tb.ok _ _ hT) hk hn (fun j v hj=>?_)⟩;rw [Kha hst hin.mem];rw [← hv,sub,yva] at hj;split at hj;·simpa using hj
 ·cases hj
def Ja {r:Sl} {R:List Sl} (h:r∈R):InR r R:=⟨r,h,.here⟩
def Jc (R:List Sl):∀r∈R,InR r R:=fun _ h=>Ja h
def K2 {v:Value} {U:List Blk} {J:List Sl} (h:∀c n a w,Fr n t a→St c L R w→(results fn a.tmps).run P w=.ok v w) (hp:Post v U J) (hL:U.Sublist L) (hR:∀r∈J,InR r R):Ut P fn Post .ret t L R:=
 ⟨v,U,J,h,hp,hL,hR⟩
def Joa {v:Value} {U:List Blk} {J:List Sl} (h:∀c n a w,Fr n t a→St c L R w→(results fn a.tmps).run P w=.ok v w) (hp:Post v U J) (hL:U.Sublist L) (hR:∀r∈J,InR r R):Ut P fn Post .normal t L R:=
 ⟨v,U,J,h,hp,hL,hR⟩
end
section
variable {P:Program} {n:Nat} {all:Array Oper} {op:Op} {ty:TypeId} {pos:String} {after:Array Edge} {rest:List Oper} {t:Nat→Value} {L:List Blk} {R:List Sl} {Q:Kw} {d:Tmp} {v:Value}
def Jw (hv:YV P ⟨some d,op,ty,pos,after,none⟩ (ev t) L R v) (hd:Nat.blt d n=true) (h:LJ P n all rest (upd t d v) L R Q):LJ P n all (⟨some d,op,ty,pos,after,none⟩ :: rest) t L R Q:=
 Vsd hv rfl hd h
def Za {Post:Ys} (hg:Gives P ⟨some d,op,ty,pos,after,none⟩ (ev t) L R Post) (hd:Nat.blt d n=true) (h:∀v U J,Post v U J→LJ P n all rest (upd t d v) U J Q):LJ P n all (⟨some d,op,ty,pos,after,none⟩ :: rest) t L R Q:=
 V4b hg rfl hd h
def Vk {Post:Ys} (hg:Gives P ⟨none,op,ty,pos,after,none⟩ (ev t) L R Post) (h:∀v U J,Post v U J→LJ P n all rest t U J Q):LJ P n all (⟨none,op,ty,pos,after,none⟩ :: rest) t L R Q:=
 V4b hg rfl rfl h
end
def Z6a (j:Nat) (want:Bool) (l:List Oper):List Oper:=
 l.map fun o=>match o.guard with
  | some (k,w)=>bif Nat.beq k j && (w == want) then { o with guard:=none } else o
  | none=>o
def V9a (all : Array Oper) (j : Nat) (want : Bool) (cj : Nat) : List Nat → List Oper → Bool
 | _,[]=>true
 | ds,o :: l=>
  (match o.guard with
   | some (k,w)=>(Nat.beq k j && (w == want)) || (match (all[k]?).bind (·.dst) with
    | some d=>Jjc d ds
    | none=>false)
   | none=>false) &&
  (match o.dst with
   | some d=>!Nat.beq d cj && V9a all j want cj (d :: ds) l
   | none=>V9a all j want cj ds l)
def Jyd : List Oper → List Nat
 | []=>[]
 | o :: l=>match o.dst with
  | some d=>d :: Jyd l
  | none=>Jyd l
def J3 (ws : List Nat) (t : Nat → Value) (x : Operand) (v : Bool) (L : List Blk) (R : List Sl) : Kw
 | .normal,t',U,J=>ev t' x=.bool v∧U=L∧J=R∧Off ws t t'
 | _,_,_,_=>False
end Go.Aw
end
section
namespace Go.Aw
open Go
def V9 {P:Program} {o:Oper} {ρ:Operand→Value} {a:Act} {next:Act→World→Prop} {Q:Exit→Act→World→Prop} {w w':World} {v:Value} (h:(execOp ρ o).run P w=.ok (.value v) w') (k:next (a.put o.dst v) w'):o.upon P a next Q ((execOp ρ o).run P w):=by rw [h];exact k
def Jgc {P:Program} {o:Oper} {ρ:Operand→Value} {a:Act} {next:Act→World→Prop} {Q:Exit→Act→World→Prop} {w w':World} (h:(execOp ρ o).run P w=.ok .skip w') (k:next (a.put o.dst undef) w'):o.upon P a next Q ((execOp ρ o).run P w):=by rw [h];exact k
def St.alloc {c:Ctx} {L:List Blk} {R:List Sl} {w:World} (h:St c L R w) (cs:Array Value) (T:TypeId):St c (⟨w.heap.size,cs.toList,T⟩ :: L) R (w.alloc (.cells cs T)):=by
 obtain ⟨⟨G,hh,hg⟩,ho,hk⟩:=h;have old:∀b,b < w.heap.size→(w.alloc (.cells cs T)).heap[b]?=w.heap[b]?:=fun b hb=>by exact ubq
 refine ⟨⟨G,⟨?_,?_,?_,fun b hb=>?_,fun r hr=>(hh.rep r hr).mono (fun _ h=>h) (fun b hb=>old b (hh.gs b hb))⟩,hg⟩,?_,⟨hk.os,hk.tape,hk.output,?_,fun b hb hn=>?_,fun a=>?_⟩⟩;·simp only [yI, yja];refine ⟨fun hm=>?_,hh.nd⟩;obtain ⟨e,he,hb⟩:=List.mem_map.1 hm;have:=hh.lt he;omega
 ·
  intro e he;rcases List.mem_cons.1 he with rfl | he;·show (w.heap.push _)[w.heap.size]? = _;simp [BT.obj]
  ·rw [old _ (hh.lt he)];exact hh.own e he
 ·
  intro e he;rcases List.mem_cons.1 he with rfl | he;·exact fun h=>absurd (hh.gs _ h) (Nat.lt_irrefl _)
  ·exact hh.ng e he
 ·have := hh.gs b hb;simp;omega
 ·
  intro e he;rcases List.mem_cons.1 he with rfl | he;·exact .inr hk.size
  ·exact ho e he
 ·have := hk.size;simp;omega
 ·rw [old b (ylb hb hk.size)];exact hk.block b hb hn
 ·rw [RowKit.frozen?_alloc_cells];exact hk.frz a
def St.drew {c:Ctx} {L:List Blk} {R:List Sl} {w:World} (h:St c L R w):St c L R w.drew:=by obtain ⟨⟨G,hh,hg⟩,ho,hk⟩:=h;exact ⟨⟨G,⟨hh.nd,hh.own,hh.ng,hh.gs,fun r hr=>Rep.mono (w:=w) (w':=w.drew) (G:=G) (fun _ h=>h) (fun _ _=>rfl) (hh.rep r hr)⟩,hg⟩,ho,⟨hk.os,hk.tape,hk.output,hk.size,hk.block,hk.frz⟩⟩
inductive Upd1 (b : Nat) (cs : List Value) (T : TypeId) (cs' : List Value) : List Blk → List Blk → Prop
 | here {L}:Upd1 b cs T cs' (⟨b,cs,T⟩ :: L) (⟨b,cs',T⟩ :: L)
 | cons {x L U} (h:Upd1 b cs T cs' L U):Upd1 b cs T cs' (x :: L) (x :: U)
 | app {X L U} (h:Upd1 b cs T cs' L U):Upd1 b cs T cs' (X ++ L) (X ++ U)
def Upd1.mem {b cs T cs' L U} (h:Upd1 b cs T cs' L U):(⟨b,cs,T⟩:Blk)∈L:=by
 induction h with
 | here=>simp
 | cons _ ih=>exact yW _ ih
 | app _ ih=>exact yj _ ih
def Upd1.bs {b cs T cs' L U} (h:Upd1 b cs T cs' L U):U.map (·.b)=L.map (·.b):=by
 induction h with
 | here=>rfl
 | cons _ ih=>simp [ih]
 | app _ ih=>simp [ih]
def Upd1.back {b cs T cs' L U} (h:Upd1 b cs T cs' L U):∀e∈U,e=⟨b,cs',T⟩∨e∈L:=by
 induction h with
 | here=>intro e he;rcases List.mem_cons.1 he with h | h;exact .inl h;exact .inr (yW _ h)
 | cons _ ih=>intro e he;rcases List.mem_cons.1 he with h | h;exact .inr (by rw [h];simp);exact (ih e h).imp id (yW _)
 | app _ ih=>intro e he;rcases List.mem_append.1 he with h | h;exact .inr (yp _ h);exact (ih e h).imp id (yj _)
def Vsc (w:World) (g:Nat) (cs:Array Value) (a:Addr):(w.setRow g cs).frozen? a=w.frozen? a:=by
 by_cases h:a.block=g;·
  subst h;unfold World.frozen?;cases hb:w.heap[a.block]? with
  | none=>simp [World.setRow,Array.getElem?_modify,hb]
  | some o=>cases o <;> simp [World.setRow,Array.getElem?_modify,hb]
 ·exact yHb (w:=w) (setRow_other w g _ cs h)
def St.setRow {c:Ctx} {L U:List Blk} {R:List Sl} {w:World} {b:Nat} {cs cs':List Value} {T:TypeId} (h:St c L R w) (hu:Upd1 b cs T cs' L U):St c U R (w.setRow b cs'.toArray):=by
 obtain ⟨⟨G,hh,hg⟩,ho,hk⟩:=h;have hb:=hh.own _ hu.mem;have hbG:=hh.ng _ hu.mem;have nd':(U.map (·.b)).Nodup:=by rw [hu.bs];exact hh.nd
 -- an entry of U with the number b is the new one
 have same:∀e∈U,e.b=b→e=⟨b,cs',T⟩:=by
  have:∀{L U:List Blk},Upd1 b cs T cs' L U→(L.map (·.b)).Nodup→∀e∈U,e.b=b→e=⟨b,cs',T⟩:=by
   intro L U hu;induction hu with
   | here=>
    intro nd e he hb;rcases List.mem_cons.1 he with h | h;·exact h
    ·simp only [yI, yja] at nd;exact absurd (List.mem_map.2 ⟨e,h,hb⟩) nd.1
   | cons hu ih=>
    intro nd e he hb;simp only [yI,yja] at nd;rcases List.mem_cons.1 he with h | h;·refine absurd (List.mem_map.2 ⟨_, hu.mem, ?_⟩) nd.1;rw [← h];exact hb.symm
    ·exact ih nd.2 e h hb
   | app hu ih=>
    intro nd e he hb;rw [yU,yQa] at nd;rcases List.mem_append.1 he with h | h;·exact absurd hb (nd.2.2 e.b (List.mem_map.2 ⟨e,h,rfl⟩) b (List.mem_map.2 ⟨_,hu.mem,rfl⟩))
    ·exact ih nd.2.1 e h hb
  exact this hu hh.nd
 refine ⟨⟨G,⟨nd',fun e he=>?_,fun e he=>?_,fun x hx=>by simpa using hh.gs x hx,fun r hr=>(hh.rep r hr).mono (fun _ h=>h) (fun x hx=>setRow_other w b x _ (fun e=>hbG (e ▸ hx)))⟩,hg⟩,fun e he=>?_,⟨hk.os,hk.tape,hk.output,by simpa using hk.size,fun x hx hn=>?_,fun a=>?_⟩⟩;·
  by_cases hbe : e.b = b;·rw [same e he hbe];exact setRow_heap w b _ _ T _ hb
  ·
   rw [setRow_other w b _ _ hbe];rcases hu.back e he with h | h;·exact absurd (by rw [h]) hbe
   ·exact hh.own e h
 ·
  rcases hu.back e he with h | h;·rw [h];exact hbG
  ·exact hh.ng e h
 ·
  rcases hu.back e he with h | h;·have := ho _ hu.mem;rw [h];exact this
  ·exact ho e h
 ·
  by_cases hxb : x = b;·
   subst hxb;rcases ho _ hu.mem with h | h;·exact absurd h hn
   ·exact absurd h (Nat.not_le.2 hx)
  ·rw [setRow_other w b x _ hxb];exact hk.block x hx hn
 ·rw [Vsc];exact hk.frz a
section
variable {P:Program} {ρ:Operand→Value} {L U:List Blk} {R:List Sl} {dst:Option Tmp} {ty:TypeId} {pos:String} {after:Array Edge} {guard:Option (Nat×Bool)} (tb:Tabs P) {T:TypeId} {x y:Operand}
def Kc {k n fl bt z} (hT:Yy tb.tab T=some ⟨k,n,fl,bt,z⟩):
 Gives P ⟨dst,.alloc T,ty,pos,after,guard⟩ ρ L R (fun v U J=>∃b,v=.pointer (some ⟨b,0,none⟩)∧U=⟨b,z,T⟩ :: L∧J=R):=by
 intro c w hs a next Q kk
 obtain ⟨zv,hz1,hz2⟩:=Y8 (tb.ok _ _ hT) w;simp only at hz2;refine V9 (w':=w.alloc (.cells zv.cells T)) (v:=.pointer (some ⟨w.heap.size,0,none⟩)) ?_ (kk _ _ _ _ ⟨w.heap.size,rfl,rfl,rfl⟩ ?_);·simp [execOp,Instr.alloc,hz1,newVar,newRow]
 ·rw [← hz2];exact hs.alloc _ _
def Zkd {v:Value} (hx:ρ x=v) (h1:v.oneCell'=true):
 Gives P ⟨dst,.box T x,ty,pos,after,guard⟩ ρ L R (fun u U J=>∃b,u=.pointer (some ⟨b,0,none⟩)∧U=⟨b,[v],T⟩ :: L∧J=R):=by
 intro c w hs a next Q kk
 have hc:v.cells=#[v]:=by cases v <;> first | rfl | (simp [Value.oneCell'] at h1)
 refine V9 (w':=w.alloc (.cells #[v] T)) (v:=.pointer (some ⟨w.heap.size,0,none⟩)) ?_ (kk _ _ _ _ ⟨w.heap.size,rfl,rfl,rfl⟩ (hs.alloc _ _));simp [execOp,hx,Instr.box,newVar,newRow,hc]
def Zid {row:List Value} (hx:ρ x=.agg row.toArray):
 Gives P ⟨dst,.box T x,ty,pos,after,guard⟩ ρ L R (fun u U J=>∃b,u=.pointer (some ⟨b,0,none⟩)∧U=⟨b,row,T⟩ :: L∧J=R):=by
 intro c w hs a next Q kk
 refine V9 (w':=w.alloc (.cells row.toArray T)) (v:=.pointer (some ⟨w.heap.size,0,none⟩)) ?_ (kk _ _ _ _ ⟨w.heap.size,rfl,rfl,rfl⟩ (hs.alloc _ _));simp [execOp,hx,Instr.box,newVar,newRow,Value.cells]
def V3a {c : Ctx} {w : World} (hs : St c L R w) {b o : Nat} {cs vs : List Value} {T' : TypeId} {ti : TI} (hT : Zo P T = some ti) (hn : vs.length = ti.sz) (hu : Upd1 b cs T' (cs.take o ++ vs ++ cs.drop (o + vs.length)) L U)
 (hfit:o + vs.length≤cs.length) (h1:∀v∈vs,v.oneCell'=true) {val:Value} (hv:val.cells=vs.toArray):
 (storeVar T ⟨b,o,none⟩ val).run P w=.ok () (w.setRow b (cs.take o ++ vs ++ cs.drop (o + vs.length)).toArray):=by
 have hb:w.heap[b]?=some (.cells cs.toArray T' (0,0)):=by obtain ⟨⟨G,hh,_⟩,_,_⟩:=hs;exact hh.own _ hu.mem
 have hst:=run_storeCells_at P b o T' vs 0 cs.toArray w hb (by simpa using hfit) h1;simp only [Nat.add_zero] at hst;simp only [storeVar,yea,run_sizeOf hT,yE,hv];simp [hn,hst]
def Uyb {k n fl bt z b o} {cs vs cs' : List Value} {T' : TypeId} (hT : Yy tb.tab T = some ⟨k, n, fl, bt, z⟩) (hx : ρ x = .pointer (some ⟨b, o, none⟩)) (hy : ρ y = .agg vs.toArray) (hn : vs.length = n)
 (hu:Upd1 b cs T' cs' L U) (hfit:Nat.ble (o + vs.length) cs.length=true) (hcs:cs.take o ++ vs ++ cs.drop (o + vs.length)=cs') (h1:vs.all (·.oneCell')=true):
 Gives P ⟨none,.store T x y,ty,pos,after,guard⟩ ρ L R (fun _ L'' J=>L''=U∧J=R):=by
 intro c w hs a next Q kk
 subst hcs;have:=V3a (P:=P) hs (tb.ok _ _ hT) hn hu (yR hfit) (List.all_eq_true.1 h1) (val:=.agg vs.toArray) rfl;exact ua2
def Kzf (cs:List Value) (o:Nat) (v:Value) (h:o < cs.length):cs.take o ++ [v] ++ cs.drop (o + 1)=cs.set o v:=by rw [List.set_eq_take_append_cons_drop,if_pos h];simp
def U6b {k n fl bt z b o} {cs cs' : List Value} {v : Value} {T' : TypeId} (hT : Yy tb.tab T = some ⟨k, n, fl, bt, z⟩) (hx : ρ x = .pointer (some ⟨b, o, none⟩)) (hy : ρ y = v) (hn : n = 1)
 (hu:Upd1 b cs T' cs' L U) (hfit:Nat.blt o cs.length=true) (hcs:cs.set o v=cs') (h1:v.oneCell'=true):
 Gives P ⟨none,.store T x y,ty,pos,after,guard⟩ ρ L R (fun _ L'' J=>L''=U∧J=R):=by
 intro c w hs a next Q kk
 have hlt:o < cs.length:=by simpa using hfit
 subst hcs;rw [← Kzf cs o v hlt] at hu;have hc:v.cells=#[v]:=by cases v <;> first | rfl | (simp [Value.oneCell'] at h1)
 have:=V3a (P:=P) (vs:=[v]) hs (tb.ok _ _ hT) (by simp [hn]) hu (by simpa using Nat.succ_le_of_lt hlt) (by simpa using h1) hc;exact ua2
def V0c : List Value → Nat → List Value → List Value
 | cs,_,[]=>cs
 | cs,o,v :: vs=>V0c (cs.set o v) (o + 1) vs
def Upe (fl : List (Nat × Nat)) (cs : List Value) : List (Nat × List Value) → Option (List Value)
 | []=>some cs
 | (i,vs) :: rest=>match fl[i]? with
  | some (off,size)=>bif Nat.beq vs.length size && Nat.ble (off + vs.length) cs.length then Upe fl (V0c cs off vs) rest else none
  | none=>none
def Zdb : ∀ (vs : List Value) (off j : Nat) (cs : Array Value), (vs.zipIdx j).foldl (fun cs (p : Value × Nat) => cs.setIfInBounds (off + p.2) p.1) cs = (V0c cs.toList (off + j) vs).toArray
 | [],_,_,cs=>by simp [V0c]
 | v :: vs,off,j,cs=>by
  simp only [List.zipIdx_cons,List.foldl_cons,V0c]
  rw [Zdb vs off (j + 1)]
  simp [yjc]
def Vve (fl:List (Nat×Nat)) (place:Nat→Option (Nat×Nat)) (hp:∀i,place i=fl[i]?):∀(parts:List (Nat×Value)) (cs:List Value) (out:List Value),
 Upe fl cs (parts.map fun p=>(p.1,p.2.cells.toList))=some out→Instr.fill place cs.toArray parts=some out.toArray
 | [],cs,out,h=>by simp only [ywb,Upe,ydb] at h;simp [Instr.fill,h]
 | (i,v) :: rest,cs,out,h=>by
  simp only [yI,Upe] at h
  simp only [Instr.fill,hp]
  cases hf:fl[i]? with
  | none=>rw [hf] at h;cases h
  | some p=>
   obtain ⟨off,size⟩:=p
   rw [hf] at h
   simp only at h
   cases hb:(Nat.beq v.cells.toList.length size && Nat.ble (off + v.cells.toList.length) cs.length) with
   | false=>rw [hb] at h;cases h
   | true=>
    rw [hb,cond_true] at h
    simp only [yo,yKb,Nat.ble_eq,yYb] at hb
    have:=Vve fl place hp rest _ out h
    simp only
    rw [if_neg (by simp [hb.1];omega)]
    have hz:v.cells.zipIdx.foldl (fun cs (x:Value×Nat)=>cs.setIfInBounds (off + x.2) x.1) cs.toArray=(V0c cs off v.cells.toList).toArray:=by
     rw [← Array.foldl_toList]
     have:=Zdb v.cells.toList off 0 cs.toArray
     simpa using this
    rw [show (v.cells.zipIdx.foldl (fun cs (c,j)=>cs.setIfInBounds (off + j) c) cs.toArray)=(V0c cs off v.cells.toList).toArray from hz]
    exact this
def evP (ρ : Operand → Value) : List (Nat × Operand) → List (Nat × List Value)
 | []=>[]
 | (i,x) :: l=>(i,(ρ x).cells.toList) :: evP ρ l
def K4f (ρ:Operand→Value) (l:List (Nat×Operand)):evP ρ l=(l.map fun p=>(p.1,ρ p.2)).map fun p=>(p.1,p.2.cells.toList):=by
 induction l with
 | nil=>rfl
 | cons p l ih=>obtain ⟨i,x⟩:=p;simp [evP,ih]
def Jte (w:World):∀(l:List Field),(∀f∈l,((P.info? f.type).map (·.size)).getD 0≠0)→
 (l.mapM fun f=>(do pure (f.offset,← sizeOf f.type):Sem (Nat×Nat))).run P w=.ok (l.map fun f=>(f.offset,((P.info? f.type).map (·.size)).getD 0)) w:=by
 intro l;induction l with
 | nil=>intro _;simp
 | cons f l ih=>
  intro hl;have h1:=hl f zo;cases hj:P.info? f.type with
  | none=>rw [hj] at h1;simp at h1
  | some j=>have ih':=ih fun g hg=>hl g (by simp [hg]);(have hs:(sizeOf f.type).run P w=.ok j.size w:=by simp [sizeOf,typeInfo,hj]);rw [List.mapM_cons];simp only [yea,hs,yE,yCa,ih',yI,hj,yRa,ylc]
def J8 {n fl bt z} {ps:List (Nat×Operand)} {qs:List (Nat×List Value)} {out:List Value} (hT:Yy tb.tab T=some ⟨.struct,n,fl,bt,z⟩) (hz0:fl.all (fun p=>!Nat.beq p.2 0)=true) (hq:evP ρ ps=qs) (hf:Upe fl z qs=some out):
 YV P ⟨dst,.build T ps.toArray,ty,pos,after,guard⟩ ρ L R (.agg out.toArray):=fun _ w _=>by
 obtain ⟨fs,hu,hfl⟩:=Zaa (tb.ok _ _ hT) rfl
 obtain ⟨zv,hz1,hz2⟩:=Y8 (tb.ok _ _ hT) w
 simp only at hfl hz2
 subst hq
 rw [K4f] at hf
 have hall:∀f∈fs.toList,((P.info? f.type).map (·.size)).getD 0≠0:=by
  intro f hm h0
  rw [hfl,List.all_map,List.all_eq_true] at hz0
  have:=hz0 f hm
  simp [h0] at this
 have hpl:=Jte (P:=P) w fs.toList hall
 rw [← hfl] at hpl
 have hfill:=Vve fl (fun i=>fl.toArray[i]?) (fun i=>by simp) (ps.map fun p=>(p.1,ρ p.2)) z out hf
 have hzc:zv.cells=z.toArray:=by rw [← hz2]
 have hmap:(ps.toArray.map fun (p:Nat×Operand)=>(p.1,ρ p.2)).toList=ps.map fun p=>(p.1,ρ p.2):=by simp
 have hfs:fs=fs.toList.toArray:=by simp
 have hm:(fs.mapM fun f=>(do pure (f.offset,← sizeOf f.type):Sem (Nat×Nat))).run P w=.ok fl.toArray w:=by
  rw [hfs,List.mapM_toArray]
  simp only [Sem.run_map,hpl,yE]
 have hgoal:(Instr.build T (ps.toArray.map fun (p:Nat×Operand)=>(p.1,ρ p.2))).run P w=.ok (.agg out.toArray) w:=by
  unfold Instr.build
  simp only [yea,hz1,yE,run_underlying hu,hm,hzc,hmap]
  rw [hfill]
  simp
 show (execOp ρ ⟨dst,.build T ps.toArray,ty,pos,after,guard⟩).run P w=_
 have e:execOp ρ ⟨dst,.build T ps.toArray,ty,pos,after,guard⟩=(do pure (.value (← Instr.build T (ps.toArray.map fun (p:Nat×Operand)=>(p.1,ρ p.2))))):=rfl
 rw [e]
 simp only [yea,hgoal,yE]
 rfl
end
end Go.Aw
end
section
namespace Go.Aw
open Go
section
variable {P:Program} {n:Nat} {all:Array Oper} {ty:TypeId} {pos:String} {after:Array Edge} {rest:List Oper} {t:Nat→Value} {L U:List Blk} {R:List Sl} {Q:Kw} {d:Tmp} (tb:Tabs P) {T:TypeId} {x y:Operand}
def Jv {f : FuncId} {xs : List Operand} {ts : Array TypeId} {args : List Value} {Post : Ys} (ha : xs.map (ev t) = args) (h : Tri P f args.toArray L R Post) (hd : Nat.blt d n = true)
 (k:∀v U J,Post v U J→LJ P n all rest (upd t d v) U J Q):LJ P n all (⟨some d,.call ⟨.value (.func f),xs.toArray,ts⟩,ty,pos,after,none⟩ :: rest) t L R Q:=
 Za (Uza zsa rfl h) hd k
def Zve {k m fl bt z} (hT : Yy tb.tab T = some ⟨k, m, fl, bt, z⟩) (hd : Nat.blt d n = true)
 (h:∀b,LJ P n all rest (upd t d (.pointer (some ⟨b,0,none⟩))) (⟨b,z,T⟩ :: L) R Q):LJ P n all (⟨some d,.alloc T,ty,pos,after,none⟩ :: rest) t L R Q:=
 Za (Kc tb hT) hd fun v U J ⟨b,e1,e2,e3⟩=>by subst e1;subst e2;subst e3;exact h b
def Uud {v : Value} (hx : ev t x = v) (h1 : v.oneCell' = true) (hd : Nat.blt d n = true)
 (h:∀b,LJ P n all rest (upd t d (.pointer (some ⟨b,0,none⟩))) (⟨b,[v],T⟩ :: L) R Q):LJ P n all (⟨some d,.box T x,ty,pos,after,none⟩ :: rest) t L R Q:=
 Za (Zkd hx h1) hd fun v U J ⟨b,e1,e2,e3⟩=>by subst e1;subst e2;subst e3;exact h b
def Yif {row : List Value} (hx : ev t x = .agg row.toArray) (hd : Nat.blt d n = true)
 (h:∀b,LJ P n all rest (upd t d (.pointer (some ⟨b,0,none⟩))) (⟨b,row,T⟩ :: L) R Q):LJ P n all (⟨some d,.box T x,ty,pos,after,none⟩ :: rest) t L R Q:=
 Za (Zid hx) hd fun v U J ⟨b,e1,e2,e3⟩=>by subst e1;subst e2;subst e3;exact h b
def Uva {k m fl bt z b o} {cs cs' : List Value} {v : Value} {T' : TypeId} (hT : Yy tb.tab T = some ⟨k, m, fl, bt, z⟩) (hx : ev t x = .pointer (some ⟨b, o, none⟩)) (hy : ev t y = v) (hn : m = 1)
 (hu:Upd1 b cs T' cs' L U) (hfit:Nat.blt o cs.length=true) (hcs:cs.set o v=cs') (h1:v.oneCell'=true)
 (h:LJ P n all rest t U R Q):LJ P n all (⟨none,.store T x y,ty,pos,after,none⟩ :: rest) t L R Q:=
 Vk (U6b tb hT hx hy hn hu hfit hcs h1) fun _ L'' J ⟨e1,e2⟩=>by subst e1;subst e2;exact h
def Kua {k m fl bt z b o} {cs vs cs' : List Value} {T' : TypeId} (hT : Yy tb.tab T = some ⟨k, m, fl, bt, z⟩) (hx : ev t x = .pointer (some ⟨b, o, none⟩)) (hy : ev t y = .agg vs.toArray) (hn : vs.length = m)
 (hu:Upd1 b cs T' cs' L U) (hfit:Nat.ble (o + vs.length) cs.length=true) (hcs:cs.take o ++ vs ++ cs.drop (o + vs.length)=cs') (h1:vs.all (·.oneCell')=true)
 (h:LJ P n all rest t U R Q):LJ P n all (⟨none,.store T x y,ty,pos,after,none⟩ :: rest) t L R Q:=
 Vk (Uyb tb hT hx hy hn hu hfit hcs h1) fun _ L'' J ⟨e1,e2⟩=>by subst e1;subst e2;exact h
def V5e {k m fl bt z b} {cs vs : List Value} {T' : TypeId} (hT : Yy tb.tab T = some ⟨k, m, fl, bt, z⟩) (hx : ev t x = .pointer (some ⟨b, 0, none⟩)) (hy : ev t y = .agg vs.toArray) (hn : vs.length = m)
 (hu:Upd1 b cs T' vs L U) (hfit:vs.length=cs.length) (h1:vs.all (·.oneCell')=true)
 (h:LJ P n all rest t U R Q):LJ P n all (⟨none,.store T x y,ty,pos,after,none⟩ :: rest) t L R Q:=
 Kua tb hT hx hy hn hu (by simp [hfit]) (by simp [hfit]) h1 h
end
def Oper.wp_put {P:Program} {o:Oper} {a:Act} {w:World} {K:Act→World→Prop} {Q:Exit→Act→World→Prop} (h:o.wp P a w K Q):
 o.wp P a w (fun a' w'=>K a' w'∧∃v,a'.tmps=(a.put o.dst v).tmps) Q:=by
 unfold Oper.wp at *;generalize (execOp a.eval o).run P w=r at *;cases r with
 | ok x w'=>
  cases x <;> simp only [Oper.upon] at h ⊢ <;>
   first
    |exact ⟨h,_,rfl⟩
    |exact Calls.mono h (fun e w'' he=>by cases e <;> first | exact ⟨he,_,rfl⟩ | exact he)
    |exact Rows.mono h (fun _ _ he=>⟨he,_,rfl⟩)
    |exact h
    | skip
  case defer d=>exact ⟨h,undef,by cases o.dst <;> rfl⟩
 | halt x w'=>cases x <;> exact h
def Jfb {P : Program} {all : Array Oper} {j : Nat} {want : Bool} {cj : Nat} {Q Q' : Exit → Act → World → Prop} {tail : List Oper} (hj : (all[j]?).bind (·.dst) = some cj)
 (hQ:∀e a w,e≠.normal→Q e a w→Q' e a w) (hT:∀a w,Q .normal a w→wpList P all Q' tail a w):
 ∀(G:List Oper) (ds:List Nat),V9a all j want cj ds G=true→∀(a:Act) (w:World),a.tmps[cj]?=some (.bool want)→
  wpList P all Q (Z6a j want G) a w→wpList P all Q' (G ++ tail) a w
 | [],_,_,a,w,_,h=>hT a w h
 | o :: G,ds,hok,a,w,hc,h=>by
  simp only [V9a,yo] at hok
  obtain ⟨hg,hrest⟩:=hok
  have hyj:yielded all a.tmps j=some want:=by
   unfold yielded
   rw [hj]
   simp [hc]
  -- the stripped operation runs as the operation itself
  have hsame:∃o',Z6a j want (o :: G)=o' :: Z6a j want G∧o'.op=o.op∧o'.dst=o.dst∧o'.type=o.type∧Region.wanted o' (yielded all a.tmps)=Region.wanted o (yielded all a.tmps):=by
   cases hgd:o.guard with
   | none=>exact ⟨o,by simp [Z6a,hgd],rfl,rfl,rfl,rfl⟩
   | some p=>
    obtain ⟨k,wk⟩:=p
    cases hb:(Nat.beq k j && (wk == want)) with
    | false=>exact ⟨o,by simp [Z6a,hgd,hb],rfl,rfl,rfl,rfl⟩
    | true=>
     simp only [yo,yKb,beq_iff_eq] at hb
     refine ⟨{ o with guard:=none },by simp [Z6a,hgd,hb.1,hb.2],rfl,rfl,rfl,?_⟩
     simp [Region.wanted,hgd,hb.1,hb.2,hyj]
  obtain ⟨o',e1,e2,e3,e4,e5⟩:=hsame
  rw [e1] at h
  have next:∀(a':Act) (w':World) (v:Value),a'.tmps=(a.put o.dst v).tmps→wpList P all Q (Z6a j want G) a' w'→wpList P all Q' (G ++ tail) a' w':=by
   intro a' w' v hv h'
   have hc':a'.tmps[cj]?=some (.bool want):=by
    rw [hv]
    cases hd:o.dst with
    | none=>exact hc
    | some d=>
     rw [hd] at hrest
     simp only [yo,yPa] at hrest
     have hne:d≠cj:=fun e=>by rw [e] at hrest;simp at hrest
     simp only [Act.put]
     rw [yqa hne]
     exact hc
   cases hd:o.dst with
   | none=>rw [hd] at hrest;exact Jfb hj hQ hT G ds hrest a' w' hc' h'
   | some d=>rw [hd] at hrest;simp only [yo] at hrest;exact Jfb hj hQ hT G _ hrest.2 a' w' hc' h'
  have hexec:∀a:Act,execOp a.eval o'=execOp a.eval o:=by
   intro a
   obtain ⟨od,oo,ot,op,oa,og⟩:=o
   obtain ⟨pd,po,pt,pp,pa,pg⟩:=o'
   simp only at e2 e3 e4
   subst e2;subst e3;subst e4
   rfl
  simp only [yr]
  unfold wpList at h ⊢
  rw [e5] at h
  split
  ·rename_i hw
   rw [if_pos hw] at h
   rcases h with h | ⟨h,h2⟩
   ·refine .inl ?_
    have h':=Oper.wp_put h
    unfold Oper.wp at h' ⊢
    rw [hexec] at h'
    generalize (execOp a.eval o).run P w=r at *
    cases r with
    | ok x w'=>
     cases x <;> simp only [Oper.upon, e3] at h' ⊢ <;>
      first
       | (obtain ⟨h1,v,hv⟩:=h';exact next _ _ v hv h1)
       | exact h'
       | skip
     case enter f args=>
      refine Calls.mono h' fun e w'' he=>?_
      cases e with
      | returned u=>obtain ⟨h1,v,hv⟩:=he;exact next _ _ v hv h1
      | panicked c=>exact hQ _ _ _ zo he
      | outgrown=>obtain ⟨a0,w0,he⟩:=he;exact ⟨a0,w0,hQ _ _ _ zo he⟩
     case row row args=>exact Rows.mono h' fun u w'' he=>by obtain ⟨h1,v,hv⟩:=he;exact next _ _ v hv h1
    | halt x w'=>
     cases x <;> simp only [Oper.upon] at h' ⊢ <;> first | exact h' | exact hQ _ _ _ zo h'
   ·refine .inr ⟨?_, ?_⟩
    ·unfold Oper.asks at *
     rw [hexec] at h
     exact h
    ·obtain ⟨a0,w0,he⟩:=h2;exact ⟨a0,w0,hQ _ _ _ zo he⟩
  ·rename_i hw
   rw [if_neg hw,e3] at h
   exact next _ _ undef rfl h
def Uhb {P:Program} {all:Array Oper} {j:Nat} {want:Bool} {cj:Nat} {Q':Exit→Act→World→Prop} {tail:List Oper} (hj:(all[j]?).bind (·.dst)=some cj):
 ∀(G:List Oper) (ds:List Nat),V9a all j want cj ds G=true→∀(a:Act) (w:World),a.tmps[cj]?=some (.bool (!want))→(∀d,Jjc d ds=true→a.tmps.getD d undef=undef)→
  (∀a':Act,a'.defers=a.defers→a'.tmps.size=a.tmps.size→(∀d,Jjc d (Jyd G)=false→a'.tmps.getD d undef=a.tmps.getD d undef)→wpList P all Q' tail a' w)→wpList P all Q' (G ++ tail) a w
 | [],_,_,a,w,_,_,h=>h a rfl rfl (fun _ _=>rfl)
 | o :: G,ds,hok,a,w,hc,hds,h=>by
  simp only [V9a,yo] at hok
  obtain ⟨hg,hrest⟩:=hok
  have hw:Region.wanted o (yielded all a.tmps)=false:=by
   cases hgd:o.guard with
   | none=>rw [hgd] at hg;cases hg
   | some p=>
    obtain ⟨k,wk⟩:=p
    rw [hgd] at hg
    simp only [yEb,yo,yKb,beq_iff_eq] at hg
    unfold Region.wanted
    rw [hgd]
    rcases hg with ⟨hk,hwk⟩ | hg
    ·subst hk; subst hwk
     have:yielded all a.tmps k=some (!wk):=by unfold yielded;rw [hj];simp [hc]
     simp only [this]
     cases wk <;> rfl
    ·cases hd:(all[k]?).bind (·.dst) with
     | none=>rw [hd] at hg;cases hg
     | some d=>
      rw [hd] at hg
      have h0:=hds d hg
      have:yielded all a.tmps k=none:=by
       unfold yielded
       rw [hd]
       simp only [yJa]
       rcases yk d a.tmps.size with h' | h'
       ·simp only [ynb, Array.getElem?_eq_getElem h', ylc] at h0
        rw [Array.getElem?_eq_getElem h',h0]
        rfl
       ·rw [yF h']
      simp [this]
  simp only [yr]
  unfold wpList
  rw [hw,if_neg zo]
  cases hd:o.dst with
  | none=>
   rw [hd] at hrest
   refine Uhb hj G ds hrest a w hc hds ?_
   intro a' h1 h2 h3
   exact h a' h1 h2 (by simpa [Jyd,hd] using h3)
  | some d=>
   rw [hd] at hrest
   simp only [yo,yPa] at hrest
   have hne:d≠cj:=fun e=>by have:=hrest.1;rw [e] at this;simp at this
   refine Uhb hj G (d :: ds) hrest.2 _ w ?_ ?_ ?_
   ·simp only [Act.put]
    rw [yqa hne]
    exact hc
   ·intro x hx
    simp only [Act.put]
    by_cases hxd:x=d
    ·subst hxd
     rcases yk x a.tmps.size with h' | h'
     ·simp [h']
     ·simp [h']
    ·simp only [Jjc, Kce hxd, cond_false] at hx
     have:=hds x hx
     simp only [ynb] at this ⊢
     rw [yqa (yic hxd)]
     exact this
   ·intro a' h1 h2 h3
    refine h a' h1 (by rw [h2];simp [Act.put]) (fun x hx=>?_)
    simp only [Jyd,hd,Jjc] at hx
    have hxd:x≠d:=fun e=>by rw [e] at hx;simp at hx
    rw [Kce hxd,cond_false] at hx
    rw [h3 x hx]
    simp only [Act.put,ynb]
    rw [yqa (yic hxd)]
section
variable {P:Program} {n:Nat} {all:Array Oper} {ty:TypeId} {pos:String} {after:Array Edge} {rest:List Oper} {t:Nat→Value} {L U:List Blk} {R:List Sl} {Q:Kw} {d:Tmp} {y:Operand}
def Yqd {G : List Oper} {j cj : Nat} {want u v : Bool} {c : Bool} {x1 x2 xin : Operand} (hj : (all[j]?).bind (·.dst) = some cj) (hcn : Nat.blt cj n = true) (hok : V9a all j want cj [] G = true) (hmc : Jjc cj (Jyd G) = false)
 (hc:t cj=.bool c) (hd:Nat.blt d n=true)
 (hpick:(if want then x1 else x2)=xin∧(if want then x2 else x1)=.const (.bool u))
 (h:c=want→LJ P n all (Z6a j want G) t L R (J3 (Jyd G) t xin v L R))
 (k:∀junk,LJ P n all rest (upd (havoc (Jyd G) t junk) d (.bool (if c=want then v else u))) L R Q):
 LJ P n all (G ++ ⟨some d,.pick (.tmp cj) x1 x2,ty,pos,after,none⟩ :: rest) t L R Q:=by
 intro cx a w hf hs;have hcn':cj < a.tmps.size:=by rw [hf.size];simpa using hcn
 have hca:a.tmps[cj]?=some (.bool c):=by have:=hf.val cj;rw [hc] at this;simpa [hcn'] using this
 have fin:∀(a':Act) (w':World) (t':Nat→Value) (b:Bool),Fr n t' a'→St cx L R w'→Off (Jyd G) t t'→(if c then ev t' x1 else ev t' x2)=.bool b→b=(if c=want then v else u)→
  wpList P all (Zra n cx Q) (⟨some d,.pick (.tmp cj) x1 x2,ty,pos,after,none⟩ :: rest) a' w':=by
  intro a' w' t' b hf' hs' ho hb e;have hcj:ev t' (.tmp cj)=.bool c:=(ho cj hmc).trans hc;have hy:YV P ⟨some d,.pick (.tmp cj) x1 x2,ty,pos,after,none⟩ (ev t') L R (.bool b):=by rw [← hb];exact Upa hcj
  refine Jw hy hd ?_ cx a' w' hf' hs';rw [e];have:=k t';rwa [Zy ho] at this
 by_cases hcw:c=want;·
  subst hcw;refine Jfb (Q:=Zra n cx (J3 (Jyd G) t xin v L R)) hj (fun e a w hne hq=>?_) (fun a' w' hq=>?_) G [] hok a w hca (h rfl cx a w hf hs);·obtain ⟨_, t', U, J, hq, _⟩ := hq;cases e <;> first | exact hq.elim | exact absurd rfl hne
  ·obtain ⟨_, t', U, J, hq, hf', hs'⟩ := hq;obtain ⟨e1,e2,e3,e4⟩:=hq;subst e2;subst e3;refine fin a' w' t' v hf' hs' e4 ?_ zo;rw [← e1,← hpick.1];cases c <;> rfl
 ·
  have hca' : a.tmps[cj]? = some (.bool (!want)) := by rw [hca]; cases c <;> cases want <;> simp_all
  refine Uhb hj G [] hok a w hca' (fun d hd=>by cases hd) (fun a' h1 h2 h3=>?_);refine fin a' w (fun k=>a'.tmps.getD k undef) u ⟨h1.trans hf.defers,h2.trans hf.size,fun _=>rfl⟩ hs (fun k hk=>(h3 k hk).trans (hf.val k)) ?_ (by rw [if_neg hcw]);have:(if want then x2 else x1)=.const (.bool u):=hpick.2;cases c <;> cases want <;> simp_all [ev]
def Ui {G : List Oper} {j cj : Nat} {v c : Bool} {xin : Operand} (hj : (all[j]?).bind (·.dst) = some cj) (hcn : Nat.blt cj n = true) (hok : V9a all j true cj [] G = true) (hmc : Jjc cj (Jyd G) = false)
 (hc:t cj=.bool c) (hd:Nat.blt d n=true) (h:c=true→LJ P n all (Z6a j true G) t L R (J3 (Jyd G) t xin v L R))
 (k:∀junk,LJ P n all rest (upd (havoc (Jyd G) t junk) d (.bool (c && v))) L R Q):
 LJ P n all (G ++ ⟨some d,.pick (.tmp cj) xin (.const (.bool false)),ty,pos,after,none⟩ :: rest) t L R Q:=
 Yqd (want:=true) (u:=false) hj hcn hok hmc hc hd ⟨rfl,rfl⟩ h (fun junk=>by have:=k junk;cases c <;> exact this)
def Kf {G : List Oper} {j cj : Nat} {v c : Bool} {xin : Operand} (hj : (all[j]?).bind (·.dst) = some cj) (hcn : Nat.blt cj n = true) (hok : V9a all j false cj [] G = true) (hmc : Jjc cj (Jyd G) = false)
 (hc:t cj=.bool c) (hd:Nat.blt d n=true) (h:c=false→LJ P n all (Z6a j false G) t L R (J3 (Jyd G) t xin v L R))
 (k:∀junk,LJ P n all rest (upd (havoc (Jyd G) t junk) d (.bool (c || v))) L R Q):
 LJ P n all (G ++ ⟨some d,.pick (.tmp cj) (.const (.bool true)) xin,ty,pos,after,none⟩ :: rest) t L R Q:=
 Yqd (want:=false) (u:=true) hj hcn hok hmc hc hd ⟨rfl,rfl⟩ h (fun junk=>by have:=k junk;cases c <;> exact this)
def Vge {ws:List Nat} {t0:Nat→Value} {xin:Operand} {v:Bool} (h1:ev t xin=.bool v) (h2:Off ws t0 t):J3 ws t0 xin v L R .normal t L R:=⟨h1,rfl,rfl,h2⟩
end
end Go.Aw
end
section
namespace Go.Aw
open Go
def St.frame {F L U:List Blk} {R J:List Sl} {G:Nat→Prop} {w w':World} (h:Holds (F ++ L) G R w) (k:St ⟨w,inL L,G⟩ U J w'):St ⟨w,inL (F ++ L),G⟩ (F ++ U) J w':=by
 obtain ⟨⟨G',hh,hg⟩,ho,hk⟩:=k;have hnd:=h.nd;rw [yU,yQa] at hnd;have fL:∀e∈F,¬ inL L e.b:=fun e he ⟨e',he',hb⟩=>hnd.2.2 e.b (List.mem_map.2 ⟨e,he,rfl⟩) e'.b (List.mem_map.2 ⟨e',he',rfl⟩) hb.symm;have flt:∀e∈F,e.b < w.heap.size:=fun e he=>h.lt (yp _ he);have fG:∀e∈F,¬ G e.b:=fun e he=>h.ng e (yp _ he);have fsame:∀e∈F,w'.heap[e.b]?=w.heap[e.b]?:=fun e he=>hk.block e.b (flt e he) (fL e he);refine ⟨⟨G',⟨?_,fun e he=>?_,fun e he hG=>?_,hh.gs,hh.rep⟩,fun b hb=>?_⟩,fun e he=>?_,⟨hk.os,hk.tape,hk.output,hk.size,fun b hb hn=>hk.block b hb (fun hi=>hn ?_),hk.frz⟩⟩;·
  rw [yU, yQa];refine ⟨hnd.1,hh.nd,fun x hx y hy hxy=>?_⟩;obtain ⟨e,he,rfl⟩:=List.mem_map.1 hx;obtain ⟨e',he',rfl⟩:=List.mem_map.1 hy;rcases ho e' he' with h1 | h1;·rw [← hxy] at h1;exact fL e he h1
  ·rw [← hxy] at h1;exact absurd (flt e he) (Nat.not_lt.2 h1)
 ·
  rcases List.mem_append.1 he with he | he;·rw [fsame e he];exact h.own e (yp _ he)
  ·exact hh.own e he
 ·
  rcases List.mem_append.1 he with he | he;·
   rcases hg e.b hG with h1 | h1 | h1;·exact fG e he h1
   ·exact absurd (flt e he) (Nat.not_lt.2 h1)
   ·exact fL e he h1
  ·exact hh.ng e he hG
 ·
  rcases hg b hb with h1 | h1 | ⟨e, he, h1⟩;·exact .inl h1
  ·exact .inr (.inl h1)
  ·exact .inr (.inr ⟨e,yj _ he,h1⟩)
 ·
  rcases List.mem_append.1 he with he | he;·exact .inl ⟨e,yp _ he,rfl⟩
  ·
   rcases ho e he with ⟨e', he', h1⟩ | h1;·exact .inl ⟨e',yj _ he',h1⟩
   ·exact .inr h1
 ·obtain ⟨e, he, h1⟩ := hi;exact ⟨e,yj _ he,h1⟩
def Gives.frame {P op ρ L R} {Post:Ys} (h:Gives P op ρ L R Post) (F:List Blk):Gives P op ρ (F ++ L) R (fun v L'' J=>∃U,L''=F ++ U∧Post v U J):=by
 intro c w hs a next Q k
 obtain ⟨⟨G,hh,hg⟩,ho,hk⟩:=hs;have hL:Holds L G R w:=⟨(List.nodup_append.1 (by have:=hh.nd;rwa [yU] at this)).2.1,fun e he=>hh.own e (yj _ he),fun e he=>hh.ng e (yj _ he),hh.gs,hh.rep⟩;exact h ⟨w,inL L,G⟩ w (St.init hL) a next Q fun v U J w' hp hst=>k v _ J w' ⟨U,rfl,hp⟩ (St.trans ⟨⟨G,hh,hg⟩,ho,hk⟩ hg (St.frame hh hst))
def Ve : Op → Nat
 | .alloc _=>1
 | .move _ | .assign _ | .pick .. | .build .. | .load .. | .nilCheck _ | .binOp .. | .unOp .. | .convert .. | .slice .. | .fieldAddr .. | .field .. | .indexAddr .. | .index .. | .extract .. | .makeInterface ..=>0
 | .call c=>match c.callee with
  | .builtin .len | .builtin .cap | .builtin .min | .builtin .max=>0
  | _=>2
 | _=>2
def zT {P:Program} (tb:Tabs P) (T:TypeId):List Value:=match Yy tb.tab T with
 | some ti=>ti.z
 | none=>[]
def DJ (P : Program) (tb : Tabs P) (n : Nat) (all : Array Oper) (Lc : List Blk) (K : Kw) : List Oper → (Nat → Value) → List Blk → List Sl → Prop
 | [],t,L,R=>K .normal t L R
 | o :: rest,t,L,R=>dOk n o.dst=true∧
  ((Yq all t o.guard=false∧Ve o.op≠1∧DJ P tb n all Lc K rest (Jlc t o.dst undef) L R)∨
   (Yq all t o.guard=true∧Ve o.op=0∧∃v,YV P o (ev t) Lc R v∧DJ P tb n all Lc K rest (Jlc t o.dst v) L R)∨
   (Ve o.op=1∧∃T,o.op=.alloc T∧∀b,DJ P tb n all Lc K rest (Jlc t o.dst (.pointer (some ⟨b,0,none⟩))) (⟨b,zT tb T,T⟩ :: L) R)∨
   (Yq all t o.guard=true∧Ve o.op=2∧∃Post,Gives P o (ev t) L R Post∧∀v U J,Post v U J→Lc.Sublist U∧(∀r∈R,InR r J)∧DJ P tb n all Lc K rest (Jlc t o.dst v) U J))
def Yc (ops:Array Oper) (i:Nat):Nat:=match ops[i]? with
 | some o=>Ve o.op
 | none=>3
def Ume (ops:Array Oper) (p:Nat→Bool) (done:Array Bool):Array Bool:=
 (Array.range ops.size).map fun i=>done.getD i true || (Nat.beq (Yc ops i) 1 && p i)
def Uoa (ops : Array Oper) (done : Array Bool) : List Nat → Bool
 | []=>(Region.ready .any ops done).isEmpty
 | i :: rest=>
  (Region.ready .any ops done).contains i &&
  (match Yc ops i with
   | 0=>Region.free .any ops done i
   | 1=>(Region.ready .any ops (Ume ops (fun k=>!Nat.beq k i) done)).all fun j=>Nat.beq (Yc ops j) 1
   | _=>(Region.ready .any ops (Ume ops (fun _=>true) done)).all fun j=>Nat.beq j i) &&
  Uoa ops (done.setIfInBounds i true) rest
def Vfa {P:Program} (tb:Tabs P) (n:Nat) (ops:Array Oper):Bool:=
 (List.range ops.size).all fun i=>match ops[i]? with
  | some o=>match o.op with
   | .alloc T=>o.guard.isNone && (Yy tb.tab T).isSome && (match o.dst with
    | some d=>Nat.blt d n && (List.range ops.size).all fun j=>Nat.beq j i || match ops[j]? with
     | some oj=>oj.dst != some d
     | none=>true
    | none=>false) && Region.free .any ops (Array.replicate ops.size false) i
   | _=>true
  | none=>true
structure Early where
 i:Nat
 d:Nat
 b:Nat
 T:TypeId
def ovr (t : Nat → Value) : List Early → Nat → Value
 | []=>t
 | e :: E=>upd (ovr t E) e.d (.pointer (some ⟨e.b,0,none⟩))
def Juc {P:Program} (tb:Tabs P) (E:List Early):List Blk:=E.map fun e=>⟨e.b,zT tb e.T,e.T⟩
def Znb {P:Program} {md:Region.Mode} {ops:Array Oper} {Q:Exit→Act→World→Prop} {S S':World→Prop} (hS:∀w,S' w→S w):∀(f:Nat) (l:Array Bool) (a:Act) (w:World),
 wpAnyH P md ops Q S' f l a w→wpAnyH P md ops Q S f l a w
 | 0,_,_,_,h=>h
 | f + 1,_,_,_,h=>⟨h.1,fun i hi=>wpOp_mono (fun a' w' h'=>⟨hS _ h'.1,Znb hS f _ a' w' h'.2⟩) (h.2 i hi)⟩
structure EOk {P:Program} (tb:Tabs P) (n:Nat) (ops:Array Oper) (done listed:Array Bool) (E:List Early):Prop where
 size:listed.size=done.size
 listed:∀i d,listed.getD i d=true↔done.getD i d=true∨∃e∈E,e.i=i
 op:∀e∈E,∃o,ops[e.i]?=some o∧o.op=.alloc e.T∧o.dst=some e.d∧o.guard=none
 fresh:∀e∈E,done.getD e.i true=false
 nd:(E.map (·.i)).Nodup
 ndd:(E.map (·.d)).Nodup
def Z6d {ops : Array Oper} {i : Nat} {oi : Oper} (hi : ops[i]? = some oi) (h : Region.free .any ops (Array.replicate ops.size false) i = true) {j : Nat} {oj : Oper} (hj : ops[j]? = some oj) (hne : j ≠ i)
 (hno:∀e∈oj.after,Region.binds .any e=true→e.on≠i):oi.apart ops oj=true:=by refine yMb hi h j oj hj hne ?_ hno;have:j < ops.size:=(Array.getElem?_eq_some_iff.1 hj).1;simp [this]
section
variable {P:Program} {tb:Tabs P} {n:Nat} {ops:Array Oper} {c:Ctx} {Lc:List Blk} {K:Kw}
def V5a (h:Vfa tb n ops=true) {i:Nat} {o:Oper} {T:TypeId} (hi:ops[i]?=some o) (ho:o.op=.alloc T):
 o.guard=none∧(∃ti,Yy tb.tab T=some ti)∧(∃d,o.dst=some d∧d < n∧∀j oj,ops[j]?=some oj→j≠i→oj.dst≠some d)∧Region.free .any ops (Array.replicate ops.size false) i=true:=by
 have h1:=List.all_eq_true.1 h i (List.mem_range.2 (Array.getElem?_eq_some_iff.1 hi).1);simp only [hi,ho,yo,Option.isNone_iff_eq_none] at h1;obtain ⟨⟨⟨h1,h2⟩,h3⟩,h4⟩:=h1;refine ⟨h1,Option.isSome_iff_exists.1 h2,?_,h4⟩;cases hd:o.dst with
 | none=>rw [hd] at h3;cases h3
 | some d=>rw [hd] at h3;simp only [yo] at h3;refine ⟨d,rfl,by simpa using h3.1,fun j oj hj hne e=>?_⟩;have h5:=List.all_eq_true.1 h3.2 j (List.mem_range.2 (Array.getElem?_eq_some_iff.1 hj).1);simp [hj,Kce hne,e] at h5
def Khd {t : Nat → Value} {k : Nat} : ∀ {E : List Early}, (∀ e ∈ E, e.d ≠ k) → ovr t E k = t k
 | [],_=>rfl
 | e :: E,h=>by
  have h1:=h e zo
  simp only [ovr,upd,Kce (yic h1),cond_false]
  exact Khd fun e he=>h e (by simp [he])
def Vsb {t : Nat → Value} {d : Option Tmp} {v : Value} : ∀ {E : List Early}, (∀ e ∈ E, d ≠ some e.d) → Jlc (ovr t E) d v = ovr (Jlc t d v) E
 | [],_=>rfl
 | e :: E,h=>by
  have h1:=h e zo
  have ih:=Vsb (t:=t) (d:=d) (v:=v) (E:=E) fun e he=>h e (by simp [he])
  simp only [ovr]
  rw [← ih]
  cases d with
  | none=>rfl
  | some d=>
   have hne:d≠e.d:=fun e'=>h1 (by rw [e'])
   funext k
   simp only [Jlc,upd]
   by_cases hk:k=d
   ·subst hk
    simp [Kce hne]
   ·rw [Kce hk,cond_false,cond_false]
def Ytd {t:Nat→Value} {o:Oper} (hs:∀cs b,o.op≠.select cs b) {E:List Early} (h:∀e∈E,e.d ∉ o.looksAt ops):execOp (ev (ovr t E)) o=execOp (ev t) o:=by
 refine execOp_congr o hs fun x hx=>?_;cases x with
 | tmp k=>refine Khd fun e he hk=>h e he ?_;subst hk;exact yp _ (List.mem_filterMap.2 ⟨.tmp e.d,by simpa using hx,rfl⟩)
 | _=>rfl
def Vnd {t:Nat→Value} {o:Oper} {E:List Early} (h:∀e∈E,e.d ∉ o.looksAt ops):Yq ops (ovr t E) o.guard=Yq ops t o.guard:=by
 unfold Yq;cases hg:o.guard with
 | none=>rfl
 | some p=>
  obtain ⟨j,want⟩:=p;have:J2c ops (ovr t E) j=J2c ops t j:=by
   unfold J2c;cases hd:(ops[j]?).bind (·.dst) with
   | none=>rfl
   | some d=>have:ovr t E d=t d:=Khd fun e he hk=>h e he (by subst hk;exact yj _ (by simp [hg,hd]));simp only [this]
  simp only [this]
def Ysb (hal : Vfa tb n ops = true) {done listed : Array Bool} {E : List Early} (hE : EOk tb n ops done listed E) {i : Nat} {o : Oper} (hi : ops[i]? = some o) (hin : ∀ e ∈ E, e.i ≠ i)
 (hready:∀e∈o.after,Region.binds .any e=true→done.getD e.on false=true):∀e∈E,e.d ∉ o.looksAt ops∧o.dst≠some e.d:=by
 intro e he;obtain ⟨oe,h1,h2,h3,h4⟩:=hE.op e he;obtain ⟨_,_,_,hfree⟩:=V5a hal h1 h2;have hap:=Z6d h1 hfree hi (yic (hin e he)) (fun x hx hb hon=>by
  have h5:=hready x hx hb;rw [hon] at h5;have h6:=hE.fresh e he;have:done.getD e.i false=false:=by
   rcases yk e.i done.size with h' | h';·simp [h'] at h6 ⊢;exact h6
   ·simp [yF h']
  rw [this] at h5;cases h5)
 obtain ⟨a1,a2,a3⟩:=Oper.apart_spec hap;exact ⟨a1 e.d h3,a2 e.d h3⟩
def Jeb {o:Oper} {T:TypeId} (h:o.op=.alloc T):Ve o.op=1:=by rw [h];rfl
def Z7a {o:Oper} (h:Ve o.op=1):∃T,o.op=.alloc T:=by
 cases ho:o.op <;> rw [ho] at h <;> simp only [Ve] at h <;> first | exact ⟨_,rfl⟩ | (exact absurd h ze) | skip
 split at h <;> exact absurd h ze
def V0d (op:Op):Ve op=0∨Ve op=1∨Ve op=2:=by
 unfold Ve;split <;> first | (exact .inl rfl) | (exact .inr (.inl rfl)) | (exact .inr (.inr rfl)) | skip
 split <;> first | (exact .inl rfl) | (exact .inr (.inr rfl))
def Uj {l:Array Bool} {i:Nat} (h:i < l.size) (d:Bool):(l.setIfInBounds i true).getD i d=true:=by simp [h]
def EOk.step {done listed:Array Bool} {E:List Early} (hE:EOk tb n ops done listed E) {i:Nat} (hin:∀e∈E,e.i≠i) (hi:i < done.size):
 EOk tb n ops (done.setIfInBounds i true) (listed.setIfInBounds i true) E:=by
 refine ⟨by simp [hE.size],fun k d=>?_,hE.op,fun e he=>?_,hE.nd,hE.ndd⟩;·
  by_cases hk : i = k;·subst hk;rw [Uj hi,Uj (by rw [hE.size];exact hi)];simp
  ·rw [getD_set_ne d hk, getD_set_ne d hk];exact hE.listed k d
 ·rw [getD_set_ne true (yic (hin e he))];exact hE.fresh e he
def Yj : ∀ (l1 l2 : List Nat), l1.Nodup → (∀ x ∈ l1, x ∈ l2) → l1.length ≤ l2.length
 | [],_,_,_=>by simp
 | x :: l1,l2,hn,hs=>by
  rw [yja] at hn
  have hx:=hs x zo
  have:=Yj l1 (l2.erase x) hn.2 fun y hy=>by
   have hne:y≠x:=fun e=>hn.1 (e ▸ hy)
   exact (List.mem_erase_of_ne hne).2 (hs y (by simp [hy]))
  rw [List.length_erase_of_mem hx] at this
  have:0 < l2.length:=List.length_pos_of_mem hx
  simp only [yA]
  omega
def Ynb {t : Nat → Value} {e : Early} {E2 : List Early} : ∀ {E1 : List Early}, ((E1 ++ e :: E2).map (·.d)).Nodup → ovr t (E1 ++ e :: E2) = ovr (upd t e.d (.pointer (some ⟨e.b, 0, none⟩))) (E1 ++ E2)
 | [],h=>by
  simp only [yv,yI,yja] at h
  have:=Vsb (t:=t) (d:=some e.d) (v:=.pointer (some ⟨e.b,0,none⟩)) (E:=E2) fun x hx hd=>h.1 (List.mem_map.2 ⟨x,hx,(yG hd).symm⟩)
  exact this
 | x :: E1,h=>by
  simp only [yr,yI,yja] at h
  simp only [yr,ovr,Ynb h.2]
def St.perm {L U:List Blk} {R:List Sl} {w:World} (h:St c L R w) (hp:L.Perm U):St c U R w:=by obtain ⟨⟨G,hh,hg⟩,ho,hk⟩:=h;exact ⟨⟨G,⟨(hp.map _).nodup_iff.1 hh.nd,fun e he=>hh.own e (hp.mem_iff.2 he),fun e he=>hh.ng e (hp.mem_iff.2 he),hh.gs,hh.rep⟩,hg⟩,fun e he=>ho e (hp.mem_iff.2 he),hk⟩
def J4c {p:Nat→Bool} {done:Array Bool} {i:Nat} (hi:i < ops.size) (d:Bool):(Ume ops p done).getD i d=(done.getD i true || (Nat.beq (Yc ops i) 1 && p i)):=by simp [Ume,hi]
def Vga {p:Nat→Bool} {done listed:Array Bool} {E:List Early} (hE:EOk tb n ops done listed E) (hp:∀e∈E,p e.i=true) (hds:done.size=ops.size) {j:Nat} (hj:j∈Region.ready .any ops listed) (hk:Yc ops j≠1):
 j∈Region.ready .any ops (Ume ops p done):=by
 obtain ⟨h0,o,ho,hall⟩:=mem_ready.1 hj;have hlt:j < ops.size:=(Array.getElem?_eq_some_iff.1 ho).1;refine mem_ready.2 ⟨?_,o,ho,fun e he hb=>?_⟩;·
  rw [J4c hlt];have h1:done.getD j true=false:=by
   cases hd:done.getD j true with
   | false=>rfl
   | true=>rw [(hE.listed j true).2 (.inl hd)] at h0;cases h0
  have h2:Nat.beq (Yc ops j) 1=false:=Kce hk;simp [h1,h2]
 ·
  have h1 := hall e he hb;have hlt2:e.on < ops.size:=by
   rcases yk e.on listed.size with h' | h';·rw [hE.size,hds] at h';exact h'
   ·simp [yF h'] at h1
  rw [J4c hlt2];rcases (hE.listed e.on false).1 h1 with h2 | ⟨x,hx,hxi⟩;·
   have:done.getD e.on true=true:=by
    rcases yk e.on done.size with h' | h';·simp [h'] at h2 ⊢;exact h2
    ·simp [yF h']
   simp only [this,Bool.true_or]
  ·obtain ⟨ox, h3, h4, _, _⟩ := hE.op x hx;(have h5:Yc ops e.on=1:=by rw [← hxi];simp only [Yc,h3];exact Jeb h4);have h6:=hp x hx;rw [hxi] at h6;simp [h5,h6]
def U8b {o:Oper} {a:Act} {ρ:Operand→Value} {w:World} {next:Act→World→Prop} {Q:Exit→Act→World→Prop} (he:execOp a.eval o=execOp ρ o) (h:o.upon P a next Q ((execOp ρ o).run P w)):o.wp P a w next Q:=by unfold Oper.wp;rw [he];exact h
def K9f {done listed : Array Bool} {t : Nat → Value} {L : List Blk} {R : List Sl} {a : Act} {w : World} (hpl : Uoa ops done [] = true) (hE : EOk tb n ops done listed []) (hdj : DJ P tb n ops Lc K [] t L R)
 (hfr:Fr n (ovr t []) a) (hst:St c (Juc tb [] ++ L) R w) {S:World→Prop} (fuel:Nat):wpAnyH P .any ops (Zra n c K) S fuel listed a w:=by
 refine wpAnyH_done ?_ ⟨trivial,t,L,R,hdj,hfr,hst⟩ fuel;simp only [Uoa,List.isEmpty_iff] at hpl;refine List.eq_nil_iff_forall_not_mem.2 fun j hj=>?_;obtain ⟨h0,o,ho,hall⟩:=mem_ready.1 hj;have h1:done.getD j true=false:=by
  cases hd:done.getD j true with
  | false=>rfl
  | true=>rw [(hE.listed j true).2 (.inl hd)] at h0;cases h0
 have:j∈Region.ready .any ops done:=by
  refine mem_ready.2 ⟨h1,o,ho,fun e he hb=>?_⟩;rcases (hE.listed e.on false).1 (hall e he hb) with h | ⟨x,hx,_⟩;·exact h
  ·cases hx
 rw [hpl] at this;cases this
def K1f (hsel:Region.noSelect ops=true) (hal:Vfa tb n ops=true):∀(m fuel:Nat) (plan:List Nat) (os:List Oper) (done listed:Array Bool) (E:List Early) (t:Nat→Value) (L:List Blk) (R:List Sl) (a:Act) (w:World),
 fuel + plan.length≤m→plan.length≤fuel + E.length→plan.map (ops[·]?)=os.map some→Uoa ops done plan=true→EOk tb n ops done listed E→(∀e∈E,e.i∈plan)→done.size=ops.size→
 (∀i,i < ops.size→done.getD i true=false→i∈plan)→
 Fr n (ovr t E) a→St c (Juc tb E ++ L) R w→Lc.Sublist L→DJ P tb n ops Lc K os t L R→wpAnyH P .any ops (Zra n c K) (St c Lc R) fuel listed a w:=by
 intro m;induction m with
 | zero=>
  intro fuel plan os done listed E t L R a w hm hfu hos hpl hE hEp hds hcov hfr hst hLc hdj;obtain rfl:plan=[]:=by cases plan with | nil=>rfl | cons x l=>simp at hm
  exact uaI
 | succ m ih=>
  intro fuel plan os done listed E t L R a w hm hfu hos hpl hE hEp hds hcov hfr hst hLc hdj;have hS:St c Lc R w:=hst.weak (hLc.trans (yX _ _)) (fun r hr=>⟨r,hr,.here⟩)
  -- a making of a variable that comes up early
  have early:∀(f:Nat),fuel=f + 1→∀j,j∈Region.ready .any ops listed→Yc ops j=1→
   wpOp P ops (Zra n c K) j (fun a' w'=>St c Lc R w'∧wpAnyH P .any ops (Zra n c K) (St c Lc R) f (listed.setIfInBounds j true) a' w') a w:=by
   intro f hf j hj hkj;obtain ⟨h0,oj,hoj,hall⟩:=mem_ready.1 hj;(have hkj':Ve oj.op=1:=by simpa [Yc,hoj] using hkj);obtain ⟨T,hT⟩:=Z7a hkj';obtain ⟨hg,⟨ti,hti⟩,⟨d,hd,hdn,hdw⟩,hfree⟩:=V5a hal hoj hT;obtain ⟨zv,hz1,hz2⟩:=Y8 (tb.ok _ _ hti) w;have hjd:done.getD j true=false:=by
    cases hd:done.getD j true with
    | false=>rfl
    | true=>rw [(hE.listed j true).2 (.inl hd)] at h0;cases h0
   (have hjE:∀e∈E,e.i≠j:=fun e he hi=>by rw [(hE.listed j true).2 (.inr ⟨e,he,hi⟩)] at h0;cases h0);(have hzT:zv.cells.toList=zT tb T:=by rw [hz2];simp [zT,hti]);(have hst':St c (Juc tb (⟨j,d,w.heap.size,T⟩ :: E) ++ L) R (w.alloc (.cells zv.cells T)):=by have:=hst.alloc zv.cells T;rw [hzT] at this;exact this);unfold wpOp;simp only [hoj];rw [hfr.wanted,hg];simp only [Yq,if_true];refine .inl ?_;(have hrun:(execOp a.eval oj).run P w=.ok (.value (.pointer (some ⟨w.heap.size,0,none⟩))) (w.alloc (.cells zv.cells T)):=by exact ubc);unfold Oper.wp;rw [hrun];refine ⟨hst'.weak (hLc.trans (yX _ _)) (fun r hr=>⟨r,hr,.here⟩),?_⟩;have hjlt:j < ops.size:=(Array.getElem?_eq_some_iff.1 hoj).1;(have hjl:j < listed.size:=by rw [hE.size,hds];exact hjlt);have hjp:j∈plan:=hcov j hjlt hjd;refine ih f plan os done _ (⟨j,d,w.heap.size,T⟩ :: E) t L R _ _ za (by simp only [yA];omega) hos hpl ?_ ?_ hds hcov ?_ hst' hLc hdj;·exact uag
   ·exact ubr
   ·exact uaU
  cases plan with
  | nil=>exact uaI
  | cons i rest=>
   cases os with
   | nil=>simp at hos
   | cons o os=>
    simp only [yI,List.cons.injEq] at hos;obtain ⟨hio,hos⟩:=hos;simp only [Uoa,yo] at hpl;obtain ⟨⟨hir,hkind⟩,hpl'⟩:=hpl;(have hir:i∈Region.ready .any ops done:=by simpa using hir);obtain ⟨hi0,o',ho',hpre⟩:=mem_ready.1 hir;obtain rfl:o'=o:=yG (ho'.symm.trans hio);have hilt:i < ops.size:=(Array.getElem?_eq_some_iff.1 hio).1;(have hids:i < done.size:=by rw [hds];exact hilt);(have hka:Yc ops i=Ve o'.op:=by simp [Yc,hio]);have hcov':∀k,k < ops.size→(done.setIfInBounds i true).getD k true=false→k∈rest:=by
     intro k hk hd;by_cases hki:i=k;·subst hki;rw [Uj hids] at hd;cases hd
     ·
      rw [getD_set_ne true hki] at hd;rcases List.mem_cons.1 (hcov k hk hd) with h | h;·exact absurd h.symm hki
      ·exact h
    (have hds':(done.setIfInBounds i true).size=ops.size:=by simp [hds]);(have hdone:∀k,done.getD k true=true→∀d,listed.getD k d=true∨k ≥ done.size:=by exact uaW);obtain ⟨hd,hdj⟩:=hdj
    -- if the operation is no making of a variable, it has not come up, and is apart from the early ones
    (have notE:Ve o'.op≠1→∀e∈E,e.i≠i:=by exact ua5);(have cnt:Ve o'.op≠1→E.length≤rest.length:=by exact uaG);have hready:Ve o'.op≠1→i∈Region.ready .any ops listed:=by
     intro hk;refine mem_ready.2 ⟨?_,o',hio,fun e he hb=>(hE.listed _ _).2 (.inl (hpre e he hb))⟩;cases hl:listed.getD i true with
     | false=>rfl
     | true=>exact ua6
    have apart:Ve o'.op≠1→∀e∈E,e.d ∉ o'.looksAt ops∧o'.dst≠some e.d:=fun hk=>Ysb hal hE hio (notE hk) hpre;(have hEp':Ve o'.op≠1→∀e∈E,e.i∈rest:=fun hk e he=>by exact ubg);(have frame:Ve o'.op≠1→∀v,Fr n (ovr (Jlc t o'.dst v) E) (a.put o'.dst v):=fun hk v=>by rw [← Vsb (fun e he=>(apart hk e he).2)];exact hfr.put hd v);(have hwant:Ve o'.op≠1→Region.wanted o' (yielded ops a.tmps)=Yq ops t o'.guard:=fun hk=>by rw [hfr.wanted,Vnd (fun e he=>(apart hk e he).1)]);(have hexec:Ve o'.op≠1→execOp a.eval o'=execOp (ev t) o':=fun hk=>by exact ubd);rcases V0d o'.op with hk | hk | hk;·
     -- it leaves the world alone
     (have hk1:Ve o'.op≠1:=by rw [hk];decide);have hlen:=cnt hk1;obtain ⟨f,rfl⟩:∃f,fuel=f + 1:=⟨fuel - 1,by simp only [yA] at hfu;omega⟩;rw [hka,hk] at hkind;have hfree:∀j oj,ops[j]?=some oj→j≠i→listed.getD j true=false→(∀e∈oj.after,Region.binds .any e=true→e.on≠i)→o'.apart ops oj=true:=by
      intro j oj hj hne hl hno;refine yMb hio hkind j oj hj hne ?_ hno;cases hd:done.getD j true with
      | false=>rfl
      | true=>rw [(hE.listed j true).2 (.inl hd)] at hl;cases hl
     (have go:∀v,YieldsIf P ops (St c Lc R) o' v a→DJ P tb n ops Lc K os (Jlc t o'.dst v) L R→wpAnyH P .any ops (Zra n c K) (St c Lc R) (f + 1) listed a w:=by intro v hy hdj';refine wpAnyH_first hio (yZa hsel) (fun _ _ _ h=>h.1.elim) f listed a w hfree (hready hk1) hy hS ?_;exact ih f rest os _ _ E _ L R _ w zP zX hos hpl' (hE.step (notE hk1) hids) (hEp' hk1) hds' hcov' (frame hk1 v) hst hLc hdj');rcases hdj with ⟨hw,_,hdj'⟩ | ⟨hw,_,v,hv,hdj'⟩ | ⟨h1,_⟩ | ⟨_,h2,_⟩;·exact go undef (.inr ⟨by rw [hwant hk1];exact hw,rfl⟩) hdj'
     ·exact go v (.inl ⟨by rw [hwant hk1];exact hw,fun w' hw'=>by rw [hexec hk1];exact hv c w' hw'⟩) hdj'
     ·exact absurd h1 hk1
     ·rw [hk] at h2;cases h2
    ·
     -- it makes a variable
     rw [hka,hk] at hkind;rcases hdj with ⟨_,h1,_⟩ | ⟨_,h2,_⟩ | ⟨_,T,hT,hdj'⟩ | ⟨_,h2,_⟩;·exact absurd hk h1
     ·rw [hk] at h2;cases h2
     ·
      by_cases hin : ∃ e ∈ E, e.i = i;·
       -- it has come up early
       obtain ⟨e,he,hei⟩:=hin;obtain ⟨oe,h1,h2,h3,h4⟩:=hE.op e he;rw [hei] at h1;obtain rfl:oe=o':=yG (h1.symm.trans hio);(obtain rfl:e.T=T:=by rw [h2] at hT;exact Op.alloc.inj hT);obtain ⟨E1,E2,rfl⟩:=List.append_of_mem he;(have hmem:∀x∈E1 ++ E2,x∈E1 ++ e :: E2:=fun x hx=>by exact ubv);(have hni:∀x∈E1 ++ E2,x.i≠i:=by exact uaE);refine ih fuel rest os _ listed (E1 ++ E2) _ _ R a w zP zZa hos hpl' ?_ ?_ hds' hcov' ?_ ?_ (hLc.cons _) (hdj' e.b);·exact uaf
       ·exact ubb
       ·rw [h3];have:=Ynb (t:=t) hE.ndd;rw [this] at hfr;exact hfr
       ·exact ua4
      ·
       -- it has not: whatever comes up now makes a variable
       have hin':∀e∈E,e.i≠i:=fun e he hi=>hin ⟨e,he,hi⟩;have hrl:i∈Region.ready .any ops listed:=by
        refine mem_ready.2 ⟨?_,o',hio,fun e he hb=>(hE.listed _ _).2 (.inl (hpre e he hb))⟩;cases hl:listed.getD i true with
        | false=>rfl
        | true=>exact ua7
       (have hlen:E.length + 1≤(i :: rest).length:=by exact uau);obtain ⟨f,rfl⟩:∃f,fuel=f + 1:=⟨fuel - 1,by omega⟩;refine wpAnyH_all rfl (yWa hrl) fun j hj=>early f rfl j hj ?_;exact uaH
     ·rw [hk] at h2;cases h2
    ·
     -- it turns the world
     (have hk1:Ve o'.op≠1:=by rw [hk];decide);have hlen:=cnt hk1;obtain ⟨f,rfl⟩:∃f,fuel=f + 1:=⟨fuel - 1,by simp only [yA] at hfu;omega⟩;rw [hka,hk] at hkind;refine wpAnyH_all rfl (yWa (hready hk1)) fun j hj=>?_;by_cases hkj:Yc ops j=1;·exact early f rfl j hj hkj
     ·
      have hji := Vga (p := fun _ => true) hE (fun _ _ => rfl) hds hj hkj;have:=List.all_eq_true.1 hkind j hji;(obtain rfl:j=i:=by simpa using this);unfold wpOp;simp only [hio];rw [hwant hk1];rcases hdj with ⟨hw,_,hdj'⟩ | ⟨_,h2,_⟩ | ⟨h1,_⟩ | ⟨hw,_,Post,hg,hdj'⟩;·rw [hw, if_neg zo];exact ⟨hS,ih f rest os _ _ E _ L R _ w zP zX hos hpl' (hE.step (notE hk1) hids) (hEp' hk1) hds' hcov' (frame hk1 undef) hst hLc hdj'⟩
      ·rw [hk] at h2;cases h2
      ·exact absurd h1 hk1
      ·rw [hw, if_pos rfl];refine .inl (U8b (hexec hk1) ?_);refine (hg.frame (Juc tb E)) c w hst a _ _ ?_;rintro v L'' J w' ⟨U,rfl,hp⟩ hst';obtain ⟨hLc',hR',hdj''⟩:=hdj' v U J hp;refine ⟨hst'.weak (hLc'.trans (yX _ _)) hR',?_⟩;refine Znb (S':=St c Lc J) (fun x hx=>hx.weak ye hR') _ _ _ _ ?_;exact ih f rest os _ _ E _ U J _ w' zP zX hos hpl' (hE.step (notE hk1) hids) (hEp' hk1) hds' hcov' (frame hk1 v) hst' hLc' hdj''
end
end Go.Aw
end
section
namespace Go.Aw
open Go
def Kba (ops : List Oper) : List Nat → List Oper
 | []=>[]
 | i :: l=>match ops[i]? with
  | some o=>o :: Kba ops l
  | none=>Kba ops l
def Vxb {P:Program} (tb:Tabs P) (n:Nat) (ops:Array Oper) (plan:List Nat):Bool:=
 Region.noSelect ops && Vfa tb n ops && Uoa ops (Array.replicate ops.size false) plan && ((List.range ops.size).all fun i=>plan.contains i) && plan.all fun i=>Nat.blt i ops.size
def Knb (ops : List Oper) : ∀ (plan : List Nat), (∀ i ∈ plan, i < ops.length) → plan.map (ops.toArray[·]?) = (Kba ops plan).map some
 | [],_=>rfl
 | i :: l,h=>by
  have hi:=h i zo
  have ih:=Knb ops l fun j hj=>h j (by simp [hj])
  simp only [yI,Kba,List.getElem?_toArray,yB hi]
  congr 1
  simpa using ih
def Ke {P : Program} (tb : Tabs P) {n id : Nat} {ops : List Oper} {t : Nat → Value} {L : List Blk} {R : List Sl} {Q : Kw} (plan : List Nat) (Lc : List Blk) (hm : P.follows .mixedOrders = true) (hB : Vxb tb n ops.toArray plan = true) (hLc : Lc.Sublist L)
 (h:DJ P tb n ops.toArray Lc Q (Kba ops plan) t L R):CJ P n (.region id ops.toArray true) t L R Q:=by
 simp only [Vxb,yo] at hB;obtain ⟨⟨⟨⟨h1,h2⟩,h3⟩,h4⟩,h5⟩:=hB;have hlt:∀i∈plan,i < ops.length:=fun i hi=>by simpa using List.all_eq_true.1 h5 i hi
 intro c a w hf hs;refine wp_region_held (S:=St c Lc R) hm ?_;have hlen:plan.length≤ops.toArray.size∨True:=.inr trivial;refine K1f (tb:=tb) (Lc:=Lc) h1 h2 (ops.toArray.size + plan.length) ops.toArray.size plan (Kba ops plan) (Array.replicate ops.toArray.size false) _ [] t L R a _ (ym _) ?_ (Knb ops plan hlt) h3 ?_ (fun e he=>by cases he) zo ?_ hf ?_ hLc h;·
  -- the plan lists each operation once: what is ready is not done
  have key:∀(pl:List Nat) (done:Array Bool),Uoa ops.toArray done pl=true→pl.Nodup∧∀i∈pl,done.getD i true=false:=by
   intro pl;induction pl with
   | nil=>intro _ _;exact ⟨yOa,fun i hi=>by cases hi⟩
   | cons i pl ih=>exact uao
  have:=Yj plan (List.range ops.length) (key plan _ h3).1 (fun i hi=>List.mem_range.2 (hlt i hi));simpa using this
 ·exact ⟨by simp,fun i d=>by simp,by simp,by simp,yOa,yOa⟩
 ·exact ubs
 ·exact St.drew hs
section
variable {P:Program} {tb:Tabs P} {n:Nat} {all:Array Oper} {Lc:List Blk} {K:Kw} {op:Op} {ty:TypeId} {pos:String} {after:Array Edge} {rest:List Oper} {t:Nat→Value} {L U:List Blk} {R J:List Sl} {d:Tmp} {v:Value} {g:Option (Nat×Bool)} {T:TypeId} {x y:Operand}
def J1 (h:K .normal t L R):DJ P tb n all Lc K [] t L R:=h
def Ks (hv:YV P ⟨some d,op,ty,pos,after,g⟩ (ev t) Lc R v) (hk:Ve op=0) (hg:Yq all t g=true) (hd:Nat.blt d n=true) (h:DJ P tb n all Lc K rest (upd t d v) L R):DJ P tb n all Lc K (⟨some d,op,ty,pos,after,g⟩ :: rest) t L R:=
 ⟨hd,.inr (.inl ⟨hg,hk,v,hv,h⟩)⟩
def Ujf (hk:Nat.beq (Ve op) 1=false) (hg:Yq all t g=false) (hd:Nat.blt d n=true) (h:DJ P tb n all Lc K rest (upd t d undef) L R):DJ P tb n all Lc K (⟨some d,op,ty,pos,after,g⟩ :: rest) t L R:=
 ⟨hd,.inl ⟨hg,fun e=>by simp [e] at hk,h⟩⟩
def Jcf {k m fl bt z} (hT : Yy tb.tab T = some ⟨k, m, fl, bt, z⟩) (hd : Nat.blt d n = true)
 (h:∀b,DJ P tb n all Lc K rest (upd t d (.pointer (some ⟨b,0,none⟩))) (⟨b,z,T⟩ :: L) R):DJ P tb n all Lc K (⟨some d,.alloc T,ty,pos,after,none⟩ :: rest) t L R:=
 ⟨hd,.inr (.inr (.inl ⟨rfl,T,rfl,fun b=>by
  have:=h b
  have e:zT tb T=z:=by simp [zT,hT]
  rw [e]
  exact this⟩))⟩
def Jzb {Post : Ys} (hg : Gives P ⟨some d, op, ty, pos, after, g⟩ (ev t) L R Post) (hk : Ve op = 2) (hw : Yq all t g = true) (hd : Nat.blt d n = true)
 (h:∀v U J,Post v U J→Lc.Sublist U∧(∀r∈R,InR r J)∧DJ P tb n all Lc K rest (upd t d v) U J):DJ P tb n all Lc K (⟨some d,op,ty,pos,after,g⟩ :: rest) t L R:=
 ⟨hd,.inr (.inr (.inr ⟨hw,hk,Post,hg,h⟩))⟩
def Ywa {Post : Ys} (hg : Gives P ⟨none, op, ty, pos, after, g⟩ (ev t) L R Post) (hk : Ve op = 2) (hw : Yq all t g = true)
 (h:∀v U J,Post v U J→Lc.Sublist U∧(∀r∈R,InR r J)∧DJ P tb n all Lc K rest t U J):DJ P tb n all Lc K (⟨none,op,ty,pos,after,g⟩ :: rest) t L R:=
 ⟨rfl,.inr (.inr (.inr ⟨hw,hk,Post,hg,fun v U J hp=>h v U J hp⟩))⟩
def Vo {f : FuncId} {xs : List Operand} {ts : Array TypeId} {args : List Value} {Post : Ys} (ha : xs.map (ev t) = args) (h : Tri P f args.toArray L R Post) (hw : Yq all t g = true) (hd : Nat.blt d n = true)
 (k:∀v U J,Post v U J→Lc.Sublist U∧(∀r∈R,InR r J)∧DJ P tb n all Lc K rest (upd t d v) U J):DJ P tb n all Lc K (⟨some d,.call ⟨.value (.func f),xs.toArray,ts⟩,ty,pos,after,g⟩ :: rest) t L R:=
 Jzb (Uza zsa rfl h) rfl hw hd k
def Z3 {k m fl bt z b o} {cs cs' : List Value} {v : Value} {T' : TypeId} (hT : Yy tb.tab T = some ⟨k, m, fl, bt, z⟩) (hx : ev t x = .pointer (some ⟨b, o, none⟩)) (hy : ev t y = v) (hn : m = 1)
 (hu:Upd1 b cs T' cs' L U) (hfit:Nat.blt o cs.length=true) (hcs:cs.set o v=cs') (h1:v.oneCell'=true) (hLc:Lc.Sublist U)
 (h:DJ P tb n all Lc K rest t U R):DJ P tb n all Lc K (⟨none,.store T x y,ty,pos,after,none⟩ :: rest) t L R:=
 Ywa (U6b tb hT hx hy hn hu hfit hcs h1) rfl rfl fun _ L'' J ⟨e1,e2⟩=>by subst e1;subst e2;exact ⟨hLc,Jc _,h⟩
def J7b {k m fl bt z b o} {cs vs cs' : List Value} {T' : TypeId} (hT : Yy tb.tab T = some ⟨k, m, fl, bt, z⟩) (hx : ev t x = .pointer (some ⟨b, o, none⟩)) (hy : ev t y = .agg vs.toArray) (hn : vs.length = m)
 (hu:Upd1 b cs T' cs' L U) (hfit:Nat.ble (o + vs.length) cs.length=true) (hcs:cs.take o ++ vs ++ cs.drop (o + vs.length)=cs') (h1:vs.all (·.oneCell')=true) (hLc:Lc.Sublist U)
 (h:DJ P tb n all Lc K rest t U R):DJ P tb n all Lc K (⟨none,.store T x y,ty,pos,after,none⟩ :: rest) t L R:=
 Ywa (Uyb tb hT hx hy hn hu hfit hcs h1) rfl rfl fun _ L'' J ⟨e1,e2⟩=>by subst e1;subst e2;exact ⟨hLc,Jc _,h⟩
def K5e {k m fl bt z b} {cs vs : List Value} {T' : TypeId} (hT : Yy tb.tab T = some ⟨k, m, fl, bt, z⟩) (hx : ev t x = .pointer (some ⟨b, 0, none⟩)) (hy : ev t y = .agg vs.toArray) (hn : vs.length = m)
 (hu:Upd1 b cs T' vs L U) (hfit:vs.length=cs.length) (h1:vs.all (·.oneCell')=true) (hLc:Lc.Sublist U)
 (h:DJ P tb n all Lc K rest t U R):DJ P tb n all Lc K (⟨none,.store T x y,ty,pos,after,none⟩ :: rest) t L R:=
 J7b hT hx hy hn hu (by simp [hfit]) (by simp [hfit]) h1 hLc h
def Zma {t:Nat→Value} {k:Nat} {v:Value} (h:t k=v):upd t k v=t:=by
 funext i;unfold upd;cases hb:Nat.beq i k with
 | false=>rfl
 | true=>rw [cond_true,ymb hb];exact h.symm
def U1 {os:List Oper} {k:Nat} {b:Bool} (hb:t k=.bool b) (h1:b=true→DJ P tb n all Lc K os (upd t k (.bool true)) L R) (h2:b=false→DJ P tb n all Lc K os (upd t k (.bool false)) L R):DJ P tb n all Lc K os t L R:=by
 cases b with
 | true=>have:=h1 rfl;rwa [Zma hb] at this
 | false=>have:=h2 rfl;rwa [Zma hb] at this
def Jub {os:List Oper} {k:Nat} {b:Bool} {Q:Kw} (hb:t k=.bool b) (h1:b=true→LJ P n all os (upd t k (.bool true)) L R Q) (h2:b=false→LJ P n all os (upd t k (.bool false)) L R Q):LJ P n all os t L R Q:=by
 cases b with
 | true=>have:=h1 rfl;rwa [Zma hb] at this
 | false=>have:=h2 rfl;rwa [Zma hb] at this
end
def Jhc (z : List Value) : Nat → List Value
 | 0=>[]
 | n + 1=>z ++ Jhc z n
def J9d (z:List Value) (n:Nat):(Jhc z n).length=n * z.length:=by
 induction n with
 | zero=>simp [Jhc]
 | succ n ih=>simp [Jhc,ih,yya,yZb]
def Yzd (z : List Value) (hz : 0 < z.length) : ∀ (n i : Nat), i < n * z.length → (Jhc z n)[i]? = z[i % z.length]?
 | 0,i,h=>by simp at h
 | n + 1,i,h=>by
  simp only [Jhc]
  rcases yk i z.length with h' | h'
  ·rw [yP h',yub h']
  ·rw [yZ h', Yzd z hz n (i - z.length) (by rw [yya] at h; omega)]
   rw [Nat.mod_eq_sub_mod h']
def V3e (z:Array Value) (n:Nat):((Array.range (n * z.size)).map (z[· % z.size]!)).toList=Jhc z.toList n:=by
 apply yBa;intro i;rcases yk i (n * z.size) with h | h;·
  have hz:0 < z.size:=by
   rcases yac z.size with h0 | h0;·rw [h0] at h;simp at h
   ·exact h0
  have hm:i % z.size < z.size:=Nat.mod_lt _ hz;rw [Yzd z.toList (by simpa using hz) n i zR];simp [h,hm]
 ·rw [yu zR,yu (by rw [J9d];simpa using h)]
def Vre (size : Nat) (cs : List Value) : List (Nat × List Value) → Option (List Value)
 | []=>some cs
 | (i,vs) :: rest=>bif Nat.beq vs.length size && Nat.ble (i * size + vs.length) cs.length then Vre size (V0c cs (i * size) vs) rest else none
def V1d (size:Nat):∀(parts:List (Nat×Value)) (cs:List Value) (out:List Value),
 Vre size cs (parts.map fun p=>(p.1,p.2.cells.toList))=some out→Instr.fill (fun i=>some (i * size,size)) cs.toArray parts=some out.toArray
 | [],cs,out,h=>by simp only [ywb,Vre,ydb] at h;simp [Instr.fill,h]
 | (i,v) :: rest,cs,out,h=>by
  simp only [yI,Vre] at h
  simp only [Instr.fill]
  cases hb:(Nat.beq v.cells.toList.length size && Nat.ble (i * size + v.cells.toList.length) cs.length) with
  | false=>rw [hb] at h;cases h
  | true=>
   rw [hb,cond_true] at h
   simp only [yo,yKb,Nat.ble_eq,yYb] at hb
   have:=V1d size rest _ out h
   rw [if_neg (by simp [hb.1];omega)]
   have hz:(v.cells.zipIdx.foldl (fun cs (c,j)=>cs.setIfInBounds (i * size + j) c) cs.toArray)=(V0c cs (i * size) v.cells.toList).toArray:=by
    show v.cells.zipIdx.foldl (fun cs (x:Value×Nat)=>cs.setIfInBounds (i * size + x.2) x.1) cs.toArray=_
    rw [← Array.foldl_toList]
    have:=Zdb v.cells.toList (i * size) 0 cs.toArray
    simpa using this
   rw [hz]
   exact this
inductive Ow where
 | nil
 | own (g cap:Nat) (spare:List Value)
def Ow.val : Ow → Nat → Value
 | .nil,_=>.slice none 0 0
 | .own g cap _,n=>.slice (some ⟨g,0,none⟩) n cap
def Ow.L (e : TypeId) (xs : List Value) : Ow → List Blk
 | .nil=>[]
 | .own g _ spare=>[⟨g,xs ++ spare,e⟩]
def Ow.ok (size : Nat) (xs : List Value) (n : Nat) : Ow → Prop
 | .nil=>n=0∧xs=[]
 | .own _ cap spare=>xs.length=n * size∧n≤cap∧cap≤maxLen∧(xs ++ spare).length=cap * size
inductive Seg (X : List Blk) : List Blk → (List Blk → List Blk) → Prop
 | here {B}:Seg X (X ++ B) (fun Y=>Y ++ B)
 | cons {x L f} (h:Seg X L f):Seg X (x :: L) (fun Y=>x :: f Y)
 | app {Z L f} (h:Seg X L f):Seg X (Z ++ L) (fun Y=>Z ++ f Y)
def Seg.split {X L f} (h:Seg X L f):∃A B,L=A ++ X ++ B∧∀Y,f Y=A ++ Y ++ B:=by
 induction h with
 | @here B=>exact ⟨[],B,by simp,fun Y=>by simp⟩
 | @cons x L f _ ih=>obtain ⟨A,B,h1,h2⟩:=ih;exact ⟨x :: A,B,by simp [h1],fun Y=>by simp [h2]⟩
 | @app Z L f _ ih=>obtain ⟨A,B,h1,h2⟩:=ih;exact ⟨Z ++ A,B,by simp [h1],fun Y=>by simp [h2]⟩
def Jge (L:List Blk) (R:List Sl) (v:Value) (m size:Nat) (news:List Value):Prop:=
 ∃a cap,v=.slice (some a) m cap∧news.length=m * size∧∀c w,St c L R w→∀j u,news[j]?=some u→w.cell? (a.add j)=some u
def Kg {L:List Blk} {R:List Sl} {b m cap size:Nat} {cs news:List Value} {T:TypeId} (hin:In1 ⟨b,cs,T⟩ L) (hl:news.length=m * size) (hp:cs.take (m * size)=news):Jge L R (.slice (some ⟨b,0,none⟩) m cap) m size news:=by
 refine ⟨_,_,rfl,hl,fun c w hst j u hj=>?_⟩;rw [Kja,yNa,Kha hst hin.mem];rw [← hp,yva] at hj;split at hj;·exact hj
 ·cases hj
def Jlb {size : Nat} : ∀ (rows : List (List Value)), (∀ r ∈ rows, r.length = size) → ∀ j, 0 < size → (rows.flatten)[j]? = (rows[j / size]?).bind (·[j % size]?)
 | [],_,j,_=>by simp
 | r :: rows,h,j,hs=>by
  have hr:=h r zo
  rw [ygc]
  rcases yk j size with h' | h'
  ·rw [yP za, Nat.div_eq_of_lt h', yub h']
   simp
  ·rw [yZ za, hr, Jlb rows (fun x hx => h x (by simp [hx])) _ hs]
   rw [Nat.mod_eq_sub_mod h',Nat.div_eq_sub_div hs h']
   simp
def Vhd {L : List Blk} {R : List Sl} {ar : Option Addr} {size len cap : Nat} {rows : List (List Value)} {subs : List Sl} (hR : InR (.mk size ar len cap rows subs) R) (hs : 0 < size) (har : ∀ c w, St c L R w → ∃ b off, ar = some ⟨b, off, none⟩)
 (hl:rows.flatten.length=len * size):(∃c w,St c L R w)→Jge L R (.slice ar len cap) len size rows.flatten:=by
 rintro ⟨c0,w0,h0⟩;obtain ⟨b,off,ha⟩:=har c0 w0 h0;subst ha;refine ⟨_,_,rfl,hl,fun c w hst j u hj=>?_⟩;rw [Kja];have hst':=hst;obtain ⟨⟨G,hh,hg⟩,ho,hk⟩:=hst;obtain ⟨r,hr',hsub⟩:=hR;have hrep:=(hh.rep r hr').sub hsub;cases hrep with
 | mk hl2 hc hm hw hmem hs2=>
  rw [Jlb rows hw j hs] at hj;cases hrow:rows[j / size]? with
  | none=>rw [hrow] at hj;cases hj
  | some row=>rw [hrow] at hj;have:=K3d hst' (wd:=size) (len:=len) (cap:=cap) (i:=j / size) (j:=j % size) (ar:=some ⟨b,off,none⟩) (rows:=rows) (subs:=subs) ⟨r,hr',hsub⟩ hrow hj;rw [← this];simp only [adB,eo,adO];congr 2;have:=Nat.div_add_mod j size;rw [yqc] at this;omega
section
variable {P:Program} {ρ:Operand→Value} {L:List Blk} {R:List Sl} {dst:Option Tmp} {ty:TypeId} {pos:String} {after:Array Edge} {guard:Option (Nat×Bool)} (tb:Tabs P) {T:TypeId} {x y:Operand}
def Ju {e n fl bt z k2 n2 fl2 bt2 z2 len} {ps : List (Nat × Operand)} {qs : List (Nat × List Value)} {out : List Value} (hT : Yy tb.tab T = some ⟨.slice e, n, fl, bt, z⟩) (hE : Yy tb.tab e = some ⟨k2, n2, fl2, bt2, z2⟩)
 (hn2:z2.length=n2) (hsz:Nat.ble (len * n2) 16777216=true) (hpos:Nat.beq (len * n2) 0=false) (hq:evP ρ ps=qs) (hf:Vre n2 (Jhc z2 len) qs=some out):
 Gives P ⟨dst,.buildSlice T len ps.toArray,ty,pos,after,guard⟩ ρ L R (fun v U J=>∃b,v=.slice (some ⟨b,0,none⟩) len len∧U=⟨b,out,e⟩ :: L∧J=R):=by
 intro c w hs a next Q kk
 have hu:=Vp (tb.ok _ _ hT) rfl;have hsize:=run_sizeOf (tb.ok _ _ hE) w;obtain ⟨zv,hz1,hz2⟩:=Y8 (tb.ok _ _ hE) w;simp only at hsize hz2;subst hq;rw [K4f] at hf;have hzs:zv.cells.size=n2:=by rw [← hn2,← hz2];simp
 have hme:((Array.range (len * n2)).map (zv.cells[· % zv.cells.size]!))=(Jhc z2 len).toArray:=by have:=V3e zv.cells len;rw [hz2,hzs] at this;rw [← this,hzs]
 have hfill:=V1d n2 (ps.map fun p=>(p.1,ρ p.2)) (Jhc z2 len) out hf;have hmap:(ps.toArray.map fun (p:Nat×Operand)=>(p.1,ρ p.2)).toList=ps.map fun p=>(p.1,ρ p.2):=by simp
 have h24:¬ (len * n2 > 2 ^ 24):=by have:=yR hsz;omega
 have h0:¬ (len * n2=0):=fun h=>by rw [h] at hpos;cases hpos
 have hgoal:(Instr.buildSlice T len (ps.toArray.map fun (p:Nat×Operand)=>(p.1,ρ p.2))).run P w=.ok (.slice (some ⟨w.heap.size,0,none⟩) len len) (w.alloc (.cells out.toArray e)):=by unfold Instr.buildSlice;simp only [yea,run_underlying hu,yE,hsize];rw [if_neg h24,if_neg h0];simp only [yea,hz1,yE,yCa,hmap];rw [hme,hfill];simp [newRow]
 refine V9 (w':=w.alloc (.cells out.toArray e)) (v:=.slice (some ⟨w.heap.size,0,none⟩) len len) ?_ (kk _ _ _ _ ⟨w.heap.size,rfl,rfl,rfl⟩ (hs.alloc _ _));have e1:execOp ρ ⟨dst,.buildSlice T len ps.toArray,ty,pos,after,guard⟩=(do pure (.value (← Instr.buildSlice T len (ps.toArray.map fun (p:Nat×Operand)=>(p.1,ρ p.2))))):=rfl;rw [e1];simp only [yea,hgoal,yE,yCa]
def Y3 {e n fl bt z k2 n2 fl2 bt2 z2 k3 k4} {m : Nat} {i j : Int} (hT : Yy tb.tab T = some ⟨.slice e, n, fl, bt, z⟩) (hE : Yy tb.tab e = some ⟨k2, n2, fl2, bt2, z2⟩) (hn2 : z2.length = n2)
 (hx:ρ x=.int k3 i) (hy:ρ y=.int k4 j) (hi:i=(m:Int)) (hj:j=(m:Int)) (hb:bt2 * m≤281474976710656) (hm:m≤9223372036854775807):
 Gives P ⟨dst,.makeSlice T x y,ty,pos,after,guard⟩ ρ L R (fun v U J=>∃b,v=.slice (some ⟨b,0,none⟩) m m∧U=⟨b,Jhc z2 m,e⟩ :: L∧J=R):=by
 intro c w hs a next Q kk
 subst hi;subst hj;have hu:=Vp (tb.ok _ _ hT) rfl;obtain ⟨ti,u,zv,h1,h2,h3,h4⟩:=Vb (tb.ok _ _ hE);have hsz:ti.size=n2:=by have:=congrArg TI.sz h4;simpa [Ypd] using this.symm
 have hbt:ti.bytes=bt2:=by have:=congrArg TI.bt h4;simpa [Ypd] using this.symm
 have hz:zv.cells.toList=z2:=by have:=congrArg TI.z h4;simpa [Ypd] using this.symm
 have hzs:zv.cells.size=n2:=by rw [← hn2,← hz];simp
 have hb':(ti.bytes:Int) * (m:Int)≤281474976710656:=by rw [hbt,← Int.natCast_mul];omega
 have hr:=run_make (P:=P) w T e ti zv hu h1 h3 k3 k4 (m:Int) (m:Int) za (yz _) hb' za;have hme:madeCells zv.cells ((m:Int).toNat * ti.size)=(Jhc z2 m).toArray:=by have:=V3e zv.cells m;rw [hz,hzs] at this;rw [yw,hsz,madeCells,← this,hzs]
 rw [hme,yw] at hr;refine V9 (w':=w.alloc (.cells (Jhc z2 m).toArray e)) (v:=.slice (some ⟨w.heap.size,0,none⟩) m m) ?_ (kk _ _ _ _ ⟨w.heap.size,rfl,rfl,rfl⟩ (hs.alloc _ _));simp [execOp,hx,hy,hr]
def Yva {e n fl bt z k2 n2 fl2 bt2 z2} {s : Ow} {xs news : List Value} {len m : Nat} {f : List Blk → List Blk} (hT : Yy tb.tab T = some ⟨.slice e, n, fl, bt, z⟩) (hE : Yy tb.tab e = some ⟨k2, n2, fl2, bt2, z2⟩) (hn2 : z2.length = n2)
 (hx:ρ x=s.val len) (hok:s.ok n2 xs len) (hseg:Seg (s.L e xs) L f) (hs:Jge L R (ρ y) m n2 news) (hm:0 < m) (h1:news.all (·.oneCell')=true) (hlen:len + m≤9223372036854775807) (hby:(len + m) * bt2≤140737488355328):
 Gives P ⟨dst,.call ⟨.builtin .append,#[x,y],#[T,T]⟩,ty,pos,after,guard⟩ ρ L R (fun v U J=>∃g cap spare,v=(Ow.own g cap spare).val (len + m)∧(Ow.own g cap spare).ok n2 (xs ++ news) (len + m)∧U=f ((Ow.own g cap spare).L e (xs ++ news))∧J=R):=by
 intro c w hst a next Q kk
 have hu:=Vp (tb.ok _ _ hT) rfl;obtain ⟨ti,u,zv,i1,i2,i3,i4⟩:=Vb (tb.ok _ _ hE);have hsz:ti.size=n2:=by have:=congrArg TI.sz i4;simpa [Ypd] using this.symm
 have hbt:ti.bytes=bt2:=by have:=congrArg TI.bt i4;simpa [Ypd] using this.symm
 have hz:zv.cells.toList=z2:=by have:=congrArg TI.z i4;simpa [Ypd] using this.symm
 have hzs:zv.cells.size=n2:=by rw [← hn2,← hz];simp
 obtain ⟨ad,cap2,hy,hnl,hcells⟩:=hs;have hcw:=hcells c w hst;obtain ⟨A,B,hL,hf⟩:=hseg.split;have hone:∀u∈news,u.oneCell'=true:=List.all_eq_true.1 h1;have e1:execOp ρ ⟨dst,.call ⟨.builtin .append,#[x,y],#[T,T]⟩,ty,pos,after,guard⟩=(do pure (.value (← Builtin.append_ #[T,T] ty #[ρ x,ρ y]))):=by exact ube
 have zlen:∀k,(Builtin.zeroCells zv.cells k).toList.length=k * n2:=fun k=>by rw [yYb,size_zeroCells,hzs]
 -- the ends of both kinds
 have newEnd:∀(old:Nat) (L0:List Blk),L0=A ++ B→St c (A ++ B) R w→old < len + m→xs.length=len * n2→
  (∀wv:World,wv=w.drew.alloc (.cells (xs.toArray ++ news.toArray ++ Builtin.zeroCells zv.cells (grownCap w (len + m) old e - (len + m))) e)→
   next (a.put dst (.slice (some ⟨w.heap.size,0,none⟩) (len + m) (grownCap w (len + m) old e))) wv):=by
  intro old L0 hL0 hst0 ho hxl wv hwv;have hge:=grownCap_ge w (len + m) old e;have hcm:grownCap w (len + m) old e≤maxLen:=grownCap_le_maxLen w (len + m) old e zB;have h2:=(hst0.drew).alloc (xs.toArray ++ news.toArray ++ Builtin.zeroCells zv.cells (grownCap w (len + m) old e - (len + m))) e;rw [hwv];refine kk _ _ R _ ⟨w.heap.size,grownCap w (len + m) old e,(Builtin.zeroCells zv.cells (grownCap w (len + m) old e - (len + m))).toList,rfl,⟨?_,hge,hcm,?_⟩,rfl,rfl⟩ ?_;·rw [yl,hxl,hnl,yIb]
  ·rw [yl, yl, hxl, hnl, zlen, ← yIb, ← yIb];congr 1;omega
  ·rw [hf];refine h2.perm ?_;simp only [Ow.L,World.size_drew,Array.toList_append,yn,yr,yv];exact List.perm_middle.symm
 cases s with
 | nil=>
  obtain ⟨rfl,rfl⟩:=hok;simp only [Ow.L,yaa] at hL;have hr:=run_append_nil (P:=P) w T ty e ti zv hu i1 i3 ad m cap2 news (by rw [hsz];exact hnl) hcw hm za (by rw [hbt];simp only [yNa] at hby;omega);have hst0:St c (A ++ B) R w:=by rw [← hL];exact hst
  refine V9 (w':=_) (v:=_) (h:=?_) (k:=newEnd 0 _ rfl hst0 za zo _ rfl);rw [e1,hx,hy];simp only [Ow.val,yea,hr,yE,yCa,yNa];simp
 | own g cap spare=>
  obtain ⟨o1,o2,o3,o4⟩:=hok;have hmem:(⟨g,xs ++ spare,e⟩:Blk)∈L:=by rw [hL];simp [Ow.L]
  have hb:w.heap[g]?=some (.cells (xs ++ spare).toArray e (0,0)):=by obtain ⟨⟨G,hh,_⟩,_,_⟩:=hst;exact hh.own _ hmem
  by_cases hroom:len + m≤cap;·
   (have hfit:len * ti.size + news.length≤(xs ++ spare).toArray.size:=by rw [hsz,hnl,yhc,o4,← yIb];exact yab _ hroom);have hr:=run_append_room (P:=P) w T ty e ti hu i1 g len cap (xs ++ spare).toArray hb ad m cap2 news (by rw [hsz];exact hnl) hcw hone hroom hfit;(have hcs:(List.take (len * ti.size) (xs ++ spare).toArray.toList ++ news ++ List.drop (len * ti.size + news.length) (xs ++ spare).toArray.toList)=(xs ++ news) ++ spare.drop news.length:=by rw [hsz,← o1];simp only [List.take_left',yn];have h0:List.drop (xs.length + news.length) xs=[]:=yjb za;(have h2:xs.length + news.length - xs.length=news.length:=by omega);rw [List.drop_append,h0,h2,yv]);rw [hcs] at hr;(have hu1:Upd1 g (xs ++ spare) e ((xs ++ news) ++ spare.drop news.length) L (f ((Ow.own g cap (spare.drop news.length)).L e (xs ++ news))):=by rw [hL,hf];simp only [Ow.L,yn,yr,yv];exact .app .here);refine V9 (w':=_) (v:=_) (h:=?_) (k:=kk (.slice (some ⟨g,0,none⟩) (len + m) cap) _ R _ ⟨g,cap,spare.drop news.length,rfl,⟨?_,hroom,o3,?_⟩,rfl,rfl⟩ (hst.setRow hu1));·rw [e1, hx, hy];simp only [Ow.val,yea,hr,yE,yCa]
   ·rw [yl,o1,hnl,yIb]
   ·rw [yl] at o4;have h5:(len + m) * n2≤cap * n2:=yab _ hroom;rw [yIb,← o1,← hnl] at h5;simp only [yl,yV];omega
  ·(have holds:∀j v,xs[j]?=some v→w.cell? ((⟨g,0,none⟩:Addr).add j)=some v:=fun j v hj=>by rw [Kja,yNa,Kha hst hmem];rw [yP (List.getElem?_eq_some_iff.1 hj).1];exact hj);have hr:=run_append_grow (P:=P) w T ty e ti zv hu i1 i3 ⟨g,0,none⟩ len cap xs (by rw [hsz];exact o1) holds ad m cap2 news (by rw [hsz];exact hnl) hcw za za (growslice_fits za (by rw [hbt];exact hby));(have hst0:St c (A ++ B) R w:=by refine hst.weak ?_ (fun r hr=>⟨r,hr,.here⟩);rw [hL];exact yTa (yGa _ _) ye);refine V9 (w':=_) (v:=_) (h:=?_) (k:=newEnd cap _ rfl hst0 za o1 _ rfl);rw [e1,hx,hy];simp only [Ow.val,yea,hr,yE,yCa]
end
def St.frz {c : Ctx} {L : List Blk} {R : List Sl} {w : World} {b : Nat} {cs : List Value} {T : TypeId} {wd len cap : Nat} {rows : List (List Value)} {subs : List Sl} (h : St c (⟨b, cs, T⟩ :: L) R w)
 (hl:rows.length=len) (hc:len≤cap) (hm:cap < 9223372036854775808) (hw:∀r∈rows,r.length=wd) (hp:0 < wd) (hcs:cs.take (len * wd)=rows.flatten) (hsub:∀s∈subs,InR s R):
 St c L (.mk wd (some ⟨b,0,none⟩) len cap rows subs :: R) w:=by
 obtain ⟨⟨G,hh,hg⟩,ho,hk⟩:=h;have hb:=hh.own ⟨b,cs,T⟩ zo;have hnd:=hh.nd;simp only [yI,yja] at hnd;have up:∀s,Rep w G s→Rep w (fun x=>G x∨x=b) s:=fun s hs=>hs.mono (fun _ h=>.inl h) (fun _ _=>rfl);have hlt:b < w.heap.size:=hh.lt (e:=⟨b,cs,T⟩) zo;refine ⟨⟨fun x=>G x∨x=b,⟨hnd.2,fun e he=>hh.own e (by simp [he]),fun e he hx=>?_,fun x hx=>?_,fun r hr=>?_⟩,fun x hx=>?_⟩,fun e he=>ho e (by simp [he]),hk⟩;·
  rcases hx with hx | hx;·exact hh.ng e (by simp [he]) hx
  ·exact hnd.1 (List.mem_map.2 ⟨e,he,hx⟩)
 ·
  rcases hx with hx | rfl;·exact hh.gs x hx
  ·exact hlt
 ·
  rcases List.mem_cons.1 hr with rfl | hr;·
   refine .mk hl hc hm hw ?_ (fun s hs => ?_);·refine .inr ⟨b, 0, rfl, .inr rfl, fun i j hi hj => ?_⟩;(have h1:w.cell? ⟨b,0 + i * wd + j,none⟩=cs[i * wd + j]?:=by simp only [BT.obj] at hb;simp [World.cell?,hb]);rw [h1];(have h2:i * wd + j < len * wd:=by have:(i + 1) * wd≤len * wd:=yab _ hi;rw [yya] at this;omega);(have h3:cs[i * wd + j]?=rows.flatten[i * wd + j]?:=by rw [← hcs,yva,if_pos h2]);rw [h3,Jlb rows hw _ hp];(have d1:(i * wd + j) / wd=i:=by rw [yqc,Nat.mul_add_div hp,Nat.div_eq_of_lt hj,Nat.add_zero]);(have d2:(i * wd + j) % wd=j:=by rw [yqc,Nat.mul_add_mod,yub hj]);rw [d1,d2]
   ·obtain ⟨r, hr, hs2⟩ := hsub s hs;exact up _ ((hh.rep r hr).sub hs2)
  ·exact up _ (hh.rep r hr)
 ·
  rcases hx with hx | rfl;·exact hg x hx
  ·
   rcases ho ⟨x, cs, T⟩ zo with h | h;·exact .inr (.inr h)
   ·exact .inr (.inl h)
def Kwa {P : Program} {n : Nat} {all : Array Oper} {ops : List Oper} {t : Nat → Value} {L : List Blk} {R : List Sl} {Q : Kw} {b : Nat} {cs : List Value} {T : TypeId} {wd len cap : Nat} {rows : List (List Value)} {subs : List Sl}
 (hl:rows.length=len) (hc:len≤cap) (hm:cap < 9223372036854775808) (hw:∀r∈rows,r.length=wd) (hp:0 < wd) (hcs:cs.take (len * wd)=rows.flatten) (hsub:∀s∈subs,InR s R)
 (h:LJ P n all ops t L (.mk wd (some ⟨b,0,none⟩) len cap rows subs :: R) Q):LJ P n all ops t (⟨b,cs,T⟩ :: L) R Q:=
 fun c a w hf hs=>h c a w hf (hs.frz hl hc hm hw hp hcs hsub)
def Vrf {P:Program} {n:Nat} {code:Code} {t:Nat→Value} {L U:List Blk} {R:List Sl} {Q:Kw} (hp:L.Perm U) (h:CJ P n code t U R Q):CJ P n code t L R Q:=
 fun c a w hf hs=>h c a w hf (hs.perm hp)
def Vv {P:Program} {n:Nat} {code:Code} {t:Nat→Value} {L U:List Blk} {R J:List Sl} {Q:Kw} (hL:U.Sublist L) (hR:∀r∈J,InR r R) (h:CJ P n code t U J Q):CJ P n code t L R Q:=
 fun c a w hf hs=>h c a w hf (hs.weak hL hR)
end Go.Aw
end
section
namespace Go.Aw
open Go
def Ype (late:List Nat) (Lc Lc2:List Blk) (d:Option Tmp):List Blk:=match d with
 | some d=>bif late.contains d then Lc2 else Lc
 | none=>Lc2
def J1a (late:List Nat) (ops:Array Oper) (k:Nat):Bool:=match (ops[k]?).bind (·.dst) with
 | some d=>late.contains d
 | none=>true
def J5e {late:List Nat} {Lc Lc2:List Blk} {ops:Array Oper} {i:Nat} {o:Oper} (hio:ops[i]?=some o):Ype late Lc Lc2 o.dst=if J1a late ops i=true then Lc2 else Lc:=by
 have h:J1a late ops i=(match o.dst with | some d=>late.contains d | none=>true):=by unfold J1a;rw [hio];rfl
 rw [h];obtain ⟨d,op,ty,pos,af,g⟩:=o;cases d with
 | none=>rfl
 | some d=>
  simp only [Ype];by_cases hc:late.contains d=true;·rw [if_pos hc,hc];rfl
  ·rw [if_neg hc,Bool.eq_false_iff.2 hc];rfl
def DJ3 (P : Program) (tb : Tabs P) (n : Nat) (all : Array Oper) (late : List Nat) (Lc Lc2 : List Blk) (K : Kw) : List Oper → (Nat → Value) → List Blk → List Sl → Prop
 | [],t,L,R=>K .normal t L R
 | o :: rest,t,L,R=>dOk n o.dst=true∧
  ((Yq all t o.guard=false∧Ve o.op≠1∧DJ3 P tb n all late Lc Lc2 K rest (Jlc t o.dst undef) L R)∨
   (Yq all t o.guard=true∧Ve o.op=0∧∃v,YV P o (ev t) (Ype late Lc Lc2 o.dst) R v∧DJ3 P tb n all late Lc Lc2 K rest (Jlc t o.dst v) L R)∨
   (Ve o.op=1∧∃T,o.op=.alloc T∧∀b,DJ3 P tb n all late Lc Lc2 K rest (Jlc t o.dst (.pointer (some ⟨b,0,none⟩))) (⟨b,zT tb T,T⟩ :: L) R)∨
   (Yq all t o.guard=true∧Ve o.op=2∧∃Post,Gives P o (ev t) L R Post∧∀v U J,Post v U J→Lc.Sublist U∧(∀r∈R,InR r J)∧DJ3 P tb n all late Lc Lc2 K rest (Jlc t o.dst v) U J))
def Kmf (ops:Array Oper) (i:Nat) (D:List Nat) (k:Nat):Bool:=Nat.beq k i || (match ops[k]? with
 | some o=>o.after.any fun e=>Region.binds .any e && D.contains e.on
 | none=>false)
def Uce (ops:Array Oper) (i:Nat) (plan:List Nat):List Nat:=plan.foldl (fun D k=>bif Kmf ops i D k then k :: D else D) []
def Khe (n:Nat) (p1:List Nat) (D:List Nat):Array Bool:=(Array.range n).map fun i=>p1.contains i && !D.contains i
def Closed (ops:Array Oper) (listed:Array Bool):Prop:=∀j oj,ops[j]?=some oj→listed.getD j true=true→∀e∈oj.after,Region.binds .any e=true→listed.getD e.on false=true
def Closed.set {ops:Array Oper} {listed:Array Bool} (h:Closed ops listed) {j:Nat} (hj:j∈Region.ready .any ops listed):Closed ops (listed.setIfInBounds j true):=by
 intro k ok hk hl e he hb;by_cases hkj:j=k;·subst hkj;obtain ⟨_,o,ho,hall⟩:=mem_ready.1 hj;obtain rfl:o=ok:=yG (ho.symm.trans hk);exact getD_set_true (hall e he hb)
 ·rw [getD_set_ne true hkj] at hl;exact getD_set_true (h k ok hk hl e he hb)
def Closed.zero {ops:Array Oper}:Closed ops (Array.replicate ops.size false):=by intro j oj hj hl;have:j < ops.size:=(Array.getElem?_eq_some_iff.1 hj).1;simp [this] at hl
def Jqc {ops:Array Oper} {i:Nat} {listed:Array Bool} (hc:Closed ops listed) (hi:listed.getD i true=false) (plan:List Nat):∀k∈Uce ops i plan,listed.getD k true=false:=by
 have key:∀(plan D:List Nat),(∀k∈D,listed.getD k true=false)→∀k∈plan.foldl (fun D k=>bif Kmf ops i D k then k :: D else D) D,listed.getD k true=false:=by
  intro plan;induction plan with
  | nil=>intro D h;exact h
  | cons x plan ih=>
   intro D h;rw [List.foldl_cons];refine ih _ ?_;cases hx:Kmf ops i D x with
   | false=>rw [cond_false];exact h
   | true=>
    rw [cond_true];intro k hk;rcases List.mem_cons.1 hk with rfl | hk;·
     simp only [Kmf, yEb, yKb] at hx;rcases hx with rfl | hx;·exact hi
     ·
      cases ho:ops[k]? with
      | none=>rw [ho] at hx;cases hx
      | some o=>
       rw [ho] at hx;obtain ⟨e,he,hx⟩:=Array.any_eq_true'.1 hx;simp only [yo] at hx;cases hl:listed.getD k true with
       | false=>rfl
       | true=>
        have h1:=hc k o ho hl e he hx.1;have h2:=h e.on (by simpa using hx.2);rcases yk e.on listed.size with h' | h';·simp [h'] at h1 h2;rw [h1] at h2;cases h2
        ·simp [yF h'] at h1
    ·exact h k hk
 exact key plan [] (fun k hk=>by cases hk)
def zOk (late:List Nat) (ops:Array Oper) (p1 p2:List Nat):Bool:=
 (p2.all fun k=>!Nat.beq (Yc ops k) 1 && !p1.contains k) &&
 (p1.all fun k=>Nat.blt k ops.size && (!Nat.beq (Yc ops k) 0 || J1a late ops k || (Region.ready .any ops (Khe ops.size p1 (Uce ops k p1))).all fun j=>!p2.contains j)) &&
 ((List.range ops.size).all fun k=>p1.contains k || p2.contains k)
section
variable {P:Program} {ops:Array Oper} {late:List Nat} {Q:Exit→Act→World→Prop} {S S2:World→Prop} {p1 p2:List Nat}
def Yve (h:zOk late ops p1 p2=true) {k:Nat} (hk:k∈p2):Yc ops k≠1:=by simp only [zOk,yo] at h;have:=List.all_eq_true.1 h.1.1 k hk;simp only [yo] at this;intro e;rw [e] at this;exact absurd this.1 ze
def Uab (h:zOk late ops p1 p2=true) {k:Nat} (hk:k∈p2):k ∉ p1:=by simp only [zOk,yo] at h;have:=List.all_eq_true.1 h.1.1 k hk;simp only [yo,yPa] at this;intro hm;rw [List.contains_iff_mem.2 hm] at this;cases this.2
def Knf (h : zOk late ops p1 p2 = true) {i : Nat} (hi : i ∈ p1) (hk : Yc ops i = 0) (hp : J1a late ops i = false) {listed : Array Bool} (hcl : Closed ops listed) (hls : listed.size = ops.size) (hInv : ∀ k ∈ p2, listed.getD k true = false) (hl : listed.getD i true = false)
 {j:Nat} (hj:j∈Region.ready .any ops listed):j ∉ p2:=by
 simp only [zOk,yo] at h;obtain ⟨⟨_,h1⟩,hcov⟩:=h;have h2:=List.all_eq_true.1 h1 i hi;simp only [hk,hp,yo] at h2;have h3:((Region.ready .any ops (Khe ops.size p1 (Uce ops i p1))).all fun j=>!p2.contains j)=true:=by have h4:=h2.2;rw [show Nat.beq 0 0=true from rfl] at h4;simpa using h4
 intro hj2;obtain ⟨h0,o,ho,hall⟩:=mem_ready.1 hj;have hjlt:j < ops.size:=(Array.getElem?_eq_some_iff.1 ho).1;have hjp:j ∉ p1:=Uab (by simp only [zOk,yo];exact ⟨⟨by assumption,h1⟩,hcov⟩) hj2;have:j∈Region.ready .any ops (Khe ops.size p1 (Uce ops i p1)):=by
  refine mem_ready.2 ⟨by simp [Khe,hjlt,hjp],o,ho,fun e he hb=>?_⟩;have h5:=hall e he hb;have hlt:e.on < ops.size:=by
   rcases yk e.on listed.size with h' | h';·rw [hls] at h';exact h'
   ·simp [yF h'] at h5
  have h6:listed.getD e.on true=true:=by (have:e.on < listed.size:=by rw [hls];exact hlt);simp [this] at h5 ⊢;exact h5
  have hin:e.on∈p1:=by
   have h7:=List.all_eq_true.1 hcov e.on (List.mem_range.2 hlt);simp only [yEb,List.contains_iff_mem] at h7;rcases h7 with h | h;·exact h
   ·rw [hInv _ h] at h6;cases h6
  have hne:e.on ∉ Uce ops i p1:=fun he=>by rw [Jqc hcl hl p1 _ he] at h6;cases h6
  simp [Khe,hlt,hin,hne]
 have:=List.all_eq_true.1 h3 j this;rw [List.contains_iff_mem.2 hj2] at this;cases this
def wpZ (P : Program) (ops : Array Oper) (Q : Exit → Act → World → Prop) (S S2 : World → Prop) (p2 : List Nat) : Nat → Array Bool → Act → World → Prop
 | 0,listed,a,w=>Region.ready .any ops listed=[]∧Q .normal a w
 | fuel + 1,listed,a,w=>(Region.ready .any ops listed=[]→Q .normal a w)∧
  ∀i∈Region.ready .any ops listed,wpOp P ops Q i (fun a' w'=>(S2 w'∧(p2.any (fun k=>(listed.setIfInBounds i true).getD k false)=true∨S w'))∧wpZ P ops Q S S2 p2 fuel (listed.setIfInBounds i true) a' w') a w
def Yua : ∀ (fuel : Nat) (listed : Array Bool) (a : Act) (w : World), wpZ P ops Q S S2 p2 fuel listed a w → wpAny P .any ops Q fuel listed a w
 | 0,_,_,_,h=>h
 | fuel + 1,_,_,_,h=>⟨h.1,fun i hi=>wpOp_mono (fun a' w' h'=>Yua fuel _ a' w' h'.2) (h.2 i hi)⟩
def Y2b {fuel : Nat} {listed : Array Bool} {a : Act} {w : World} (hne : Region.ready .any ops listed ≠ [])
 (h:∀i∈Region.ready .any ops listed,wpOp P ops Q i (fun a' w'=>(S2 w'∧(p2.any (fun k=>(listed.setIfInBounds i true).getD k false)=true∨S w'))∧wpZ P ops Q S S2 p2 fuel (listed.setIfInBounds i true) a' w') a w):wpZ P ops Q S S2 p2 (fuel + 1) listed a w:=
 ⟨fun h0=>absurd h0 hne,h⟩
def V5c {S' S2' : World → Prop} (hS : ∀ w, S' w → S w) (hS2 : ∀ w, S2' w → S2 w) : ∀ (f : Nat) (l : Array Bool) (a : Act) (w : World), wpZ P ops Q S' S2' p2 f l a w → wpZ P ops Q S S2 p2 f l a w
 | 0,_,_,_,h=>h
 | f + 1,_,_,_,h=>⟨h.1,fun i hi=>wpOp_mono (fun a' w' h'=>⟨⟨hS2 _ h'.1.1,h'.1.2.imp id (hS _)⟩,V5c hS hS2 f _ a' w' h'.2⟩) (h.2 i hi)⟩
def Z5b {listed:Array Bool} (h:∀k∈p2,listed.getD k true=false):p2.any (fun k=>listed.getD k false)=false:=by
 cases hb:p2.any (fun k=>listed.getD k false) with
 | false=>rfl
 | true=>
  obtain ⟨k,hk,hl⟩:=List.any_eq_true.1 hb;have:=h k hk;rcases yk k listed.size with h' | h';·simp [h'] at this hl;rw [this] at hl;cases hl
  ·simp [yF h'] at hl
def Yfd {i : Nat} {oi : Oper} {v : Value} (hz : zOk late ops p1 p2 = true) (hi1 : i ∈ p1) (hk0 : Yc ops i = 0) (hi : ops[i]? = some oi) (hsel : ∀ (j : Nat) (o : Oper) cs b, ops[j]? = some o → o.op ≠ .select cs b)
 (hQ : ∀ c a w, Q (.panic c) (a.put oi.dst v) w → Q (.panic c) a w) (fuel : Nat) (listed : Array Bool) (a : Act) (w : World) (hcl : Closed ops listed) (hls : listed.size = ops.size) (hInv : ∀ k ∈ p2, listed.getD k true = false)
  (hfree:∀j oj,ops[j]?=some oj→j≠i→listed.getD j true=false→(∀e∈oj.after,Region.binds .any e=true→e.on≠i)→oi.apart ops oj=true)
  (hr:i∈Region.ready .any ops listed) (hy:YieldsIf P ops (if J1a late ops i=true then S2 else S) oi v a) (hS:S w) (hSS:∀w,S w→S2 w)
  (H:wpZ P ops Q S S2 p2 fuel (listed.setIfInBounds i true) (a.put oi.dst v) w):wpZ P ops Q S S2 p2 (fuel + 1) listed a w:=by
 -- what holds of it for as long as it has not come up
 let Z:World→Prop:=if J1a late ops i=true then S2 else S;have hyZ:YieldsIf P ops Z oi v a:=hy;have hZS:∀w,S w→Z w:=by
  intro w hw;show (if J1a late ops i=true then S2 else S) w;split;·exact hSS w hw
  ·exact hw
 have hZp:J1a late ops i=true→∀w,S2 w→Z w:=by intro hp w hw;show (if J1a late ops i=true then S2 else S) w;rw [if_pos hp];exact hw
 have hz2:J1a late ops i=false→∀listed:Array Bool,Closed ops listed→listed.size=ops.size→(∀k∈p2,listed.getD k true=false)→listed.getD i true=false→∀j∈Region.ready .any ops listed,j ∉ p2:=fun hp listed hcl hls hInv hl j hj=>
  Knf hz hi1 hk0 hp hcl hls hInv hl hj
 have hi2:i ∉ p2:=fun h=>Uab hz h hi1;clear hz hy
 -- along all orders
 have main:∀(fuel:Nat) (listed:Array Bool) (a:Act) (w:World),Closed ops listed→listed.size=ops.size→(J1a late ops i=false→∀k∈p2,listed.getD k true=false)→
  (∀j oj,ops[j]?=some oj→j≠i→listed.getD j true=false→(∀e∈oj.after,Region.binds .any e=true→e.on≠i)→oi.apart ops oj=true)→
  i∈Region.ready .any ops listed→YieldsIf P ops Z oi v a→Z w→S2 w→(p2.any (fun k=>listed.getD k false)=true∨S w)→
  wpZ P ops Q S S2 p2 fuel (listed.setIfInBounds i true) (a.put oi.dst v) w→wpZ P ops Q S S2 p2 (fuel + 1) listed a w:=by
  intro fuel;induction fuel with
  | zero=>
   intro listed a w _ hls hInv _ hr hy hZ hS2 hS H;refine Y2b (yWa hr) fun j hj=>?_;by_cases hji:j=i;·exact uaQ
   ·have := ready_mono hj hji;rw [H.1] at this;cases this
  | succ fuel ih=>
   intro listed a w hcl hls hInv hfree hr hy hZ hS2 hS H;refine Y2b (yWa hr) fun j hj=>?_;by_cases hji:j=i;·exact uaQ
   ·
    have h1 := H.2 j (ready_mono hj hji);obtain ⟨hjun,oj,hoj,hall⟩:=mem_ready.1 hj;have hnot:∀e∈oj.after,Region.binds .any e=true→e.on≠i:=fun e he hb heq=>by
     have h1:=hall e he hb;have h0:=(mem_ready.1 hr).1;rw [heq] at h1;rcases yk i listed.size with h' | h';·simp [h'] at h0 h1;rw [h0] at h1;cases h1
     ·simp [yF h'] at h1
    have hfree':∀k ok,ops[k]?=some ok→k≠i→(listed.setIfInBounds j true).getD k true=false→(∀e∈ok.after,Region.binds .any e=true→e.on≠i)→oi.apart ops ok=true:=by
     intro k ok hk hne hl hno;refine hfree k ok hk hne ?_ hno;by_cases hjk:j=k;·subst hjk;exact hjun
     ·rwa [getD_set_ne true hjk] at hl
    (have hls':(listed.setIfInBounds j true).size=ops.size:=by simp [hls]);(have hInv':J1a late ops i=false→∀k∈p2,(listed.setIfInBounds j true).getD k true=false:=fun hp k hk=>by have hj2:=hz2 hp listed hcl hls (hInv hp) (mem_ready.1 hr).1 j hj;rw [getD_set_ne true (show ¬ j=k from fun e=>hj2 (e ▸ hk))];exact hInv hp k hk);have h2:=wpOp_putIf hoj (hfree j oj hoj hji hjun hnot) (fun cs b=>hsel i oi cs b hi) (fun cs b=>hsel j oj cs b hoj) hQ hy h1;(have back:∀{l:Array Bool},p2.any (fun k=>(l.setIfInBounds i true).getD k false)=true→p2.any (fun k=>l.getD k false)=true:=by intro l h;obtain ⟨k,hk,hl⟩:=List.any_eq_true.1 h;refine List.any_eq_true.2 ⟨k,hk,?_⟩;rwa [getD_set_ne false (show ¬ i=k from fun e=>hi2 (e ▸ hk))] at hl);refine wpOp_mono (fun a' w' h3=>?_) h2;obtain ⟨hy',⟨hc2,hc⟩,hrec⟩:=h3;have hcomm:(listed.setIfInBounds i true).setIfInBounds j true=(listed.setIfInBounds j true).setIfInBounds i true:=by
     first
      |exact Array.setIfInBounds_comm _ _ hji
      |exact Array.setIfInBounds_comm _ _ (yic hji)
    rw [hcomm] at hrec hc;have hc':p2.any (fun k=>(listed.setIfInBounds j true).getD k false)=true∨S w':=hc.imp (fun h=>back h) id;have hZ':Z w':=by
     cases hp:J1a late ops i with
     | true=>exact hZp hp w' hc2
     | false=>exact hZS w' (hc'.resolve_left (by rw [Z5b (hInv' hp)];decide))
    exact ⟨⟨hc2,hc'⟩,ih (listed.setIfInBounds j true) a' w' (hcl.set hj) hls' hInv' hfree' (ready_mono hr (yic hji)) hy' hZ' hc2 hc' hrec⟩
 exact main fuel listed a w hcl hls (fun _=>hInv) hfree hr hyZ (hZS w hS) (hSS w hS) (.inr hS) H
end
section
variable {P:Program} {tb:Tabs P} {n:Nat} {ops:Array Oper} {c:Ctx} {Lc:List Blk} {K:Kw}
def Y0b {Q:Exit→Act→World→Prop} {S S2:World→Prop} {p2:List Nat}:∀(fuel:Nat) (listed:Array Bool) (a:Act) (w:World),listed.size=ops.size→(∀k,k < ops.size→k ∉ p2→listed.getD k true=true)→
 wpAnyH P .any ops Q S2 fuel listed a w→wpZ P ops Q S S2 p2 fuel listed a w
 | 0,_,_,_,_,_,h=>h
 | fuel + 1,listed,_,_,hls,hall,h=>⟨h.1,fun i hi=>by
  obtain ⟨h0,o,ho,_⟩:=mem_ready.1 hi
  have hilt:i < ops.size:=(Array.getElem?_eq_some_iff.1 ho).1
  have hi2:i∈p2:=by
   rcases yga (i∈p2) with h | h
   ·exact h
   ·rw [hall i hilt h] at h0;cases h0
  refine wpOp_mono (fun a' w' h'=>⟨⟨h'.1,.inl (List.any_eq_true.2 ⟨i,hi2,Uj (by rw [hls];exact hilt) false⟩)⟩,Y0b fuel _ a' w' (by simp [hls]) (fun k hk hn=>?_) h'.2⟩) (h.2 i hi)
  by_cases hik:i=k
  ·subst hik;exact Uj (by rw [hls];exact hilt) true
  ·rw [getD_set_ne true hik];exact hall k hk hn⟩
def K2d {Q2 : Kw} {p2 : List Nat} {Lc2 : List Blk} {S : World → Prop} (hsel : Region.noSelect ops = true) (hal : Vfa tb n ops = true) {os : List Oper} {fuel : Nat} {done listed : Array Bool} {t : Nat → Value} {L : List Blk} {R : List Sl} {a : Act} {w : World}
 (hos:p2.map (ops[·]?)=os.map some) (hpl:Uoa ops done p2=true) (hE:EOk tb n ops done listed []) (hds:done.size=ops.size) (hfu:p2.length≤fuel) (hcov:∀i,i < ops.size→done.getD i true=false→i∈p2) (hfr:Fr n (ovr t []) a) (hst:St c (Juc tb [] ++ L) R w) (hL2:Lc2.Sublist L)
 (hdj:DJ P tb n ops Lc2 Q2 os t L R):wpZ P ops (Zra n c Q2) S (St c Lc2 R) p2 fuel listed a w:=by
 refine Y0b fuel listed a w (by rw [hE.size,hds]) (fun k hk hn=>?_) ?_;·
  cases hd:done.getD k true with
  | true=>exact (hE.listed k true).2 (.inl hd)
  | false=>exact absurd (hcov k hk hd) hn
 ·exact K1f hsel hal (fuel + p2.length) fuel p2 os done listed [] t L R a w (ym _) (by simpa using hfu) hos hpl hE (fun e he=>by cases he) hds hcov hfr hst hL2 hdj
def Uaf {Q2:Kw} {os2:List Oper} {late p1 p2:List Nat} {Lc2:List Blk} (hL2:Lc2.Sublist Lc) (hz:zOk late ops p1 p2=true) (hos2:p2.map (ops[·]?)=os2.map some) (hK:K=fun _ t L R=>DJ P tb n ops Lc2 Q2 os2 t L R) (hsel:Region.noSelect ops=true) (hal:Vfa tb n ops=true):∀(m fuel:Nat) (plan:List Nat) (os:List Oper) (done listed:Array Bool) (E:List Early) (t:Nat→Value) (L:List Blk) (R:List Sl) (a:Act) (w:World),
 fuel + plan.length≤m→plan.length + p2.length≤fuel + E.length→plan.map (ops[·]?)=os.map some→Uoa ops done (plan ++ p2)=true→(∀k∈plan,k∈p1)→(∀k∈p2,done.getD k true=false)→Closed ops listed→EOk tb n ops done listed E→(∀e∈E,e.i∈plan)→done.size=ops.size→
 (∀i,i < ops.size→done.getD i true=false→i∈plan∨i∈p2)→
 Fr n (ovr t E) a→St c (Juc tb E ++ L) R w→Lc.Sublist L→DJ3 P tb n ops late Lc Lc2 K os t L R→wpZ P ops (Zra n c Q2) (St c Lc R) (St c Lc2 R) p2 fuel listed a w:=by
 intro m;induction m with
 | zero=>
  intro fuel plan os done listed E t L R a w hm hfu hos hpl hp1 hd2 hcl hE hEp hds hcov hfr hst hLc hdj;obtain rfl:plan=[]:=by cases plan with | nil=>rfl | cons x l=>simp at hm
  exact uaw
 | succ m ih=>
  intro fuel plan os done listed E t L R a w hm hfu hos hpl hp1 hd2 hcl hE hEp hds hcov hfr hst hLc hdj;have hS:St c Lc R w:=hst.weak (hLc.trans (yX _ _)) (fun r hr=>⟨r,hr,.here⟩);have hls:listed.size=ops.size:=by rw [hE.size,hds]
  have hInv:∀k∈p2,listed.getD k true=false:=by
   intro k hk;cases hl:listed.getD k true with
   | false=>rfl
   | true=>
    rcases (hE.listed k true).1 hl with h | ⟨e,he,hi⟩;·rw [hd2 k hk] at h;cases h
    ·exact absurd (hp1 _ (hEp e he)) (by rw [hi];exact Uab hz hk)
  -- a making of a variable that comes up early
  have early:∀(f:Nat),fuel=f + 1→∀j,j∈Region.ready .any ops listed→Yc ops j=1→
   wpOp P ops (Zra n c Q2) j (fun a' w'=>(St c Lc2 R w'∧(p2.any (fun k=>(listed.setIfInBounds j true).getD k false)=true∨St c Lc R w'))∧wpZ P ops (Zra n c Q2) (St c Lc R) (St c Lc2 R) p2 f (listed.setIfInBounds j true) a' w') a w:=by
   intro f hf j hj hkj;obtain ⟨h0,oj,hoj,hall⟩:=mem_ready.1 hj;(have hkj':Ve oj.op=1:=by simpa [Yc,hoj] using hkj);obtain ⟨T,hT⟩:=Z7a hkj';obtain ⟨hg,⟨ti,hti⟩,⟨d,hd,hdn,hdw⟩,hfree⟩:=V5a hal hoj hT;obtain ⟨zv,hz1,hz2⟩:=Y8 (tb.ok _ _ hti) w;have hjd:done.getD j true=false:=by
    cases hd:done.getD j true with
    | false=>rfl
    | true=>rw [(hE.listed j true).2 (.inl hd)] at h0;cases h0
   (have hjE:∀e∈E,e.i≠j:=fun e he hi=>by rw [(hE.listed j true).2 (.inr ⟨e,he,hi⟩)] at h0;cases h0);(have hzT:zv.cells.toList=zT tb T:=by rw [hz2];simp [zT,hti]);(have hst':St c (Juc tb (⟨j,d,w.heap.size,T⟩ :: E) ++ L) R (w.alloc (.cells zv.cells T)):=by have:=hst.alloc zv.cells T;rw [hzT] at this;exact this);unfold wpOp;simp only [hoj];rw [hfr.wanted,hg];simp only [Yq,if_true];refine .inl ?_;(have hrun:(execOp a.eval oj).run P w=.ok (.value (.pointer (some ⟨w.heap.size,0,none⟩))) (w.alloc (.cells zv.cells T)):=by exact ubc);unfold Oper.wp;rw [hrun];refine ⟨⟨hst'.weak ((hL2.trans hLc).trans (yX _ _)) (fun r hr=>⟨r,hr,.here⟩),.inr (hst'.weak (hLc.trans (yX _ _)) (fun r hr=>⟨r,hr,.here⟩))⟩,?_⟩;have hjlt:j < ops.size:=(Array.getElem?_eq_some_iff.1 hoj).1;(have hjl:j < listed.size:=by rw [hE.size,hds];exact hjlt);have hjp:j∈plan:=(hcov j hjlt hjd).resolve_right fun h=>Yve hz h hkj;refine ih f plan os done _ (⟨j,d,w.heap.size,T⟩ :: E) t L R _ _ za (by simp only [yA];omega) hos hpl hp1 hd2 (hcl.set hj) ?_ ?_ hds hcov ?_ hst' hLc hdj;·exact uag
   ·exact ubr
   ·exact uaU
  cases plan with
  | nil=>exact uaw
  | cons i rest=>
   cases os with
   | nil=>simp at hos
   | cons o os=>
    simp only [yI,List.cons.injEq] at hos;obtain ⟨hio,hos⟩:=hos;simp only [yr,Uoa,yo] at hpl;obtain ⟨⟨hir,hkind⟩,hpl'⟩:=hpl;(have hir:i∈Region.ready .any ops done:=by simpa using hir);obtain ⟨hi0,o',ho',hpre⟩:=mem_ready.1 hir;obtain rfl:o'=o:=yG (ho'.symm.trans hio);have hilt:i < ops.size:=(Array.getElem?_eq_some_iff.1 hio).1;(have hids:i < done.size:=by rw [hds];exact hilt);(have hka:Yc ops i=Ve o'.op:=by simp [Yc,hio]);have hcov':∀k,k < ops.size→(done.setIfInBounds i true).getD k true=false→k∈rest∨k∈p2:=by
     intro k hk hd;by_cases hki:i=k;·subst hki;rw [Uj hids] at hd;cases hd
     ·
      rw [getD_set_ne true hki] at hd;rcases hcov k hk hd with h | h;·
       rcases List.mem_cons.1 h with h | h;·exact absurd h.symm hki
       ·exact .inl h
      ·exact .inr h
    have hp1':∀k∈rest,k∈p1:=fun k hk=>hp1 k (yW _ hk);have hi1:i∈p1:=hp1 i zo;(have hd2':∀k∈p2,(done.setIfInBounds i true).getD k true=false:=fun k hk=>by rw [getD_set_ne true (show ¬ i=k from fun e=>Uab hz hk (e ▸ hi1))];exact hd2 k hk);(have hds':(done.setIfInBounds i true).size=ops.size:=by simp [hds]);(have hdone:∀k,done.getD k true=true→∀d,listed.getD k d=true∨k ≥ done.size:=by exact uaW);obtain ⟨hd,hdj⟩:=hdj
    -- if the operation is no making of a variable, it has not come up, and is apart from the early ones
    (have notE:Ve o'.op≠1→∀e∈E,e.i≠i:=by exact ua5);(have cnt:Ve o'.op≠1→E.length≤rest.length:=by exact uaG);have hready:Ve o'.op≠1→i∈Region.ready .any ops listed:=by
     intro hk;refine mem_ready.2 ⟨?_,o',hio,fun e he hb=>(hE.listed _ _).2 (.inl (hpre e he hb))⟩;cases hl:listed.getD i true with
     | false=>rfl
     | true=>exact ua6
    have apart:Ve o'.op≠1→∀e∈E,e.d ∉ o'.looksAt ops∧o'.dst≠some e.d:=fun hk=>Ysb hal hE hio (notE hk) hpre;(have hEp':Ve o'.op≠1→∀e∈E,e.i∈rest:=fun hk e he=>by exact ubg);(have frame:Ve o'.op≠1→∀v,Fr n (ovr (Jlc t o'.dst v) E) (a.put o'.dst v):=fun hk v=>by rw [← Vsb (fun e he=>(apart hk e he).2)];exact hfr.put hd v);(have hwant:Ve o'.op≠1→Region.wanted o' (yielded ops a.tmps)=Yq ops t o'.guard:=fun hk=>by rw [hfr.wanted,Vnd (fun e he=>(apart hk e he).1)]);(have hexec:Ve o'.op≠1→execOp a.eval o'=execOp (ev t) o':=fun hk=>by exact ubd);rcases V0d o'.op with hk | hk | hk;·
     -- it leaves the world alone
     (have hk1:Ve o'.op≠1:=by rw [hk];decide);have hlen:=cnt hk1;obtain ⟨f,rfl⟩:∃f,fuel=f + 1:=⟨fuel - 1,by simp only [yA] at hfu;omega⟩;rw [hka,hk] at hkind;have hfree:∀j oj,ops[j]?=some oj→j≠i→listed.getD j true=false→(∀e∈oj.after,Region.binds .any e=true→e.on≠i)→o'.apart ops oj=true:=by
      intro j oj hj hne hl hno;refine yMb hio hkind j oj hj hne ?_ hno;cases hd:done.getD j true with
      | false=>rfl
      | true=>rw [(hE.listed j true).2 (.inl hd)] at hl;cases hl
     have hlc:=J5e (late:=late) (Lc:=Lc) (Lc2:=Lc2) hio;(have hSif:∀w',(if J1a late ops i=true then St c Lc2 R else St c Lc R) w'→St c (Ype late Lc Lc2 o'.dst) R w':=by exact uba);(have go:∀v,YieldsIf P ops (if J1a late ops i=true then St c Lc2 R else St c Lc R) o' v a→DJ3 P tb n ops late Lc Lc2 K os (Jlc t o'.dst v) L R→wpZ P ops (Zra n c Q2) (St c Lc R) (St c Lc2 R) p2 (f + 1) listed a w:=by intro v hy hdj';refine Yfd hz hi1 (by rw [hka];exact hk) hio (yZa hsel) (fun _ _ _ h=>h.1.elim) f listed a w hcl hls hInv hfree (hready hk1) hy hS (fun w hw=>hw.weak hL2 (fun r hr=>⟨r,hr,.here⟩)) ?_;exact ih f rest os _ _ E _ L R _ w zP zX hos hpl' hp1' hd2' (hcl.set (hready hk1)) (hE.step (notE hk1) hids) (hEp' hk1) hds' hcov' (frame hk1 v) hst hLc hdj');rcases hdj with ⟨hw,_,hdj'⟩ | ⟨hw,_,v,hv,hdj'⟩ | ⟨h1,_⟩ | ⟨_,h2,_⟩;·exact go undef (.inr ⟨by rw [hwant hk1];exact hw,rfl⟩) hdj'
     ·exact go v (.inl ⟨by rw [hwant hk1];exact hw,fun w' hw'=>by rw [hexec hk1];exact hv c w' (hSif w' hw')⟩) hdj'
     ·exact absurd h1 hk1
     ·rw [hk] at h2;cases h2
    ·
     -- it makes a variable
     rw [hka,hk] at hkind;rcases hdj with ⟨_,h1,_⟩ | ⟨_,h2,_⟩ | ⟨_,T,hT,hdj'⟩ | ⟨_,h2,_⟩;·exact absurd hk h1
     ·rw [hk] at h2;cases h2
     ·
      by_cases hin : ∃ e ∈ E, e.i = i;·
       -- it has come up early
       obtain ⟨e,he,hei⟩:=hin;obtain ⟨oe,h1,h2,h3,h4⟩:=hE.op e he;rw [hei] at h1;obtain rfl:oe=o':=yG (h1.symm.trans hio);(obtain rfl:e.T=T:=by rw [h2] at hT;exact Op.alloc.inj hT);obtain ⟨E1,E2,rfl⟩:=List.append_of_mem he;(have hmem:∀x∈E1 ++ E2,x∈E1 ++ e :: E2:=fun x hx=>by exact ubv);(have hni:∀x∈E1 ++ E2,x.i≠i:=by exact uaE);refine ih fuel rest os _ listed (E1 ++ E2) _ _ R a w zP zZa hos hpl' hp1' hd2' hcl ?_ ?_ hds' hcov' ?_ ?_ (hLc.cons _) (hdj' e.b);·exact uaf
       ·exact ubb
       ·rw [h3];have:=Ynb (t:=t) hE.ndd;rw [this] at hfr;exact hfr
       ·exact ua4
      ·
       -- it has not: whatever comes up now makes a variable
       have hin':∀e∈E,e.i≠i:=fun e he hi=>hin ⟨e,he,hi⟩;have hrl:i∈Region.ready .any ops listed:=by
        refine mem_ready.2 ⟨?_,o',hio,fun e he hb=>(hE.listed _ _).2 (.inl (hpre e he hb))⟩;cases hl:listed.getD i true with
        | false=>rfl
        | true=>exact ua7
       (have hlen:E.length + 1≤(i :: rest).length:=by exact uau);obtain ⟨f,rfl⟩:∃f,fuel=f + 1:=⟨fuel - 1,by omega⟩;refine Y2b (yWa hrl) fun j hj=>early f rfl j hj ?_;exact uaH
     ·rw [hk] at h2;cases h2
    ·
     -- it turns the world
     (have hk1:Ve o'.op≠1:=by rw [hk];decide);have hlen:=cnt hk1;obtain ⟨f,rfl⟩:∃f,fuel=f + 1:=⟨fuel - 1,by simp only [yA] at hfu;omega⟩;rw [hka,hk] at hkind;refine Y2b (yWa (hready hk1)) fun j hj=>?_;by_cases hkj:Yc ops j=1;·exact early f rfl j hj hkj
     ·
      have hji := Vga (p := fun _ => true) hE (fun _ _ => rfl) hds hj hkj;have:=List.all_eq_true.1 hkind j hji;(obtain rfl:j=i:=by simpa using this);unfold wpOp;simp only [hio];rw [hwant hk1];rcases hdj with ⟨hw,_,hdj'⟩ | ⟨_,h2,_⟩ | ⟨h1,_⟩ | ⟨hw,_,Post,hg,hdj'⟩;·rw [hw, if_neg zo];exact ⟨⟨hS.weak hL2 (fun r hr=>⟨r,hr,.here⟩),.inr hS⟩,ih f rest os _ _ E _ L R _ w zP zX hos hpl' hp1' hd2' (hcl.set (hready hk1)) (hE.step (notE hk1) hids) (hEp' hk1) hds' hcov' (frame hk1 undef) hst hLc hdj'⟩
      ·rw [hk] at h2;cases h2
      ·exact absurd h1 hk1
      ·rw [hw, if_pos rfl];refine .inl (U8b (hexec hk1) ?_);refine (hg.frame (Juc tb E)) c w hst a _ _ ?_;rintro v L'' J w' ⟨U,rfl,hp⟩ hst';obtain ⟨hLc',hR',hdj''⟩:=hdj' v U J hp;refine ⟨⟨hst'.weak ((hL2.trans hLc').trans (yX _ _)) hR',.inr (hst'.weak (hLc'.trans (yX _ _)) hR')⟩,?_⟩;refine V5c (S':=St c Lc J) (S2':=St c Lc2 J) (fun x hx=>hx.weak ye hR') (fun x hx=>hx.weak ye hR') _ _ _ _ ?_;exact ih f rest os _ _ E _ U J _ w' zP zX hos hpl' hp1' hd2' (hcl.set (hready hk1)) (hE.step (notE hk1) hids) (hEp' hk1) hds' hcov' (frame hk1 v) hst' hLc' hdj''
end
def J7 {P : Program} (tb : Tabs P) {n id : Nat} {ops : List Oper} {t : Nat → Value} {L : List Blk} {R : List Sl} {Q : Kw} (late plan p2 : List Nat) (Lc Lc2 : List Blk) (hm : P.follows .mixedOrders = true) (hB : (Vxb tb n ops.toArray (plan ++ p2) && zOk late ops.toArray plan p2) = true) (hLc : Lc.Sublist L) (hL2 : Lc2.Sublist Lc)
 (h:DJ3 P tb n ops.toArray late Lc Lc2 (fun _ t L R=>DJ P tb n ops.toArray Lc2 Q (Kba ops p2) t L R) (Kba ops plan) t L R):CJ P n (.region id ops.toArray true) t L R Q:=by
 simp only [yo] at hB;obtain ⟨hB,hz⟩:=hB;simp only [Vxb,yo] at hB;obtain ⟨⟨⟨⟨h1,h2⟩,h3⟩,h4⟩,h5⟩:=hB;have hlt:∀i∈plan ++ p2,i < ops.length:=fun i hi=>by simpa using List.all_eq_true.1 h5 i hi
 intro c a w hf hs;refine wp_region_any hm (Yua (S:=St c Lc R) (S2:=St c Lc2 R) (p2:=p2) _ _ _ _ ?_);refine Uaf (tb:=tb) (Lc:=Lc) (p2:=p2) (os2:=Kba ops p2) hL2 hz (Knb ops p2 fun i hi=>hlt i (yj _ hi)) rfl h1 h2 (ops.toArray.size + plan.length) ops.toArray.size plan (Kba ops plan) (Array.replicate ops.toArray.size false) _ [] t L R a _ (ym _) ?_ (Knb ops plan fun i hi=>hlt i (yp _ hi)) h3 (fun _ h=>h) (fun k hk=>by have:=hlt k (yj _ hk);simp [this]) Closed.zero ?_ (fun e he=>by cases he) zo ?_ hf ?_ hLc h;·
  have key:∀(pl:List Nat) (done:Array Bool),Uoa ops.toArray done pl=true→pl.Nodup∧∀i∈pl,done.getD i true=false:=by
   intro pl;induction pl with
   | nil=>intro _ _;exact ⟨yOa,fun i hi=>by cases hi⟩
   | cons i pl ih=>exact uao
  have:=Yj (plan ++ p2) (List.range ops.length) (key _ _ h3).1 (fun i hi=>List.mem_range.2 (hlt i hi));simpa using this
 ·exact ⟨by simp,fun i d=>by simp,by simp,by simp,yOa,yOa⟩
 ·exact ubs
 ·exact St.drew hs
section
variable {P:Program} {tb:Tabs P} {n:Nat} {all:Array Oper} {late:List Nat} {Lc Lc2:List Blk} {K:Kw} {op:Op} {ty:TypeId} {pos:String} {after:Array Edge} {rest:List Oper} {t:Nat→Value} {L U:List Blk} {R J:List Sl} {d:Tmp} {v:Value} {g:Option (Nat×Bool)} {T:TypeId} {x y:Operand}
def Kbe {Q:Kw} {os2:List Oper} (h:DJ P tb n all Lc2 Q os2 t L R):DJ3 P tb n all late Lc Lc2 (fun _ t L R=>DJ P tb n all Lc2 Q os2 t L R) [] t L R:=h
def Ku (hv:YV P ⟨some d,op,ty,pos,after,g⟩ (ev t) Lc R v) (hl:late.contains d=false) (hk:Ve op=0) (hg:Yq all t g=true) (hd:Nat.blt d n=true) (h:DJ3 P tb n all late Lc Lc2 K rest (upd t d v) L R):DJ3 P tb n all late Lc Lc2 K (⟨some d,op,ty,pos,after,g⟩ :: rest) t L R:=
 ⟨hd,.inr (.inl ⟨hg,hk,v,by simp only [Ype];rw [hl];exact hv,h⟩)⟩
def Vd (hv:YV P ⟨some d,op,ty,pos,after,g⟩ (ev t) Lc2 R v) (hl:late.contains d=true) (hk:Ve op=0) (hg:Yq all t g=true) (hd:Nat.blt d n=true) (h:DJ3 P tb n all late Lc Lc2 K rest (upd t d v) L R):DJ3 P tb n all late Lc Lc2 K (⟨some d,op,ty,pos,after,g⟩ :: rest) t L R:=
 ⟨hd,.inr (.inl ⟨hg,hk,v,by simp only [Ype];rw [hl];exact hv,h⟩)⟩
def U5c (hk:Nat.beq (Ve op) 1=false) (hg:Yq all t g=false) (hd:Nat.blt d n=true) (h:DJ3 P tb n all late Lc Lc2 K rest (upd t d undef) L R):DJ3 P tb n all late Lc Lc2 K (⟨some d,op,ty,pos,after,g⟩ :: rest) t L R:=
 ⟨hd,.inl ⟨hg,fun e=>by simp [e] at hk,h⟩⟩
def Joc {Post : Ys} (hg : Gives P ⟨some d, op, ty, pos, after, g⟩ (ev t) L R Post) (hk : Ve op = 2) (hw : Yq all t g = true) (hd : Nat.blt d n = true)
 (h:∀v U J,Post v U J→Lc.Sublist U∧(∀r∈R,InR r J)∧DJ3 P tb n all late Lc Lc2 K rest (upd t d v) U J):DJ3 P tb n all late Lc Lc2 K (⟨some d,op,ty,pos,after,g⟩ :: rest) t L R:=
 ⟨hd,.inr (.inr (.inr ⟨hw,hk,Post,hg,h⟩))⟩
def K7 {f : FuncId} {xs : List Operand} {ts : Array TypeId} {args : List Value} {Post : Ys} (ha : xs.map (ev t) = args) (h : Tri P f args.toArray L R Post) (hw : Yq all t g = true) (hd : Nat.blt d n = true)
 (k:∀v U J,Post v U J→Lc.Sublist U∧(∀r∈R,InR r J)∧DJ3 P tb n all late Lc Lc2 K rest (upd t d v) U J):DJ3 P tb n all late Lc Lc2 K (⟨some d,.call ⟨.value (.func f),xs.toArray,ts⟩,ty,pos,after,g⟩ :: rest) t L R:=
 Joc (Uza zsa rfl h) rfl hw hd k
def Y0d {os:List Oper} {k:Nat} {b:Bool} (hb:t k=.bool b) (h1:b=true→DJ3 P tb n all late Lc Lc2 K os (upd t k (.bool true)) L R) (h2:b=false→DJ3 P tb n all late Lc Lc2 K os (upd t k (.bool false)) L R):DJ3 P tb n all late Lc Lc2 K os t L R:=by
 cases b with
 | true=>have:=h1 rfl;rwa [Zma hb] at this
 | false=>have:=h2 rfl;rwa [Zma hb] at this
end
def Tri.at {P f args X L R F} {Post:Ys} (hseg:Seg X L F) (h:Tri P f args X R Post):Tri P f args L R (fun v L'' J=>∃U,L''=F U∧Post v U J):=by
 obtain ⟨A,B,hL,hF⟩:=hseg.split;refine ⟨h.1,fun w G hh=>?_⟩;subst hL;have hp:(A ++ X ++ B).Perm ((A ++ B) ++ X):=by rw [yn,yn];exact yob _ yEa
 have hh':Holds ((A ++ B) ++ X) G R w:=⟨(hp.map _).nodup_iff.1 hh.nd,fun e he=>hh.own e (hp.mem_iff.2 he),fun e he=>hh.ng e (hp.mem_iff.2 he),hh.gs,hh.rep⟩;have hX:Holds X G R w:=⟨(List.nodup_append.1 (by have:=hh'.nd;rwa [yU] at this)).2.1,fun e he=>hh'.own e (yj _ he),fun e he=>hh'.ng e (yj _ he),hh'.gs,hh'.rep⟩;refine (h.2 w G hX).mono fun e w' ⟨v,U,J,he,hpost,hst⟩=>⟨v,F U,J,he,⟨U,rfl,hpost⟩,?_⟩;have h1:=St.frame hh' hst;rw [hF];have hp2:((A ++ B) ++ U).Perm (A ++ U ++ B):=by rw [yn,yn];exact yob _ yEa
 have h2:=h1.perm hp2;exact uap
def U3d {P n code t L R} {Q:Kw} {s:Sl} (hs:∀w G,(∀r∈R,Rep w G r)→Rep w G s) (h:CJ P n code t L (s :: R) Q):CJ P n code t L R Q:=by
 intro c a w hf hst;refine h c a w hf ?_;obtain ⟨⟨G,hh,hg⟩,ho,hk⟩:=hst;refine ⟨⟨G,⟨hh.nd,hh.own,hh.ng,hh.gs,fun r hr=>?_⟩,hg⟩,ho,hk⟩;rcases List.mem_cons.1 hr with rfl | hr;·exact hs w G hh.rep
 ·exact hh.rep r hr
inductive USeg (b : Nat) (cs : List Value) (T : TypeId) : List Blk → (List Value → List Blk) → Prop
 | here {L}:USeg b cs T (⟨b,cs,T⟩ :: L) (fun cs'=>⟨b,cs',T⟩ :: L)
 | cons {x L f} (h:USeg b cs T L f):USeg b cs T (x :: L) (fun cs'=>x :: f cs')
 | app {X L f} (h:USeg b cs T L f):USeg b cs T (X ++ L) (fun cs'=>X ++ f cs')
def USeg.split {b cs T L f} (h:USeg b cs T L f):∃A B,L=A ++ ([⟨b,cs,T⟩] ++ B)∧∀cs',f cs'=A ++ ([⟨b,cs',T⟩] ++ B):=by
 induction h with
 | @here L=>exact ⟨[],L,rfl,fun _=>rfl⟩
 | @cons x L f _ ih=>obtain ⟨A,B,h1,h2⟩:=ih;exact ⟨x :: A,B,by simp [h1],fun cs'=>by simp [h2]⟩
 | @app X L f _ ih=>obtain ⟨A,B,h1,h2⟩:=ih;exact ⟨X ++ A,B,by simp [h1],fun cs'=>by simp [h2]⟩
def Tri.at1 {P f args b cs T L F R} {Post:Ys} {Post':Value→List Value→List Sl→Prop} (hseg:USeg b cs T L F) (h:Tri P f args [⟨b,cs,T⟩] R Post) (hp:∀v U J,Post v U J→∃cs',[⟨b,cs',T⟩]=U∧Post' v cs' J):
 Tri P f args L R (fun v L'' J=>∃cs',F cs'=L''∧Post' v cs' J):=by obtain ⟨A,B,hL,hF⟩:=hseg.split;subst hL;refine (Tri.at (.app .here) h).mono ?_;rintro v L'' J ⟨U,rfl,hpost⟩;obtain ⟨cs',rfl,h'⟩:=hp v U J hpost;exact ⟨cs',hF cs',h'⟩
end Go.Aw
end
section
namespace Go.Aw
open Go
section
variable {P:Program} {ρ:Operand→Value} {L:List Blk} {R:List Sl} {dst:Option Tmp} {ty:TypeId} {pos:String} {after:Array Edge} {guard:Option (Nat×Bool)} {T T2:TypeId} {x y z:Operand} {a b c:Int} {k:IntKind}
def Kve {n:Int} (h1:0≤n) (h2:n≤18446744073709551615):IntKind.u64.wrap n=n:=by rw [IntKind.wrap_u64];omega
def V6c (hx:ρ x=.int .u64 a) (hy:ρ y=.int .u64 b) (h1:0≤a + b) (h2:a + b≤18446744073709551615):
 YV P ⟨dst,.binOp .add T x y T2,ty,pos,after,guard⟩ ρ L R (.int .u64 (a + b)):=by have:=J3c (P:=P) (L:=L) (R:=R) (dst:=dst) (ty:=ty) (pos:=pos) (after:=after) (guard:=guard) (T:=T) (T2:=T2) hx hy;rwa [Kve h1 h2] at this
def Ksd (hx:ρ x=.int .u64 a) (hy:ρ y=.int .u64 b) (h1:0≤a * b) (h2:a * b≤18446744073709551615):
 YV P ⟨dst,.binOp .mul T x y T2,ty,pos,after,guard⟩ ρ L R (.int .u64 (a * b)):=by have:=Z8c (P:=P) (L:=L) (R:=R) (dst:=dst) (ty:=ty) (pos:=pos) (after:=after) (guard:=guard) (T:=T) (T2:=T2) hx hy;rwa [Kve h1 h2] at this
def Upc (hx:ρ x=.int .u64 a) (hy:ρ y=.int .u64 b) (ha:0≤a) (ha2:a≤18446744073709551615) (hb:0 < b):YV P ⟨dst,.binOp .quo T x y T2,ty,pos,after,guard⟩ ρ L R (.int .u64 (a / b)):=by have:=Kuc (P:=P) (L:=L) (R:=R) (dst:=dst) (ty:=ty) (pos:=pos) (after:=after) (guard:=guard) (T:=T) (T2:=T2) hx hy za;rw [yT ha] at this;have h1:0≤a / b:=ySa ha za;have h2:a / b≤a:=yib _ ha;rwa [Kve h1 za] at this
def Vcd (hx:ρ x=.int .u64 a) (hy:ρ y=.int .u64 b) (ha:0≤a) (hb:0 < b):YV P ⟨dst,.binOp .rem T x y T2,ty,pos,after,guard⟩ ρ L R (.int .u64 (a % b)):=by have:=V8d (P:=P) (L:=L) (R:=R) (dst:=dst) (ty:=ty) (pos:=pos) (after:=after) (guard:=guard) (T:=T) (T2:=T2) hx hy za;rwa [ypb ha] at this
def Yob (hx:ρ x=.int .u64 a) (hy:ρ y=.int .u64 4294967295) (h1:0≤a) (h2:a≤18446744073709551615):
 YV P ⟨dst,.binOp .and T x y T2,ty,pos,after,guard⟩ ρ L R (.int .u64 (a % 4294967296)):=fun _ _ _=>by
 obtain ⟨n,rfl⟩:∃n:Nat,a=(n:Int):=⟨a.toNat,by omega⟩
 have e:(BitVec.ofInt IntKind.u64.bits ((n:Nat):Int) &&& BitVec.ofInt IntKind.u64.bits 4294967295).toNat=n % 4294967296:=by
  show (BitVec.ofInt 64 ((n:Nat):Int) &&& BitVec.ofInt 64 4294967295).toNat=n % 4294967296
  rw [BitVec.ofInt_natCast,yOb,BitVec.toNat_ofNat,yub za]
  exact yFa n 32
 have e2:IntKind.u64.wrap ((n % 4294967296:Nat):Int)=((n:Int) % 4294967296):=by rw [Kve za za];omega
 have hb:Op.intBits .and .u64 ((n:Nat):Int) 4294967295=(pure (.int .u64 ((n:Int) % 4294967296)):Sem Value):=by
  unfold Op.intBits
  dsimp only
  rw [e,e2]
 simp [execOp,hx,hy,eqGuard,binOp,hb]
def Kyb (hx:ρ x=.int .u64 a) (hy:ρ y=.int k 32):YV P ⟨dst,.binOp .shr T x y T2,ty,pos,after,guard⟩ ρ L R (.int .u64 (a / 4294967296)):=fun _ _ _=>by
 have e:a.fdiv (2 ^ 32)=a / 4294967296:=by rw [yUa _ ze];rfl
 have e0:min (32:Int).toNat IntKind.u64.bits=32:=by decide
 have hb:Op.shift .shr .u64 a k 32=(pure (.int .u64 (a / 4294967296)):Sem Value):=by
  unfold Op.shift
  rw [if_neg ze]
  dsimp only
  rw [e0,e]
 simp [execOp,hx,hy,eqGuard,binOp,hb]
def J4e {ts:Array TypeId} (hx:ρ x=.int k a) (hy:ρ y=.int k b) (hz:ρ z=.int k c):YV P ⟨dst,.call ⟨.builtin .min,#[x,y,z],ts⟩,ty,pos,after,guard⟩ ρ L R (.int k (min (min a b) c)):=fun _ w _=>by
 simp only [execOp,resolve,invoke,builtin,Builtin.min_,ytb,yI,ywb,hx,hy,hz]
 have h1:(if b < a then b else a)=min a b:=by rw [Int.min_def];split <;> split <;> omega
 have h2:(if c < min a b then c else min a b)=min (min a b) c:=by rw [Int.min_def (min a b) c];split <;> split <;> omega
 simp [Builtin.min2,h1,h2]
def Vce {ts:Array TypeId} (hx:ρ x=.int k a) (hy:ρ y=.int k b) (hz:ρ z=.int k c):YV P ⟨dst,.call ⟨.builtin .max,#[x,y,z],ts⟩,ty,pos,after,guard⟩ ρ L R (.int k (max (max a b) c)):=fun _ w _=>by
 simp only [execOp,resolve,invoke,builtin,Builtin.max_,ytb,yI,ywb,hx,hy,hz]
 have h1:(if b > a then b else a)=max a b:=by rw [Int.max_def];split <;> split <;> omega
 have h2:(if c > max a b then c else max a b)=max (max a b) c:=by rw [Int.max_def (max a b) c];split <;> split <;> omega
 simp [Builtin.max2,h1,h2]
variable (tb:Tabs P)
def Vxa {k' : IntKind} {n1 n2 f1 f2 b1 b2 z1 z2} (h1 : Yy tb.tab T = some ⟨.int k', n1, f1, b1, z1⟩) (h2 : Yy tb.tab T2 = some ⟨.int .u64, n2, f2, b2, z2⟩) (hx : ρ x = .int k' a)
 (h3:0≤a) (h4:a≤18446744073709551615):YV P ⟨dst,.convert T T2 x,ty,pos,after,guard⟩ ρ L R (.int .u64 a):=by have:=Kra (P:=P) (L:=L) (R:=R) (dst:=dst) (ty:=ty) (pos:=pos) (after:=after) (guard:=guard) tb h1 h2 hx;rwa [Kve h3 h4] at this
def Kwf (P:Program) (T f:Nat):Option TypeId:=match P.underlying T with
 | some (.struct fs)=>(fs[f]?).map (·.type)
 | _=>none
def K0b {e f off n n2 sz : Nat} {fl fl2 : List (Nat × Nat)} {bt z bt2 z2 k2} {cs : List Value} {v : Value} (hT : Yy tb.tab T = some ⟨.struct, n, fl, bt, z⟩) (hft : Kwf P T f = some e) (hE : Yy tb.tab e = some ⟨k2, n2, fl2, bt2, z2⟩) (hk : k2.isAgg = false)
 (hx:ρ x=.agg cs.toArray) (hf:fl[f]?=some (off,sz)) (hv:cs[off]?=some v):
 YV P ⟨dst,.field T x f,ty,pos,after,guard⟩ ρ L R v:=fun _ w _=>by
 obtain ⟨fs,hu,hfl⟩:=Zaa (tb.ok _ _ hT) rfl
 simp only at hfl
 subst hfl
 rw [yq] at hf
 obtain ⟨fd,hfd,he⟩:=Option.map_eq_some_iff.1 hf
 obtain ⟨h1,h2⟩:=Prod.mk.inj he
 have hfd':fs[f]?=some fd:=by rw [← Array.getElem?_toList];exact hfd
 have hte:fd.type=e:=by simpa [Kwf,hu,hfd'] using hft
 have hag:=Yzb (tb.ok _ _ hE) w
 rw [show (TI.mk k2 n2 fl2 bt2 z2).k.isAgg=false from hk,← hte] at hag
 subst h1
 simp [execOp,hx,Instr.field,run_underlying hu,hfd',asAgg,part,hag,hv]
end
end Go.Aw
end
section
namespace Go.Aw
open Go
def WZ (P:Program) (n:Nat) (ops:Array Oper) (Lc Lc2:List Blk) (Q:Kw) (p2:List Nat) (m:Nat) (done:Array Bool) (t:Nat→Value) (L:List Blk) (R:List Sl):Prop:=
 ∀c a w,Closed ops done→done.size=ops.size→(∀k∈p2,done.getD k true=false)→Fr n t a→St c L R w→Lc.Sublist L→∀fuel,m + p2.length≤fuel→wpZ P ops (Zra n c Q) (St c Lc R) (St c Lc2 R) p2 fuel done a w
def U4e (ops:Array Oper) (p1:List Nat) (done:Array Bool) (i:Nat):Bool:=p1.contains i && ((Region.ready .any ops done).contains i && Region.free .any ops done i)
def Vxd (ops:Array Oper) (p1:List Nat) (done:Array Bool) (l:List Nat):Bool:=!l.isEmpty && ((Region.ready .any ops done == l) && l.all fun j=>p1.contains j)
def Y3f (ops:Array Oper) (done:Array Bool) (p2:List Nat):Bool:=Uoa ops done p2 && (List.range ops.size).all fun i=>done.getD i true || p2.contains i
def Z0a {P:Program} (tb:Tabs P) (n:Nat) (ops:Array Oper) (late p1 p2:List Nat):Bool:=Region.noSelect ops && (Vfa tb n ops && zOk late ops p1 p2)
section
variable {P:Program} {tb:Tabs P} {n m:Nat} {ops:Array Oper} {late p1 p2:List Nat} {Lc Lc2:List Blk} {Q:Kw} {done:Array Bool} {t:Nat→Value} {L:List Blk} {R:List Sl}
def Jnf {i : Nat} {o : Oper} {v : Value} (hT : Z0a tb n ops late p1 p2 = true) (hL2 : Lc2.Sublist Lc) (hok : U4e ops p1 done i = true) (hio : ops[i]? = some o) (hk : Ve o.op = 0) (hw : Yq ops t o.guard = true) (hd : dOk n o.dst = true)
 (hv:YV P o (ev t) (Ype late Lc Lc2 o.dst) R v) (h:WZ P n ops Lc Lc2 Q p2 m (done.setIfInBounds i true) (Jlc t o.dst v) L R):WZ P n ops Lc Lc2 Q p2 (m + 1) done t L R:=by
 intro c a w hcl hds hInv hfr hst hLc fuel hfu;simp only [Z0a,yo] at hT;simp only [U4e,yo] at hok;obtain ⟨hsel,_,hz⟩:=hT;obtain ⟨hi1,hr,hfree⟩:=hok;have hi1:i∈p1:=by simpa using hi1
 have hr:i∈Region.ready .any ops done:=by simpa using hr
 obtain ⟨f,rfl⟩:∃f,fuel=f + 1:=⟨fuel - 1,by omega⟩;have hka:Yc ops i=0:=by simp [Yc,hio,hk]
 have hS:St c Lc R w:=hst.weak hLc (fun r hr=>⟨r,hr,.here⟩);have hlc:=J5e (late:=late) (Lc:=Lc) (Lc2:=Lc2) hio;have hSif:∀w',(if J1a late ops i=true then St c Lc2 R else St c Lc R) w'→St c (Ype late Lc Lc2 o.dst) R w':=by exact uba
 have hexec:execOp a.eval o=execOp (ev t) o:=by rw [hfr.eval]
 refine Yfd (late := late) hz hi1 hka hio (yZa hsel) (fun _ _ _ h => h.1.elim) f done a w hcl hds hInv (fun j oj hj hne hl hno => yMb hio hfree j oj hj hne hl hno) hr
  (v:=v) (.inl ⟨by rw [hfr.wanted];exact hw,fun w' hw'=>by rw [hexec];exact hv c w' (hSif w' hw')⟩) hS (fun w hw=>hw.weak hL2 (fun r hr=>⟨r,hr,.here⟩)) ?_
 refine h c _ w (hcl.set hr) (by simp [hds]) (fun k hk2=>?_) (hfr.put hd v) hst hLc f za;have hne:i≠k:=fun e=>Uab hz hk2 (e ▸ hi1);rw [getD_set_ne true hne];exact hInv k hk2
def Jlf (P:Program) (n:Nat) (ops:Array Oper) (Lc Lc2:List Blk) (Q:Kw) (p2:List Nat) (m:Nat) (done:Array Bool) (t:Nat→Value) (L:List Blk) (R:List Sl) (j:Nat):Prop:=
 ∃o,ops[j]?=some o∧Yq ops t o.guard=true∧dOk n o.dst=true∧∃Post,Gives P o (ev t) L R Post∧∀v U J,Post v U J→Lc.Sublist U∧(∀r∈R,InR r J)∧WZ P n ops Lc Lc2 Q p2 m (done.setIfInBounds j true) (Jlc t o.dst v) U J
def WSteps (P : Program) (n : Nat) (ops : Array Oper) (Lc Lc2 : List Blk) (Q : Kw) (p2 : List Nat) (m : Nat) (done : Array Bool) (t : Nat → Value) (L : List Blk) (R : List Sl) : List Nat → Prop
 | []=>True
 | j :: l=>Jlf P n ops Lc Lc2 Q p2 m done t L R j∧WSteps P n ops Lc Lc2 Q p2 m done t L R l
def WSteps.mem {l:List Nat} (h:WSteps P n ops Lc Lc2 Q p2 m done t L R l) {j:Nat} (hj:j∈l):Jlf P n ops Lc Lc2 Q p2 m done t L R j:=by
 induction l with
 | nil=>cases hj
 | cons x l ih=>
  rcases List.mem_cons.1 hj with rfl | hj;·exact h.1
  ·exact ih h.2 hj
def Jf (l:List Nat) (hT:Z0a tb n ops late p1 p2=true) (hL2:Lc2.Sublist Lc) (hok:Vxd ops p1 done l=true) (h:WSteps P n ops Lc Lc2 Q p2 m done t L R l):WZ P n ops Lc Lc2 Q p2 (m + 1) done t L R:=by
 intro c a w hcl hds hInv hfr hst hLc fuel hfu;simp only [Z0a,yo] at hT;simp only [Vxd,yo] at hok;obtain ⟨hsel,_,hz⟩:=hT;obtain ⟨hne,hre,hall⟩:=hok;have hre:Region.ready .any ops done=l:=by simpa using hre
 obtain ⟨f,rfl⟩:∃f,fuel=f + 1:=⟨fuel - 1,by omega⟩;refine Y2b (by rw [hre];intro e;rw [e] at hne;cases hne) fun j hj=>?_;have hj':j∈l:=by rw [← hre];exact hj
 obtain ⟨o,hio,hw,hd,Post,hg,hnext⟩:=h.mem hj';have hj1:j∈p1:=by simpa using List.all_eq_true.1 hall j hj'
 unfold wpOp;simp only [hio];rw [hfr.wanted,hw,if_pos rfl];refine .inl ?_;unfold Oper.wp;rw [hfr.eval];refine hg c w hst a _ _ ?_;intro v U J w' hp hst';obtain ⟨hLc',hR',hW⟩:=hnext v U J hp;refine ⟨⟨(hst'.weak hLc' hR').weak hL2 (fun r hr=>⟨r,hr,.here⟩),.inr (hst'.weak hLc' hR')⟩,?_⟩;refine V5c (S':=St c Lc J) (S2':=St c Lc2 J) (fun x hx=>hx.weak ye hR') (fun x hx=>hx.weak ye hR') _ _ _ _ ?_;refine hW c _ w' (hcl.set hj) (by simp [hds]) (fun k hk2=>?_) (hfr.put hd v) hst' hLc' f za;have hne:j≠k:=fun e=>Uab hz hk2 (e ▸ hj1);rw [getD_set_ne true hne];exact hInv k hk2
def Zqf (os:List Oper) (hT:Z0a tb n ops late p1 p2=true) (hL2:Lc2.Sublist Lc) (hok:Y3f ops done p2=true) (hos:p2.map (ops[·]?)=os.map some) (h:DJ P tb n ops Lc2 Q os t L R):WZ P n ops Lc Lc2 Q p2 m done t L R:=by
 intro c a w hcl hds hInv hfr hst hLc fuel hfu;simp only [Z0a,yo] at hT;simp only [Y3f,yo] at hok;obtain ⟨hsel,hal,hz⟩:=hT;obtain ⟨hpl,hcov⟩:=hok;refine K2d (tb:=tb) hsel hal hos hpl ⟨rfl,fun i d=>?_,(fun e he=>by cases he),(fun e he=>by cases he),yOa,yOa⟩ hds za (fun i hi hd=>?_) hfr hst (hL2.trans hLc) h;·simp
 ·have := List.all_eq_true.1 hcov i (List.mem_range.2 hi);rw [hd] at this;simpa using this
end
def Kb {P : Program} {tb : Tabs P} {n m : Nat} {opl : List Oper} {late p1 p2 : List Nat} {Lc Lc2 : List Blk} {Q : Kw} {done : Array Bool} {t : Nat → Value} {L : List Blk} {R : List Sl} (hT : Z0a tb n opl.toArray late p1 p2 = true) (hL2 : Lc2.Sublist Lc) (hok : Y3f opl.toArray done p2 = true) (hp2 : p2.all (fun k => Nat.blt k opl.length) = true)
 (h:DJ P tb n opl.toArray Lc2 Q (Kba opl p2) t L R):WZ P n opl.toArray Lc Lc2 Q p2 m done t L R:=
 Zqf (Kba opl p2) hT hL2 hok (Knb opl p2 fun i hi=>by simpa using List.all_eq_true.1 hp2 i hi) h
def Job {P : Program} (tb : Tabs P) {n id : Nat} {ops : List Oper} {t : Nat → Value} {L : List Blk} {R : List Sl} {Q : Kw} (late p1 p2 : List Nat) (Lc Lc2 : List Blk) (m : Nat) (hm : P.follows .mixedOrders = true) (hT : Z0a tb n ops.toArray late p1 p2 = true) (hmm : Nat.ble (m + p2.length) ops.length = true)
 (hp2:p2.all (fun k=>Nat.blt k ops.length)=true) (hLc:Lc.Sublist L) (h:Z0a tb n ops.toArray late p1 p2=true→WZ P n ops.toArray Lc Lc2 Q p2 m (Array.replicate ops.length false) t L R):CJ P n (.region id ops.toArray true) t L R Q:=by
 intro c a w hf hs;refine wp_region_any hm (Yua (S:=St c Lc R) (S2:=St c Lc2 R) (p2:=p2) _ _ _ _ ?_);have e:ops.toArray.size=ops.length:=by simp
 have hcl:=Closed.zero (ops:=ops.toArray);rw [e] at hcl;refine h hT c a _ hcl zo (fun k hk=>?_) hf (St.drew hs) hLc _ ?_;·have := List.all_eq_true.1 hp2 k hk;simp at this;simp [this]
 ·have := yR hmm;simpa using this
section
variable {P:Program} {tb:Tabs P} {n m:Nat} {ops:Array Oper} {late p1 p2:List Nat} {Lc Lc2:List Blk} {Q:Kw} {done:Array Bool} {t:Nat→Value} {L:List Blk} {R:List Sl} {op:Op} {ty:TypeId} {pos:String} {after:Array Edge} {d:Tmp} {v:Value} {g:Option (Nat×Bool)}
def J6a (i : Nat) (hT : Z0a tb n ops late p1 p2 = true) (hL2 : Lc2.Sublist Lc) (hok : U4e ops p1 done i = true) (hio : ops[i]? = some ⟨some d, op, ty, pos, after, g⟩) (hk : Ve op = 0) (hw : Yq ops t g = true) (hd : Nat.blt d n = true) (hl : late.contains d = false)
 (hv:YV P ⟨some d,op,ty,pos,after,g⟩ (ev t) Lc R v) (h:WZ P n ops Lc Lc2 Q p2 m (done.setIfInBounds i true) (upd t d v) L R):WZ P n ops Lc Lc2 Q p2 (m + 1) done t L R:=
 Jnf hT hL2 hok hio hk hw hd (by simp only [Ype,hl,cond_false];exact hv) h
def Kq {j : Nat} {Post : Ys} (hio : ops[j]? = some ⟨some d, op, ty, pos, after, g⟩) (hg : Gives P ⟨some d, op, ty, pos, after, g⟩ (ev t) L R Post) (hw : Yq ops t g = true) (hd : Nat.blt d n = true)
 (h:∀v U J,Post v U J→Lc.Sublist U∧(∀r∈R,InR r J)∧WZ P n ops Lc Lc2 Q p2 m (done.setIfInBounds j true) (upd t d v) U J):Jlf P n ops Lc Lc2 Q p2 m done t L R j:=
 ⟨_,hio,hw,hd,Post,hg,h⟩
def Jt {j:Nat} {l:List Nat} (h:Jlf P n ops Lc Lc2 Q p2 m done t L R j) (k:WSteps P n ops Lc Lc2 Q p2 m done t L R l):WSteps P n ops Lc Lc2 Q p2 m done t L R (j :: l):=⟨h,k⟩
def Jse:WSteps P n ops Lc Lc2 Q p2 m done t L R []:=trivial
end
end Go.Aw
end
section
namespace Go.Aw
open Go
section
variable {P:Program} {ρ:Operand→Value} {L U:List Blk} {R:List Sl} {dst:Option Tmp} {ty:TypeId} {pos:String} {after:Array Edge} {guard:Option (Nat×Bool)} {T k e:TypeId} {z:Value} {x y u:Operand}
end
section
variable {b:Nat} {l l':List (Int×Value)} {L U:List Blk}
end
section
open ChangeMaps
variable {P:Program} {ρ:Operand→Value} {L U:List Blk} {R:List Sl} {dst:Option Tmp} {ty:TypeId} {pos:String} {after:Array Edge} {guard:Option (Nat×Bool)} {T k e:TypeId} {z:Value} {x y u:Operand}
end
end Go.Aw
end
abbrev Go.Aw.LB:=List Go.Aw.Blk
abbrev Go.Aw.LS:=List Go.Aw.Sl
