/-
  The reference's flows with measurements: ref06.Meet, ref13.Among, ref13.Tighten. By an AI agent; no person has read it.
-/
import Derived.Test.YtchfclmokpbldaaGreatSiteS
import Derived.Test.YtchfclmokpbldaaGreatCutB
import Derived.Test.YtchfclmokpbldaaGreatStaD
set_option linter.all false
set_option maxHeartbeats 4000000
namespace Go.Proofs.YtchfclmokpbldaaGreat
open Go.Aw Go
section
variable {A B:Prop}
def J3e(h:A→B:=by exact J0 zSa rfl):=h
def Zje(h:A→B:=by exact J0 zC rfl):=h
def Ksf(h:A→B:=by exact Kq zrd rfl rfl rfl):=h
def U0f(h:A→B:=by exact Y6 (Jq (f:=Jj) (p:=q) (a:=n) tb rfl rfl rfl rfl (hqk) zm zCb rfl zz) rfl):=h
end
def Krg {b:Nat} {x y:XSpan} {T:TypeId}:(⟨.own b 2 [],[x,y]⟩:OwL XSpan).L T XSpan.cells=[(⟨b,[.int .i64 x.low,.int .i64 x.high,.int .i64 y.low,.int .i64 y.high],T⟩:Blk)]:=rfl
set_option maxRecDepth 20000
attribute [local irreducible] CJ LJ DJ Tri YV Gives U7 Kb Kp U8 RV Ke OwL.L
def Jcd (x z:XSpan) (p:Arr XSpan) (L:LB) (R:LS) (hp:InR (J2c p) R) (he:p.l=[x,z]):
 Tri Tryz.prog 211 [p.val].toArray L R (fun v M U=>v=.tuple #[(Zka x z).val,.bool (decide ((Una x z).low≤(Una x z).high))]∧L=M∧R=U):=by
 have hpl:p.l.length=2:=by rw [he];rfl
 have hp0:p.l[0]?=some x:=by rw [he];rfl
 refine Jd 44 Tryz.call211 Tryz.func211 rfl rfl rfl ?_;apply (Xct);intro b2;apply Xdm∘Xaq∘Xa6;refine q_c ?_ ?_<;>intro hc0;·apply (qae);refine q_l rfl (Vz _ _) ?_;apply qak∘qaz∘qbh;refine q_r L R zHd ?_;exact absurd hc0 zc
 apply Xdx∘qdt∘Xei;intro b4;apply Xbi∘Xat;refine Jh [(0,.slice _ _ _),(2,.pointer _),(4,.pointer _),(5,.int _ _)] zg fun tq0=>?_;have hm1:=Y4d hp0;refine K8 ([5]++rg 13 24) ((⟨fun g=>[(5,.int .i64 ((g.1:Nat):Int))],fun g=>⟨b4,(Yfa p.l x g.1).cells,90⟩ :: ⟨b2,[.int .i64 0,.int .i64 0],90⟩ :: L,fun _=>R,fun g=>p.l.length - g.1⟩:Head {g:Nat // 1≤g∧g≤p.l.length})) (⟨1,by omega,by omega⟩) zg (by dsimp only;rw [hm1];exact yu _) zJb ?_;rintro ⟨k,hk1,hk⟩ junk;try dsimp only
 apply (Xcr);refine q_c ?_ ?_<;>intro hc1;·have h1:=Js (l:=p.l) (k:=k) default zc;have hms:=Jsb (z:=x) h1;refine Jt (Ja (Ji (Jy ?_)));refine Kh tb [29,30,31,32,33,34] [0,1,2,3,4,5,6,7,8,9,10,11,12,13,14,15,16] [17,18,19] (_) _ Kn zf zk zV ?_;apply Xah∘Xey;refine Kz zC rfl rfl rfl rfl ?_;apply qcv∘qci;refine Kz zsc rfl rfl rfl rfl ?_;apply (Xah);refine V6 zrd rfl rfl rfl rfl ?_;refine V6 (J2 zub) rfl rfl rfl rfl ?_;refine V6 zwa rfl rfl rfl rfl ?_;refine V6 zMc rfl rfl rfl rfl ?_;refine V6 zba rfl rfl rfl rfl ?_;refine V6 (Jub rfl rfl) rfl rfl rfl rfl ?_;apply Xd7∘qal∘qb6∘Xcd;exact Ka ⟨k + 1,by omega,by omega⟩ zp zg (by dsimp only;rw [hms];exact zs0 _) zJb zt
 obtain rfl:k=p.l.length:=by omega
 have hmm:Yfa p.l x p.l.length=Una x z:=by rw [hpl,he];exact Vvd
 rw [hmm];apply qcf∘Xaa∘Xa5∘qaf;refine q_c ?_ ?_<;>intro hc2;·apply (qae);refine q_l rfl (Vz _ _) ?_;exact zRe
 exact zKe
def J7d {A:LB} {R:LS} {b:Nat} {x y:XSpan} {T:TypeId} (hin:(⟨b,[.int .i64 x.low,.int .i64 x.high,.int .i64 y.low,.int .i64 y.high],T⟩:Blk)∈A):
 Tri Tryz.prog 211 [.slice (some ⟨b,0,none⟩) 2 2].toArray A R (fun v M U=>v=.tuple #[(Zka x y).val,.bool (decide ((Una x y).low≤(Una x y).high))]∧A=M∧R=U):=
 Go.Proofs.YtchfclmokpbldaaGreat.Tri.lendU (S:=[J2c (⟨.own b 2 [],[x,y]⟩:OwL XSpan).arr]) (fun w G hh s hs=>by
  rw [List.mem_singleton.1 hs]
  exact Y2 (T:=T) hh (fun e he=>by
   rw [Krg] at he
   rw [List.mem_singleton.1 he];exact hin) Z1e yf zj yg) (Jcd x y (⟨.own b 2 [],[x,y]⟩:OwL XSpan).arr [] _ zRb rfl)
def Yjc (l:Arr Int) (n:Int) (L:LB) (R:LS) (hl:InR (isl l) R) (hn:l.l.length≤100000):
 Tri Tryz.prog 213 [l.val,.int .i64 n].toArray L R (fun v M U=>∃q:Arr Int,v=q.val∧InR (isl q) U∧q.l.length≤l.l.length + 1∧(∀r∈R,InR r U)∧L=M):=by
 refine Jd 49 Tryz.call213 Tryz.func213 rfl rfl rfl ?_;apply Xdi∘qam∘qc4∘qam∘Xdm∘Xat;refine Jh [(0,.slice _ _ _),(1,.int _ _),(5,.slice _ _ _),(6,.bool _),(7,.int _ _)] zg fun tq0=>?_;refine K8 (rg 4 38) ((⟨fun g=>[(7,.int .i64 ((g.1.1:Nat):Int)),(5,g.1.2.1.val),(6,.bool g.1.2.2)],fun g=>g.1.2.1.L 3 Jj ++ L,fun _=>R,fun g=>l.l.length - g.1.1⟩:Head {g:Nat×OwL Int×Bool // g.1≤l.l.length∧g.2.1.ok 1 Jj∧g.2.1.l.length=g.1 + (if g.2.2=true then 1 else 0)})) (⟨(0,OwL.nil,false),by dsimp only;omega,OwL.nil_ok,rfl⟩) zg zK zJb ?_;rintro ⟨⟨k,q,dn⟩,hk,hqk,hqn⟩ junk;try dsimp only
 dsimp only at hk hqk hqn;have hqb0:q.l.length≤k + 1:=by rw [hqn];split <;> omega
 apply (Xcr);refine q_c ?_ ?_<;>intro hc0;·
  have hg:=Js (l:=l.l) (k:=k) 0 zc;refine Jt (Ja (Ji (Jy (Ji (Ji (Je ?_))))));apply Xaj∘Zje∘qa7∘qaa∘Xa6;refine q_c ?_ ?_<;>intro hc1;·apply qae∘Xc5∘qch;refine q_r L R zzd ?_;exact ⟨l,rfl,hl,by omega,fun r hr=>Jb hr,rfl⟩
  apply qbo∘Xaj∘Zje∘qa7∘Xcu∘qah;apply Ue (G:=[_,_]) (j:=6) (cj:=27) rfl rfl ze rfl ztb rfl;·intro hg7;replace hg7:=qb hg7;exact (qah∘qb4) qai
  intro junk7;apply (qaf);refine Vu [5,6,31,32,33,34] ((⟨fun g=>[(5,g.1.1.val),(6,.bool g.1.2)],fun g=>g.1.1.L 3 Jj ++ L,fun _=>R,fun _=>0⟩:Head {g:OwL Int×Bool // g.1.ok 1 Jj∧g.1.l.length=k + (if g.2=true then 1 else 0)})) ?_ ?_;·
   skip
   refine q_c ?_ ?_<;>intro hc2;·
    apply Xcl∘qcx;rintro v M U ⟨b33,rfl,rfl,hR33⟩;replace hR33:=hR33.symm;subst hR33;apply (U0f);rintro v M U ⟨o34,rfl,hok34,rfl,rfl⟩;apply qc4∘qaz∘qav;exact K2a ⟨(⟨o34,q.l ++ [n]⟩,true),hok34,by
    (have hd:dn=false:=by simpa using hc2.2);dsimp only;rw [yj,hqn,hd];simp⟩ zp zg zk zJb
   refine Jt ?_;exact q_j ⟨(q,dn),hqk,hqn⟩
  rintro ⟨⟨q2,d2⟩,hq2k,hq2n⟩ junk;try dsimp only
  dsimp only at hq2k hq2n;have hq2b:q2.l.length≤k + 1:=by rw [hq2n];split <;> omega
  apply qay∘qbm∘Xaj∘Zje∘qa7∘qcx;rintro v M U ⟨b40,rfl,rfl,hR40⟩;replace hR40:=hR40.symm;subst hR40;refine Y6 (Jq (f:=Jj) (p:=q2) (a:=l.l.getD k 0) tb rfl rfl rfl rfl (hq2k) zm zCb rfl zz) rfl ?_;rintro v M U ⟨o41,rfl,hok41,rfl,rfl⟩;apply qc4∘Xb6;exact q_k ⟨(k + 1,⟨o41,q2.l ++ [l.l.getD k 0]⟩,d2),by dsimp only;omega,hok41,by dsimp only;rw [yj,hq2n,ym];split <;> omega⟩
 obtain rfl:k=l.l.length:=by omega
 have hqb:q.l.length≤l.l.length + 1:=by rw [hqn];split <;> omega
 apply qcf∘Xec;refine Vu [5,44,45,46,47] ((⟨fun g=>[(5,g.1.val)],fun g=>g.1.L 3 Jj ++ L,fun _=>R,fun _=>0⟩:Head {g:OwL Int // g.ok 1 Jj∧g.l.length≤l.l.length + 1})) ?_ ?_;·
  skip
  refine q_c ?_ ?_<;>intro hc3;·
   apply Xcl∘qcx;rintro v M U ⟨b46,rfl,rfl,hR46⟩;replace hR46:=hR46.symm;subst hR46;apply (U0f);rintro v M U ⟨o47,rfl,hok47,rfl,rfl⟩;apply qc4∘qav;exact K2a ⟨⟨o47,q.l ++ [n]⟩,hok47,by
   (have hd:dn=false:=by simpa using hc3);dsimp only;rw [yj,hqn,hd];simp⟩ zp zg zk zJb
  refine Jt ?_;exact q_j ⟨q,hqk,hqb⟩
 rintro ⟨q3,hq3k,hq3n⟩ junk;try dsimp only
 refine Kt (T:=3) (f:=Jj) (wd:=1) q3 [] zm yf zj hq3k yg ?_;refine V4 zA ?_;apply qae∘Xej;refine q_r L (isl q3.arr :: R) zzd ?_;exact ⟨q3.arr,rfl,Jb (.head _),hq3n,fun r hr=>Jb (.tail _ hr),rfl⟩
def Jic (fl : Arr XSpan) (l : Arr XSens) (m : Arr XMeas) (t : Int) (L : LB) (R : LS) (hfl : InR (J2c fl) R) (hl : InR (Urc l) R) (hm : InR (V3a m) R)
 (hfn:fl.l.length≤1000) (hln:l.l.length≤1000) (hmn:m.l.length≤1000) (hok:∀x∈m.l,Uua x) (ht:0≤t∧t≤2147483648):
 Tri Tryz.prog 131 [fl.val, l.val, m.val, .int .i64 t].toArray L R
  (fun w M U=>∃(p:OwL XSpan) (q:Arr Int),w=.tuple #[p.val,q.val]∧p.ok 2 XSpan.cells∧p.l=(J1e fl.l nothingS 3 l.l m.l t).out∧p.L 90 XSpan.cells ++ L=M∧∀r∈R,InR r U):=by
 refine Jd 116 Tryz.call131 Tryz.func131 rfl rfl rfl ?_;apply qae∘Xb7∘Xd0;refine Y6 zRc rfl ?_;rintro v M U ⟨o19,rfl,hok19,rfl,rfl⟩;apply (Xd3);have hfn2:(⟨o19,fl.l⟩:OwL XSpan).l.length≤1000:=hfn;apply qay∘Xaq∘qc7;rintro v M U ⟨b22,rfl,rfl,hR22⟩;replace hR22:=hR22.symm;subst hR22;apply (Xd3);refine V4 zgc ?_;apply qay∘Xd1;refine V9c 1 ?_;apply (Xe2);refine Jh [(0,.slice _ _ _),(1,.slice _ _ _),(2,.slice _ _ _),(3,.int _ _),(10,.slice _ _ _),(11,.slice _ _ _),(12,.slice _ _ _),(13,.int _ _)] zg fun tq0=>?_;refine q_p (rg 12 6++rg 23 91) ((⟨fun g=>[(13,.int .i64 ((g.1.1:Nat):Int)),(12,g.1.2.2.1.val)],fun g=>(⟨.own b22 fl.l.length [],g.1.2.1.gone⟩:OwL Bool).L 4 blc ++ ((⟨o19,g.1.2.1.out⟩:OwL XSpan).L 90 XSpan.cells ++ L),fun g=>g.1.2.2.2,fun g=>m.l.length - g.1.1⟩:Head {g:Nat×NarSt×Arr Int×LS // g.1≤m.l.length∧g.2.1=Zeb fl.l nothingS 3 l.l m.l t g.1∧InR (isl g.2.2.1) g.2.2.2∧g.2.2.1.l.length≤g.1∧∀r∈R,InR r g.2.2.2})) (⟨(0,⟨fl.l,List.replicate fl.l.length false,List.replicate l.l.length false⟩,⟨none,0,[]⟩,_),by dsimp only;omega,rfl,Jb (.head _),yn _,fun r hr=>Jb (.tail _ hr)⟩) ?_;rintro ⟨⟨k,⟨O,G,B⟩,bad,S⟩,w1,w2,hbR,hbn,hS⟩ junk;try dsimp only
 dsimp only at w1 w2 hbR hbn hS;obtain ⟨z1,z2,z3⟩:=V6b (fl:=fl.l) (lost:=nothingS) (kind:=3) (l:=l.l) (m:=m.l) (t:=t) (k:=k);rw [← w2] at z1 z2 z3;dsimp only at z1 z2 z3;have hkO:(⟨o19,O⟩:OwL XSpan).ok 2 XSpan.cells:=OwL.len_ok yf hok19 z1;have hkG:(⟨.own b22 fl.l.length [],G⟩:OwL Bool).ok 1 blc:=by have:=Yj (f:=blc) (wd:=1) (b:=b22) (n:=fl.l.length) (x:=false) V1 zF;exact OwL.len_ok V1 this (by simp;exact z2)
 have hlS:=hl.mono hS;have hmS:=hm.mono hS;apply (Xcr);refine q_c ?_ ?_<;>intro hc0;·
  have hmg:=Js (l:=m.l) (k:=k) default zc;have hxo:=hok _ (yi hmg);have hsu:=Kpc (fl:=fl.l) (lost:=nothingS) (kind:=3) (l:=l.l) (t:=t) hmg;rw [← w2] at hsu;obtain ⟨x,hx⟩:∃x,x=m.l.getD k default:=⟨_,rfl⟩;rw [← hx] at hmg hxo hsu;apply qbb∘Xaj∘Zje∘Xbd∘Xau∘Xcf;apply J3 (G:=[_,_,_,_]) (j:=2) (cj:=36) rfl rfl ze rfl ztb rfl;·exact zte
  intro junk3;apply (qah);apply J3 (G:=[_,_,_,_,_,_]) (j:=8) (cj:=42) rfl rfl ze rfl ztb rfl;·intro hg9;replace hg9:=qb hg9;have hlg:=Js (l:=l.l) (k:=x.sensor.toNat) default zc;exact (Xaj∘J3e∘Xex) qai
  intro junk9;apply (qah);apply J3 (G:=[_,_,_,_,_,_]) (j:=16) (cj:=50) rfl rfl ze rfl ztb rfl;·intro hg17;replace hg17:=qb hg17;have hlg:=Js (l:=l.l) (k:=x.sensor.toNat) default (by (try simp [-List.getD_eq_getElem?_getD] at hg17);omega);exact (Xaj∘J3e∘Xbd) zJe
  intro junk17;apply (qah);apply J3 (G:=[_,_,_,_,_,_,_,_]) (j:=24) (cj:=58) rfl rfl ze rfl ztb rfl;·intro hg25;replace hg25:=qb hg25;have hlg:=Js (l:=l.l) (k:=x.sensor.toNat) default (by (try simp [-List.getD_eq_getElem?_getD] at hg25);omega);exact (Xaj∘J3e∘Xbd∘Xek) qai
  intro junk25;apply (qah);apply J3 (G:=[_,_,_,_,_,_,_,_]) (j:=34) (cj:=68) rfl rfl ze rfl ztb rfl;·intro hg35;replace hg35:=qb hg35;have hlg:=Js (l:=l.l) (k:=x.sensor.toNat) default (by (try simp [-List.getD_eq_getElem?_getD] at hg35);omega);have hGg:=Js (l:=G) (k:=(l.l.getD x.sensor.toNat default).target.toNat) false (by (try simp [-List.getD_eq_getElem?_getD] at hg35);omega);apply qbm∘Xaj∘J3e∘Xbd;refine J0 (Jo tb ((⟨.own b22 fl.l.length [],G⟩:OwL Bool)) _ rfl rfl ((show _=Value.slice _ _ _ from rfl).trans (Uq z2)) rfl zi (i:=(l.l.getD x.sensor.toNat default).target.toNat) zo zw) rfl ?_;refine J0 (Kc tb ((⟨.own b22 fl.l.length [],G⟩:OwL Bool)) rfl rfl rfl zm zi yf zi ze) rfl ?_;exact qai
  intro junk35;apply (qaf);refine q_c ?_ ?_<;>intro hc1;·
   refine K5 (Kk (J8 (Ja (Je ?_))));apply (Xak);exact Ka ⟨(k + 1,⟨O,G,B⟩,bad,S),by dsimp only;omega,by rw [hsu,Jxa,if_pos (fun h=>by
   have h1:=h.1.1;have h2:=h.1.2;have h3:=h.2;dsimp only at h3;rw [h3] at hc1;simp [-List.getD_eq_getElem?_getD] at hc1;omega)],hbR,by dsimp only;omega,hS⟩ zp zg zk zJb zt
  obtain ⟨s,hs⟩:∃s,s=l.l.getD x.sensor.toNat default:=⟨_,rfl⟩;rw [← hs] at hc1;have hsb:(0≤x.sensor∧x.sensor < l.l.length)∧s.kind=3∧0≤s.target∧s.target < fl.l.length∧G.getD s.target.toNat false=false:=by simp [-List.getD_eq_getElem?_getD] at hc1;have:=hc1.2;refine ⟨by omega,by omega,by omega,by omega,by simpa using this⟩
  have hlg:=Js (l:=l.l) (k:=x.sensor.toNat) default zc;rw [← hs] at hlg;have hOg:=Js (l:=O) (k:=s.target.toNat) default zc;have hGg:=Js (l:=G) (k:=s.target.toNat) false zc;rw [Jxa,Jne,← hs] at hsu;dsimp only at hsu;have hnf:Z5c fl.l.length 3 l.l x:=⟨hsb.1,by rw [← hs];exact hsb.2.1,by rw [← hs];exact hsb.2.2.1,by rw [← hs];exact hsb.2.2.2.1⟩;rw [if_neg (fun h=>h ⟨hnf,hsb.2.2.2.2⟩)] at hsu;apply Xdh∘J3e∘Xbd∘Xdf;refine Kg tb [0,1,2,3,4,5,6,7,8,9,10,11,12,13,14,15,16,17,18,19,20,21] (((⟨.own b22 fl.l.length [],G⟩:OwL Bool).L 4 blc ++ ((⟨o19,O⟩:OwL XSpan).L 90 XSpan.cells ++ []))) Kn zf zk ?_;apply Ksf∘qao;refine Kq zpd rfl rfl rfl ?_;refine Kq (U1a (row:=[_,_]) tb ((⟨o19,O⟩:OwL XSpan)) rfl rfl rfl zm zi yf zi ze ze) rfl rfl rfl ?_;apply Ksf∘qao;refine Kq zSa rfl rfl rfl ?_;refine Kq zia rfl rfl rfl ?_;apply Ksf∘Xdo∘qdp∘qao;refine q_d rfl (Jbd s x t _ _ hxo ht) ?_;refine V7a zVb rfl rfl rfl ?_;rintro v M U ⟨b98,rfl,rfl,hR98⟩;replace hR98:=hR98.symm;subst hR98;apply (qa1);refine q_d rfl (J7d (x:=O.getD s.target.toNat default) (y:=atS s x t) (.head _)) ?_;refine Kq zcc rfl rfl rfl ?_;refine Kq zkc rfl rfl rfl ?_;refine Kq zkc rfl rfl rfl ?_;apply (qbr);intro b16;apply (qbg);refine Kq (Ux ztb) rfl rfl rfl ?_;refine J9 (Ja (Ji (Je ?_)));apply Xaj∘qbe;refine J0 zpd rfl ?_;refine V5 (Vm tb ((⟨o19,O⟩:OwL XSpan)) (Zka (O.getD s.target.toNat default) (atS s x t)) rfl rfl rfl rfl zm zi yf zi (yX rfl) ze ze) ?_;rintro v M U ⟨rfl,rfl⟩;apply qam∘Xec;refine q_c ?_ ?_<;>intro hc2;·
   apply (Xee);refine J0 (Jo tb ((⟨.own b22 fl.l.length [],G⟩:OwL Bool)) _ rfl rfl ((show _=Value.slice _ _ _ from rfl).trans (Uq z2)) rfl zi (i:=s.target.toNat) zo zw) rfl ?_;refine V5 (Jp tb ((⟨.own b22 fl.l.length [],G⟩:OwL Bool)) (true) rfl rfl rfl rfl zm zi yf zi zj ze ze) ?_;rintro v M U ⟨rfl,rfl⟩;refine J6 (Ja (Je ?_));apply (Xaj);refine Ju rfl (Yjc bad x.sensor _ _ hbR zc) rfl ?_;rintro v M U ⟨bad2,rfl,hb2R,hb2n,hS2,rfl⟩;apply qc4∘Xb6;exact Ka ⟨(k + 1,⟨O.set s.target.toNat (Zka (O.getD s.target.toNat default) (atS s x t)),G.set s.target.toNat true,B.set x.sensor.toNat true⟩,bad2,_),by dsimp only;omega,by
   (have hlt:¬ (Una (O.getD s.target.toNat default) (atS s x t)).low≤(Una (O.getD s.target.toNat default) (atS s x t)).high:=by simpa using hc2);rw [hsu,if_neg hlt,Zka,if_pos zc],hb2R,by dsimp only;omega,fun r hr=>(hS r hr).mono hS2⟩ zp zg zk zJb zt
  apply (Xa4);exact Ka ⟨(k + 1,⟨O.set s.target.toNat (Zka (O.getD s.target.toNat default) (atS s x t)),G,B⟩,bad,S),by dsimp only;omega,by
  have hlt:(Una (O.getD s.target.toNat default) (atS s x t)).low≤(Una (O.getD s.target.toNat default) (atS s x t)).high:=by simpa using hc2
  rw [hsu,if_pos hlt,Zka,if_neg zc],hbR,by dsimp only;omega,hS⟩ zp zg zk zJb zt
 obtain rfl:k=m.l.length:=by omega
 apply qbk∘qbm∘qbm∘Xb7∘qa0;refine q_r ((⟨o19,O⟩:OwL XSpan).L 90 XSpan.cells ++ L) S (Vt rfl zgd zgd) ?_;exact ⟨(⟨o19,O⟩:OwL XSpan),bad,by rw [OwL.val,z1];try rfl,hkO,by rw [J1e,← w2],rfl,hS⟩
end Go.Proofs.YtchfclmokpbldaaGreat
