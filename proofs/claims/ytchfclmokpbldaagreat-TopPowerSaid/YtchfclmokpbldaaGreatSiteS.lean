/-
  Merged texts. By an AI agent.
-/
import Derived.Test.YtchfclmokpbldaaGreatWin
import Derived.Test.YtchfclmokpbldaaGreatMadeB
set_option linter.all false
set_option maxHeartbeats 4000000
set_option maxRecDepth 20000
namespace Go.Proofs.YtchfclmokpbldaaGreat
open Go.Aw Go
section
section
variable {A B:Prop}
def V5f(h:A→B:=by exact Jx zHc rfl):=h
end
def Ydf {b:Nat} {x y:XSpan}:(⟨.own b 2 [],[x,y]⟩:OwL XSpan).ok 2 XSpan.cells:=⟨by simp [XSpan.cells],by simp,by simp [maxLen],by simp [XSpan.cells]⟩
def Jkf {A:LB} {R:LS} {b:Nat} {x y:XSpan} {T:TypeId} (hin:(⟨b,[.int .i64 x.low,.int .i64 x.high,.int .i64 y.low,.int .i64 y.high],T⟩:Blk)∈A):
 Tri Tryz.prog 195 [.slice (some ⟨b,0,none⟩) 2 2].toArray A R (fun v M U=>v=.tuple #[(Uqd x y).val,.bool (decide ((Y3b x y).low≤(Y3b x y).high))]∧A=M∧R=U):=
 Tri.lendU (S:=[Jke (⟨.own b 2 [],[x,y]⟩:OwL XSpan).arr]) (fun w G hh s hs=>by
  rw [List.mem_singleton.1 hs]
  exact Jtb (T:=T) hh (fun e he=>by
   have he':e∈[(⟨b,[.int .i64 x.low,.int .i64 x.high,.int .i64 y.low,.int .i64 y.high],T⟩:Blk)]:=he
   rw [List.mem_singleton.1 he'];exact hin) Ydf yf ze yg) (Zhe x y (⟨.own b 2 [],[x,y]⟩:OwL XSpan).arr [] _ zsb rfl)
attribute [local irreducible] CJ LJ DJ Tri YV Gives U0 J3 Kj Uz RV J5 OwL.L
structure NarSt where
 out:List XSpan
 gone:List Bool
 bad:List Bool
def Z8e (st:NarSt) (l:List XSens) (t:Int) (x:XMeas):XSpan:=Y3b (st.out.getD (l.getD x.sensor.toNat default).target.toNat default) (atS (l.getD x.sensor.toNat default) x t)
def Ycd (n:Nat) (kind:Int) (l:List XSens) (x:XMeas):Prop:=(0≤x.sensor∧x.sensor < l.length)∧(l.getD x.sensor.toNat default).kind=kind∧0≤(l.getD x.sensor.toNat default).target∧(l.getD x.sensor.toNat default).target < n
instance (n:Nat) (kind:Int) (l:List XSens) (x:XMeas):Decidable (Ycd n kind l x):=by unfold Ycd;infer_instance
def Jha (n:Nat) (kind:Int) (lost:XSpan) (t:Int) (l:List XSens) (st:NarSt) (x:XMeas):NarSt:=
 if ¬ (Ycd n kind l x∧st.gone.getD (l.getD x.sensor.toNat default).target.toNat false=false) then st
 else if (Z8e st l t x).low≤(Z8e st l t x).high then ⟨st.out.set (l.getD x.sensor.toNat default).target.toNat (Z8e st l t x),st.gone,st.bad⟩
 else ⟨st.out.set (l.getD x.sensor.toNat default).target.toNat lost,st.gone.set (l.getD x.sensor.toNat default).target.toNat true,st.bad.set x.sensor.toNat true⟩
def Yob (fl:List XSpan) (lost:XSpan) (kind:Int) (l:List XSens) (m:List XMeas) (t:Int) (k:Nat):NarSt:=
 (m.take k).foldl (Jha fl.length kind lost t l) ⟨fl,List.replicate fl.length false,List.replicate l.length false⟩
def J6d {n:Nat} {kind:Int} {lost:XSpan} {t:Int} {l:List XSens} {st:NarSt} {x:XMeas}:
 (Jha n kind lost t l st x).out.length=st.out.length∧(Jha n kind lost t l st x).gone.length=st.gone.length∧(Jha n kind lost t l st x).bad.length=st.bad.length:=by
 rw [Jha];split;·exact ⟨rfl,rfl,rfl⟩
 split <;> simp
def Y3c {fl:List XSpan} {lost:XSpan} {kind:Int} {l:List XSens} {m:List XMeas} {t:Int} {k:Nat}:
 (Yob fl lost kind l m t k).out.length=fl.length∧(Yob fl lost kind l m t k).gone.length=fl.length∧(Yob fl lost kind l m t k).bad.length=l.length:=by
 rw [Yob];generalize m.take k=ms;have:∀(ms:List XMeas) (st:NarSt),(st.out.length=fl.length∧st.gone.length=fl.length∧st.bad.length=l.length)→
  ((ms.foldl (Jha fl.length kind lost t l) st).out.length=fl.length∧(ms.foldl (Jha fl.length kind lost t l) st).gone.length=fl.length∧(ms.foldl (Jha fl.length kind lost t l) st).bad.length=l.length):=by
  intro ms;induction ms with
  | nil=>intro st h;exact h
  | cons x ms ih=>intro st h;exact ih _ (by have:=J6d (n:=fl.length) (kind:=kind) (lost:=lost) (t:=t) (l:=l) (st:=st) (x:=x);omega)
 exact this ms _ zo
def Y3d {fl:List XSpan} {lost:XSpan} {kind:Int} {l:List XSens} {m:List XMeas} {t:Int} {k:Nat} {x:XMeas} (h:m[k]?=some x):
 Yob fl lost kind l m t (k + 1)=Jha fl.length kind lost t l (Yob fl lost kind l m t k) x:=by rw [Yob,yfa,h];simp [Yob]
def Z3a (b:List Bool) (k:Nat):List Int:=((List.range k).filter fun i=>b.getD i false).map Int.ofNat
def Ktd {b:List Bool} {k:Nat}:Z3a b (k + 1)=if b.getD k false=true then Z3a b k ++ [(k:Int)] else Z3a b k:=by
 rw [Z3a,yKb,List.filter_append,yO];split;·rename_i h;simp only [Z3a,List.filter_cons,List.filter_nil];rw [if_pos h];rfl
 ·rename_i h;simp only [Z3a,List.filter_cons,List.filter_nil];rw [if_neg h];simp
def V4e (fl:List XSpan) (lost:XSpan) (kind:Int) (l:List XSens) (m:List XMeas) (t:Int):NarSt:=Yob fl lost kind l m t m.length
def Zkd (fl : Arr XSpan) (lost : XSpan) (kind t : Int) (l : Arr XSens) (m : Arr XMeas) (L : LB) (R : LS) (hfl : InR (Jke fl) R) (hl : InR (Jme l) R) (hm : InR (V5 m) R)
 (hfn:fl.l.length≤1000) (hln:l.l.length≤1000) (hmn:m.l.length≤1000) (hok:∀x∈m.l,Uca x) (ht:0≤t∧t≤2147483648):
 Tri Tryz.prog 117 [fl.val, lost.val, .int .i64 kind, l.val, m.val, .int .i64 t].toArray L R
  (fun w M U=>∃(p:OwL XSpan) (q:OwL Int),w=.tuple #[p.val,q.val]∧(p.ok 2 XSpan.cells∧q.ok 1 Jo)∧p.l=(V4e fl.l lost kind l.l m.l t).out∧q.l=Z3a (V4e fl.l lost kind l.l m.l t).bad l.l.length∧q.L 3 Jo ++ (p.L 90 XSpan.cells ++ L)=M∧R=U):=by
 refine Jj 123 Tryz.call117 Tryz.func117 rfl rfl rfl ?_;apply (Xaf);intro b7;apply Xbs∘Xc7;refine Jqa (Kn (f:=XSpan.cells) (xs:=fl) tb rfl rfl rfl ze rfl rfl (hfl) yf za) rfl ?_;rintro v M U ⟨o26,rfl,hok26,rfl,rfl⟩;apply (Xcx);have hfn2:(⟨o26,fl.l⟩:OwL XSpan).l.length≤1000:=hfn;apply qay∘Xaq∘qc7;rintro v M U ⟨b29,rfl,rfl,hR29⟩;replace hR29:=hR29.symm;subst hR29;apply (Xcx);refine Vf zVb ?_;apply qay∘Xaq∘qc7;rintro v M U ⟨b32,rfl,rfl,hR32⟩;replace hR32:=hR32.symm;subst hR32;apply qc4∘qco;refine Vf zVb ?_;apply qay∘Xbt;refine Jp [(2,.int _ _),(3,.slice _ _ _),(5,.int _ _),(7,.pointer _),(14,.slice _ _ _),(15,.slice _ _ _),(16,.slice _ _ _),(33,.slice _ _ _),(34,.int _ _),(35,.int _ _)] zh fun tq0=>?_;refine q_p ([18,19,20,21]++rg 35 73) ((⟨fun g=>[(35,.int .i64 ((g.1.1:Nat):Int))],fun g=>(⟨.own b32 l.l.length [],g.1.2.bad⟩:OwL Bool).L 4 blc ++ ((⟨.own b29 fl.l.length [],g.1.2.gone⟩:OwL Bool).L 4 blc ++ ((⟨o26,g.1.2.out⟩:OwL XSpan).L 90 XSpan.cells ++ (⟨b7,lost.cells,90⟩ :: L))),fun _=>R,fun g=>m.l.length - g.1.1⟩:Head {g:Nat×NarSt // g.1≤m.l.length∧g.2=Yob fl.l lost kind l.l m.l t g.1})) (⟨(0,⟨fl.l,List.replicate fl.l.length false,List.replicate l.l.length false⟩),by dsimp only;omega,rfl⟩) ?_;rintro ⟨⟨k,⟨O,G,B⟩⟩,w1,w2⟩ junk;try dsimp only
 dsimp only at w1 w2;obtain ⟨z1,z2,z3⟩:=Y3c (fl:=fl.l) (lost:=lost) (kind:=kind) (l:=l.l) (m:=m.l) (t:=t) (k:=k);rw [← w2] at z1 z2 z3;dsimp only at z1 z2 z3;have hkO:(⟨o26,O⟩:OwL XSpan).ok 2 XSpan.cells:=OwL.len_ok yf hok26 z1;have hkG:(⟨.own b29 fl.l.length [],G⟩:OwL Bool).ok 1 blc:=by have:=Yr (f:=blc) (wd:=1) (b:=b29) (n:=fl.l.length) (x:=false) Zl zE;exact OwL.len_ok Zl this (by simp;exact z2)
 have hkB:(⟨.own b32 l.l.length [],B⟩:OwL Bool).ok 1 blc:=by have:=Yr (f:=blc) (wd:=1) (b:=b32) (n:=l.l.length) (x:=false) Zl zE;exact OwL.len_ok Zl this (by simp;exact z3)
 apply (Xak);refine q_c ?_ ?_<;>intro hc0;·
  have hmg:=Jw (l:=m.l) (k:=k) default za;have hxo:=hok _ (yj hmg);have hsu:=Y3d (fl:=fl.l) (lost:=lost) (kind:=kind) (l:=l.l) (t:=t) hmg;rw [← w2] at hsu;obtain ⟨x,hx⟩:∃x,x=m.l.getD k default:=⟨_,rfl⟩;rw [← hx] at hmg hxo hsu;apply (qbb);refine Jx zB rfl ?_;apply (Xdb);intro b18;apply Xa8∘Xbc;apply J9 (G:=[_,_,_,_,_]) (j:=3) (cj:=42) rfl rfl zb rfl zfb rfl;·intro hg4;replace hg4:=qb hg4;exact (Xaa∘Xaq) zjd
  intro junk4;apply (qaf);refine q_c ?_ ?_<;>intro hc1;·refine Ug (Kw (Kd (Jc (Jh ?_))));apply (Xae);exact q_k ⟨(k + 1,⟨O,G,B⟩),by dsimp only;omega,by rw [hsu,Jha,if_pos (fun h=>by have:=h.1.1;omega)]⟩
  have hlg:=Jw (l:=l.l) (k:=x.sensor.toNat) default za;obtain ⟨s,hs⟩:∃s,s=l.l.getD x.sensor.toNat default:=⟨_,rfl⟩;rw [← hs] at hlg;have hnf:Ycd fl.l.length kind l.l x↔((0≤x.sensor∧x.sensor < l.l.length)∧s.kind=kind∧0≤s.target∧s.target < fl.l.length):=by rw [hs];exact Iff.rfl
  rw [Jha,Z8e,← hs] at hsu;dsimp only at hsu;apply qbv∘Xci;refine Jx (by first | exact Jf tb rfl rfl rfl rfl zt (i:=x.sensor.toNat) zk za | exact Jl tb rfl rfl rfl rfl (i:=x.sensor.toNat) zk za) rfl ?_;refine Jx zZ rfl ?_;apply (qaq);intro b19;apply Xa8∘Xam∘Xbu;apply J9 (G:=[_,_,_]) (j:=4) (cj:=58) rfl rfl zb rfl zfb rfl;·intro hg5;replace hg5:=qb hg5;exact zsd
  intro junk5;apply (qah);apply J9 (G:=[_,_,_,_,_]) (j:=9) (cj:=63) rfl rfl zb rfl zfb rfl;·intro hg10;replace hg10:=qb hg10;exact (Xaa∘Xaq) zjd
  intro junk10;apply (qah);apply J9 (G:=[_,_,_,_,_]) (j:=16) (cj:=70) rfl rfl zb rfl zfb rfl;·intro hg17;replace hg17:=qb hg17;have hGg:=Jw (l:=G) (k:=s.target.toNat) false za;apply (Xci);refine Jx zIc rfl ?_;refine Jx (Kc tb ((⟨.own b29 fl.l.length [],G⟩:OwL Bool)) rfl rfl rfl zj zg yf zg zb) rfl ?_;exact qai
  intro junk17;apply (qaf);refine q_c ?_ ?_<;>intro hc2;·refine Ug (Kw (Kd (Jc (Jh ?_))));apply (Xae);exact q_k ⟨(k + 1,⟨O,G,B⟩),by dsimp only;omega,by rw [hsu,if_pos (fun h=>by have h1:=hnf.1 h.1;have h2:=h.2;simp only [h2] at hc2;simp at hc2;omega)]⟩
  have hOg:=Jw (l:=O) (k:=s.target.toNat) default za;have hgo:G.getD s.target.toNat false=false:=by simpa using hc2.2
  rw [if_neg (fun h=>h ⟨hnf.2 za,hgo⟩)] at hsu;apply (qcl);refine Kp tb [0,1,2,3,4,5,6,7,8,9,10,11,12,13,14,15,16] _ K3 zc ye ?_;refine K2 zMc rfl rfl rfl ?_;apply (Xan);refine K2 zHc rfl rfl rfl ?_;refine K2 (Zxb (row:=[_,_]) tb ((⟨o26,O⟩:OwL XSpan)) rfl rfl rfl zj zg yf zg zb zb) rfl rfl rfl ?_;refine K2 zob rfl rfl rfl ?_;apply qbc∘qao;refine q_d rfl (J3f s x t _ _ hxo ht) ?_;refine Z4b zSb rfl rfl rfl ?_;rintro v M U ⟨b87,rfl,rfl,hR87⟩;replace hR87:=hR87.symm;subst hR87;apply (qa1);refine q_d rfl (Jkf (x:=O.getD s.target.toNat default) (y:=atS s x t) (.head _)) ?_;refine K2 zCb rfl rfl rfl ?_;refine K2 zJb rfl rfl rfl ?_;refine K2 zJb rfl rfl rfl ?_;apply (qbr);intro b20;apply (qbg);refine K2 (Uc zfb) rfl rfl rfl ?_;apply qc6∘qah∘Xbb;refine q_c ?_ ?_<;>intro hc3;·have hGg:=Jw (l:=G) (k:=s.target.toNat) false za;have hBg:=Jw (l:=B) (k:=x.sensor.toNat) false za;refine Kh tb [93,94,95,96,97,98] [0,1,2,3,4,5,6] [7,8,9,10,11] ([Blk.mk b19 _ _,Blk.mk b18 _ _,Blk.mk b7 _ _]) _ K3 zc zi (by (repeat (first | apply List.Sublist.cons (a:=Blk.mk b20 _ _) | apply List.Sublist.cons (a:=Blk.mk b15 _ _) | apply List.Sublist.cons (a:=Blk.mk b16 _ _) | apply List.Sublist.cons_cons));exact yx _) ?_;refine V2 zMc rfl rfl rfl rfl ?_;apply (Xc9);refine V2 zMc rfl rfl rfl rfl ?_;apply (Xc9);refine Ku zIb rfl rfl rfl rfl ?_;apply (Xch);refine K2 zIc rfl rfl rfl ?_;refine Kvb (Js tb ((⟨.own b29 fl.l.length [],G⟩:OwL Bool)) (true) rfl rfl rfl rfl zj zg yf zg ze zb zb) rfl rfl ?_;rintro v M U ⟨rfl,rfl⟩;apply (qa1);refine K2 (Jv tb ((⟨.own b32 l.l.length [],B⟩:OwL Bool)) _ rfl rfl ((show _=Value.slice _ _ _ from rfl).trans (Uq z3)) rfl zg (i:=x.sensor.toNat) zk zu) rfl rfl rfl ?_;refine Kvb (Js tb ((⟨.own b32 l.l.length [],B⟩:OwL Bool)) (true) rfl rfl rfl rfl zj zg yf zg ze zb zb) rfl rfl ?_;rintro v M U ⟨rfl,rfl⟩;apply (qa1);refine Jz (Jc (Jh ?_));apply Xci∘qbe∘V5f;refine Ym (U2 tb ((⟨o26,O⟩:OwL XSpan)) (lost) rfl rfl rfl rfl zj zg yf zg (yQ rfl) zb zb) ?_;rintro v M U ⟨rfl,rfl⟩;apply (Xa7);exact q_k ⟨(k + 1,⟨O.set s.target.toNat lost,G.set s.target.toNat true,B.set x.sensor.toNat true⟩),by dsimp only;omega,by rw [hsu,if_neg zV]⟩
  refine Ka (Jc (Jh ?_));apply Xci∘qbe∘V5f;refine Ym (U2 tb ((⟨o26,O⟩:OwL XSpan)) (Uqd (O.getD s.target.toNat default) (atS s x t)) rfl rfl rfl rfl zj zg yf zg (yQ rfl) zb zb) ?_;rintro v M U ⟨rfl,rfl⟩;apply (Xa7);exact q_k ⟨(k + 1,⟨O.set s.target.toNat (Uqd (O.getD s.target.toNat default) (atS s x t)),G,B⟩),by dsimp only;omega,by rw [hsu,if_pos zV,Uqd,if_neg (Int.not_lt.2 zV)]⟩
 obtain rfl:k=m.l.length:=by omega
 apply qbk∘Xb0∘Xbt;refine Jp [(14,.slice _ _ _),(22,.slice _ _ _),(108,.slice _ _ _),(109,.int _ _),(110,.int _ _)] zh fun tq1=>?_;refine Vx ([22,23,24]++rg 110 11) ((⟨fun g=>[(110,.int .i64 ((g.1.1:Nat):Int)),(22,g.1.2.val)],fun g=>g.1.2.L 3 Jo ++ ((⟨.own b32 l.l.length [],B⟩:OwL Bool).L 4 blc ++ ((⟨.own b29 fl.l.length [],G⟩:OwL Bool).L 4 blc ++ ((⟨o26,O⟩:OwL XSpan).L 90 XSpan.cells ++ (⟨b7,lost.cells,90⟩ :: L)))),fun _=>R,fun g=>l.l.length - g.1.1⟩:Head {g:Nat×OwL Int // g.1≤l.l.length∧g.2.ok 1 Jo∧g.2.l=Z3a B g.1})) (⟨(0,OwL.nil),by dsimp only;omega,OwL.nil_ok,rfl⟩) zh zla ztb ?_;rintro ⟨⟨i,q⟩,q1,q2,q3⟩ junk;try dsimp only
 dsimp only at q1 q2 q3;apply (Xak);refine q_c ?_ ?_<;>intro hc4;·
  have hBg:=Jw (l:=B) (k:=i) false za;have hws:=Ktd (b:=B) (k:=i);have hql:q.l.length≤1000:=by rw [q3,Z3a,yz];exact yqa (List.length_filter_le _ _) zD
  apply (Xa0);refine Jx (Jv tb ((⟨.own b32 l.l.length [],B⟩:OwL Bool)) _ rfl rfl ((show _=Value.slice _ _ _ from rfl).trans (Uq z3)) rfl zg (i:=i) zk zu) rfl ?_;refine Jx (Kc tb ((⟨.own b32 l.l.length [],B⟩:OwL Bool)) rfl rfl rfl zj zg yf zg zb) rfl ?_;apply Xbk∘qam∘qah∘qaf;refine q_c ?_ ?_<;>intro hc5;·apply Xb3∘qcx;rintro v M U ⟨b118,rfl,rfl,hR118⟩;replace hR118:=hR118.symm;subst hR118;refine Jqa (Kb (f:=Jo) (a:=_) tb rfl rfl rfl rfl (q2) zj zxb rfl zA) rfl ?_;rintro v M U ⟨o119,rfl,hok119,rfl,rfl⟩;apply qc4∘Xa7;exact q_k ⟨(i + 1,(⟨o119,_⟩:OwL Int)),by dsimp only;omega,hok119,by dsimp only;rw [hws,if_pos (by simpa using hc5),q3]⟩
  apply (Xax);exact q_k ⟨(i + 1,q),by dsimp only;omega,q2,by dsimp only;rw [hws,if_neg (by simpa using hc5),q3]⟩
 obtain rfl:i=l.l.length:=by omega
 apply Xcs∘qbm∘Xbs∘qa0;refine q_r (q.L 3 Jo ++ ((⟨o26,O⟩:OwL XSpan).L 90 XSpan.cells ++ L)) R (U1 rfl zCc zCc) ?_;exact ⟨(⟨o26,O⟩:OwL XSpan),q,by rw [OwL.val,OwL.val,z1];try rfl,⟨hkO,q2⟩,by rw [V4e,← w2],by rw [V4e,← w2];exact q3,rfl,rfl⟩
def J0d (fl : Arr XSpan) (l : Arr XSens) (m : Arr XMeas) (t : Int) (L : LB) (R : LS) (hfl : InR (Jke fl) R) (hl : InR (Jme l) R) (hm : InR (V5 m) R)
 (hfn:fl.l.length≤1000) (hln:l.l.length≤1000) (hmn:m.l.length≤1000) (hok:∀x∈m.l,Uca x) (ht:0≤t∧t≤2147483648):
 Tri Tryz.prog 46 [fl.val, l.val, m.val, .int .i64 t].toArray L R
  (fun w M U=>∃(p:OwL XSpan) (q:OwL Int),w=.tuple #[p.val,q.val]∧(p.ok 2 XSpan.cells∧q.ok 1 Jo)∧p.l=(V4e fl.l nothingS 3 l.l m.l t).out∧q.l=Z3a (V4e fl.l nothingS 3 l.l m.l t).bad l.l.length∧q.L 3 Jo ++ (p.L 90 XSpan.cells ++ L)=M∧R=U):=by refine Jj 18 Tryz.call46 Tryz.func46 rfl rfl rfl ?_;apply qae∘Xbs∘Xc7;refine q_l rfl (Ub _ _) ?_;apply qbm∘Xat;refine Jy rfl (Zkd fl nothingS 3 t l m _ _ hfl hl hm hfn hln hmn hok ht) rfl ?_;rintro v M U ⟨p,q,rfl,⟨h1,h2⟩,h3,h4,rfl,rfl⟩;apply Xa3∘Xbs∘qa0;refine q_r (q.L 3 Jo ++ (p.L 90 XSpan.cells ++ L)) R (U1 rfl zCc zCc) ?_;exact ⟨p,q,rfl,⟨h1,h2⟩,h3,h4,rfl,rfl⟩
end
section
structure XNode where
 kind:Int
 cond:Int
 left:Int
 right:Int
 deriving Inhabited
def XNode.cells (x:XNode):List Value:=[.int .i64 x.kind,.int .i64 x.cond,.int .i64 x.left,.int .i64 x.right]
structure XLevel where
 cut:Int
 clear:Int
 delay:Int
 deriving Inhabited
abbrev XLevel.val (x:XLevel):Value:=.agg #[.int .i64 x.cut,.int .i64 x.clear,.int .i64 x.delay]
structure XCond where
 kind:Int
 target:Int
 value:Int
 level:XLevel
 deriving Inhabited
def XCond.cells (x:XCond):List Value:=[.int .i64 x.kind,.int .i64 x.target,.int .i64 x.value,.int .i64 x.level.cut,.int .i64 x.level.clear,.int .i64 x.level.delay]
abbrev XCond.val (x:XCond):Value:=.agg #[.int .i64 x.kind,.int .i64 x.target,.int .i64 x.value,.int .i64 x.level.cut,.int .i64 x.level.clear,.int .i64 x.level.delay]
structure XZone where
 rule:Arr XNode
 hold:Int
 roads:Arr Int
 fresh:Int
 deriving Inhabited
def XZone.cells (x:XZone):List Value:=[x.rule.val,.int .i64 x.hold,x.roads.val,.int .i64 x.fresh]
abbrev XZone.val (x:XZone):Value:=.agg #[x.rule.val,.int .i64 x.hold,x.roads.val,.int .i64 x.fresh]
structure XWatch where
 over:Bool
 since:Int
 last:Int
 deriving Inhabited,DecidableEq
def XWatch.cells (x:XWatch):List Value:=[.bool x.over,.int .i64 x.since,.int .i64 x.last]
abbrev XWatch.val (x:XWatch):Value:=.agg #[.bool x.over,.int .i64 x.since,.int .i64 x.last]
structure XCut where
 off:Bool
 clear:Int
 reason:Int
 deriving Inhabited,DecidableEq
def XCut.cells (x:XCut):List Value:=[.bool x.off,.int .i64 x.clear,.int .i64 x.reason]
structure XSite where
 air:XAir
 sensors:Arr XSens
 conds:Arr XCond
 zones:Arr XZone
 persons:Arr Int
def XSite.cells (x:XSite):List Value:=[x.air.mine.places.val,x.air.mine.roads.val,x.air.fans.val,x.air.doors.val,x.sensors.val,x.conds.val,x.zones.val,x.persons.val]
abbrev XSite.val (x:XSite):Value:=.agg #[x.air.mine.places.val,x.air.mine.roads.val,x.air.fans.val,x.air.doors.val,x.sensors.val,x.conds.val,x.zones.val,x.persons.val]
abbrev V1e (x:Arr XNode):Sl:=x.sl 4 XNode.cells []
abbrev Vtf (x:Arr XCond):Sl:=x.sl 6 XCond.cells []
abbrev XZone.subs (z:XZone):LS:=[V1e z.rule,isl z.roads]
abbrev Zie (x:Arr XZone):Sl:=x.sl 4 XZone.cells (x.l.flatMap XZone.subs)
abbrev Jge (x:Arr XWatch):Sl:=x.sl 3 XWatch.cells []
abbrev Unc (x:Arr XCut):Sl:=x.sl 3 XCut.cells []
def InR.rule {x:Arr XZone} {R:LS} (h:InR (Zie x) R) {i:Nat} {z:XZone} (hi:x.l[i]?=some z):InR (V1e z.rule) R:=
 h.sub (.deep (List.mem_flatMap.2 ⟨z,yj hi,yQa⟩) .here)
def InR.zroads {x:Arr XZone} {R:LS} (h:InR (Zie x) R) {i:Nat} {z:XZone} (hi:x.l[i]?=some z):InR (isl z.roads) R:=
 h.sub (.deep (List.mem_flatMap.2 ⟨z,yj hi,yS _ yQa⟩) .here)
structure SiteR (s:XSite) (R:LS):Prop where
 air:AirR s.air R
 sensors:InR (Jme s.sensors) R
 conds:InR (Vtf s.conds) R
 zones:InR (Zie s.zones) R
 persons:InR (isl s.persons) R
def SiteR.mono {s:XSite} {R U:LS} (h:SiteR s R) (k:∀r∈R,InR r U):SiteR s U:=
 ⟨⟨h.air.places.mono k,h.air.roads.mono k,h.air.fans.mono k,h.air.doors.mono k⟩,h.sensors.mono k,h.conds.mono k,h.zones.mono k,h.persons.mono k⟩
def Jba (l:XLevel):Prop:=l.cut≤1000000∧0≤l.clear∧l.clear < l.cut∧0≤l.delay∧l.delay≤100000
instance (l:XLevel):Decidable (Jba l):=by unfold Jba;infer_instance
def Jya (l:XLevel):Int:=if Jba l then 0 else 1
def Zp (x:XSpan) (n:Int):Int:=if x.high < x.low then 0 else if n≤x.low then 1 else if x.high < n then -1 else 0
def Uma (w:XWatch):Prop:=0≤w.last∧-1≤w.since∧w.since≤w.last∧(w.since= -1∨w.over=true)
instance (w:XWatch):Decidable (Uma w):=by unfold Uma;infer_instance
def Vk (l:XLevel) (w:XWatch) (x:XSpan) (t:Int):XWatch:=
 if Zp x l.cut≠-1 then ⟨true,-1,t⟩
 else if w.over=false then ⟨false,w.since,t⟩
 else if l.clear < x.high then ⟨true,-1,t⟩
 else if l.delay≤t - (if w.since < 0 then t else w.since) then ⟨false,-1,t⟩
 else ⟨true,if w.since < 0 then t else w.since,t⟩
def Y2 (l:XLevel) (w:XWatch) (t:Int):Int:=
 if ¬ Jba l then 1 else if t < 0∨2147483648 < t∨t < w.last then 8 else if ¬ Uma w then 10 else 0
def Uze:XWatch:=⟨false,0,0⟩
def Uxe (l:XLevel) (w:XWatch) (x:XSpan) (t:Int):XWatch:=if Y2 l w t=0 then Vk l w x t else Uze
def Jca (l : List XNode) : Nat → Int → Option (Int × Int)
 | 0,_=>none
 | n + 1,i=>
  if i < 0 then none
  else if (l.getD i.toNat default).kind=1 then
   if (l.getD i.toNat default).left=0∧(l.getD i.toNat default).right=0∧0≤(l.getD i.toNat default).cond∧(l.getD i.toNat default).cond < 64 then some (i,1) else none
  else if (l.getD i.toNat default).kind=2 then
   match Jca l n (i - 1) with
   | none=>none
   | some (f,d)=>if (l.getD i.toNat default).cond=0∧(l.getD i.toNat default).right=0∧(l.getD i.toNat default).left=i - 1 then some (f,d + 1) else none
  else if (l.getD i.toNat default).kind=3∨(l.getD i.toNat default).kind=4 then
   match Jca l n (i - 1) with
   | none=>none
   | some (m,r)=>if (l.getD i.toNat default).cond=0∧(l.getD i.toNat default).right=i - 1∧(l.getD i.toNat default).left=m - 1 then
    match Jca l n (m - 1) with
    | none=>none
    | some (f,q)=>some (f,max q r + 1) else none
  else none
def Ufa (l:List XNode):Bool:=
 decide (1≤l.length∧l.length≤64) && (match Jca l l.length ((l.length:Int) - 1) with
  | none=>false
  | some (f,d)=>decide (f=0∧d≤16))
def Jna (l:List XNode) (n:Nat):Int:=if Ufa l=false then 18 else if∃x∈l,x.kind=1∧(n:Int)≤x.cond then 1 else 0
def Zyc (vals:List Int) (c:Int):Int:=if c < vals.length∧-1≤vals.getD c.toNat 0∧vals.getD c.toNat 0≤1 then vals.getD c.toNat 0 else 0
def Upa (vals v:List Int) (x:XNode):Int:=
 if x.kind=1 then Zyc vals x.cond else if x.kind=2 then -(v.getD x.left.toNat 0)
 else if x.kind=3 then min (v.getD x.left.toNat 0) (v.getD x.right.toNat 0) else max (v.getD x.left.toNat 0) (v.getD x.right.toNat 0)
def Ul (l : List XNode) (vals : List Int) : Nat → List Int
 | 0=>[]
 | k + 1=>Ul l vals k ++ [Upa vals (Ul l vals k) (l.getD k default)]
def Kia (l:List XNode) (vals:List Int):Int:=if Ufa l=true then (Ul l vals l.length).getD (l.length - 1) 0 else 0
def Y5a (a:XAir) (s:XSens):Int:=if s.kind=5 then (a.fans.l.length:Int) else if s.kind=6 then (a.doors.l.length:Int) else (a.mine.roads.l.length:Int)
def Z1 (a:XAir) (S:List XSens) (i:Nat):Option Int:=
 if Vc (S.getD i default)≠0 then some (Vc (S.getD i default))
 else if ¬ (0≤(S.getD i default).target∧(S.getD i default).target < Y5a a (S.getD i default)) then some 9
 else if∃k:Nat,k < i∧(S.getD k default).address=(S.getD i default).address then some 9 else none
def Ur (a:XAir) (S:List XSens):Int:=((List.range S.length).findSome? (Z1 a S)).getD 0
def Kk (S:List XSens) (n:Nat) (c:XCond):Int:=
 if c.kind=1∨c.kind=2∨c.kind=4 then if 0≤c.target∧c.target < S.length then 0 else 9
 else if c.kind=3 then if (0≤c.target∧c.target < S.length)∧(S.getD c.target.toNat default).kind=5 then 0 else 9
 else if c.kind=5 then if 0≤c.target∧c.target < n then 0 else 4
 else 5
def Ks (S:List XSens) (n:Nat) (c:XCond):Int:=
 if Kk S n c≠0 then Kk S n c else if c.value < 0∨1099511627776 < c.value then 1 else if c.kind=1 then Jya c.level else 0
def Yi (n:Nat) (l:List Int) (i:Nat):Prop:=¬ (0≤l.getD i 0∧l.getD i 0 < n)∨(0 < i∧l.getD i 0≤l.getD (i - 1) 0)
instance (n:Nat) (l:List Int) (i:Nat):Decidable (Yi n l i):=by unfold Yi;infer_instance
def Yx (conds n:Nat) (z:XZone):Int:=
 if Jna z.rule.l conds≠0 then Jna z.rule.l conds else if z.hold < 0∨100000 < z.hold∨z.fresh < 0∨100 < z.fresh then 1
 else if∃i:Nat,i < z.roads.l.length∧Yi n z.roads.l i then 4 else 0
def nzO (e:Int):Option Int:=if e=0 then none else some e
def Kla (s:XSite):Int:=(s.conds.l.findSome? fun c=>nzO (Ks s.sensors.l s.air.mine.roads.l.length c)).getD 0
def Y8 (s:XSite):Int:=(s.zones.l.findSome? fun z=>nzO (Yx s.conds.l.length s.air.mine.roads.l.length z)).getD 0
def Jia (s:XSite):Int:=(s.persons.l.findSome? fun p=>if p < 1∨3 < p then some 19 else none).getD 0
def K6 (s:XSite):Int:=
 if K1 s.air≠0 then K1 s.air
 else if 64 < s.sensors.l.length∨64 < s.conds.l.length∨16 < s.zones.l.length∨64 < s.persons.l.length then 2
 else if Ur s.air s.sensors.l≠0 then Ur s.air s.sensors.l
 else if Kla s≠0 then Kla s
 else if Y8 s≠0 then Y8 s
 else Jia s
def J5a (S:List XSens) (m:List XMeas) (n t:Int):XSpan:=
 if (0≤n∧n < S.length)∧n < m.length∧(m.getD n.toNat default).sensor=n then atS (S.getD n.toNat default) (m.getD n.toNat default) t else nothingS
def Uka (x:XSpan):Int:=if x.high < x.low then 0 else if x.low=1∧x.high=1 then -1 else if 1 < x.low∨x.high < 1 then 1 else 0
def Jvc (c:XCond) (w:XWatch) (t:Int):Int:=if c.kind=1 then Y2 c.level w t else 0
def Khb (S:List XSens) (m:List XMeas) (fl:List XSpan) (c:XCond) (w:XWatch) (t:Int):Int:=
 if c.kind=5 then -(J4b fl ⟨c.target,c.value⟩)
 else if c.kind=2 then -(Zp (J5a S m c.target t) c.value)
 else if c.kind=3 then Uka (J5a S m c.target t)
 else if c.kind=4 then if J5a S m c.target t=nothingS then 1 else -1
 else if (Vk c.level w (J5a S m c.target t) t).over=false then -1
 else if Zp (J5a S m c.target t) c.level.cut=1 then 1 else 0
def Zx (S:List XSens) (m:List XMeas) (c:XCond) (w:XWatch) (t:Int):XWatch:=if c.kind=1 then Vk c.level w (J5a S m c.target t) t else w
def valuesErr (s:XSite) (m:List XMeas) (w:List XWatch) (fl:List XSpan) (t:Int):Int:=
 if K6 s≠0 then K6 s
 else if ¬ (m.length=s.sensors.l.length∧w.length=s.conds.l.length∧fl.length=s.air.mine.roads.l.length) then 11
 else if t < 0∨2147483648 < t then 8
 else ((List.range w.length).findSome? fun i=>nzO (Jvc (s.conds.l.getD i default) (w.getD i default) t)).getD 0
def valuesV (s:XSite) (m:List XMeas) (w:List XWatch) (fl:List XSpan) (t:Int):List Int:=
 if valuesErr s m w fl t≠0 then [] else (List.range w.length).map fun i=>Khb s.sensors.l m fl (s.conds.l.getD i default) (w.getD i default) t
def valuesW (s:XSite) (m:List XMeas) (w:List XWatch) (fl:List XSpan) (t:Int):List XWatch:=
 if valuesErr s m w fl t≠0 then [] else (List.range w.length).map fun i=>Zx s.sensors.l m (s.conds.l.getD i default) (w.getD i default) t
def cutsErr (s:XSite) (v:List Int) (c:List XCut) (t:Int):Int:=
 if K6 s≠0 then K6 s else if ¬ (v.length=s.conds.l.length∧c.length=s.zones.l.length) then 11 else if t < 0∨2147483648 < t then 8 else 0
def Ksb (v:Int) (c:XCut) (t:Int):XCut:=
 if v= -1 then if c.clear= -1 then ⟨c.off,t,c.reason⟩ else c else if c.off=true then ⟨true,-1,c.reason⟩ else ⟨true,-1,v⟩
def cutAt (s:XSite) (v:List Int) (c:List XCut) (t:Int) (i:Nat):XCut:=Ksb (Kia (s.zones.l.getD i default).rule.l v) (c.getD i default) t
def K7a (s : XSite) (v : List Int) (c : List XCut) : Nat → List Int
 | 0=>[]
 | k + 1=>if Kia (s.zones.l.getD k default).rule.l v≠-1∧(c.getD k default).off=false then K7a s v c k ++ [(k:Int)] else K7a s v c k
def cutsC (s:XSite) (v:List Int) (c:List XCut) (t:Int):List XCut:=if cutsErr s v c t≠0 then [] else (List.range c.length).map (cutAt s v c t)
def cutsN (s:XSite) (v:List Int) (c:List XCut) (t:Int):List Int:=if cutsErr s v c t≠0 then [] else K7a s v c c.length
end
end Go.Proofs.YtchfclmokpbldaaGreat
