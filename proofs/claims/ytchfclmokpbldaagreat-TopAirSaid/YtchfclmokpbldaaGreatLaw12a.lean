/-
  Merged texts. By an AI agent.
-/
import Derived.Test.YtchfclmokpbldaaGreatCflowS
import Derived.Test.YtchfclmokpbldaaGreatCflowR
import Derived.Test.YtchfclmokpbldaaGreatNets
import Derived.Test.YtchfclmokpbldaaGreatFits
import Derived.Test.YtchfclmokpbldaaGreatSolveR
set_option linter.all false
set_option maxHeartbeats 4000000
set_option maxRecDepth 20000
namespace Go.Proofs.YtchfclmokpbldaaGreat
open Go.Aw Go
section
attribute [local irreducible] CJ LJ DJ Tri YV Gives U5 J2 Kn U6 RV J4 OwL.L
section
variable {A B:Prop}
def Kng(h:A→B:=by exact Kt zqc rfl rfl rfl rfl):=h
def Zzf(h:A→B:=by exact Kt (by first | exact Jd tb rfl rfl rfl rfl zu (i:=P.road.fr.toNat) zk za | exact Jl tb rfl rfl rfl rfl (i:=P.road.fr.toNat) zk za) rfl rfl rfl rfl):=h
def Jmg(h:A→B:=by exact Kt (by first | exact Jd tb rfl rfl rfl rfl zu (i:=P.road.to.toNat) zk za | exact Jl tb rfl rfl rfl rfl (i:=P.road.to.toNat) zk za) rfl rfl rfl rfl):=h
end
def Kve (a:XAir) (s:XSetting) (b:XBounds) (A:List Bool) (L:LB) (R:LS) (hm:AirR a R) (hs:SetR s R) (hb:BoundsR b R) (hA:Ky a=0→AiryIs a.mine A):
 Tri Tryz.prog 112 [a.val,s.val,b.val].toArray L R (fun v U J=>∃(p:OwL XSpan) (S:LS),v=p.val∧p.ok 2 XSpan.cells∧p.l=U7 a s b A∧p.L 90 XSpan.cells ++ L=U∧S ++ R=J):=by
 have hmr:=hm.roads;have hbl:=hb.low;have hbh:=hb.high;refine Je 85 Tryz.call112 Tryz.func112 rfl rfl rfl ?_;apply (Xaf);intro b3;apply (qax);intro b4;apply (qax);intro b5;apply Xbr∘Xcg∘qbe;refine Jw rfl (J5f a s b A _ _ hm hs hb hA) rfl ?_;rintro v U J ⟨S1,rfl,rfl,rfl⟩;have hm1:AirR a (S1 ++ R):=⟨hm.places.mono fun r h=>Ja (by simp [h]),hm.roads.mono fun r h=>Ja (by simp [h]),hm.fans.mono fun r h=>Ja (by simp [h]),hm.doors.mono fun r h=>Ja (by simp [h])⟩;have hmr1:=hm1.roads;apply (Xat);refine q_c ?_ ?_<;>intro hc0;·apply Xea∘qbh;refine q_r L (S1 ++ R) zxd ?_;exact ⟨OwL.nil,S1,rfl,OwL.nil_ok,by rw [U7,if_neg hc0],by rw [Km,yv],rfl⟩
 have hck:Y9 a s b A=0:=by omega
 have hC:=Zic hck;have hok:=V1 hC.h0;have hfo:=Kdb hC.hf;have hAA:=hA hC.h0;have hnr:=hok.mine.roads;have hln:=hC.hl;have hhn:=hC.hh;apply qbv∘Xb9∘qc7;rintro v U J ⟨b20,rfl,rfl,hR20⟩;replace hR20:=hR20.symm;subst hR20;apply (Xcy);refine U4 zPc ?_;apply qay∘Xc6;refine Jw rfl (Yfb a.mine _ _ hm1.mineR hok.mine (Jqa hC.h0)) rfl ?_;rintro v U J ⟨p,A2,S2,rfl,hpk,hA2,hpl,rfl,rfl⟩;obtain rfl:A=A2:=hAA.unique hA2;have hplen:p.l.length=a.mine.places.l.length:=by rw [hpl,yE];exact hAA.length
 have hm2:AirR a (S2 ++ (S1 ++ R)):=⟨hm1.places.mono fun r h=>Ja zra,hm1.roads.mono fun r h=>Ja zra,hm1.fans.mono fun r h=>Ja zra,hm1.doors.mono fun r h=>Ja zra⟩;have hs2:SetR s (S2 ++ (S1 ++ R)):=⟨hs.fans.mono fun r h=>Ja (by simp [h]),hs.doors.mono fun r h=>Ja (by simp [h])⟩;apply Xbr∘Xcg;refine Jw rfl (Ydb a s _ _ hm2 hs2 hok hfo) rfl ?_;rintro v U J ⟨n,rfl,hn,rfl,rfl⟩;have hpp:InR (Yxa n.pipes) (Yxa n.pipes :: Yja n.at_ :: (S2 ++ (S1 ++ R))):=Ja (.head _);have hbl3:InR (isl b.low) (Yxa n.pipes :: Yja n.at_ :: (S2 ++ (S1 ++ R))):=hbl.mono fun r h=>Ja (by simp [h]);have hbh3:InR (isl b.high) (Yxa n.pipes :: Yja n.at_ :: (S2 ++ (S1 ++ R))):=hbh.mono fun r h=>Ja (by simp [h]);have hnl:=hn.length;refine Jy (Zla (e:=218) tb rfl zc rfl rfl rfl rfl rfl) rfl ?_;apply (Xdg);refine Jm [(5,.pointer _),(7,.slice _ _ _),(8,.slice _ _ _),(27,.slice _ _ _),(28,.int _ _),(29,.int _ _)] zh fun tq0=>?_;refine q_p ([10]++rg 29 55) ((⟨fun q=>[(29,.int .i64 ((q.1.1:Nat):Int))],fun q=>p.L 4 blc ++ ((⟨.own b20 a.mine.roads.l.length [],q.1.2⟩:OwL XSpan).L 90 XSpan.cells ++ (⟨b5,b.cells,214⟩ :: ⟨b4,s.cells,80⟩ :: ⟨b3,a.cells,32⟩ :: L)),fun _=>Yxa n.pipes :: Yja n.at_ :: (S2 ++ (S1 ++ R)),fun q=>n.pipes.l.length - q.1.1⟩:Head {q:Nat×List XSpan // q.1≤n.pipes.l.length∧FlowTo a s b A n q.1 q.2})) (⟨(0,List.replicate a.mine.roads.l.length ⟨0,0⟩),by dsimp only;omega,FlowTo.zero a s b A n⟩) ?_;rintro ⟨⟨k,l⟩,w1,w2⟩ junk;try dsimp only
 dsimp only at w1 w2;have hll:=w2.len;have hkq:(⟨.own b20 a.mine.roads.l.length [],l⟩:OwL XSpan).ok 2 XSpan.cells:=by have:=Yc (f:=XSpan.cells) (wd:=2) (b:=b20) (n:=a.mine.roads.l.length) (x:=⟨0,0⟩) yf zD;exact OwL.len_ok yf this zma
 apply (Xam);refine q_c ?_ ?_<;>intro hc1;·
  obtain ⟨P,hP⟩:=Kh (l:=n.pipes.l) (k:=k) za;have hPI:=InR.pipe hpp hP;obtain ⟨hPn,hPo⟩:=hn.open (yi hP);have hPs:=hn.pipe P (yi hP);have hPk:=Zjb hok hPn hPs;have hdr:J2b P=Kz a s ((P.num.toNat:Nat):Int):=funext fun q=>by rw [Vpc hPs q,yma hPn.1]
  have hro:=hok.mine.road P.num.toNat _ zDc;have hr1:=hro.fr;have hr2:=hro.to;have hef:P.road.fr=(a.mine.roads.l.getD P.num.toNat default).fr:=by rw [hPs.road]
  have het:P.road.to=(a.mine.roads.l.getD P.num.toNat default).to:=by rw [hPs.road]
  have hAl:=hAA.length;have hpg:p.l[P.road.fr.toNat]?=some (!(A.getD P.road.fr.toNat false)):=by rw [hpl,yr,Jn (l:=A) (k:=P.road.fr.toNat) false za];rfl
  have g1:=Jn (l:=b.low.l) (k:=P.road.fr.toNat) 0 za;have g2:=Jn (l:=b.low.l) (k:=P.road.to.toNat) 0 za;have g3:=Jn (l:=b.high.l) (k:=P.road.fr.toNat) 0 za;have g4:=Jn (l:=b.high.l) (k:=P.road.to.toNat) 0 za;have e1:=hC.pl.get P.road.fr.toNat;have e2:=hC.pl.get P.road.to.toNat;have e3:=hC.ph.get P.road.fr.toNat;have e4:=hC.ph.get P.road.to.toNat;have hlg:=Jn (l:=l) (k:=P.num.toNat) default za;apply (qbb);refine Jy zC rfl ?_;apply qdx∘qaq;intro b10;apply Xbe∘qbm∘Xdr;refine Jy (Js tb (p) _ rfl rfl rfl rfl zg (i:=P.road.fr.toNat) zk zt) rfl ?_;refine Jy zPb rfl ?_;apply (qaf);refine q_c ?_ ?_<;>intro hc2;·(have hrf:nothingS=Ui a s b A P.num.toNat:=by rw [Ui,if_neg (by rw [hPo];decide),← hef,if_neg zO]);apply qae∘Xb4∘qcd;refine Jy zkd rfl ?_;refine V6 (Uj tb ((⟨.own b20 a.mine.roads.l.length [],l⟩:OwL XSpan)) (nothingS) rfl rfl rfl rfl zj zg yf zg (yQ rfl) zb zb) ?_;rintro v U J ⟨rfl,rfl⟩;refine Kc (Jb (K5 (Kj (J3 (Jb (Jh ?_))))));apply (Xad);exact ubu
  have hrf:(⟨Ub (J2b P) (b.low.l.getD P.road.fr.toNat 0 - b.high.l.getD P.road.to.toNat 0),K2 (J2b P) (b.high.l.getD P.road.fr.toNat 0 - b.low.l.getD P.road.to.toNat 0)⟩:XSpan)=Ui a s b A P.num.toNat:=by rw [Ui,if_neg (by rw [hPo];decide),← hef,← het,if_pos zO,hdr]
  refine J5 (Jb ?_);refine J7 tb [] [0,1,2,3,4,5,6,7,8,9,10,11,12,13,14,15,16,17,18,20,21,22,23,24,25,26,27,28,29,30,31,32,33,34,35,19,36,37,38] [39] ([Blk.mk b10 _ _,Blk.mk b5 _ _]) _ Kq zc zi ye ?_;apply Xcx∘Kng∘Xaj∘qan∘Xaj∘Zzf∘qci∘Xaj∘qan∘Xaj∘Jmg∘qci∘qcc∘Kng∘Xaj∘qan∘Xaj∘Zzf∘qci∘Xaj∘qan∘Xaj∘Jmg∘qci∘qcc;refine K6 rfl (Jrb P (b.low.l.getD P.road.fr.toNat 0 - b.high.l.getD P.road.to.toNat 0) _ _ hPI hPk) rfl rfl ?_;rintro v U J ⟨rfl,rfl,rfl⟩;refine ⟨zi,zq,?_⟩;refine K6 rfl (Y8a P (b.high.l.getD P.road.fr.toNat 0 - b.low.l.getD P.road.to.toNat 0) _ _ hPI hPk) rfl rfl ?_;rintro v U J ⟨rfl,rfl,rfl⟩;refine ⟨zi,zq,?_⟩;apply (qcw);refine Kt zkd rfl rfl rfl rfl ?_;apply (qba);refine Kjb (Uj tb ((⟨.own b20 a.mine.roads.l.length [],l⟩:OwL XSpan)) (⟨Ub (J2b P) (b.low.l.getD P.road.fr.toNat 0 - b.high.l.getD P.road.to.toNat 0),K2 (J2b P) (b.high.l.getD P.road.fr.toNat 0 - b.low.l.getD P.road.to.toNat 0)⟩) rfl rfl rfl rfl zj zg yf zg (yQ rfl) zb zb) rfl rfl ?_;rintro v U J ⟨rfl,rfl⟩;apply qa1∘Xde;exact ubu
 obtain rfl:k=n.pipes.l.length:=by omega
 apply (Xdu);refine q_r ((⟨.own b20 a.mine.roads.l.length [],l⟩:OwL XSpan).L 90 XSpan.cells ++ L) (Yxa n.pipes :: Yja n.at_ :: (S2 ++ (S1 ++ R))) zxd ?_;exact ⟨(⟨.own b20 a.mine.roads.l.length [],l⟩:OwL XSpan),Yxa n.pipes :: Yja n.at_ :: (S2 ++ S1),Un hll,hkq,by rw [U7,if_pos hck];exact w2.done hn,rfl,by simp [yn]⟩
end
section
attribute [local irreducible] CJ LJ DJ Tri YV Gives U5 J2 Kn U6 RV J4 OwL.L
abbrev Yob (x:Arr XSpan):Sl:=x.sl 2 XSpan.cells []
abbrev U8:XSetting:=⟨⟨none,0,[]⟩,⟨none,0,[]⟩⟩
end
section
section
variable {A B:Prop}
def Jxg(h:A→B:=by exact Jy zC rfl):=h
end
def Tri.lendU {P : Program} {f : FuncId} {args : Array Value} {A : LB} {R S : LS} {u : Value}
 (hS:∀w,∀G:Nat→Prop,Holds (A ++ []) G R w→∀s∈S,Rep w (fun b=>G b∨∃e∈A,e.b=b) s)
 (h:Tri P f args [] (S ++ R) (fun v U J=>v=u∧[]=U∧S ++ R=J)):Tri P f args A R (fun v U J=>v=u∧A=U∧R=J):=by have h2:=Tri.lend (S:=S) (Post:=fun v U=>v=u∧[]=U) (Spl.rest (L:=A)) hS (h.mono fun v U J ⟨a1,a2,a3⟩=>⟨⟨a1,a2⟩,a3⟩);exact zxe
attribute [local irreducible] CJ LJ DJ Tri YV Gives U5 J2 Kn U6 RV J4 OwL.L
def Ywe (x:Arr Int) (a:Int) (L:LB) (R:LS) (hx:InR (isl x) R):
 Tri Tryz.prog 235 [x.val,.int .i64 a].toArray L R (fun v U J=>∃r:Int,v=.int .i64 r∧(0≤r↔a∈x.l)∧L=U∧R=J):=by
 refine J0b Tryz.call235 hx fun hcap=>?_;refine Je 19 Tryz.call235 Tryz.func235 rfl rfl rfl ?_;apply Xae∘qaw∘Xbz;refine Jm [(0,.slice _ _ _),(1,.int _ _),(7,.int _ _),(8,.int _ _)] zh fun tq0=>?_;refine q_s ([4,5]++rg 8 11) (fun g:{k:Nat // k≤x.l.length∧∀j:Nat,j < k→x.l.getD j 0≠a}=>[(8,.int .i64 ((g.1:Nat):Int))]) (fun g=>x.l.length - g.1) (⟨0,by omega,fun j hj=>by omega⟩) ?_;rintro ⟨k,hk,hal⟩ junk;try dsimp only
 apply (Xam);refine q_c ?_ ?_<;>intro hc0;·
  have hg:=Jn (l:=x.l) (k:=k) 0 za;apply Xa1∘Xas∘Xap∘Jxg∘qa7∘Xbu;refine q_c ?_ ?_<;>intro hc1;·apply Xd1∘qbt;refine q_i L R ?_;exact ⟨k,rfl,⟨fun _=>by rw [hc1];exact yi hg,fun _=>by omega⟩,rfl,rfl⟩
  apply (Xaw);exact Kd (⟨k + 1,by omega,fun j hj=>by
  rcases yk j k with h | h;·exact hal j h
  ·(obtain rfl : j = k := by omega);exact fun h=>hc1 h.symm⟩) zm zh zi zLb zx
 apply (Xco);refine q_i L R ?_;refine ⟨-1,rfl,⟨fun h=>by omega,fun h=>?_⟩,rfl,rfl⟩;obtain ⟨j,hj,rfl⟩:=yWa h;have:=hal j za;rw [yh,yC hj] at this;exact absurd rfl this
def Y8c (x:Arr Int) (a:Int) (L:LB) (R:LS) (hx:InR (isl x) R):
 Tri Tryz.prog 169 [x.val,.int .i64 a].toArray L R (fun v U J=>v=.bool (decide (a∈x.l))∧L=U∧R=J):=by refine Je 9 Tryz.call169 Tryz.func169 rfl rfl rfl ?_;apply Xdz∘Xap;refine Jw rfl (Ywe x a _ _ hx) rfl ?_;exact zqe
def Zda (l:Arr Int) (n:Int) (L:LB) (R:LS) (hl:InR (isl l) R):
 Tri Tryz.prog 50 [l.val,.int .i64 n].toArray L R (fun v U J=>v=.bool (decide (n∈l.l))∧L=U∧R=J):=by
 refine U3 Tryz.call50 hl fun hln=>?_;refine Je 18 Tryz.call50 Tryz.func50 rfl rfl rfl ?_;apply Xcc∘qaw∘Xbf;refine Jm [(0,.slice _ _ _),(1,.int _ _),(5,.int _ _)] zh fun tq0=>?_;refine q_s (rg 4 14) (fun g:{k:Nat // k≤l.l.length∧∀j:Nat,j < k→l.l.getD j 0≠n}=>[(5,.int .i64 ((g.1:Nat):Int))]) (fun g=>l.l.length - g.1) (⟨0,by omega,fun j hj=>by omega⟩) ?_;rintro ⟨k,hk,hal⟩ junk;try dsimp only
 apply Xa3∘Xaq∘Xa5;refine q_c ?_ ?_<;>intro hc0;·
  have hlg:=Jn (l:=l.l) (k:=k) 0 za;apply qbb∘Xap∘Jxg∘qa7∘qaa∘Xbu;refine q_c ?_ ?_<;>intro hc1;·apply Xcc∘qbt;refine q_b L R ?_;exact ⟨by rw [decide_eq_true (by rw [← hc1];exact yi hlg)],rfl,rfl⟩
  apply (Xcz);exact Kd (⟨k + 1,by omega,fun j hj=>by
  rcases yk j k with h | h;·exact hal j h
  ·(obtain rfl : j = k := by omega);exact hc1⟩) zm zh zi zLb zx
 apply qbk∘Xbb;refine q_b L R ?_;exact ⟨by
 rw [decide_eq_false];intro hm;obtain ⟨j,hj⟩:=List.mem_iff_getElem?.1 hm;have hjl:=(List.getElem?_eq_some_iff.1 hj).1;exact hal j za (getD_some hj),rfl,rfl⟩
def K4e {A:LB} {R:LS} {p:OwL Int} {n:Int} (hp:InB (p.L 3 Jk) A) (okp:p.ok 1 Jk):
 Tri Tryz.prog 50 [p.val,.int .i64 n].toArray A R (fun v U J=>v=.bool (decide (n∈p.l))∧A=U∧R=J):=
 Tri.lendU (S:=[isl p.arr]) (fun w G hh s hs=>by
  rw [List.mem_singleton.1 hs]
  exact Ya hh hp okp yf ze yg) (Zda p.arr n [] _ zJb)
end
section
attribute [local irreducible] CJ LJ DJ Tri YV Gives U5 J2 Kn U6 RV J4 OwL.L
def Ype (m:XMine):∃A,AiryIs m A:=by refine ⟨(List.range (surf m).length).map fun i=>@decide (∃j:Nat,j < (surf m).length∧(surf m).getD j false=true∧Conn m j i) (Classical.propDecidable _),by simp,fun i hi=>?_⟩;rw [yh,yr,yV hi];exact ⟨fun h=>@of_decide_eq_true _ (Classical.propDecidable _) h,fun h=>@decide_eq_true _ (Classical.propDecidable _) h⟩
end
section
section
variable {a:XAir} {s:XSetting} {A:List Bool} {l m:List Int} {k:Nat} {v:Int}
def V1e (h0:PresOk l) (h:Uaa a s true l k=some v):l.getD k 0≤v∧0≤K1c a s (l.set k v) (k:Int)∧∀w,l.getD k 0≤w→w < v→K1c a s (l.set k w) (k:Int) < 0:=by
 obtain ⟨d,d0,d1,dv,dg,dj⟩:=(Jsb (Y5b (h0.get k)).1 h).yes rfl;have e:∀x,Yoc a s true l (k:Int) x=U7f a s l (k:Int) x:=fun x=>by rw [Yoc,if_pos rfl]
 rw [e,decide_eq_true_eq,yy] at dg;have es:sgn true=1:=rfl;rw [es] at dv dj;refine ⟨by omega,dg,fun w w1 w2=>?_⟩;have:=dj (w - l.getD k 0) za za;rw [show l.getD k 0 + 1 * (w - l.getD k 0)=w by omega,e,decide_eq_false_iff_not,yy] at this;omega
def Zgc (h0:PresOk l) (h:Uaa a s false l k=some v):v≤l.getD k 0∧U9a a s (l.set k v) (k:Int)≤0∧∀w,w≤l.getD k 0→v < w→0 < U9a a s (l.set k w) (k:Int):=by
 obtain ⟨d,d0,d1,dv,dg,dj⟩:=(Jsb (Y5b (h0.get k)).1 h).yes rfl;have e:∀x,Yoc a s false l (k:Int) x=Vpd a s l (k:Int) x:=fun x=>by rw [Yoc,if_neg ze]
 rw [e,decide_eq_true_eq,yy] at dg;have es:sgn false= -1:=rfl;rw [es] at dv dj;refine ⟨by omega,dg,fun w w1 w2=>?_⟩;have:=dj (l.getD k 0 - w) za za;rw [show l.getD k 0 + -1 * (l.getD k 0 - w)=w by omega,e,decide_eq_false_iff_not,yy] at this;omega
end
def J5b {a : XAir} {s : XSetting} {A : List Bool} {up : Bool} {l : List Int} : ∀ {n : Nat} {m : List Int}, Um a s A up l n = some m → ∀ k, k ≤ n → ∃ mk, Um a s A up l k = some mk ∧ ∀ j : Nat, j < k → m[j]? = mk[j]?
 | 0,m,h,k,hk=>by
  obtain rfl:k=0:=by omega
  exact ⟨m,h,fun j hj=>by omega⟩
 | n + 1,m,h,k,hk=>by
  rcases yk n k with h1 | h1
  ·obtain rfl : k = n + 1 := by omega
   exact ⟨m,h,fun _ _=>rfl⟩
  ·have h' := h
   rw [Um,yNa] at h'
   obtain ⟨m1,e1,e2⟩:=h'
   obtain ⟨mk,f1,f2⟩:=J5b e1 k h1
   refine ⟨mk,f1,fun j hj=>?_⟩
   rw [← f2 j hj]
   split at e2
   ·cases e2;rfl
   ·obtain ⟨v, _, rfl⟩ := Option.map_eq_some_iff.1 e2
    rw [yZ za]
def K5e {a:XAir} {s:XSetting} {A:List Bool} {up:Bool} {l:List Int} (hl:PresOk l) (hn:l.length=a.mine.places.l.length) (h:Um a s A up l a.mine.places.l.length=some l) {k:Nat} (hk:k < a.mine.places.l.length) (hf:¬ Yhb a A k=true):Uaa a s up l k=some (l.getD k 0):=by
 obtain ⟨m1,e1,e2⟩:=J5b h (k + 1) za;have e1':=e1;rw [Um,yNa] at e1';obtain ⟨m0,f1,f2⟩:=e1';obtain ⟨m0',g1,g2⟩:=J5b h k za;rw [f1] at g1;cases g1;have hS:=Z6 hl f1;have em:m0=l:=yDa fun j=>by
  rcases yk j k with h1 | h1;·exact (g2 j h1).symm
  ·exact hS.rest j h1
 subst em;rw [if_neg hf] at f2;obtain ⟨v,hv,rfl⟩:=Option.map_eq_some_iff.1 f2;have:=e2 k za;rw [yI za,Jn (l:=m0) (k:=k) 0 za] at this;rw [hv,yD this]
structure Moved (a:XAir) (A:List Bool) (up:Bool) (l m:List Int):Prop where
 len:m.length=l.length
 le:∀j:Nat,if up=true then l.getD j 0≤m.getD j 0 else m.getD j 0≤l.getD j 0
 fix:∀j:Nat,Yhb a A j=true→m.getD j 0=l.getD j 0
def Moved.refl {a:XAir} {A:List Bool} {up:Bool} {l:List Int}:Moved a A up l l:=⟨rfl,fun j=>by split <;> exact yz _,fun _ _=>rfl⟩
def Moved.trans {a:XAir} {A:List Bool} {up:Bool} {l m n:List Int} (h:Moved a A up l m) (k:Moved a A up m n):Moved a A up l n:=by
 refine ⟨k.len.trans h.len,fun j=>?_,fun j hj=>(k.fix j hj).trans (h.fix j hj)⟩;have h1:=h.le j;have h2:=k.le j;split at h1;·rename_i e;rw [if_pos e] at h2;rw [if_pos e];omega
 ·rename_i e;rw [if_neg e] at h2;rw [if_neg e];omega
def Y7b {a : XAir} {s : XSetting} {A : List Bool} {up : Bool} {l : List Int} (hl : PresOk l) : ∀ {n : Nat} {m : List Int}, n ≤ l.length → Um a s A up l n = some m → Moved a A up l m
 | 0,m,_,h=>by cases h;exact .refl
 | n + 1,m,hn,h=>by
  have h':=h
  rw [Um,yNa] at h'
  obtain ⟨m0,e1,e2⟩:=h'
  have ih:=Y7b hl za e1
  have hS:=Z6 hl e1
  have hlen:=hS.len
  split at e2
  ·cases e2;exact ih
  ·rename_i hf
   obtain ⟨v,hv,rfl⟩:=Option.map_eq_some_iff.1 e2
   refine ih.trans ⟨by simp,fun j=>?_,fun j hj=>?_⟩
   ·rw [Z8 za]
    cases up with
    | true=>
     have:=(V1e hS.pres hv).1
     simp only [if_true]
     split
     ·rename_i e;subst e;exact this
     ·exact yz _
    | false=>
     have:=(Zgc hS.pres hv).1
     simp only [yhb,if_false]
     split
     ·rename_i e;subst e;exact this
     ·exact yz _
   ·rw [Z8 za,if_neg (fun e=>hf (by rw [← e];exact hj))]
def Y6a {a : XAir} {s : XSetting} {A : List Bool} {up : Bool} : ∀ {n : Nat} {l m : List Int}, PresOk l → l.length = a.mine.places.l.length → Vn a s A up n l = some m → Moved a A up l m
 | 0,l,m,_,_,h=>by cases h
 | n + 1,l,m,hl,hn,h=>by
  rw [Vn] at h
  split at h
  ·cases h
  ·rename_i m1 h1
   have hs:=Z6 hl h1
   have hm:=Y7b hl za h1
   split at h
   ·cases h;exact hm
   ·exact hm.trans (Y6a hs.pres (hs.len.trans hn) h)
def Ufc {a:XAir} {s:XSetting} {A:List Bool} {n:Nat} {l m:List Int} {up:Bool} (hl:PresOk l) (hn:l.length=a.mine.places.l.length) (h:Vn a s A up n l=some m) {k:Nat} (hk:k < a.mine.places.l.length) (hf:¬ Yhb a A k=true):
 if up=true then 0≤K1c a s m (k:Int) else U9a a s m (k:Int)≤0:=by
 obtain ⟨h1,h2,h3⟩:=Zga hl h;have hx:=K5e h2 (h1.trans hn) h3 hk hf;cases up with
 | true=>have:=(V1e h2 hx).2.1;rw [Zza] at this;simpa using this
 | false=>have:=(Zgc h2 hx).2.1;rw [Zza] at this;simpa using this
def Y7a {a:XAir} {s:XSetting} {A:List Bool} {up:Bool} {ps:List Int} (h:StartOk a s ps A):(Ug a s A up ps).1=0∨(Ug a s A up ps).1=2:=by
 rw [Ug,if_neg (by rw [Ura.2 h];decide)];split;·exact .inr rfl
 ·exact .inl rfl
def StartOk.moved {a:XAir} {s:XSetting} {A:List Bool} {up:Bool} {l:List Int} (h:StartOk a s l A) {n:Nat} {m:List Int} (hm:Vn a s A up n l=some m):StartOk a s m A:=by obtain ⟨h1,h2,_⟩:=Zga h.hp hm;have h3:=Y6a h.hp h.hl hm;exact ⟨h.h0,h.hf,h1.trans h.hl,h2,fun i hi hf=>(h3.fix i hf).trans (h.fix i hi hf)⟩
def Kie {a:XAir} {s:XSetting} {A:List Bool} (h0:Ky a=0) (hf:Una a s=true):StartOk a s (List.replicate a.mine.places.l.length 0) A:=by
 refine ⟨h0,hf,by simp,fun p hp=>?_,fun i hi _=>?_⟩;·rw [(List.mem_replicate.1 hp).2];decide
 ·rw [yh, yB];split <;> rfl
structure Solved (a:XAir) (s:XSetting) (A:List Bool) (lo hi:List Int):Prop where
 lok:StartOk a s lo A
 hok:StartOk a s hi A
 le:∀i:Nat,lo.getD i 0≤hi.getD i 0
 low:∀i:Nat,i < a.mine.places.l.length→¬ Yhb a A i=true→U9a a s lo (i:Int)≤0
 high:∀i:Nat,i < a.mine.places.l.length→¬ Yhb a A i=true→0≤K1c a s hi (i:Int)
def K4d {a:XAir} {s:XSetting} {A:List Bool} (h0:Ky a=0) (hf:Una a s=true):((Yu a s A).1=0∧Solved a s A (Yu a s A).2.1 (Yu a s A).2.2)∨(Yu a s A).1=2:=by
 have s0:=Kie (A:=A) h0 hf;rw [Yu];dsimp only;rcases Y7a (up:=false) s0 with e1 | e1;·
  rw [if_neg za];obtain ⟨_,r1⟩:=Zob e1;have s1:=s0.moved r1;rcases Y7a (up:=true) s1 with e2 | e2;·
   rw [if_neg za];obtain ⟨_,r2⟩:=Zob e2;have s2:=s1.moved r2;rcases Y7a (up:=false) s2 with e3 | e3;·
    rw [if_neg za];obtain ⟨_,r3⟩:=Zob e3;have s3:=s2.moved r3;left;refine ⟨rfl,s3,s2,fun i=>?_,fun i hi hn=>?_,fun i hi hn=>?_⟩;·have := (Y6a s2.hp s2.hl r3).le i;simpa using this
    ·have := Ufc s2.hp s2.hl r3 hi hn;simpa using this
    ·have := Ufc s1.hp s1.hl r2 hi hn;simpa using this
   ·rw [if_pos za];exact .inr e3
  ·rw [if_pos za];exact .inr e2
 ·rw [if_pos za];exact .inr e1
def Solved.accept {a:XAir} {s:XSetting} {A:List Bool} {lo hi:List Int} (h:Solved a s A lo hi) {b:XBounds} (e1:b.low.l=lo) (e2:b.high.l=hi):Accept a s b A:=by
 refine ⟨⟨h.lok.h0,h.lok.hf,by rw [e1];exact h.lok.hl,by rw [e2];exact h.hok.hl,by rw [e1];exact h.lok.hp,by rw [e2];exact h.hok.hp⟩,fun i hi2 hf=>?_,fun i hi2 hf=>?_⟩;·rw [e1,e2];exact ⟨h.lok.fix i hi2 hf,h.hok.fix i hi2 hf⟩
 ·rw [e1,e2];exact ⟨h.high i hi2 hf,h.low i hi2 hf⟩
end
section
section
variable {a:XAir} {s:XSetting} {x:XState} (h:MadeA a s x)
include h
end
section
variable {a:XAir} {s:XSetting} {x:XState} (h:MadeA a s x)
include h
end
end
section
attribute [local irreducible] CJ LJ DJ Tri YV Gives U5 J2 Kn U6 RV J4 OwL.L
end
section
section
variable (b b':Nat)
end
end
section
attribute [local irreducible] CJ LJ DJ Tri YV Gives U5 J2 Kn U6 RV J4 OwL.L
end
end Go.Proofs.YtchfclmokpbldaaGreat
