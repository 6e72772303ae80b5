/-
  Merged texts. By an AI agent.
-/
import Derived.Test.YtchfclmokpbldaaGreatCflowS
import Derived.Test.YtchfclmokpbldaaGreatCflowR
import Derived.Test.YtchfclmokpbldaaGreatNets
import Derived.Test.YtchfclmokpbldaaGreatFits
import Derived.Test.YtchfclmokpbldaaGreatSolveR
set_option linter.all false
set_option maxHeartbeats 4000000
set_option maxRecDepth 20000
namespace Go.Proofs.YtchfclmokpbldaaGreat
open Go.Aw Go
section
attribute [local irreducible] CJ LJ DJ Tri YV Gives Uq J2 Kj Ut RV J3 OwL.L
section
variable {A B:Prop}
def Kpg(h:A→B:=by exact Ku (Js (row:=[_,_,_,_,_,_,_,_,_,_,_,_]) tb rfl rfl rfl zf zb zb) rfl rfl rfl rfl):=h
def Zkf(h:A→B:=by exact Ku (by first | exact Jd tb rfl rfl rfl rfl zu (i:=P.road.fr.toNat) zk za | exact Jl tb rfl rfl rfl rfl (i:=P.road.fr.toNat) zk za) rfl rfl rfl rfl):=h
def Y9f(h:A→B:=by exact Ku (by first | exact Jd tb rfl rfl rfl rfl zu (i:=P.road.to.toNat) zk za | exact Jl tb rfl rfl rfl rfl (i:=P.road.to.toNat) zk za) rfl rfl rfl rfl):=h
end
def Kje (a:XAir) (s:XSetting) (b:XBounds) (A:List Bool) (L:LB) (R:LS) (hm:AirR a R) (hs:SetR s R) (hb:BoundsR b R) (hA:Kx a=0→AiryIs a.mine A):
 Tri Tryz.prog 112 [a.val,s.val,b.val].toArray L R (fun v U J=>∃(p:OwL XSpan) (S:LS),v=p.val∧p.ok 2 XSpan.cells∧p.l=U5 a s b A∧p.L 90 XSpan.cells ++ L=U∧S ++ R=J):=by
 have hmr:=hm.roads;have hbl:=hb.low;have hbh:=hb.high;refine Je 85 Tryz.call112 Tryz.func112 rfl rfl rfl ?_;apply (Xaf);intro b3;apply (qax);intro b4;apply (qax);intro b5;apply Xb5∘Xct∘qbe;refine Jv rfl (Y1e a s b A _ _ hm hs hb hA) rfl ?_;rintro v U J ⟨S1,rfl,rfl,rfl⟩;have hm1:AirR a (S1 ++ R):=⟨hm.places.mono fun r h=>Ja (by simp [h]),hm.roads.mono fun r h=>Ja (by simp [h]),hm.fans.mono fun r h=>Ja (by simp [h]),hm.doors.mono fun r h=>Ja (by simp [h])⟩;have hmr1:=hm1.roads;apply (Xat);refine q_c ?_ ?_<;>intro hc0;·apply qae∘qc4∘qbh;refine q_r L (S1 ++ R) zhd ?_;exact ⟨OwL.nil,S1,rfl,OwL.nil_ok,by rw [U5,if_neg hc0],by rw [Kk,yv],rfl⟩
 have hck:Y4 a s b A=0:=by omega
 have hC:=Z1c hck;have hok:=V3 hC.h0;have hfo:=V7b hC.hf;have hAA:=hA hC.h0;have hnr:=hok.mine.roads;have hln:=hC.hl;have hhn:=hC.hh;apply qbv∘Xce∘qc7;rintro v U J ⟨b20,rfl,rfl,hR20⟩;replace hR20:=hR20.symm;subst hR20;apply (Xc0);refine U2 zCc ?_;apply qay∘Xd0;refine Jv rfl (V2b a.mine _ _ hm1.mineR hok.mine (Kxa hC.h0)) rfl ?_;rintro v U J ⟨p,A2,S2,rfl,hpk,hA2,hpl,rfl,rfl⟩;obtain rfl:A=A2:=hAA.unique hA2;have hplen:p.l.length=a.mine.places.l.length:=by rw [hpl,yD];exact hAA.length
 have hm2:AirR a (S2 ++ (S1 ++ R)):=⟨hm1.places.mono fun r h=>Ja zqa,hm1.roads.mono fun r h=>Ja zqa,hm1.fans.mono fun r h=>Ja zqa,hm1.doors.mono fun r h=>Ja zqa⟩;have hs2:SetR s (S2 ++ (S1 ++ R)):=⟨hs.fans.mono fun r h=>Ja (by simp [h]),hs.doors.mono fun r h=>Ja (by simp [h])⟩;apply Xb5∘Xct;refine Jv rfl (Vmc a s _ _ hm2 hs2 hok hfo) rfl ?_;rintro v U J ⟨n,rfl,hn,rfl,rfl⟩;have hpp:InR (Zja n.pipes) (Zja n.pipes :: Yma n.at_ :: (S2 ++ (S1 ++ R))):=Ja (.head _);have hbl3:InR (isl b.low) (Zja n.pipes :: Yma n.at_ :: (S2 ++ (S1 ++ R))):=hbl.mono fun r h=>Ja (by simp [h]);have hbh3:InR (isl b.high) (Zja n.pipes :: Yma n.at_ :: (S2 ++ (S1 ++ R))):=hbh.mono fun r h=>Ja (by simp [h]);have hnl:=hn.length;refine Jw (K0b (e:=218) tb rfl zc rfl rfl rfl rfl rfl) rfl ?_;apply (Xc1);refine Jm [(5,.pointer _),(7,.slice _ _ _),(8,.slice _ _ _),(27,.slice _ _ _),(28,.int _ _),(29,.int _ _)] zh fun tq0=>?_;refine q_p ([10]++rg 29 55) ((⟨fun q=>[(29,.int .i64 ((q.1.1:Nat):Int))],fun q=>p.L 4 blc ++ ((⟨.own b20 a.mine.roads.l.length [],q.1.2⟩:OwL XSpan).L 90 XSpan.cells ++ (⟨b5,b.cells,214⟩ :: ⟨b4,s.cells,80⟩ :: ⟨b3,a.cells,32⟩ :: L)),fun _=>Zja n.pipes :: Yma n.at_ :: (S2 ++ (S1 ++ R)),fun q=>n.pipes.l.length - q.1.1⟩:Head {q:Nat×List XSpan // q.1≤n.pipes.l.length∧FlowTo a s b A n q.1 q.2})) (⟨(0,List.replicate a.mine.roads.l.length ⟨0,0⟩),by dsimp only;omega,FlowTo.zero a s b A n⟩) ?_;rintro ⟨⟨k,l⟩,w1,w2⟩ junk;try dsimp only
 dsimp only at w1 w2;have hll:=w2.len;have hkq:(⟨.own b20 a.mine.roads.l.length [],l⟩:OwL XSpan).ok 2 XSpan.cells:=by have:=U0 (f:=XSpan.cells) (wd:=2) (b:=b20) (n:=a.mine.roads.l.length) (x:=⟨0,0⟩) yf zB;exact OwL.len_ok yf this zla
 apply (Xaj);refine q_c ?_ ?_<;>intro hc1;·
  obtain ⟨P,hP⟩:=Kn (l:=n.pipes.l) (k:=k) za;have hPI:=InR.pipe hpp hP;obtain ⟨hPn,hPo⟩:=hn.open (yh hP);have hPs:=hn.pipe P (yh hP);have hPk:=Zmc hok hPn hPs;have hdr:Jbb P=Ky a s ((P.num.toNat:Nat):Int):=funext fun q=>by rw [Ysd hPs q,yma hPn.1]
  have hro:=hok.mine.road P.num.toNat _ zoc;have hr1:=hro.fr;have hr2:=hro.to;have hef:P.road.fr=(a.mine.roads.l.getD P.num.toNat default).fr:=by rw [hPs.road]
  have het:P.road.to=(a.mine.roads.l.getD P.num.toNat default).to:=by rw [hPs.road]
  have hAl:=hAA.length;have hpg:p.l[P.road.fr.toNat]?=some (!(A.getD P.road.fr.toNat false)):=by rw [hpl,yq,Jp (l:=A) (k:=P.road.fr.toNat) false za];rfl
  have g1:=Jp (l:=b.low.l) (k:=P.road.fr.toNat) 0 za;have g2:=Jp (l:=b.low.l) (k:=P.road.to.toNat) 0 za;have g3:=Jp (l:=b.high.l) (k:=P.road.fr.toNat) 0 za;have g4:=Jp (l:=b.high.l) (k:=P.road.to.toNat) 0 za;have e1:=hC.pl.get P.road.fr.toNat;have e2:=hC.pl.get P.road.to.toNat;have e3:=hC.ph.get P.road.fr.toNat;have e4:=hC.ph.get P.road.to.toNat;have hlg:=Jp (l:=l) (k:=P.num.toNat) default za;apply (qbb);refine Jw zD rfl ?_;apply qdx∘qaq;intro b10;apply Xa9∘qbm∘Xdc;refine Jw (Jo tb (p) _ rfl rfl rfl rfl zg (i:=P.road.fr.toNat) zk zp) rfl ?_;refine Jw zJb rfl ?_;apply (qaf);refine q_c ?_ ?_<;>intro hc2;·(have hrf:nothingS=Ua a s b A P.num.toNat:=by rw [Ua,if_neg (by rw [hPo];decide),← hef,if_neg zO]);apply qae∘Xbx∘qcd;refine Jw zSc rfl ?_;refine Vk (Uw tb ((⟨.own b20 a.mine.roads.l.length [],l⟩:OwL XSpan)) (nothingS) rfl rfl rfl rfl zj zg yf zg (yR rfl) zb zb) ?_;rintro v U J ⟨rfl,rfl⟩;refine J9 (Jb (K9 (Km (J6 (Jb (Jg ?_))))));apply (Xad);exact ubn
  have hrf:(⟨Ud (Jbb P) (b.low.l.getD P.road.fr.toNat 0 - b.high.l.getD P.road.to.toNat 0),K3 (Jbb P) (b.high.l.getD P.road.fr.toNat 0 - b.low.l.getD P.road.to.toNat 0)⟩:XSpan)=Ua a s b A P.num.toNat:=by rw [Ua,if_neg (by rw [hPo];decide),← hef,← het,if_pos zO,hdr]
  refine J5 (Jb ?_);refine J7 tb [] [0,1,2,3,4,5,6,7,8,9,10,11,12,13,14,15,16,17,18,20,21,22,23,24,25,26,27,28,29,30,31,32,33,34,35,19,36,37,38] [39] ([Blk.mk b10 _ _,Blk.mk b5 _ _]) _ Ko zc zi ye ?_;apply Xcw∘Kpg∘Xak∘Xdm∘Zkf∘qci∘Xak∘Xdm∘Y9f∘qci∘qcc∘Kpg∘Xak∘Xdm∘Zkf∘qci∘Xak∘Xdm∘Y9f∘qci∘qcc;refine K7 rfl (Jnb P (b.low.l.getD P.road.fr.toNat 0 - b.high.l.getD P.road.to.toNat 0) _ _ hPI hPk) rfl rfl ?_;rintro v U J ⟨rfl,rfl,rfl⟩;refine ⟨zi,zt,?_⟩;refine K7 rfl (Y7a P (b.high.l.getD P.road.fr.toNat 0 - b.low.l.getD P.road.to.toNat 0) _ _ hPI hPk) rfl rfl ?_;rintro v U J ⟨rfl,rfl,rfl⟩;refine ⟨zi,zt,?_⟩;apply (qcw);refine Ku zSc rfl rfl rfl rfl ?_;apply (qba);refine Ywa (Uw tb ((⟨.own b20 a.mine.roads.l.length [],l⟩:OwL XSpan)) (⟨Ud (Jbb P) (b.low.l.getD P.road.fr.toNat 0 - b.high.l.getD P.road.to.toNat 0),K3 (Jbb P) (b.high.l.getD P.road.fr.toNat 0 - b.low.l.getD P.road.to.toNat 0)⟩) rfl rfl rfl rfl zj zg yf zg (yR rfl) zb zb) rfl rfl ?_;rintro v U J ⟨rfl,rfl⟩;apply qa1∘Xc4;exact ubn
 obtain rfl:k=n.pipes.l.length:=by omega
 apply Xch∘Xci;refine q_r ((⟨.own b20 a.mine.roads.l.length [],l⟩:OwL XSpan).L 90 XSpan.cells ++ L) (Zja n.pipes :: Yma n.at_ :: (S2 ++ (S1 ++ R))) zhd ?_;exact ⟨(⟨.own b20 a.mine.roads.l.length [],l⟩:OwL XSpan),Zja n.pipes :: Yma n.at_ :: (S2 ++ S1),K6 hll,hkq,by rw [U5,if_pos hck];exact w2.done hn,rfl,by simp [yn]⟩
end
section
attribute [local irreducible] CJ LJ DJ Tri YV Gives Uq J2 Kj Ut RV J3 OwL.L
abbrev Jkc (x:Arr XSpan):Sl:=x.sl 2 XSpan.cells []
abbrev U4:XSetting:=⟨⟨none,0,[]⟩,⟨none,0,[]⟩⟩
end
section
def Tri.lendU {P : Program} {f : FuncId} {args : Array Value} {A : LB} {R S : LS} {u : Value}
 (hS:∀w,∀G:Nat→Prop,Holds (A ++ []) G R w→∀s∈S,Rep w (fun b=>G b∨∃e∈A,e.b=b) s)
 (h:Tri P f args [] (S ++ R) (fun v U J=>v=u∧[]=U∧S ++ R=J)):Tri P f args A R (fun v U J=>v=u∧A=U∧R=J):=by have h2:=Tri.lend (S:=S) (Post:=fun v U=>v=u∧[]=U) (Spl.rest (L:=A)) hS (h.mono fun v U J ⟨a1,a2,a3⟩=>⟨⟨a1,a2⟩,a3⟩);exact zYd
attribute [local irreducible] CJ LJ DJ Tri YV Gives Uq J2 Kj Ut RV J3 OwL.L
def Vme (x:Arr Int) (a:Int) (L:LB) (R:LS) (hx:InR (isl x) R):
 Tri Tryz.prog 235 [x.val,.int .i64 a].toArray L R (fun v U J=>∃r:Int,v=.int .i64 r∧(0≤r↔a∈x.l)∧L=U∧R=J):=by
 refine Jgb Tryz.call235 hx fun hcap=>?_;refine Je 19 Tryz.call235 Tryz.func235 rfl rfl rfl ?_;apply Xae∘qaw∘Xbr;refine Jm [(0,.slice _ _ _),(1,.int _ _),(7,.int _ _),(8,.int _ _)] zh fun tq0=>?_;refine q_s ([4,5]++rg 8 11) (fun g:{k:Nat // k≤x.l.length∧∀j:Nat,j < k→x.l.getD j 0≠a}=>[(8,.int .i64 ((g.1:Nat):Int))]) (fun g=>x.l.length - g.1) (⟨0,by omega,fun j hj=>by omega⟩) ?_;rintro ⟨k,hk,hal⟩ junk;try dsimp only
 apply (Xaj);refine q_c ?_ ?_<;>intro hc0;·
  have hg:=Jp (l:=x.l) (k:=k) 0 za;apply Xa1∘Xau∘Xaq;refine Jw zD rfl ?_;apply qa7∘Xbu;refine q_c ?_ ?_<;>intro hc1;·apply Xdv∘qbt;refine q_i L R ?_;exact ⟨k,rfl,⟨fun _=>by rw [hc1];exact yh hg,fun _=>by omega⟩,rfl,rfl⟩
  apply (Xaw);exact Ka (⟨k + 1,by omega,fun j hj=>by
  rcases yk j k with h | h;·exact hal j h
  ·(obtain rfl : j = k := by omega);exact fun h=>hc1 h.symm⟩) zm zh zi zAb zx
 apply (Xcq);refine q_i L R ?_;refine ⟨-1,rfl,⟨fun h=>by omega,fun h=>?_⟩,rfl,rfl⟩;obtain ⟨j,hj,rfl⟩:=yza h;have:=hal j za;rw [yi,yB hj] at this;exact absurd rfl this
def Yic (x:Arr Int) (a:Int) (L:LB) (R:LS) (hx:InR (isl x) R):
 Tri Tryz.prog 169 [x.val,.int .i64 a].toArray L R (fun v U J=>v=.bool (decide (a∈x.l))∧L=U∧R=J):=by refine Je 9 Tryz.call169 Tryz.func169 rfl rfl rfl ?_;apply Xbt∘qam∘Xaq;refine Jv rfl (Vme x a _ _ hx) rfl ?_;exact zRd
end
section
attribute [local irreducible] CJ LJ DJ Tri YV Gives Uq J2 Kj Ut RV J3 OwL.L
def K4e (m:XMine):∃A,AiryIs m A:=by refine ⟨(List.range (surf m).length).map fun i=>@decide (∃j:Nat,j < (surf m).length∧(surf m).getD j false=true∧Conn m j i) (Classical.propDecidable _),by simp,fun i hi=>?_⟩;rw [yi,yq,yL hi];exact ⟨fun h=>@of_decide_eq_true _ (Classical.propDecidable _) h,fun h=>@decide_eq_true _ (Classical.propDecidable _) h⟩
end
section
section
variable {a:XAir} {s:XSetting} {A:List Bool} {l m:List Int} {k:Nat} {v:Int}
def U5e (h0:PresOk l) (h:Kza a s true l k=some v):l.getD k 0≤v∧0≤Ugc a s (l.set k v) (k:Int)∧∀w,l.getD k 0≤w→w < v→Ugc a s (l.set k w) (k:Int) < 0:=by
 obtain ⟨d,d0,d1,dv,dg,dj⟩:=(Jhb (Yjb (h0.get k)).1 h).yes rfl;have e:∀x,Vfc a s true l (k:Int) x=Yzf a s l (k:Int) x:=fun x=>by rw [Vfc,if_pos rfl]
 rw [e,decide_eq_true_eq,yw] at dg;have es:sgn true=1:=rfl;rw [es] at dv dj;refine ⟨by omega,dg,fun w w1 w2=>?_⟩;have:=dj (w - l.getD k 0) za za;rw [show l.getD k 0 + 1 * (w - l.getD k 0)=w by omega,e,decide_eq_false_iff_not,yw] at this;omega
def Jqd (h0:PresOk l) (h:Kza a s false l k=some v):v≤l.getD k 0∧U1a a s (l.set k v) (k:Int)≤0∧∀w,w≤l.getD k 0→v < w→0 < U1a a s (l.set k w) (k:Int):=by
 obtain ⟨d,d0,d1,dv,dg,dj⟩:=(Jhb (Yjb (h0.get k)).1 h).yes rfl;have e:∀x,Vfc a s false l (k:Int) x=Kqd a s l (k:Int) x:=fun x=>by rw [Vfc,if_neg ze]
 rw [e,decide_eq_true_eq,yw] at dg;have es:sgn false= -1:=rfl;rw [es] at dv dj;refine ⟨by omega,dg,fun w w1 w2=>?_⟩;have:=dj (l.getD k 0 - w) za za;rw [show l.getD k 0 + -1 * (l.getD k 0 - w)=w by omega,e,decide_eq_false_iff_not,yw] at this;omega
end
def Jkb {a : XAir} {s : XSetting} {A : List Bool} {up : Bool} {l : List Int} : ∀ {n : Nat} {m : List Int}, Um a s A up l n = some m → ∀ k, k ≤ n → ∃ mk, Um a s A up l k = some mk ∧ ∀ j : Nat, j < k → m[j]? = mk[j]?
 | 0,m,h,k,hk=>by
  obtain rfl:k=0:=by omega
  exact ⟨m,h,fun j hj=>by omega⟩
 | n + 1,m,h,k,hk=>by
  rcases yk n k with h1 | h1
  ·obtain rfl : k = n + 1 := by omega
   exact ⟨m,h,fun _ _=>rfl⟩
  ·have h' := h
   rw [Um,yKa] at h'
   obtain ⟨m1,e1,e2⟩:=h'
   obtain ⟨mk,f1,f2⟩:=Jkb e1 k h1
   refine ⟨mk,f1,fun j hj=>?_⟩
   rw [← f2 j hj]
   split at e2
   ·cases e2;rfl
   ·obtain ⟨v, _, rfl⟩ := Option.map_eq_some_iff.1 e2
    rw [yba za]
def Uve {a:XAir} {s:XSetting} {A:List Bool} {up:Bool} {l:List Int} (hl:PresOk l) (hn:l.length=a.mine.places.l.length) (h:Um a s A up l a.mine.places.l.length=some l) {k:Nat} (hk:k < a.mine.places.l.length) (hf:¬ V3b a A k=true):Kza a s up l k=some (l.getD k 0):=by
 obtain ⟨m1,e1,e2⟩:=Jkb h (k + 1) za;have e1':=e1;rw [Um,yKa] at e1';obtain ⟨m0,f1,f2⟩:=e1';obtain ⟨m0',g1,g2⟩:=Jkb h k za;rw [f1] at g1;cases g1;have hS:=Zz hl f1;have em:m0=l:=yBa fun j=>by
  rcases yk j k with h1 | h1;·exact (g2 j h1).symm
  ·exact hS.rest j h1
 subst em;rw [if_neg hf] at f2;obtain ⟨v,hv,rfl⟩:=Option.map_eq_some_iff.1 f2;have:=e2 k za;rw [yH za,Jp (l:=m0) (k:=k) 0 za] at this;rw [hv,yG this]
structure Moved (a:XAir) (A:List Bool) (up:Bool) (l m:List Int):Prop where
 len:m.length=l.length
 le:∀j:Nat,if up=true then l.getD j 0≤m.getD j 0 else m.getD j 0≤l.getD j 0
 fix:∀j:Nat,V3b a A j=true→m.getD j 0=l.getD j 0
def Moved.refl {a:XAir} {A:List Bool} {up:Bool} {l:List Int}:Moved a A up l l:=⟨rfl,fun j=>by split <;> exact yz _,fun _ _=>rfl⟩
def Moved.trans {a:XAir} {A:List Bool} {up:Bool} {l m n:List Int} (h:Moved a A up l m) (k:Moved a A up m n):Moved a A up l n:=by
 refine ⟨k.len.trans h.len,fun j=>?_,fun j hj=>(k.fix j hj).trans (h.fix j hj)⟩;have h1:=h.le j;have h2:=k.le j;split at h1;·rename_i e;rw [if_pos e] at h2;rw [if_pos e];omega
 ·rename_i e;rw [if_neg e] at h2;rw [if_neg e];omega
def Ytb {a : XAir} {s : XSetting} {A : List Bool} {up : Bool} {l : List Int} (hl : PresOk l) : ∀ {n : Nat} {m : List Int}, n ≤ l.length → Um a s A up l n = some m → Moved a A up l m
 | 0,m,_,h=>by cases h;exact .refl
 | n + 1,m,hn,h=>by
  have h':=h
  rw [Um,yKa] at h'
  obtain ⟨m0,e1,e2⟩:=h'
  have ih:=Ytb hl za e1
  have hS:=Zz hl e1
  have hlen:=hS.len
  split at e2
  ·cases e2;exact ih
  ·rename_i hf
   obtain ⟨v,hv,rfl⟩:=Option.map_eq_some_iff.1 e2
   refine ih.trans ⟨by simp,fun j=>?_,fun j hj=>?_⟩
   ·rw [Z2 za]
    cases up with
    | true=>
     have:=(U5e hS.pres hv).1
     simp only [if_true]
     split
     ·rename_i e;subst e;exact this
     ·exact yz _
    | false=>
     have:=(Jqd hS.pres hv).1
     simp only [yyb,if_false]
     split
     ·rename_i e;subst e;exact this
     ·exact yz _
   ·rw [Z2 za,if_neg (fun e=>hf (by rw [← e];exact hj))]
def Zba {a : XAir} {s : XSetting} {A : List Bool} {up : Bool} : ∀ {n : Nat} {l m : List Int}, PresOk l → l.length = a.mine.places.l.length → Vi a s A up n l = some m → Moved a A up l m
 | 0,l,m,_,_,h=>by cases h
 | n + 1,l,m,hl,hn,h=>by
  rw [Vi] at h
  split at h
  ·cases h
  ·rename_i m1 h1
   have hs:=Zz hl h1
   have hm:=Ytb hl za h1
   split at h
   ·cases h;exact hm
   ·exact hm.trans (Zba hs.pres (hs.len.trans hn) h)
def Ubc {a:XAir} {s:XSetting} {A:List Bool} {n:Nat} {l m:List Int} {up:Bool} (hl:PresOk l) (hn:l.length=a.mine.places.l.length) (h:Vi a s A up n l=some m) {k:Nat} (hk:k < a.mine.places.l.length) (hf:¬ V3b a A k=true):
 if up=true then 0≤Ugc a s m (k:Int) else U1a a s m (k:Int)≤0:=by
 obtain ⟨h1,h2,h3⟩:=Yta hl h;have hx:=Uve h2 (h1.trans hn) h3 hk hf;cases up with
 | true=>have:=(U5e h2 hx).2.1;rw [Zia] at this;simpa using this
 | false=>have:=(Jqd h2 hx).2.1;rw [Zia] at this;simpa using this
def Y4a {a:XAir} {s:XSetting} {A:List Bool} {up:Bool} {ps:List Int} (h:StartOk a s ps A):(Ug a s A up ps).1=0∨(Ug a s A up ps).1=2:=by
 rw [Ug,if_neg (by rw [Uia.2 h];decide)];split;·exact .inr rfl
 ·exact .inl rfl
def StartOk.moved {a:XAir} {s:XSetting} {A:List Bool} {up:Bool} {l:List Int} (h:StartOk a s l A) {n:Nat} {m:List Int} (hm:Vi a s A up n l=some m):StartOk a s m A:=by obtain ⟨h1,h2,_⟩:=Yta h.hp hm;have h3:=Zba h.hp h.hl hm;exact ⟨h.h0,h.hf,h1.trans h.hl,h2,fun i hi hf=>(h3.fix i hf).trans (h.fix i hi hf)⟩
def Znd {a:XAir} {s:XSetting} {A:List Bool} (h0:Kx a=0) (hf:Uka a s=true):StartOk a s (List.replicate a.mine.places.l.length 0) A:=by
 refine ⟨h0,hf,by simp,fun p hp=>?_,fun i hi _=>?_⟩;·rw [(List.mem_replicate.1 hp).2];decide
 ·rw [yi, yC];split <;> rfl
structure Solved (a:XAir) (s:XSetting) (A:List Bool) (lo hi:List Int):Prop where
 lok:StartOk a s lo A
 hok:StartOk a s hi A
 le:∀i:Nat,lo.getD i 0≤hi.getD i 0
 low:∀i:Nat,i < a.mine.places.l.length→¬ V3b a A i=true→U1a a s lo (i:Int)≤0
 high:∀i:Nat,i < a.mine.places.l.length→¬ V3b a A i=true→0≤Ugc a s hi (i:Int)
def K7d {a:XAir} {s:XSetting} {A:List Bool} (h0:Kx a=0) (hf:Uka a s=true):((Yl a s A).1=0∧Solved a s A (Yl a s A).2.1 (Yl a s A).2.2)∨(Yl a s A).1=2:=by
 have s0:=Znd (A:=A) h0 hf;rw [Yl];dsimp only;rcases Y4a (up:=false) s0 with e1 | e1;·
  rw [if_neg za];obtain ⟨_,r1⟩:=Z9b e1;have s1:=s0.moved r1;rcases Y4a (up:=true) s1 with e2 | e2;·
   rw [if_neg za];obtain ⟨_,r2⟩:=Z9b e2;have s2:=s1.moved r2;rcases Y4a (up:=false) s2 with e3 | e3;·
    rw [if_neg za];obtain ⟨_,r3⟩:=Z9b e3;have s3:=s2.moved r3;left;refine ⟨rfl,s3,s2,fun i=>?_,fun i hi hn=>?_,fun i hi hn=>?_⟩;·have := (Zba s2.hp s2.hl r3).le i;simpa using this
    ·have := Ubc s2.hp s2.hl r3 hi hn;simpa using this
    ·have := Ubc s1.hp s1.hl r2 hi hn;simpa using this
   ·rw [if_pos za];exact .inr e3
  ·rw [if_pos za];exact .inr e2
 ·rw [if_pos za];exact .inr e1
def Solved.accept {a:XAir} {s:XSetting} {A:List Bool} {lo hi:List Int} (h:Solved a s A lo hi) {b:XBounds} (e1:b.low.l=lo) (e2:b.high.l=hi):Accept a s b A:=by
 refine ⟨⟨h.lok.h0,h.lok.hf,by rw [e1];exact h.lok.hl,by rw [e2];exact h.hok.hl,by rw [e1];exact h.lok.hp,by rw [e2];exact h.hok.hp⟩,fun i hi2 hf=>?_,fun i hi2 hf=>?_⟩;·rw [e1,e2];exact ⟨h.lok.fix i hi2 hf,h.hok.fix i hi2 hf⟩
 ·rw [e1,e2];exact ⟨h.high i hi2 hf,h.low i hi2 hf⟩
end
section
section
variable {a:XAir} {s:XSetting} {x:XState} (h:MadeA a s x)
include h
end
section
variable {a:XAir} {s:XSetting} {x:XState} (h:MadeA a s x)
include h
end
end
section
attribute [local irreducible] CJ LJ DJ Tri YV Gives Uq J2 Kj Ut RV J3 OwL.L
end
section
section
variable (b b':Nat)
end
end
section
attribute [local irreducible] CJ LJ DJ Tri YV Gives Uq J2 Kj Ut RV J3 OwL.L
end
section
structure XArc where
 road:Int
 fr:Int
 to:Int
 deriving DecidableEq,Inhabited
def XArc.cells (a:XArc):List Value:=[.int .i64 a.road,.int .i64 a.fr,.int .i64 a.to]
abbrev Vff (x:Arr XArc):Sl:=x.sl 3 XArc.cells []
def Uua (m:XMine) (fl:List XSpan) (i:Nat):List XArc:=
 if (m.roads.l.getD i default).closed=true then [] else
 (if 0 < (fl.getD i default).high then [(⟨i,(m.roads.l.getD i default).fr,(m.roads.l.getD i default).to⟩:XArc)] else []) ++ (if (fl.getD i default).low < 0 then [⟨i,(m.roads.l.getD i default).to,(m.roads.l.getD i default).fr⟩] else [])
def Una (m : XMine) (fl : List XSpan) : Nat → List XArc
 | 0=>[]
 | k + 1=>Una m fl k ++ Uua m fl k
abbrev Yse (m:XMine) (fl:List XSpan):List XArc:=Una m fl m.roads.l.length
def Kqc {m : XMine} {fl : List XSpan} {a : XArc} : ∀ {k : Nat}, a ∈ Una m fl k ↔ ∃ i : Nat, i < k ∧ a ∈ Uua m fl i
 | 0=>⟨fun h=>zH,fun ⟨i,h,_⟩=>za⟩
 | k + 1=>by
  rw [Una,yna,Kqc]
  refine ⟨fun h=>?_,fun ⟨i,h1,h2⟩=>?_⟩
  ·rcases h with ⟨i, h1, h2⟩ | h
   ·exact ⟨i,by omega,h2⟩
   ·exact ⟨k,by omega,h⟩
  ·rcases yk i k with h | h
   ·exact .inl ⟨i,h,h2⟩
   ·obtain rfl : i = k := by omega
    exact .inr h2
def Vfg (m:XMine) (fl:List XSpan) (i:Nat) (back:Bool):Bool:=
 !(m.roads.l.getD i default).closed && (if back=true then decide ((fl.getD i default).low < 0) else decide (0 < (fl.getD i default).high))
def U7g (m:XMine) (i:Nat) (back:Bool):Int:=if back=true then (m.roads.l.getD i default).to else (m.roads.l.getD i default).fr
def Vgg (m:XMine) (i:Nat) (back:Bool):Int:=if back=true then (m.roads.l.getD i default).fr else (m.roads.l.getD i default).to
def K7c {m:XMine} {fl:List XSpan} {a:XArc} {i:Nat}:a∈Uua m fl i↔∃back,Vfg m fl i back=true∧a=⟨i,U7g m i back,Vgg m i back⟩:=by
 unfold Uua Vfg U7g Vgg;constructor;·
  intro h;split at h;·cases h
  ·
   rename_i hc;rcases List.mem_append.1 h with h | h;·
    split at h;·rename_i h1;exact ⟨false,by rw [if_neg ze,yo,decide_eq_true_eq];exact ⟨by simpa using hc,h1⟩,by simpa using h⟩
    ·cases h
   ·
    split at h;·rename_i h1;exact ⟨true,by rw [if_pos rfl,yo,decide_eq_true_eq];exact ⟨by simpa using hc,h1⟩,by simpa using h⟩
    ·cases h
 ·
  rintro ⟨back, h, rfl⟩;cases back with
  | false=>simp only [yyb,if_false,yo,yPa,decide_eq_true_eq] at h;rw [if_neg (by rw [h.1];decide),if_pos h.2];simp
  | true=>simp only [if_true,yo,yPa,decide_eq_true_eq] at h;rw [if_neg (by rw [h.1];decide),if_pos h.2];simp
def Vfe {m:XMine} {fl:List XSpan} {a:XArc}:a∈Yse m fl↔∃(i:Nat) (back:Bool),i < m.roads.l.length∧Vfg m fl i back=true∧a=⟨i,U7g m i back,Vgg m i back⟩:=by rw [Yse,Kqc];exact ⟨fun ⟨i,h1,h2⟩=>let ⟨b,h3,h4⟩:=K7c.1 h2;⟨i,b,h1,h3,h4⟩,fun ⟨i,b,h1,h3,h4⟩=>⟨i,h1,K7c.2 ⟨b,h3,h4⟩⟩⟩
def Wy (m:XMine) (l:List XArc) (w:Int) (u v:Nat):Prop:=∃a∈l,a.road≠w∧a.fr=(u:Int)∧a.to=(v:Int)∧(m.places.l.getD v default).surface=false
inductive Goes (m : XMine) (l : List XArc) (w : Int) (u : Nat) : Nat → Prop
 | refl:Goes m l w u u
 | tail {v x:Nat} (h:Goes m l w u v) (k:Wy m l w v x):Goes m l w u x
def Goes.closed {m:XMine} {l:List XArc} {w:Int} {P:Nat→Prop} (hP:∀u v,P u→Wy m l w u v→P v) {u v:Nat} (h:Goes m l w u v) (hu:P u):P v:=by
 induction h with
 | refl=>exact hu
 | tail _ s ih=>exact hP _ _ ih s
structure SprIs (m:XMine) (l:List XArc) (w:Int) (seen out:List Bool):Prop where
 len:out.length=seen.length
 iff:∀i:Nat,i < seen.length→(out.getD i false=true↔∃j:Nat,j < seen.length∧seen.getD j false=true∧Goes m l w j i)
structure SprTo (m:XMine) (l:List XArc) (w:Int) (seen out:List Bool):Prop where
 len:out.length=seen.length
 sub:∀i:Nat,seen.getD i false=true→out.getD i false=true
 goes:∀i:Nat,out.getD i false=true→∃j:Nat,j < seen.length∧seen.getD j false=true∧Goes m l w j i
section
variable {m:XMine} {l:List XArc} {w:Int} {seen out:List Bool}
def SprTo.init:SprTo m l w seen seen:=⟨rfl,fun _ h=>h,fun i h=>⟨i,Vwf h,h,.refl⟩⟩
def SprTo.next (h:SprTo m l w seen out) {u v:Nat} (hs:Wy m l w u v) (hu:out.getD u false=true) (hv:v < out.length):SprTo m l w seen (out.set v true):=by
 refine ⟨by simp [h.len],fun i hi=>?_,fun i hi=>?_⟩;·
  rw [Y3a hv];split;·rfl
  ·exact h.sub i hi
 ·
  rw [Y3a hv] at hi;split at hi;·rename_i e;obtain ⟨j,h1,h2,h3⟩:=h.goes u hu;exact ⟨j,h1,h2,by rw [e];exact h3.tail hs⟩
  ·exact h.goes i hi
def SprTo.done (h:SprTo m l w seen out) (hr:∀u v:Nat,Wy m l w u v→out.getD u false=true→out.getD v false=true):SprIs m l w seen out:=
 ⟨h.len,fun i _=>⟨h.goes i,fun ⟨j,_,h2,h3⟩=>Goes.closed (P:=fun x=>out.getD x false=true) (fun u v hu hs=>hr u v hs hu) h3 (h.sub j h2)⟩⟩
end
def J2e (n v:Nat):List Bool:=(List.replicate n false).set v true
def Vld {n v i:Nat} (hv:v < n):(J2e n v).getD i false=true↔i=v:=by
 rw [J2e,Y3a (by simp;exact hv)];split;·rename_i e;exact ⟨fun _=>e,fun _=>rfl⟩
 ·rename_i e;rw [yi,yC];refine ⟨fun h=>?_,fun h=>absurd h e⟩;split at h <;> simp at h
def Vzf {m:XMine} {l:List XArc} {w:Int} {n u v:Nat} {out:List Bool} (h:SprIs m l w (J2e n v) out) (hv:v < n) (hu:u < n):out.getD u false=true↔Goes m l w v u:=by
 have hl:(J2e n v).length=n:=by simp [J2e]
 refine (h.iff u za).trans ⟨fun ⟨j,_,h2,h3⟩=>?_,fun h3=>⟨v,by omega,(Vld hv).2 rfl,h3⟩⟩;rw [(Vld hv).1 h2] at h3;exact h3
def Uof (m:XMine) (l:List XArc) (a:XArc):Prop:=(m.places.l.getD a.fr.toNat default).surface=false∧(m.places.l.getD a.to.toNat default).surface=false∧Goes m l a.road a.to.toNat a.fr.toNat
structure OnTo (m:XMine) (l:List XArc) (k:Nat) (M:List XArc):Prop where
 sub:M.Sublist (l.take k)
 iff:∀a:XArc,a∈M↔a∈l.take k∧Uof m l a
def OnTo.zero {m:XMine} {l:List XArc}:OnTo m l 0 []:=⟨ykc _,fun a=>⟨fun h=>zH,fun h=>(by simp at h)⟩⟩
def Kzb {α:Type} {l:List α} {k:Nat} {x:α} (h:l[k]?=some x):l.take (k + 1)=l.take k ++ [x]:=by rw [yfa,h];rfl
def OnTo.yes {m:XMine} {l:List XArc} {k:Nat} {M:List XArc} {a:XArc} (h:OnTo m l k M) (ha:l[k]?=some a) (hc:Uof m l a):OnTo m l (k + 1) (M ++ [a]):=by
 refine ⟨by rw [Kzb ha];exact h.sub.append_right _,fun x=>?_⟩;rw [Kzb ha,yna,yna,h.iff,ykb];refine ⟨fun h1=>?_,fun ⟨h1,h2⟩=>?_⟩;·
  rcases h1 with h1 | h1;·exact ⟨.inl h1.1,h1.2⟩
  ·exact ⟨.inr h1,by rw [h1];exact hc⟩
 ·
  rcases h1 with h1 | h1;·exact .inl ⟨h1,h2⟩
  ·exact .inr h1
def OnTo.no {m:XMine} {l:List XArc} {k:Nat} {M:List XArc} {a:XArc} (h:OnTo m l k M) (ha:l[k]?=some a) (hc:¬ Uof m l a):OnTo m l (k + 1) M:=by
 refine ⟨by rw [Kzb ha];exact h.sub.trans (yGa _ _),fun x=>?_⟩;rw [Kzb ha,yna,h.iff,ykb];refine ⟨fun h1=>⟨.inl h1.1,h1.2⟩,fun ⟨h1,h2⟩=>?_⟩;rcases h1 with h1 | h1;·exact ⟨h1,h2⟩
 ·rw [h1] at h2;exact absurd h2 hc
end
end Go.Proofs.YtchfclmokpbldaaGreat
