/-
  Merged texts. By an AI agent.
-/
import Derived.Test.YtchfclmokpbldaaGreatSiteS
import Derived.Test.YtchfclmokpbldaaGreatRuleP
import Derived.Test.YtchfclmokpbldaaGreatSiteD
import Derived.Test.YtchfclmokpbldaaGreatAwakeP
import Derived.Test.YtchfclmokpbldaaGreatRestP
import Derived.Test.YtchfclmokpbldaaGreatCircS
import Derived.Test.YtchfclmokpbldaaGreatStatM
import Derived.Test.YtchfclmokpbldaaGreatWinR
import Derived.Test.YtchfclmokpbldaaGreatCongrS
import Derived.Test.YtchfclmokpbldaaGreatStaD
import Derived.Test.YtchfclmokpbldaaGreatTelF
import Derived.Test.YtchfclmokpbldaaGreatGasM
set_option linter.all false
set_option maxHeartbeats 4000000
set_option maxRecDepth 20000
namespace Go.Proofs.YtchfclmokpbldaaGreat
open Go.Aw Go
section
def Vr (roads:List Int):List XSpan:=(List.range roads.length).map fun k=>⟨0,roads.getD k 0⟩
attribute [local irreducible] CJ LJ DJ Tri YV Gives Uq J2 Kj Ut RV J3 OwL.L
def Yyc (r : Arr Int) (s : Arr XSens) (m : Arr XMeas) (t : Int) (L : LB) (R : LS) (hr : InR (isl r) R) (hs : InR (Jbe s) R) (hm : InR (Yu m) R)
 (hrn:r.l.length≤1000) (hsn:s.l.length≤1000) (hmn:m.l.length≤1000) (hok:∀x∈m.l,K5a x) (ht:0≤t∧t≤2147483648):
 Tri Tryz.prog 72 [r.val, s.val, m.val, .int .i64 t].toArray L R
  (fun w U J=>∃(p:OwL XSpan) (q:OwL Int),w=.tuple #[p.val,q.val]∧(p.ok 2 XSpan.cells∧q.ok 1 Jj)∧p.l=(Ycc (Vr r.l) ⟨0,1000000⟩ 1 s.l m.l t).out∧q.l=Yfa (Ycc (Vr r.l) ⟨0,1000000⟩ 1 s.l m.l t).bad s.l.length∧q.L 3 Jj ++ (p.L 90 XSpan.cells ++ L)=U∧∀r∈R,InR r J):=by
 refine Je 37 Tryz.call72 Tryz.func72 rfl rfl rfl ?_;apply qae∘Xbp∘qam∘Xap∘qc7;rintro v U J ⟨b15,rfl,rfl,hR15⟩;replace hR15:=hR15.symm;subst hR15;apply (Xdd);refine U2 zCc ?_;apply qay∘Xbr;refine Jm [(1,.slice _ _ _),(2,.slice _ _ _),(3,.int _ _),(10,.slice _ _ _),(16,.slice _ _ _),(17,.int _ _),(18,.int _ _)] zh fun tq0=>?_;refine q_p ([11,12]++rg 18 11) ((⟨fun g=>[(18,.int .i64 ((g.1.1:Nat):Int))],fun g=>(⟨.own b15 r.l.length [],g.1.2⟩:OwL XSpan).L 90 XSpan.cells ++ L,fun _=>R,fun g=>r.l.length - g.1.1⟩:Head {g:Nat×List XSpan // g.1≤r.l.length∧WrTo r.l.length ⟨0,0⟩ (fun k=>(⟨0,r.l.getD k 0⟩:XSpan)) g.1 g.2})) (⟨(0,List.replicate r.l.length ⟨0,0⟩),by dsimp only;omega,.zero⟩) ?_;rintro ⟨⟨k,l⟩,w1,w2⟩ junk;try dsimp only
 dsimp only at w1 w2;have hll:=w2.len;have hkq:(⟨.own b15 r.l.length [],l⟩:OwL XSpan).ok 2 XSpan.cells:=by have:=U0 (f:=XSpan.cells) (wd:=2) (b:=b15) (n:=r.l.length) (x:=⟨0,0⟩) yf zB;exact OwL.len_ok yf this zla
 apply (Xaj);refine q_c ?_ ?_<;>intro hc0;·have hfg:=Jp (l:=r.l) (k:=k) 0 za;have hlg:=w2.non k (ym _) za;apply (Xa1);refine Jw zD rfl ?_;apply qa7∘qad∘qad;refine J9 (Jb (Jg ?_));apply Xaq∘qaa;refine Jw (Jo tb ((⟨.own b15 r.l.length [],l⟩:OwL XSpan)) _ rfl rfl ((show _=Value.slice _ _ _ from rfl).trans (K6 hll)) rfl zg (i:=k) zk zp) rfl ?_;apply (qb0);refine Vk (Jn tb ((⟨.own b15 r.l.length [],l⟩:OwL XSpan)) (⟨0,r.l.getD k 0⟩) rfl rfl rfl rfl zj zg yf zg ze zb zb) ?_;rintro v U J ⟨rfl,rfl⟩;apply (Xa4);exact q_k ⟨(k + 1,l.set k ⟨0,r.l.getD k 0⟩),by dsimp only;omega,w2.next za rfl⟩
 obtain rfl:k=r.l.length:=by omega
 have hle:l=Vr r.l:=w2.done;apply (qc3);refine Vg (A:=[]) (wd:=2) [] yf ze hkq yg ?_;refine U2 zfa ?_;rw [show (Value.slice (some ⟨b15,0,none⟩) r.l.length r.l.length)=(⟨.own b15 r.l.length [],l⟩:OwL XSpan).arr.val by simp only [OwL.arr,Arr.val,Ow.addr,Ow.cap,hll]];have hlR:InR (Jkc (⟨.own b15 r.l.length [],l⟩:OwL XSpan).arr) (Jkc (⟨.own b15 r.l.length [],l⟩:OwL XSpan).arr :: R):=Ja (.head _);apply (Xcj);refine Jw (J8 (qs:=[(1,(Value.int _ _).cells.toList)]) (out:=[_,_]) tb rfl rfl rfl rfl) rfl ?_;apply qbm∘Xaq;refine Jv rfl (Uac (⟨.own b15 r.l.length [],l⟩:OwL XSpan).arr ⟨0,1000000⟩ 1 t s m _ _ hlR (hs.mono fun r hr=>Ja (.tail _ hr)) (hm.mono fun r hr=>Ja (.tail _ hr)) (show l.length≤1000 by omega) hsn hmn hok ht) rfl ?_;rintro v U J ⟨p,q,rfl,⟨hpk,hqk⟩,hpl,hql,rfl,rfl⟩;apply Xba∘Xbp∘qa0;refine q_r (q.L 3 Jj ++ (p.L 90 XSpan.cells ++ L)) (Jkc (⟨.own b15 r.l.length [],l⟩:OwL XSpan).arr :: R) (U3 rfl zRc zRc) ?_;exact ⟨p,q,rfl,⟨hpk,hqk⟩,by rw [hpl,← hle],by rw [hql,← hle],rfl,fun r hr=>Ja (.tail _ hr)⟩
end
section
def Wd (x y:XSpan):Prop:=x.low≤x.high∧y.low≤x.low∧x.high≤y.high
structure MLoose (m m':XMeas):Prop where
 sensor:m'.sensor=m.sensor
 time:m'.time=m.time
 span:m'=m∨(Wd m.span m'.span∧(-1000000000≤m'.span.low∧m'.span.high≤1000000000))
section
variable {S:List XSens} {m m':List XMeas} {fl fl':List XSpan} {c:XCond} {w:XWatch} {t:Int} (hl:m'.length=m.length) (h:∀i:Nat,i < m.length→MLoose (m.getD i default) (m'.getD i default)) (hfl:fl'.length=fl.length) (hf:∀i:Nat,i < fl.length→Wd (fl.getD i default) (fl'.getD i default))
include hl h
include hfl hf
end
end
section
attribute [local irreducible] CJ LJ DJ Tri YV Gives Uq J2 Kj Ut RV J3 OwL.L
end
section
section
variable {P:Program} {ρ:Operand→Value} {L:LB} {R:LS} {dst:Option Tmp} {ty:TypeId} {pos:String} {after:Array Edge} {guard:Option (Nat×Bool)} {T T2:TypeId} {x y z:Operand} {a b c:Int} {k:IntKind}
end
attribute [local irreducible] CJ LJ DJ Tri YV Gives Uq J2 Kj Ut RV J3 OwL.L
end
section
attribute [local irreducible] CJ LJ DJ Tri YV Gives Uq J2 Kj Ut RV J3 OwL.L
end
section
def V4e (fl:List Int) (l:List XSpan):Prop:=∀k:Nat,k < fl.length→(l.getD k default).low≤fl.getD k 0∧fl.getD k 0≤(l.getD k default).high
def ana_holds {a:XAir} {s:XSetting} {x:XState} {A:List Bool} (h0:Kx a=0) (hf:Uka a s=true) (hA:AiryIs a.mine A) (hF:FitsF a s x):V4e x.flows.l (K3b a s A).2:=fun k hk=>by
 have hn:=hF.flen
 have hk':k < a.mine.roads.l.length:=by omega
 have hg:=Jp (l:=x.flows.l) (k:=k) 0 hk
 have hq:=hF.flow _ (yh hg)
 rcases (Yyd h0 hf hA).2 with ⟨hac,hle,e⟩ | e
 ·rw [e, yi (l := (List.range a.mine.roads.l.length).map (Ua a s (Yda a s A) A)), yq, yL hk']
  exact hac.flows hF hA hk'
 ·rw [e, yi (l := (List.range a.mine.roads.l.length).map (Yf a)), yq, yL hk']
  show (Yf a k).low≤_∧_≤(Yf a k).high
  rw [Yf]
  split
  ·rename_i hc
   rw [hF.shut hk' hc];decide
  ·simp only [nothingS];omega
end
section
def Yde {s:XSens} {m:XMeas} {t q:Int} (h:m.span.low≤q∧q≤m.span.high) (hq:-1048576≤q∧q≤1048576) (hk:s.kind≠3→0≤q):(atS s m t).low≤q∧q≤(atS s m t).high:=by
 rw [atS];split;·simp only [nothingS];omega
 ·
  rename_i hg;have hb:=Zqb hg;split;·exact h
  ·
   split;·rw [U7e]; dsimp only;have:=hk za;omega
   ·rw [U7e];dsimp only;omega
attribute [local irreducible] CJ LJ DJ Tri YV Gives Uq J2 Kj Ut RV J3 OwL.L
end
section
attribute [local irreducible] CJ LJ DJ Tri YV Gives Uq J2 Kj Ut RV J3 OwL.L
section
variable {A B:Prop}
def Zye(h:A→B:=by exact Jw zvb rfl):=h
end
def Vgc (s:XSens) (r:Int) (L:LB) (R:LS) (hr0:-1000000≤r∧r≤1000000):
 Tri Tryz.prog 71 [s.val,.int .i64 r].toArray L R (fun v U J=>v=(Vn s r).val∧L=U∧R=J):=by
 refine Je 12 Tryz.call71 Tryz.func71 rfl rfl rfl ?_;apply (Xaf);intro b2;apply (qaq);intro b4;apply qaw∘Zye;refine q_l rfl (Z0 s _ _) ?_;apply (Xat);refine q_c ?_ ?_<;>intro hc0;·apply (qae);refine q_l rfl (Ub _ _) ?_;apply (Xdb);refine q_r L R zQc ?_;exact ⟨by rw [Vn,if_pos (.inl hc0)],rfl,rfl⟩
 have hE:Uo s=0:=by omega
 apply qbv∘Zye∘qaa;refine q_l rfl (Vpa s r _ _ hE hr0) ?_;apply (Xbl);refine q_r L R zQc ?_;exact zDd
def J3e (s:XSens) (q r:Int):Prop:=Vn s r≠nothingS∧(Vn s r).low≤q∧q≤(Vn s r).high
structure RawIs (s:XSens) (q r:Int) (ok:Bool):Prop where
 err:ok=true→Uo s=0
 rng:0≤r∧r≤65535
 hit:ok=true→J3e s q r
 miss:ok=false→Uo s=0→∀z:Int,0≤z→z≤65535→¬ J3e s q z
def K7f {s:XSens} {q z:Int} (h1:¬ ((Vn s z).low=nothingS.low∧(Vn s z).high=nothingS.high)) (h2:(Vn s z).low≤q) (h3:q≤(Vn s z).high):J3e s q z:=⟨fun e=>h1 (by rw [e];exact ⟨rfl,rfl⟩),h2,h3⟩
def Yue {s:XSens} {q z:Int} (h:(Vn s z).low=nothingS.low∧(Vn s z).high=nothingS.high) (k:J3e s q z):False:=k.1 (by rcases e:Vn s z with ⟨a,b⟩;rw [e] at h;rcases e2:nothingS with ⟨c,d⟩;rw [e2] at h;exact congr (congrArg XSpan.mk h.1) h.2)
def Zla {s:XSens} {q z:Int} (h:∀y:Int,0≤y→y < z→¬ J3e s q y) (hh:¬ J3e s q z):∀y:Int,0≤y→y < z + 1→¬ J3e s q y:=fun y h1 h2=>by
 rcases yla y z with h3 | h3
 ·exact h y h1 h3
 ·obtain rfl : y = z := by omega
  exact hh
def J5d (s:XSens) (q:Int) (L:LB) (R:LS):
 Tri Tryz.prog 42 [s.val,.int .i64 q].toArray L R (fun v U J=>∃(r:Int) (ok:Bool),v=.tuple #[.int .i64 r,.bool ok]∧RawIs s q r ok∧L=U∧R=J):=by
 refine Je 34 Tryz.call42 Tryz.func42 rfl rfl rfl ?_;apply (Xaf);intro b2;apply Xa7∘qaw∘Zye;refine q_l rfl (Z0 s _ _) ?_;apply (Xat);refine q_c ?_ ?_<;>intro hc0;·apply Xae∘qaz∘qbh;refine q_r L R zgd ?_;exact ⟨0,false,rfl,⟨(fun h=>by cases h),⟨by decide,by decide⟩,(fun h=>by cases h),fun _ h=>absurd h hc0⟩,rfl,rfl⟩
 have hE:Uo s=0:=by omega
 apply qbo∘Xbq;refine Jm [(1,.int _ _),(2,.pointer _),(6,.int _ _)] zh fun tq0=>?_;refine q_s ([4,5,6,7]++rg 11 23) (fun g:{z:Int // (0≤z∧z≤65536)∧∀y:Int,0≤y→y < z→¬ J3e s q y}=>[(6,.int .i64 g.1)]) (fun g=>(65536 - g.1).toNat) (⟨0,⟨by decide,by decide⟩,fun y h1 h2=>by omega⟩) ?_;rintro ⟨z,hz,hno⟩ junk;try dsimp only
 apply Xa6∘qbx∘qaf;refine q_c ?_ ?_<;>intro hc1;·
  apply qbb∘Zye∘qaa;refine q_l rfl (Vpa s z _ _ hE za) ?_;apply (qaq);intro b7;apply (Xcp);refine Ke tb [0,1,2,3,4,5,6,7,8,9,10,11,12,13,14] _ Ko zc ye ?_;apply (qbd);refine q_d rfl (Ub _ _) ?_;refine Ks (Ubd Uye rfl rfl) rfl rfl rfl ?_;apply (qb2);refine U1 (k:=21) zmb (fun hg3=>?_) (fun hg3=>?_);·replace hg3:=qb hg3;apply (Xby);refine Ks (Ywc rfl rfl) rfl rfl rfl ?_;exact uav
  replace hg3:=qb hg3;iterate 4 apply (qap)
  exact uav
 apply qbk∘Xa7∘qa0;refine q_r L R zgd ?_;exact ⟨0,false,rfl,⟨(fun h=>by cases h),⟨by decide,by decide⟩,(fun h=>by cases h),fun _ _ y h1 h2=>hno y h1 za⟩,rfl,rfl⟩
end
section
end
section
def V6e {m:XMine} {fl:List XSpan} {inf rd:List Int} {i:Nat} {f v q:Int} (h:K0f m fl inf rd i) (hc:(m.roads.l.getD i default).closed=false) (hf:(fl.getD i default).low≤f∧f≤(fl.getD i default).high) (h0:f≠0) (hq:q=max f (-f)) (hv:0≤v∧v≤1000000) (hi:v≤inf.getD i 0):0≤v / q∧v / q≤rd.getD i 0∧v / q≤v:=by
 obtain ⟨a,ha,hr⟩:=h hc za;have hq0:0 < q:=by omega
 have h1:=ha.le f hf h0;rw [← hq] at h1;have h2:=Vvc hv.1 hq0;have h3:v / q≤inf.getD i 0 / q:=ymc hq0 hi;omega
def Kaa (i:Int):XSens:=⟨0,1,i,0,1000,1,500,40⟩
def Y2d {i:Int} (h:0≤i):Uo (Kaa i)=0:=by rw [Uo,if_neg (by simp [Kaa]),if_pos (by unfold Zt;simp only [Kaa];omega)]
def Uif {i v:Int} (h:0≤i) (hv:0≤v∧v≤65535):J3e (Kaa i) v v:=by
 have e:Vn (Kaa i) v=⟨max (Zad (Kaa i) v).low 0,max (Zad (Kaa i) v).high 0⟩:=by rw [Vn,if_neg (by rw [Y2d h];omega),if_neg (by simp [Kaa]),if_pos (.inl rfl)]
 have e1:(Zad (Kaa i) v).low=v - 1:=by simp only [Zad,Kaa];omega
 have e2:(Zad (Kaa i) v).high=v + 1:=by simp only [Zad,Kaa];omega
 rw [J3e,e,e1,e2];refine ⟨fun k=>?_,by dsimp only;omega,by dsimp only;omega⟩;have:=congrArg XSpan.low k;simp only [nothingS] at this;omega
def Zec (rd:List Int):(Vr rd).length=rd.length:=by simp [Vr]
def Uke {rd:List Int} {i:Nat} {s:XSens} {m:XMeas} {t v:Int} (hi:i < rd.length) (hk:s.kind=1) (ht:s.target=(i:Int)) (hm:m.sensor=0) (hv:m.span.low≤v∧v≤m.span.high) (h0:0≤v∧v≤rd.getD i 0) (hr:rd.getD i 0≤1000000):
 (Ycc (Vr rd) ⟨0,1000000⟩ 1 [s] [m] t).out.length=rd.length∧Yfa (Ycc (Vr rd) ⟨0,1000000⟩ 1 [s] [m] t).bad 1=[]∧((Ycc (Vr rd) ⟨0,1000000⟩ 1 [s] [m] t).out.getD i default).low≤v∧v≤((Ycc (Vr rd) ⟨0,1000000⟩ 1 [s] [m] t).out.getD i default).high:=by
 have hl:=Zec rd;have hg:(Vr rd).getD i default=⟨0,rd.getD i 0⟩:=by rw [Vr,yi,yq,yL hi];rfl
 have hS:([s]:List XSens).getD m.sensor.toNat default=s:=by rw [hm];rfl
 have ha:=Yde (s:=s) (m:=m) (t:=t) hv za (fun _=>h0.1);obtain ⟨st,hst⟩:∃st:NarSt,st=⟨Vr rd,List.replicate (Vr rd).length false,[false]⟩:=⟨_,rfl⟩;have e:Ycc (Vr rd) ⟨0,1000000⟩ 1 [s] [m] t=Zn (Vr rd).length 1 ⟨0,1000000⟩ t [s] st m:=by rw [hst];rfl
 have hN:Jye st [s] t m=Yxa ⟨0,rd.getD i 0⟩ (atS s m t):=by rw [Jye,hS,ht,yw,← hg,hst]
 have hF:Jtd (Vr rd).length 1 [s] m:=⟨by rw [hm];simp,by rw [hS];exact hk,by rw [hS,ht];omega,by rw [hS,ht,hl];omega⟩;have hG:st.gone.getD (([s]:List XSens).getD m.sensor.toNat default).target.toNat false=false:=by rw [hS,ht,yw,hst];show (List.replicate _ false).getD i false=false;rw [yi,yC];split <;> rfl
 have hy:(Yxa ⟨0,rd.getD i 0⟩ (atS s m t)).low≤v∧v≤(Yxa ⟨0,rd.getD i 0⟩ (atS s m t)).high:=by rw [Yxa];dsimp only;omega
 rw [e,Zn,if_neg (fun h=>h ⟨hF,hG⟩),hN,if_pos za,hS,ht,yw,hst];refine ⟨by simp [hl],rfl,?_⟩;dsimp only;have e2:((Vr rd).set i (Yxa ⟨0,rd.getD i 0⟩ (atS s m t))).getD i default=Yxa ⟨0,rd.getD i 0⟩ (atS s m t):=by rw [yi,yH za];rfl
 rw [e2];exact hy
end
end Go.Proofs.YtchfclmokpbldaaGreat
