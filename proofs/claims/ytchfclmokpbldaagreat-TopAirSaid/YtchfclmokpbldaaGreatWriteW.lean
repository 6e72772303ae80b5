/-
  Merged texts. By an AI agent.
-/
import Derived.Test.YtchfclmokpbldaaGreatStaD
import Derived.Test.YtchfclmokpbldaaGreatTrueP
import Derived.Test.YtchfclmokpbldaaGreatTelF
set_option linter.all false
set_option maxHeartbeats 4000000
set_option maxRecDepth 20000
namespace Go.Proofs.YtchfclmokpbldaaGreat
open Go.Aw Go
section
attribute [local irreducible] CJ LJ DJ Tri YV Gives U5 J2 Kn U6 RV J4 OwL.L
section
variable {A B:Prop}
def U7g(h:A→B:=by exact Jy zAb rfl):=h
end
def Kze (s:XSens) (q r:Int):Prop:=Yk s r≠nothingS∧(Yk s r).low≤q∧q≤(Yk s r).high
structure RawIs (s:XSens) (q r:Int) (ok:Bool):Prop where
 err:ok=true→Uv s=0
 rng:0≤r∧r≤65535
 hit:ok=true→Kze s q r
 miss:ok=false→Uv s=0→∀z:Int,0≤z→z≤65535→¬ Kze s q z
def Uhf {s:XSens} {q z:Int} (h1:¬ ((Yk s z).low=nothingS.low∧(Yk s z).high=nothingS.high)) (h2:(Yk s z).low≤q) (h3:q≤(Yk s z).high):Kze s q z:=⟨fun e=>h1 (by rw [e];exact ⟨rfl,rfl⟩),h2,h3⟩
def J7f {s:XSens} {q z:Int} (h:(Yk s z).low=nothingS.low∧(Yk s z).high=nothingS.high) (k:Kze s q z):False:=k.1 (by rcases e:Yk s z with ⟨a,b⟩;rw [e] at h;rcases e2:nothingS with ⟨c,d⟩;rw [e2] at h;exact congr (congrArg XSpan.mk h.1) h.2)
def Z3a {s:XSens} {q z:Int} (h:∀y:Int,0≤y→y < z→¬ Kze s q y) (hh:¬ Kze s q z):∀y:Int,0≤y→y < z + 1→¬ Kze s q y:=fun y h1 h2=>by
 rcases yla y z with h3 | h3
 ·exact h y h1 h3
 ·obtain rfl : y = z := by omega
  exact hh
def Vxd (s:XSens) (q:Int) (L:LB) (R:LS):
 Tri Tryz.prog 42 [s.val,.int .i64 q].toArray L R (fun v U J=>∃(r:Int) (ok:Bool),v=.tuple #[.int .i64 r,.bool ok]∧RawIs s q r ok∧L=U∧R=J):=by
 refine Je 34 Tryz.call42 Tryz.func42 rfl rfl rfl ?_;apply (Xaf);intro b2;apply Xb6∘qaw∘U7g;refine q_l rfl (Kza s _ _) ?_;apply (Xat);refine q_c ?_ ?_<;>intro hc0;·apply Xae∘qaz∘qbh;refine q_r L R zAd ?_;exact ⟨0,false,rfl,⟨(fun h=>by cases h),⟨by decide,by decide⟩,(fun h=>by cases h),fun _ h=>absurd h hc0⟩,rfl,rfl⟩
 have hE:Uv s=0:=by omega
 apply qbo∘Xbf;refine Jm [(1,.int _ _),(2,.pointer _),(6,.int _ _)] zh fun tq0=>?_;refine q_s ([4,5,6,7]++rg 11 23) (fun g:{z:Int // (0≤z∧z≤65536)∧∀y:Int,0≤y→y < z→¬ Kze s q y}=>[(6,.int .i64 g.1)]) (fun g=>(65536 - g.1).toNat) (⟨0,⟨by decide,by decide⟩,fun y h1 h2=>by omega⟩) ?_;rintro ⟨z,hz,hno⟩ junk;try dsimp only
 apply Xa3∘qbx∘qaf;refine q_c ?_ ?_<;>intro hc1;·
  apply qbb∘U7g∘qaa;refine q_l rfl (Kyb s z _ _ hE za) ?_;apply (qaq);intro b7;apply (Xct);refine Ki tb [0,1,2,3,4,5,6,7,8,9,10,11,12,13,14] _ Kq zc ye ?_;apply (qbd);refine q_d rfl (Ud _ _) ?_;refine K0 (Kvd Vde rfl rfl) rfl rfl rfl ?_;apply (qb2);refine Vx (k:=21) zsb (fun hg3=>?_) (fun hg3=>?_);·replace hg3:=qb hg3;apply (Xbs);refine K0 (Uac rfl rfl) rfl rfl rfl ?_;exact uaz
  replace hg3:=qb hg3;iterate 4 apply (qap)
  exact uaz
 apply qbk∘qad∘Xbb;refine q_r L R zAd ?_;exact ⟨0,false,rfl,⟨(fun h=>by cases h),⟨by decide,by decide⟩,(fun h=>by cases h),fun _ _ y h1 h2=>hno y h1 za⟩,rfl,rfl⟩
end
section
def Zlf (n:Nat) (S:List XSens):Prop:=∀(i:Nat) (s:XSens),S[i]?=some s→(0≤s.target∧s.target < n)∧s.kind=3
def Vsg (fl:List Int) (S:List XSens) (m:List XMeas):Prop:=∀(i:Nat) (x:XMeas),m[i]?=some x→(0≤x.sensor∧x.sensor < S.length)∧x.span.low≤fl.getD (S.getD x.sensor.toNat default).target.toNat 0∧fl.getD (S.getD x.sensor.toNat default).target.toNat 0≤x.span.high
def TrueTo.stepW {fl : List Int} {l : List XSpan} {S : List XSens} {st : NarSt} {x : XMeas} {t : Int} (h : TrueTo fl l S.length st) (hl : l.length = fl.length) (hS : Zlf fl.length S)
 (hx:(0≤x.sensor∧x.sensor < S.length)∧x.span.low≤fl.getD (S.getD x.sensor.toNat default).target.toNat 0∧fl.getD (S.getD x.sensor.toNat default).target.toNat 0≤x.span.high) (hb:∀q∈fl,-1048576≤q∧q≤1048576):
 TrueTo fl l S.length (Z0 l.length 3 nothingS t S st x):=by
 rw [Z0];split;·exact h
 ·
  obtain ⟨hs1, hs2, hs3⟩ := hx;have hg:=Jn (l:=S) (k:=x.sensor.toNat) default za;obtain ⟨s,hs⟩:∃s,s=S.getD x.sensor.toNat default:=⟨_,rfl⟩;have hsq:=hS _ _ hg;rw [← hs] at hs2 hs3 hsq;obtain ⟨htg,hkd⟩:=hsq;have hfg:=Jn (l:=fl) (k:=s.target.toNat) 0 za;have hqb:=hb _ (yi hfg);have ha:=at_holds (t:=t) hkd ⟨hs2,hs3⟩ hqb;have ho:=h.at_ s.target.toNat za;have hln:=h.len;have hnar:Z8d st S t x=Vra (st.out.getD s.target.toNat default) (atS s x t):=by rw [Z8d,← hs]
  rw [← hs,hnar];have hy:(Vra (st.out.getD s.target.toNat default) (atS s x t)).low≤fl.getD s.target.toNat 0∧fl.getD s.target.toNat 0≤(Vra (st.out.getD s.target.toNat default) (atS s x t)).high:=by rw [Vra];dsimp only;omega
  rw [if_pos za];refine ⟨by simp [hln],fun j hj=>?_,h.bad⟩;dsimp only;by_cases hjt:j=s.target.toNat;·subst hjt;(have e:((st.out.set s.target.toNat (Vra (st.out.getD s.target.toNat default) (atS s x t))).getD s.target.toNat default)=Vra (st.out.getD s.target.toNat default) (atS s x t):=by rw [yh,yI za];rfl);rw [e];refine ⟨hy,?_⟩;rw [Vra];dsimp only;omega
  ·(have e:((st.out.set s.target.toNat (Vra (st.out.getD s.target.toNat default) (atS s x t))).getD j default)=st.out.getD j default:=by rw [yh,yZ (fun h=>hjt h.symm),← yh]);rw [e];exact h.at_ j hj
def Jzd {fl:List Int} {l:List XSpan} {S:List XSens} {m:List XMeas} {t:Int} (hh:Ved fl l) (hl:l.length=fl.length) (hS:Zlf fl.length S) (hm:Vsg fl S m) (hb:∀q∈fl,-1048576≤q∧q≤1048576):
 ∀k,k≤m.length→TrueTo fl l S.length (Klb l nothingS 3 S m t k)
 | 0,_=>⟨rfl,fun j hj=>⟨hh j hj,yz _,yz _⟩,rfl⟩
 | k + 1,hk=>by
  have hg:=yC (l:=m) (i:=k) za
  rw [Vdc hg]
  exact (Jzd hh hl hS hm hb k za).stepW hl hS (hm _ _ hg) hb
def V5 (j:Nat) (r:Int):XTele:=⟨(j:Int),1,[r / 256,r % 256]⟩
def V9 (rs : List Int) : Nat → List Int
 | 0=>[]
 | k + 1=>V9 rs k ++ V0 (V5 k (rs.getD k 0))
def Kya (rs:List Int):List XTele:=(List.range rs.length).map fun j=>V5 j (rs.getD j 0)
def Zsc (rs:List Int):(Kya rs).length=rs.length:=by simp [Kya]
def Jvd {rs:List Int} {j:Nat} (h:j < rs.length):(Kya rs)[j]?=some (V5 j (rs.getD j 0)):=by rw [Kya,yr,yV h];rfl
def Zta (rs : List Int) : ∀ k, (V9 rs k).length = 8 * k
 | 0=>rfl
 | k + 1=>by rw [V9,yl,Zta rs k,U7a];simp only [V5,yA,yfa];omega
def Vvb (rs : List Int) (r : Int) : ∀ k, k ≤ rs.length → V9 (rs ++ [r]) k = V9 rs k
 | 0,_=>rfl
 | k + 1,h=>by
  rw [V9,V9,Vvb rs r k za,yh,yG za,← yh]
def Y3c (rs:List Int) (r:Int):V9 (rs ++ [r]) (rs.length + 1)=V9 rs rs.length ++ V0 (V5 rs.length r):=by rw [V9,Vvb rs r _ (ym _),yh,yJ (ym _),yub];rfl
def Jbe {f:XTele} (h1:0≤f.address∧f.address≤255) (h2:0≤f.kind∧f.kind≤255) (h3:f.data.length≤64) (h4:BytesOk f.data):BytesOk (V0 f):=fun x hx=>by
 have hc:=Uxb (V8 f).tail
 rw [Crc] at hc
 rw [V0,V8] at hx
 simp only [yq,yR,yba,yM,or_false] at hx
 rcases hx with h | h | h | h | h | h | h
 ·omega
 ·omega
 ·omega
 ·omega
 ·exact h4 x h
 ·rw [h];rw [V8] at hc;omega
 ·rw [h];rw [V8] at hc;omega
def Y3b {rs : List Int} (h : ∀ j : Nat, j < rs.length → 0 ≤ rs.getD j 0 ∧ rs.getD j 0 ≤ 65535) : ∀ k, k ≤ rs.length → k ≤ 256 → BytesOk (V9 rs k)
 | 0,_,_=>fun x hx=>by cases hx
 | k + 1,hk,h2=>fun x hx=>by
  rw [V9,yba] at hx
  rcases hx with hx | hx
  ·exact Y3b h k za za x hx
  ·have hr := h k za
   refine Jbe (f:=V5 k (rs.getD k 0)) ⟨by simp only [V5];omega,by simp only [V5];omega⟩ ⟨by simp [V5],by simp [V5]⟩ (by simp [V5]) (fun y hy=>?_) x hx
   simp only [V5,yR,yM,or_false] at hy
   rcases hy with rfl | rfl <;> omega
def V7f (rs:List Int) (d:Int) (b:List Int):∀k,k≤rs.length→U2 (V9 rs k ++ b) d=⟨(U2 b d).held,(U2 b d).dropped,((List.range k).map fun j=>V5 j (rs.getD j 0)) ++ (U2 b d).out⟩:=by
 intro k;induction k generalizing b with
 | zero=>intro _;rfl
 | succ k ih=>intro hk;rw [V9,yn,ih _ za,Uic (by simp [V5]),yxb,yU];simp
def Kyg (rs:List Int) (d:Int):(U2 ([] ++ V9 rs rs.length) d).out=Kya rs:=by have h:=V7f rs d [] rs.length (ym _);rw [yX] at h;rw [yv,h,Vaa];simp [Kya]
end
section
attribute [local irreducible] CJ LJ DJ Tri YV Gives U5 J2 Kn U6 RV J4 OwL.L
def Jod (f:XFrame) (L:LB) (R:LS) (hf:InR (bsl f.data) R) (hb:BytesOk f.data.l):
 Tri Tryz.prog 43 [f.val].toArray L R (fun v U J=>∃q:OwL Int,v=.tuple #[q.val,.int .i64 (Zf f.tele)]∧q.ok 1 Yb∧q.l=(if Zf f.tele=0 then V0 f.tele else [])∧q.L 5 Yb ++ L=U∧∀r∈R,InR r J):=by
 refine Je 53 Tryz.call43 Tryz.func43 rfl rfl rfl ?_;apply (Xaf);intro b1;apply qc4∘Xar∘Xbj;apply J6 (G:=[_,_,_]) (j:=3) (cj:=9) rfl rfl zb rfl zsb rfl;·exact zHd
 intro junk4;apply (qah);apply J6 (G:=[_,_,_]) (j:=8) (cj:=14) rfl rfl zb rfl zsb rfl;·exact zTd
 intro junk9;apply (qah);apply J6 (G:=[_,_,_]) (j:=13) (cj:=19) rfl rfl zb rfl zsb rfl;·exact zMe
 intro junk14;apply (qaf);refine q_c ?_ ?_<;>intro hc0;·
  apply Xea∘Xao;refine Kx (U:=L) (J:=R) zvd ?hp ?hL ?hR;case hp=>(have he:Zf f.tele=1:=by rw [Zf,if_pos zL]);exact zXd
  case hL=>exact zi
  case hR=>exact fun r hr=>Ja hr
 apply Xec∘Xcp;refine q_c ?_ ?_<;>intro hc1;·exact zSe
 apply qbv∘Xab∘qdg∘Xaa∘qdg∘Xaa∘qdg;refine Yv zbc rfl ?_;rintro v U J ⟨b38,rfl,rfl,hR38⟩;replace hR38:=hR38.symm;subst hR38;apply (Xaa);have e1:IntKind.u8.wrap (f.data.l.length:Int)=f.data.l.length:=u8w za;have e2:IntKind.u8.wrap f.address=f.address:=u8w za;have e3:IntKind.u8.wrap f.kind=f.kind:=u8w za;rw [e1,e2,e3];have hok38:(⟨.own b38 4 [],[126,(f.data.l.length:Int),f.address,f.kind]⟩:OwL Int).ok 1 Yb:=⟨rfl,ym _,by decide,rfl⟩;refine Vxg zdc ?_;refine Yv zac rfl ?_;rintro v U J ⟨o41,rfl,hok41,rfl,rfl⟩;apply (Xcy);have hwl:(⟨o41,[126,(f.data.l.length:Int),f.address,f.kind] ++ f.data.l⟩:OwL Int).l=V8 f.tele:=rfl;have hwb:BytesOk (V8 f.tele):=fun x hx=>by exact ua7
 have hcr:=Uxb (V8 f.tele).tail;rw [Crc] at hcr;apply (Xcs);refine Jy zmc rfl ?_;refine q_l rfl (Tri.lendD zG hok41 zo (Veb (Zh (⟨o41,[126,(f.data.l.length:Int),f.address,f.kind] ++ f.data.l⟩:OwL Int).arr 1 1) _ _ zJb (fun x hx=>hwb x (yqa hx)))) ?_;exact zJe
end
end Go.Proofs.YtchfclmokpbldaaGreat
