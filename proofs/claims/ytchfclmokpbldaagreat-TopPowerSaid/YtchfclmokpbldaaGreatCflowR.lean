/-
  Merged texts. By an AI agent.
-/
import Derived.Test.YtchfclmokpbldaaGreatPart
import Derived.Test.YtchfclmokpbldaaGreatFits
set_option linter.all false
set_option maxHeartbeats 4000000
set_option maxRecDepth 20000
namespace Go.Proofs.YtchfclmokpbldaaGreat
open Go.Aw Go
section
attribute [local irreducible] CJ LJ DJ Tri YV Gives U0 J3 Kj Uz RV J5 OwL.L
section
variable {A B:Prop}
def Y0f(h:A→B:=by exact Jx (Jv tb (p) _ rfl rfl rfl rfl zg (i:=k) zk zu) rfl):=h
def Y2f(h:A→B:=by exact Jx zyb rfl):=h
def Jfg(h:A→B:=by exact Jx (Jv tb ((⟨.own b19 N [],fr⟩:OwL Bool)) _ rfl rfl ((show _=Value.slice _ _ _ from rfl).trans (Uq hfl)) rfl zg (i:=(lb p.l k).toNat) zk zu) rfl):=h
end
def K1e (m:XMine) (L:LB) (R:LS) (hm:MineR m R):
 Tri Tryz.prog 196 [m.val].toArray L R (fun v M U=>v=.bool (decide (Vv m=0))∧L=M∧R=U):=by refine Jj 6 Tryz.call196 Tryz.func196 rfl rfl rfl ?_;apply (Xaf);intro b1;apply qaz∘qam∘qbe;refine q_l rfl (Kib m _ _ hm) ?_;apply qbn∘Xa2;refine q_b L R ?_;exact zrd
structure FrOk (m:XMine) (f:List Int) (fr:List Bool) (N k:Nat):Prop where
 len:fr.length=N
 iff:∀c:Nat,fr.getD c false=true↔∃j:Nat,j < k∧(m.places.l.getD j default).surface=true∧lb f j=(c:Int)
def FrOk.zero (m:XMine) (f:List Int) (N:Nat):FrOk m f (List.replicate N false) N 0:=by refine ⟨by simp,fun c=>⟨fun h=>?_,fun ⟨j,hj,_⟩=>by omega⟩⟩;rw [yh,yB] at h;split at h <;> simp at h
def FrOk.stay {m:XMine} {f:List Int} {fr:List Bool} {N k:Nat} (h:FrOk m f fr N k) (hs:¬ (m.places.l.getD k default).surface=true):FrOk m f fr N (k + 1):=by
 refine ⟨h.len,fun c=>(h.iff c).trans ⟨fun ⟨j,h1,h2,h3⟩=>⟨j,by omega,h2,h3⟩,fun ⟨j,h1,h2,h3⟩=>?_⟩⟩;rcases yk j k with h4 | h4;·exact ⟨j,h4,h2,h3⟩
 ·
  obtain rfl : j = k := by omega
  exact absurd h2 hs
def FrOk.next {m:XMine} {f:List Int} {fr:List Bool} {N k:Nat} (h:FrOk m f fr N k) (hs:(m.places.l.getD k default).surface=true) (h0:0≤lb f k∧lb f k < (N:Int)):FrOk m f (fr.set (lb f k).toNat true) N (k + 1):=by
 have hl:=h.len;refine ⟨by simp [hl],fun c=>?_⟩;rw [Z7c za];split;·rename_i e;exact ⟨fun _=>⟨k,by omega,hs,by omega⟩,fun _=>rfl⟩
 ·
  rename_i e;refine (h.iff c).trans ⟨fun ⟨j,h1,h2,h3⟩=>⟨j,by omega,h2,h3⟩,fun ⟨j,h1,h2,h3⟩=>?_⟩;rcases yk j k with h4 | h4;·exact ⟨j,h4,h2,h3⟩
  ·(obtain rfl : j = k := by omega);exact absurd za e
def Ync (f:List Int) (fr:List Bool) (n:Nat):List Bool:=(List.range n).map fun i=>fr.getD (lb f i).toNat false
def J6c {f:List Int} {fr:List Bool} {n i:Nat} (h:i < n):(Ync f fr n).getD i false=fr.getD (lb f i).toNat false:=by rw [yh,Ync,yt,yN h];rfl
def Vud {m:XMine} {j:Nat} (h:j < m.places.l.length):(V7e m).getD j false=(m.places.l.getD j default).surface:=by rw [yh,V7e,yt,Jw (l:=m.places.l) (k:=j) default h];rfl
def FrOk.airy {m:XMine} {f:List Int} {fr:List Bool} {N:Nat} (h:FrOk m f fr N m.places.l.length) (hp:PartIs m f (N:Int)):AiryIs m (Ync f fr m.places.l.length):=by
 have hsl:(V7e m).length=m.places.l.length:=by simp [V7e]
 refine ⟨by simp [Ync,hsl],fun i hi=>?_⟩;have hi':i < m.places.l.length:=by omega
 have hr:=hp.rng i hi';rw [J6c hi',h.iff];refine ⟨fun ⟨j,h1,h2,h3⟩=>⟨j,by omega,by rw [Vud h1];exact h2,(hp.iff j i h1 hi').1 za⟩,fun ⟨j,h1,h2,h3⟩=>?_⟩;have h1':j < m.places.l.length:=by omega
 rw [Vud h1'] at h2;exact ⟨j,h1',h2,by rw [(hp.iff j i h1' hi').2 h3];omega⟩
def Uva (A : List Bool) : Nat → List Int
 | 0=>[]
 | k + 1=>if A.getD k false=true then Uva A k else Uva A k ++ [(k:Int)]
def V4a (A : List Bool) : ∀ k, (Uva A k).length ≤ k
 | 0=>by simp [Uva]
 | k + 1=>by
  have:=V4a A k
  rw [Uva]
  split
  ·omega
  ·simp only [yo,yU];omega
def Ubb {A : List Bool} {e : Int} : ∀ {k : Nat}, e ∈ Uva A k ↔ ∃ i : Nat, e = (i : Int) ∧ i < k ∧ ¬ A.getD i false = true
 | 0=>⟨fun h=>(by simp [Uva] at h),fun ⟨i,_,h,_⟩=>za⟩
 | k + 1=>by
  have ih:=Ubb (A:=A) (e:=e) (k:=k)
  rw [Uva]
  split
  ·rename_i h
   refine ih.trans ⟨fun ⟨i,h1,h2,h3⟩=>⟨i,h1,by omega,h3⟩,fun ⟨i,h1,h2,h3⟩=>⟨i,h1,?_,h3⟩⟩
   rcases yk i k with h4 | h4
   ·exact h4
   ·obtain rfl : i = k := by omega
    exact absurd h h3
  ·rename_i h
   rw [yUa,ih,yUb]
   refine ⟨fun h0=>?_,fun ⟨i,h1,h2,h3⟩=>?_⟩
   ·rcases h0 with ⟨i, h1, h2, h3⟩ | h0
    ·exact ⟨i,h1,by omega,h3⟩
    ·exact ⟨k,h0,by omega,h⟩
   ·rcases yk i k with h4 | h4
    ·exact .inl ⟨i,h1,h4,h3⟩
    ·obtain rfl : i = k := by omega
     exact .inr h1
def Y9d (m:XMine) (L:LB) (R:LS) (hm:MineR m R) (hok:MineOk m) (hv:Vv m=0):
 Tri Tryz.prog 243 [m.val].toArray L R (fun w M U=>∃(p:OwL Int) (A:List Bool) (S:LS),w=p.val∧p.ok 1 Jo∧AiryIs m A∧p.l=Uva A m.places.l.length∧p.L 3 Jo ++ L=M∧S ++ R=U):=by
 have hmp:=hm.places;have hnp:=hok.places;refine Jj 57 Tryz.call243 Tryz.func243 rfl rfl rfl ?_;apply (Xaf);intro b1;apply Xb0∘qbe;refine q_l rfl (K1e m _ _ hm) ?_;apply (Xbb);refine q_c ?_ ?_<;>intro hc0;·apply Xck∘qbh;refine q_r L R zUc ?_;exact absurd hv zF
 apply qbv∘qbe;refine Jy rfl (Y5e m _ _ hm hok) rfl ?_;rintro v M U ⟨p,N,S,rfl,hpk,hP,rfl,rfl⟩;have hpl:=hP.len;have hpn:=hP.n;have hmp2:InR (psl m.places) (S ++ R):=hmp.mono fun r h=>Ja (by simp [h]);refine Jx zCb rfl ?_;apply Xa3∘qc4∘Xau∘qc7;rintro v M U ⟨b19,rfl,rfl,hR19⟩;replace hR19:=hR19.symm;subst hR19;apply Xb0∘Xaw;refine Jp [(1,.pointer _),(3,.slice _ _ _),(5,.slice _ _ _),(21,.slice _ _ _),(22,.int _ _),(23,.int _ _)] zh fun tq0=>?_;refine Vf zVb ?_;refine q_p ([6,7]++rg 23 14) ((⟨fun q=>[(23,.int .i64 ((q.1.1:Nat):Int))],fun q=>(⟨.own b19 N [],q.1.2⟩:OwL Bool).L 4 blc ++ (p.L 3 Jo ++ (⟨b1,m.cells,28⟩ :: L)),fun _=>S ++ R,fun q=>m.places.l.length - q.1.1⟩:Head {q:Nat×List Bool // q.1≤m.places.l.length∧FrOk m p.l q.2 N q.1})) (⟨(0,List.replicate N false),by dsimp only;omega,FrOk.zero m p.l N⟩) ?_;rintro ⟨⟨k,fr⟩,q1,q2⟩ junk;try dsimp only
 dsimp only at q1 q2;have hfl:=q2.len;have hkf:(⟨.own b19 N [],fr⟩:OwL Bool).ok 1 blc:=by have:=Yr (f:=blc) (wd:=1) (b:=b19) (n:=N) (x:=false) Zl zE;exact OwL.len_ok Zl this (by simp;exact hfl)
 apply (Xak);refine q_c ?_ ?_<;>intro hc1;·
  have hpg:=Jw (l:=m.places.l) (k:=k) default za;have hlg:=Y7c (f:=p.l) (v:=k) za;have hrk:=hP.rng k za;have hfg:=Jw (l:=fr) (k:=(lb p.l k).toNat) false za;apply Xa0∘qa3∘Xdq;intro b7;apply qad∘Xbx∘qaf;refine q_c ?_ ?_<;>intro hc2;·apply Xcy∘Xat∘Y0f∘Y2f∘Jfg;refine Ym (Js tb ((⟨.own b19 N [],fr⟩:OwL Bool)) (true) rfl rfl rfl rfl zj zg yf zg ze zb zb) ?_;rintro v M U ⟨rfl,rfl⟩;apply (Xa7);exact q_k ⟨(k + 1,_),by dsimp only;omega,q2.next zK hrk⟩
  apply (Xax);exact q_k ⟨(k + 1,fr),by dsimp only;omega,q2.stay zK⟩
 obtain rfl:k=m.places.l.length:=by omega
 have hA:=q2.airy hP;obtain ⟨A,hAe⟩:∃A,A=Ync p.l fr m.places.l.length:=⟨_,rfl⟩;rw [← hAe] at hA;apply qbk∘Xb0∘Xaw;refine Jp [(3,.slice _ _ _),(5,.slice _ _ _),(8,.slice _ _ _),(39,.int _ _),(40,.int _ _)] zh fun tq1=>?_;refine Vx ([8,9]++rg 40 16) ((⟨fun q=>[(40,.int .i64 ((q.1.1:Nat):Int)),(8,q.1.2.val)],fun q=>q.1.2.L 3 Jo ++ ((⟨.own b19 N [],fr⟩:OwL Bool).L 4 blc ++ (p.L 3 Jo ++ (⟨b1,m.cells,28⟩ :: L))),fun _=>S ++ R,fun q=>m.places.l.length - q.1.1⟩:Head {q:Nat×OwL Int // q.1≤m.places.l.length∧q.2.ok 1 Jo∧q.2.l=Uva A q.1})) (⟨(0,OwL.nil),by dsimp only;omega,OwL.nil_ok,rfl⟩) zh zla ztb ?_;rintro ⟨⟨k,q⟩,w1,w2,w3⟩ junk;try dsimp only
 dsimp only at w1 w2 w3;apply (Xak);refine q_c ?_ ?_<;>intro hc3;·
  have hlg:=Y7c (f:=p.l) (v:=k) za;have hrk:=hP.rng k za;have hfg:=Jw (l:=fr) (k:=(lb p.l k).toNat) false za;have hAk:A.getD k false=fr.getD (lb p.l k).toNat false:=by rw [hAe];exact J6c za
  have hql:=V4a A k;rw [← w3] at hql;apply Xa0∘Xag∘qbm∘Xat∘Y0f∘Y2f∘Jfg;refine Jx (Kc tb ((⟨.own b19 N [],fr⟩:OwL Bool)) rfl rfl rfl zj zg yf zg zb) rfl ?_;apply (Xbb);refine q_c ?_ ?_<;>intro hc4;·apply Xb3∘qcx;rintro v M U ⟨b53,rfl,rfl,hR53⟩;replace hR53:=hR53.symm;subst hR53;refine Jqa (Kb (f:=Jo) (a:=(k:Int)) tb rfl rfl rfl rfl (w2) zj zxb rfl zA) rfl ?_;rintro v M U ⟨o54,rfl,hok54,rfl,rfl⟩;apply qc4∘Xa7;exact q_k ⟨(k + 1,⟨o54,q.l ++ [(k:Int)]⟩),by dsimp only;omega,hok54,by dsimp only;rw [Uva,if_neg (by rw [hAk];simpa using hc4),w3]⟩
  apply (Xax);exact q_k ⟨(k + 1,q),by dsimp only;omega,w2,by dsimp only;rw [Uva,if_pos (by rw [hAk];simpa using hc4),w3]⟩
 obtain rfl:k=m.places.l.length:=by omega
 apply Xcs∘Xcl;refine q_r (q.L 3 Jo ++ L) (S ++ R) zUc ?_;exact ⟨q,A,S,rfl,w2,hA,w3,rfl,rfl⟩
end
section
attribute [local irreducible] CJ LJ DJ Tri YV Gives U0 J3 Kj Uz RV J5 OwL.L
def AiryIs.length {m:XMine} {A:List Bool} (h:AiryIs m A):A.length=m.places.l.length:=by rw [h.len];simp [V7e]
def Yfe {m:XMine} {A l:List Bool} (hA:AiryIs m A) (hl:l.length=m.places.l.length) (h:∀i:Nat,l.getD i false=true↔(i:Int)∈Uva A m.places.l.length):l=A.map (!·):=by
 have hAl:=hA.length;refine yxa fun i=>?_;rcases yk i m.places.l.length with hi | hi;·rw [Jw (l := l) (k := i) false za, yt, Jw (l := A) (k := i) false za];have h1:=h i;rw [Ubb] at h1;have h2:l.getD i false=true↔¬ A.getD i false=true:=h1.trans ⟨fun ⟨j,e,_,h3⟩=>by rw [show i=j from by omega];exact h3,fun h3=>⟨i,rfl,hi,h3⟩⟩;simp only [yLa,yWa];cases ha:A.getD i false <;> cases hb:l.getD i false <;> simp_all
 ·rw [yr za,yr zD]
def Vvb (m:XMine) (L:LB) (R:LS) (hm:MineR m R) (hok:MineOk m) (hv:Vv m=0):
 Tri Tryz.prog 189 [m.val].toArray L R (fun w M U=>∃(p:OwL Bool) (A:List Bool) (S:LS),w=p.val∧p.ok 1 blc∧AiryIs m A∧p.l=A.map (!·)∧p.L 4 blc ++ L=M∧S ++ R=U):=by
 have hmp:=hm.places;have hnp:=hok.places;refine Jj 22 Tryz.call189 Tryz.func189 rfl rfl rfl ?_;apply (Xaf);intro b1;apply qc4∘qam∘Xab∘qc7;rintro v M U ⟨b9,rfl,rfl,hR9⟩;replace hR9:=hR9.symm;subst hR9;apply qc4∘qco;refine Vf zVb ?_;apply qay∘qbe;refine Jy rfl (Y9d m _ _ hm hok hv) rfl ?_;rintro v M U ⟨p,A,S,rfl,hpk,hA,hpl,rfl,rfl⟩;have hpn:=V4a A m.places.l.length;rw [← hpl] at hpn;apply qag∘Xal;refine Jp [(3,.slice _ _ _),(11,.slice _ _ _),(12,.int _ _),(13,.int _ _)] zh fun tq0=>?_;refine q_p ([5]++rg 13 8) ((⟨fun q=>[(13,.int .i64 ((q.1.1:Nat):Int))],fun q=>p.L 3 Jo ++ ((⟨.own b9 m.places.l.length [],q.1.2⟩:OwL Bool).L 4 blc ++ (⟨b1,m.cells,28⟩ :: L)),fun _=>S ++ R,fun q=>p.l.length - q.1.1⟩:Head {q:Nat×List Bool // q.1≤p.l.length∧q.2.length=m.places.l.length∧∀i:Nat,q.2.getD i false=true↔∃j:Nat,j < q.1∧p.l[j]?=some (i:Int)})) (⟨(0,List.replicate m.places.l.length false),by dsimp only;omega,by simp,fun i=>⟨fun h=>(by simp [yh,yB] at h;split at h <;> simp at h),fun ⟨j,hj,_⟩=>za⟩⟩) ?_;rintro ⟨⟨k,l⟩,q1,hll,q3⟩ junk;try dsimp only
 dsimp only at q1 hll q3;have hkf:(⟨.own b9 m.places.l.length [],l⟩:OwL Bool).ok 1 blc:=by have:=Yr (f:=blc) (wd:=1) (b:=b9) (n:=m.places.l.length) (x:=false) Zl zE;exact OwL.len_ok Zl this (by simp;exact hll)
 apply (Xak);refine q_c ?_ ?_<;>intro hc0;·
  have hg:=Jw (l:=p.l) (k:=k) 0 za;have hmem:=yj hg;rw [hpl] at hmem;obtain ⟨u,hve,hvl,hvA⟩:=Ubb.1 hmem;rw [← hpl] at hve;rw [hve] at hg;have hlg:=Jw (l:=l) (k:=u) false za;apply (qbb);refine Jx (Jv tb (p) _ rfl rfl rfl rfl zg (i:=k) zk zu) rfl ?_;refine Jx zyb rfl ?_;apply (qad);refine J6 (Jc (Jh ?_));apply (Xat);refine Jx (Jv tb ((⟨.own b9 m.places.l.length [],l⟩:OwL Bool)) _ rfl rfl ((show _=Value.slice _ _ _ from rfl).trans (Uq hll)) rfl zg (i:=u) zk zu) rfl ?_;refine Ym (Js tb ((⟨.own b9 m.places.l.length [],l⟩:OwL Bool)) (true) rfl rfl rfl rfl zj zg yf zg ze zb zb) ?_;rintro v M U ⟨rfl,rfl⟩;apply (Xa7);exact Kr ⟨(k + 1,l.set u true),by dsimp only;omega,by simp;exact hll,fun i=>by
  dsimp only;rw [Z7c za];split;·rename_i e;exact ⟨fun _=>⟨k,by omega,by rw [e];exact hg⟩,fun _=>rfl⟩
  ·
   rename_i e;refine (q3 i).trans ⟨fun ⟨j,h1,h2⟩=>⟨j,by omega,h2⟩,fun ⟨j,h1,h2⟩=>?_⟩;rcases yk j k with h4 | h4;·exact ⟨j,h4,h2⟩
   ·(obtain rfl : j = k := by omega);rw [hg] at h2;exact absurd (by have:=yL h2;omega) e⟩ zm zh zi ztb zx
 obtain rfl:k=p.l.length:=by omega
 have hlm:=Yfe hA hll (fun i=>by rw [q3 i,← hpl,List.mem_iff_getElem?];exact ⟨fun ⟨j,_,h⟩=>⟨j,h⟩,fun ⟨j,h⟩=>⟨j,(List.getElem?_eq_some_iff.1 h).1,h⟩⟩);apply Xcs∘Xcl;refine q_r ((⟨.own b9 m.places.l.length [],l⟩:OwL Bool).L 4 blc ++ L) (S ++ R) zUc ?_;exact ⟨(⟨.own b9 m.places.l.length [],l⟩:OwL Bool),A,S,Uq hll,hkf,hA,hlm,rfl,rfl⟩
structure XBounds where
 low:Arr Int
 high:Arr Int
def XBounds.cells (s:XBounds):List Value:=[s.low.val,s.high.val]
abbrev XBounds.val (s:XBounds):Value:=.agg #[s.low.val,s.high.val]
structure BoundsR (s:XBounds) (R:LS):Prop where
 low:InR (isl s.low) R
 high:InR (isl s.high) R
def Vm (a:XAir) (s:XSetting) (b:XBounds) (A:List Bool) (i:Nat):Option Int:=
 if (!(A.getD i false) || (a.mine.places.l.getD i default).surface)=true then (if b.low.l.getD i 0≠0∨b.high.l.getD i 0≠0 then some 12 else none)
 else (if Vuc a s b.high.l (i:Int) < 0∨0 < Yba a s b.low.l (i:Int) then some 12 else none)
def Yz (a:XAir) (s:XSetting) (b:XBounds) (A:List Bool):Int:=
 if K1 a≠0 then K1 a
 else if Yfa a s=false then 21
 else if b.low.l.length≠a.mine.places.l.length∨b.high.l.length≠a.mine.places.l.length then 11
 else if (b.low.l.findSome? Vj).isSome=true∨(b.high.l.findSome? Vj).isSome=true then 1
 else ((List.range a.mine.places.l.length).findSome? (Vm a s b A)).getD 0
section
variable {A B:Prop}
def Kkf(h:A→B:=by exact Jx zKa rfl):=h
def U9f(h:B:=by exact ⟨[Zma n.pipes,Yga n.at_] ++ S,by rw [hck,Yb hp2 za (hnb.trans (if_pos za))];rfl,rfl,rfl⟩):=h
def Zuf(h:A→B:=by exact K2 zaa rfl rfl rfl):=h
end
def Vqa (b:XBounds) (i:Nat):Option Int:=[b.low.l.getD i 0,b.high.l.getD i 0].findSome? Vj
def Voa {a:XAir} (h:K1 a=0):Vv a.mine=0:=by
 unfold K1 at h;split at h;·exact ua9
 ·rename_i h1;omega
def K9c {b:XBounds} {n:Nat} (h1:b.low.l.length=n) (h2:b.high.l.length=n) (h:(List.range n).findSome? (Vqa b)=none):b.low.l.findSome? Vj=none∧b.high.l.findSome? Vj=none:=by
 rw [yF] at h;have h':∀i:Nat,i < n→Vj (b.low.l.getD i 0)=none∧Vj (b.high.l.getD i 0)=none:=fun i hi=>by have:=h i (List.mem_range.2 hi);rw [Vqa,yF] at this;exact ⟨this _ zo,this _ zo⟩
 constructor;·rw [yF];intro x hx;obtain ⟨i,hi⟩:=List.mem_iff_getElem?.1 hx;have hl:=(List.getElem?_eq_some_iff.1 hi).1;rw [← (show b.low.l.getD i 0=x from getD_some hi)];exact (h' i za).1
 ·rw [yF];intro x hx;obtain ⟨i,hi⟩:=List.mem_iff_getElem?.1 hx;have hl:=(List.getElem?_eq_some_iff.1 hi).1;rw [← (show b.high.l.getD i 0=x from getD_some hi)];exact (h' i za).2
def Ucc {b:XBounds} {n k:Nat} (h1:b.low.l.length=n) (h2:b.high.l.length=n) (hk:k < n) {e:Int} (h:Vqa b k=some e):(b.low.l.findSome? Vj).isSome=true∨(b.high.l.findSome? Vj).isSome=true:=by
 cases e1:b.low.l.findSome? Vj with
 | some x=>exact .inl rfl
 | none=>
  cases e2:b.high.l.findSome? Vj with
  | some x=>exact .inr rfl
  | none=>
   rw [yF] at e1 e2;rw [Vqa] at h;have:[b.low.l.getD k 0,b.high.l.getD k 0].findSome? Vj=none:=by
    rw [yF];intro x hx;simp only [yaa,yY,or_false] at hx;rcases hx with rfl | rfl;·exact e1 _ (yj (Jw (l:=b.low.l) (k:=k) 0 za))
    ·exact e2 _ (yj (Jw (l:=b.high.l) (k:=k) 0 za))
   rw [this] at h;cases h
def Jqf (a:XAir) (s:XSetting) (b:XBounds) (A:List Bool) (L:LB) (R:LS) (hm:AirR a R) (hs:SetR s R) (hb:BoundsR b R) (hA:K1 a=0→AiryIs a.mine A):
 Tri Tryz.prog 188 [a.val,s.val,b.val].toArray L R (fun v M U=>∃S:LS,v=.int .i64 (Yz a s b A)∧L=M∧S ++ R=U):=by
 have hmp:=hm.places;have hbl:=hb.low;have hbh:=hb.high;refine Vo Tryz.call188 hbl fun hbln=>?_;refine Vo Tryz.call188 hbh fun hbhn=>?_;refine Vo Tryz.call188 hmp fun hmpn=>?_;refine Jj 124 Tryz.call188 Tryz.func188 rfl rfl rfl ?_;apply (Xaf);intro b3;apply (qax);intro b4;apply (qax);intro b5;apply Xap∘qa8;refine q_l rfl (Z6 a _ _ hm) ?_;apply (Xba);refine q_c ?_ ?_<;>intro hc0;·apply (Xdl);refine q_i L R ?_;exact ⟨[],by rw [Yz,if_pos hc0],rfl,rfl⟩
 have h0:K1 a=0:=by omega
 have hok:=Zj h0;have hAA:=hA h0;have hmn:=hok.mine.places;apply qbo∘Xcd;refine q_l rfl (Jhb a s _ _ hm hs) ?_;apply (Xbb);refine q_c ?_ ?_<;>intro hc1;·apply (Xa6);refine q_i L R ?_;exact ⟨[],by rw [Yz,if_neg hc0,if_pos zG],rfl,rfl⟩
 have hf0:Yfa a s=true:=by simpa using hc1
 have hfo:=Vsb hf0;have hff:¬ Yfa a s=false:=by rw [hf0];decide
 apply qbo∘Xab∘Xb6∘Xbu;apply J9 (G:=[_,_,_,_,_,_,_,_]) (j:=8) (cj:=32) rfl rfl zb rfl zfb rfl;·intro hg9;replace hg9:=qb hg9;exact (Xab∘Xb6) zhd
 intro junk9;apply (qaf);refine q_c ?_ ?_<;>intro hc2;·apply (Xa6);refine q_i L R ?_;exact ⟨[],by rw [Yz,if_neg hc0,if_neg hff,if_pos za],rfl,rfl⟩
 have hln:b.low.l.length=a.mine.places.l.length:=by omega
 have hhn:b.high.l.length=a.mine.places.l.length:=by omega
 apply (Xco);refine Jp [(3,.pointer _),(4,.pointer _),(5,.pointer _),(44,.int _ _),(45,.int _ _)] zh fun tq0=>?_;refine q_s ([6,8,10]++rg 45 27) (fun g:FSR (Vqa b) (b.low.l.length)=>[(45,.int .i64 ((g.1:Nat):Int))]) (fun g=>(b.low.l.length) - g.1) ⟨0,Kna _ _⟩ ?_;rintro ⟨k0,hk0,hp0⟩ junk;try dsimp only
 apply (Xak);refine q_c ?_ ?_<;>intro hc3;·
  have hlg:=Jw (l:=b.low.l) (k:=k0) 0 za;have hhg:=Jw (l:=b.high.l) (k:=k0) 0 za;apply Xa0∘Xb5;refine Kp tb [0,1,2,3,4,5,6,7,8,9,12,10,11] ([Blk.mk b5 _ _]) K3 zc zi ?_;apply Xb4∘Zuf∘qbl∘Xb4∘Zuf∘qbl∘qao;refine Z4b zpb rfl rfl rfl ?_;rintro v M U ⟨b58,rfl,rfl,hR58⟩;replace hR58:=hR58.symm;subst hR58;apply (qa1);refine K2 zBb rfl rfl rfl ?_;refine Jz (Jc (Km ?_));refine Y6 ([6,8,10]++rg 45 27) zI [(45,.int _ _),(58,.slice _ _ _),(59,.int _ _),(60,.int _ _)] zh fun tq1=>?_;refine Vf (M:=(⟨.own b58 2 [],[b.low.l.getD k0 0,b.high.l.getD k0 0]⟩:OwL Int).L 3 Jo ++ (⟨b5,b.cells,214⟩ :: ⟨b4,s.cells,80⟩ :: ⟨b3,a.cells,32⟩ :: L)) (by simp only [OwL.L,Ow.L,yM,List.flatMap_nil,Jo,yZ,yp,yv];rfl) ?_;refine q_s ([6,10]++rg 60 11) (fun g:FS (Vj) ([b.low.l.getD k0 0,b.high.l.getD k0 0])=>[(60,.int .i64 ((g.1:Nat):Int))]) (fun g=>([b.low.l.getD k0 0,b.high.l.getD k0 0]).length - g.1) ⟨0,K1a _ _⟩ ?_;rintro ⟨k1,hk1,hp1⟩ junk;try dsimp only
  have hk58:(⟨.own b58 2 [],[b.low.l.getD k0 0,b.high.l.getD k0 0]⟩:OwL Int).ok 1 Jo:=⟨rfl,yl _,by simp only [maxLen];omega,rfl⟩;have hl2:[b.low.l.getD k0 0,b.high.l.getD k0 0].length=2:=rfl;apply (Xak);refine q_c ?_ ?_<;>intro hc4;·
   obtain ⟨y,hy⟩:=Ky (l:=[b.low.l.getD k0 0,b.high.l.getD k0 0]) (k:=k1) za;apply (qbb);refine Jx (Jv tb ((⟨.own b58 2 [],[b.low.l.getD k0 0,b.high.l.getD k0 0]⟩:OwL Int)) _ rfl rfl rfl rfl zg (i:=k1) zk zu) rfl ?_;refine Jx (Kc tb ((⟨.own b58 2 [],[b.low.l.getD k0 0,b.high.l.getD k0 0]⟩:OwL Int)) rfl rfl rfl zj zg yf zg zb) rfl ?_;apply Xau∘Xav;apply J9 (G:=[_,_]) (j:=2) (cj:=66) rfl rfl zb rfl zfb rfl;·exact zgd
   intro junk3;apply (qaf);refine q_c ?_ ?_<;>intro hc5;·apply (Xac);refine J6 (Jc (U4 (J8 (Ke (Yg (J8 (J8 (Ke (Yg (J8 (Ke ?_)))))))))));refine q_i L R ?_;(have hpb:Vqa b k0=some 1:=by rw [Vqa];exact Zm hp1 hy (if_pos za));exact ⟨[],by rw [Yz,if_neg hc0,if_neg hff,if_neg za,if_pos (Ucc rfl za za hpb)],rfl,rfl⟩
   apply (Xax);exact q_k ⟨k1 + 1,Kba hp1 hy (if_neg za)⟩
  have hn1:=Kaa hp1 za;refine Ug (Kw (Ux (Kd (Jk (Jc (Jh ?_))))));apply (Xae);exact q_k ⟨k0 + 1,Zk hp0 za hn1⟩
 have hn0:=J0a hp0 za;have hrb:=K9c (b:=b) rfl za hn0;have hplb:PresOk b.low.l:=Yma hrb.1;have hphb:PresOk b.high.l:=Yma hrb.2;have hck:Yz a s b A=((List.range a.mine.places.l.length).findSome? (Vm a s b A)).getD 0:=by rw [Yz,if_neg hc0,if_neg hff,if_neg za,if_neg (by rw [hrb.1,hrb.2];simp)]
 apply qbk∘Xdp;refine Jy rfl (Vvb a.mine _ _ hm.mineR hok.mine (Voa h0)) rfl ?_;rintro v M U ⟨p,A2,S,rfl,hpk,hA2,hpl,rfl,rfl⟩;obtain rfl:A=A2:=hAA.unique hA2;have hfx:p.l.length=a.mine.places.l.length:=by rw [hpl,yz];exact hAA.length
 have hm2:AirR a (S ++ R):=⟨hm.places.mono fun r h=>Ja (by simp [h]),hm.roads.mono fun r h=>Ja (by simp [h]),hm.fans.mono fun r h=>Ja (by simp [h]),hm.doors.mono fun r h=>Ja (by simp [h])⟩;have hs2:SetR s (S ++ R):=⟨hs.fans.mono fun r h=>Ja (by simp [h]),hs.doors.mono fun r h=>Ja (by simp [h])⟩;apply qc4∘qam∘Xcd;refine Jy rfl (Vgc a s _ _ hm2 hs2 hok hfo) rfl ?_;rintro v M U ⟨n,rfl,hn,rfl,rfl⟩;have hpp:InR (Zma n.pipes) (Zma n.pipes :: Yga n.at_ :: (S ++ R)):=Ja (.head _);have haa:InR (Yga n.at_) (Zma n.pipes :: Yga n.at_ :: (S ++ R)):=Ja (.tail _ (.head _));have hmp3:InR (psl a.mine.places) (Zma n.pipes :: Yga n.at_ :: (S ++ R)):=hmp.mono fun r h=>Ja (by simp [h]);have hbl3:InR (isl b.low) (Zma n.pipes :: Yga n.at_ :: (S ++ R)):=hbl.mono fun r h=>Ja (by simp [h]);have hbh3:InR (isl b.high) (Zma n.pipes :: Yga n.at_ :: (S ++ R)):=hbh.mono fun r h=>Ja (by simp [h]);apply (qaq);intro b12;apply Xa8∘qab∘Xaw;refine Jp [(5,.pointer _),(11,.slice _ _ _),(12,.pointer _),(80,.slice _ _ _),(81,.int _ _),(82,.int _ _)] zh fun tq2=>?_;refine q_s ([6,13,14]++rg 82 42) (fun g:FSR (Vm a s b A) (a.mine.places.l.length)=>[(82,.int .i64 ((g.1:Nat):Int))]) (fun g=>(a.mine.places.l.length) - g.1) ⟨0,Kna _ _⟩ ?_;rintro ⟨k2,hk2,hp2⟩ junk;try dsimp only
 apply (Xak);refine q_c ?_ ?_<;>intro hc6;·
  have hmg:=Jw (l:=a.mine.places.l) (k:=k2) default za;have hpg:p.l[k2]?=some (!(A.getD k2 false)):=by have:=hAA.length;rw [hpl,yt,Jw (l:=A) (k:=k2) false za];rfl
  have hlg:=Jw (l:=b.low.l) (k:=k2) 0 za;have hhg:=Jw (l:=b.high.l) (k:=k2) 0 za;apply Xa0∘Kkf∘Xdq;intro b14;apply qad∘Xbx∘qah;apply J9 (G:=[_,_,_,_]) (j:=2) (cj:=89) rfl rfl zb rfl zfb rfl;·intro hg3;replace hg3:=qb hg3;apply (Xat);refine Jx (Jv tb (p) _ rfl rfl rfl rfl zg (i:=k2) zk zu) rfl ?_;refine Jx zyb rfl ?_;exact qai
  intro junk3;apply (qaf);refine q_c ?_ ?_<;>intro hc7;·
   (have hnb:Vm a s b A k2=if b.low.l.getD k2 0≠0∨b.high.l.getD k2 0≠0 then some 12 else none:=by rw [Vm,if_pos (by simpa [or_comm] using hc7)]);apply qae∘Xam∘Kkf∘qa7∘Xbu;apply J9 (G:=[_,_,_,_,_,_]) (j:=6) (cj:=101) rfl rfl zb rfl zfb rfl;·intro hg7;replace hg7:=qb hg7;exact (Xam∘Kkf∘qa7) zhd
   intro junk7;apply (qaf);refine q_c ?_ ?_<;>intro hc8;·exact zxd
   apply (Xax);exact q_k ⟨k2 + 1,Zk hp2 za (hnb.trans (if_neg za))⟩
  have hnb:Vm a s b A k2=if Vuc a s b.high.l (k2:Int) < 0∨0 < Yba a s b.low.l (k2:Int) then some 12 else none:=by rw [Vm,if_neg (by simpa [and_comm] using hc7)]
  apply qae∘qbe∘Xam;refine q_l rfl (Jwc n a s b.high _ _ _ hpp haa hbh3 hn hok hhn hphb za) ?_;apply (Xav);refine Z2 (k:=115) zfb (fun hg7=>?_) (fun hg7=>?_);·replace hg7:=qb hg7;(iterate 6 refine V3 rfl rfl ?_);refine Jx zJ rfl ?_;apply (qaf);refine Ua rfl ?_;exact zxd
  replace hg7:=qb hg7;refine Uu zIb rfl rfl ?_;refine Uu zub rfl rfl ?_;refine Uu zHb rfl rfl ?_;refine Uu (Jt zgb) rfl rfl ?_;refine Jta rfl (Zvb n a s b.low _ _ _ hpp haa hbl3 hn hok hln hplb za) rfl rfl ?_;rintro v M U ⟨rfl,rfl,rfl⟩;refine Uu (Kvc rfl rfl) rfl rfl ?_;refine Jx zJ rfl ?_;apply (qaf);refine q_c ?_ ?_<;>intro hc9;·exact zxd
  apply (Xax);exact q_k ⟨k2 + 1,Zk hp2 za (hnb.trans (if_neg za))⟩
 have hn2:=J0a hp2 za;apply (Xca);refine q_i L (Zma n.pipes :: Yga n.at_ :: (S ++ R)) ?_;exact ⟨[Zma n.pipes,Yga n.at_] ++ S,by rw [hck,hn2];rfl,rfl,rfl⟩
end
section
attribute [local irreducible] CJ LJ DJ Tri YV Gives U0 J3 Kj Uz RV J5 OwL.L
def nothingS:XSpan:=⟨-1125899906842624,1125899906842624⟩
def Ut (a:XAir) (s:XSetting) (b:XBounds) (A:List Bool) (k:Nat):XSpan:=
 if (a.mine.roads.l.getD k default).closed=true then ⟨0,0⟩
 else if A.getD (a.mine.roads.l.getD k default).fr.toNat false=true then
  ⟨Vd (K5 a s k) (b.low.l.getD (a.mine.roads.l.getD k default).fr.toNat 0 - b.high.l.getD (a.mine.roads.l.getD k default).to.toNat 0),
   Uj (K5 a s k) (b.high.l.getD (a.mine.roads.l.getD k default).fr.toNat 0 - b.low.l.getD (a.mine.roads.l.getD k default).to.toNat 0)⟩
 else nothingS
def Uw (a:XAir) (s:XSetting) (b:XBounds) (A:List Bool):List XSpan:=
 if Yz a s b A=0 then (List.range a.mine.roads.l.length).map (Ut a s b A) else []
structure CheckOk (a:XAir) (s:XSetting) (b:XBounds):Prop where
 h0:K1 a=0
 hf:Yfa a s=true
 hl:b.low.l.length=a.mine.places.l.length
 hh:b.high.l.length=a.mine.places.l.length
 pl:PresOk b.low.l
 ph:PresOk b.high.l
def Yzc {a:XAir} {s:XSetting} {b:XBounds} {A:List Bool} (h:Yz a s b A=0):CheckOk a s b:=by
 unfold Yz at h;split at h;·exact ua9
 rename_i h1;split at h;·cases h
 rename_i h2;split at h;·cases h
 rename_i h3;split at h;·cases h
 rename_i h4;refine ⟨by omega,by simpa using h2,by omega,by omega,Yma ?_,Yma ?_⟩;·
  cases e:b.low.l.findSome? Vj with
  | none=>rfl
  | some x=>exact absurd (.inl (by rw [e];rfl)) h4
 ·
  cases e:b.high.l.findSome? Vj with
  | none=>rfl
  | some x=>exact absurd (.inr (by rw [e];rfl)) h4
end
end Go.Proofs.YtchfclmokpbldaaGreat
