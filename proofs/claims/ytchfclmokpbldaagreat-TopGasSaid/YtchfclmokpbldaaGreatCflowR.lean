/-
  Merged texts. By an AI agent.
-/
import Derived.Test.YtchfclmokpbldaaGreatPart
import Derived.Test.YtchfclmokpbldaaGreatFits
set_option linter.all false
set_option maxHeartbeats 4000000
set_option maxRecDepth 20000
namespace Go.Proofs.YtchfclmokpbldaaGreat
open Go.Aw Go
section
attribute [local irreducible] CJ LJ DJ Tri YV Gives Uq J2 Kj Ut RV J3 OwL.L
section
variable {A B:Prop}
def Klg(h:A→B:=by exact Jw (Jo tb (p) _ rfl rfl rfl rfl zg (i:=k) zk zp) rfl):=h
def Zmf(h:A→B:=by exact Jw zJb rfl):=h
def Kfg(h:A→B:=by exact Jw (Jo tb ((⟨.own b19 N [],fr⟩:OwL Bool)) _ rfl rfl ((show _=Value.slice _ _ _ from rfl).trans (K6 hfl)) rfl zg (i:=(lb p.l k).toNat) zk zp) rfl):=h
end
def Zqc (m:XMine) (L:LB) (R:LS) (hm:MineR m R):
 Tri Tryz.prog 196 [m.val].toArray L R (fun v U J=>v=.bool (decide (Ul m=0))∧L=U∧R=J):=by refine Je 6 Tryz.call196 Tryz.func196 rfl rfl rfl ?_;apply (Xaf);intro b1;apply qaz∘qam∘qbe;refine q_l rfl (Vwa m _ _ hm) ?_;apply qbn∘Xbs;refine q_b L R ?_;exact zDd
structure FrOk (m:XMine) (f:List Int) (fr:List Bool) (N k:Nat):Prop where
 len:fr.length=N
 iff:∀c:Nat,fr.getD c false=true↔∃j:Nat,j < k∧(m.places.l.getD j default).surface=true∧lb f j=(c:Int)
def FrOk.zero (m:XMine) (f:List Int) (N:Nat):FrOk m f (List.replicate N false) N 0:=by refine ⟨by simp,fun c=>⟨fun h=>?_,fun ⟨j,hj,_⟩=>by omega⟩⟩;rw [yi,yC] at h;split at h <;> simp at h
def FrOk.stay {m:XMine} {f:List Int} {fr:List Bool} {N k:Nat} (h:FrOk m f fr N k) (hs:¬ (m.places.l.getD k default).surface=true):FrOk m f fr N (k + 1):=by
 refine ⟨h.len,fun c=>(h.iff c).trans ⟨fun ⟨j,h1,h2,h3⟩=>⟨j,by omega,h2,h3⟩,fun ⟨j,h1,h2,h3⟩=>?_⟩⟩;rcases yk j k with h4 | h4;·exact ⟨j,h4,h2,h3⟩
 ·
  obtain rfl : j = k := by omega
  exact absurd h2 hs
def FrOk.next {m:XMine} {f:List Int} {fr:List Bool} {N k:Nat} (h:FrOk m f fr N k) (hs:(m.places.l.getD k default).surface=true) (h0:0≤lb f k∧lb f k < (N:Int)):FrOk m f (fr.set (lb f k).toNat true) N (k + 1):=by
 have hl:=h.len;refine ⟨by simp [hl],fun c=>?_⟩;rw [Y3a za];split;·rename_i e;exact ⟨fun _=>⟨k,by omega,hs,by omega⟩,fun _=>rfl⟩
 ·
  rename_i e;refine (h.iff c).trans ⟨fun ⟨j,h1,h2,h3⟩=>⟨j,by omega,h2,h3⟩,fun ⟨j,h1,h2,h3⟩=>?_⟩;rcases yk j k with h4 | h4;·exact ⟨j,h4,h2,h3⟩
  ·(obtain rfl : j = k := by omega);exact absurd za e
def Zhc (f:List Int) (fr:List Bool) (n:Nat):List Bool:=(List.range n).map fun i=>fr.getD (lb f i).toNat false
def J0c {f:List Int} {fr:List Bool} {n i:Nat} (h:i < n):(Zhc f fr n).getD i false=fr.getD (lb f i).toNat false:=by rw [yi,Zhc,yq,yL h];rfl
def V5d {m:XMine} {j:Nat} (h:j < m.places.l.length):(surf m).getD j false=(m.places.l.getD j default).surface:=by rw [yi,surf,yq,Jp (l:=m.places.l) (k:=j) default h];rfl
def FrOk.airy {m:XMine} {f:List Int} {fr:List Bool} {N:Nat} (h:FrOk m f fr N m.places.l.length) (hp:PartIs m f (N:Int)):AiryIs m (Zhc f fr m.places.l.length):=by
 have hsl:(surf m).length=m.places.l.length:=by simp [surf]
 refine ⟨by simp [Zhc,hsl],fun i hi=>?_⟩;have hi':i < m.places.l.length:=by omega
 have hr:=hp.rng i hi';rw [J0c hi',h.iff];refine ⟨fun ⟨j,h1,h2,h3⟩=>⟨j,by omega,by rw [V5d h1];exact h2,(hp.iff j i h1 hi').1 za⟩,fun ⟨j,h1,h2,h3⟩=>?_⟩;have h1':j < m.places.l.length:=by omega
 rw [V5d h1'] at h2;exact ⟨j,h1',h2,by rw [(hp.iff j i h1' hi').2 h3];omega⟩
def Uwa (A : List Bool) : Nat → List Int
 | 0=>[]
 | k + 1=>if A.getD k false=true then Uwa A k else Uwa A k ++ [(k:Int)]
def Vsa (A : List Bool) : ∀ k, (Uwa A k).length ≤ k
 | 0=>by simp [Uwa]
 | k + 1=>by
  have:=Vsa A k
  rw [Uwa]
  split
  ·omega
  ·simp only [yl,yx];omega
def K9b {A : List Bool} {e : Int} : ∀ {k : Nat}, e ∈ Uwa A k ↔ ∃ i : Nat, e = (i : Int) ∧ i < k ∧ ¬ A.getD i false = true
 | 0=>⟨fun h=>(by simp [Uwa] at h),fun ⟨i,_,h,_⟩=>za⟩
 | k + 1=>by
  have ih:=K9b (A:=A) (e:=e) (k:=k)
  rw [Uwa]
  split
  ·rename_i h
   refine ih.trans ⟨fun ⟨i,h1,h2,h3⟩=>⟨i,h1,by omega,h3⟩,fun ⟨i,h1,h2,h3⟩=>⟨i,h1,?_,h3⟩⟩
   rcases yk i k with h4 | h4
   ·exact h4
   ·obtain rfl : i = k := by omega
    exact absurd h h3
  ·rename_i h
   rw [yna,ih,ykb]
   refine ⟨fun h0=>?_,fun ⟨i,h1,h2,h3⟩=>?_⟩
   ·rcases h0 with ⟨i, h1, h2, h3⟩ | h0
    ·exact ⟨i,h1,by omega,h3⟩
    ·exact ⟨k,h0,by omega,h⟩
   ·rcases yk i k with h4 | h4
    ·exact .inl ⟨i,h1,h4,h3⟩
    ·obtain rfl : i = k := by omega
     exact .inr h1
def Z4d (m:XMine) (L:LB) (R:LS) (hm:MineR m R) (hok:MineOk m) (hv:Ul m=0):
 Tri Tryz.prog 243 [m.val].toArray L R (fun w U J=>∃(p:OwL Int) (A:List Bool) (S:LS),w=p.val∧p.ok 1 Jj∧AiryIs m A∧p.l=Uwa A m.places.l.length∧p.L 3 Jj ++ L=U∧S ++ R=J):=by
 have hmp:=hm.places;have hnp:=hok.places;refine Je 57 Tryz.call243 Tryz.func243 rfl rfl rfl ?_;apply (Xaf);intro b1;apply Xb5∘qbe;refine q_l rfl (Zqc m _ _ hm) ?_;apply (Xbj);refine q_c ?_ ?_<;>intro hc0;·apply qae∘qc4∘qbh;refine q_r L R zhd ?_;exact absurd hv zF
 apply qbv∘qbe;refine Jv rfl (Zie m _ _ hm hok) rfl ?_;rintro v U J ⟨p,N,S,rfl,hpk,hP,rfl,rfl⟩;have hpl:=hP.len;have hpn:=hP.n;have hmp2:InR (psl m.places) (S ++ R):=hmp.mono fun r h=>Ja (by simp [h]);refine Jw zRb rfl ?_;apply Xd3∘Xau∘qc7;rintro v U J ⟨b19,rfl,rfl,hR19⟩;replace hR19:=hR19.symm;subst hR19;apply Xb5∘Xay;refine Jm [(1,.pointer _),(3,.slice _ _ _),(5,.slice _ _ _),(21,.slice _ _ _),(22,.int _ _),(23,.int _ _)] zh fun tq0=>?_;refine U2 zUb ?_;refine q_p ([6,7]++rg 23 14) ((⟨fun q=>[(23,.int .i64 ((q.1.1:Nat):Int))],fun q=>(⟨.own b19 N [],q.1.2⟩:OwL Bool).L 4 blc ++ (p.L 3 Jj ++ (⟨b1,m.cells,28⟩ :: L)),fun _=>S ++ R,fun q=>m.places.l.length - q.1.1⟩:Head {q:Nat×List Bool // q.1≤m.places.l.length∧FrOk m p.l q.2 N q.1})) (⟨(0,List.replicate N false),by dsimp only;omega,FrOk.zero m p.l N⟩) ?_;rintro ⟨⟨k,fr⟩,q1,q2⟩ junk;try dsimp only
 dsimp only at q1 q2;have hfl:=q2.len;have hkf:(⟨.own b19 N [],fr⟩:OwL Bool).ok 1 blc:=by have:=U0 (f:=blc) (wd:=1) (b:=b19) (n:=N) (x:=false) V5 zB;exact OwL.len_ok V5 this (by simp;exact hfl)
 apply (Xaj);refine q_c ?_ ?_<;>intro hc1;·
  have hpg:=Jp (l:=m.places.l) (k:=k) default za;have hlg:=Ync (f:=p.l) (v:=k) za;have hrk:=hP.rng k za;have hfg:=Jp (l:=fr) (k:=(lb p.l k).toNat) false za;apply Xa1∘qa3∘Xdn;intro b7;apply qad∘Xb9∘qaf;refine q_c ?_ ?_<;>intro hc2;·apply Xcj∘Xaq∘Klg∘Zmf∘Kfg;refine Vk (Jn tb ((⟨.own b19 N [],fr⟩:OwL Bool)) (true) rfl rfl rfl rfl zj zg yf zg ze zb zb) ?_;rintro v U J ⟨rfl,rfl⟩;apply (Xa4);exact q_k ⟨(k + 1,_),by dsimp only;omega,q2.next zO hrk⟩
  apply (Xaw);exact q_k ⟨(k + 1,fr),by dsimp only;omega,q2.stay zO⟩
 obtain rfl:k=m.places.l.length:=by omega
 have hA:=q2.airy hP;obtain ⟨A,hAe⟩:∃A,A=Zhc p.l fr m.places.l.length:=⟨_,rfl⟩;rw [← hAe] at hA;apply qbk∘Xb5∘Xay;refine Jm [(3,.slice _ _ _),(5,.slice _ _ _),(8,.slice _ _ _),(39,.int _ _),(40,.int _ _)] zh fun tq1=>?_;refine Up ([8,9]++rg 40 16) ((⟨fun q=>[(40,.int .i64 ((q.1.1:Nat):Int)),(8,q.1.2.val)],fun q=>q.1.2.L 3 Jj ++ ((⟨.own b19 N [],fr⟩:OwL Bool).L 4 blc ++ (p.L 3 Jj ++ (⟨b1,m.cells,28⟩ :: L))),fun _=>S ++ R,fun q=>m.places.l.length - q.1.1⟩:Head {q:Nat×OwL Int // q.1≤m.places.l.length∧q.2.ok 1 Jj∧q.2.l=Uwa A q.1})) (⟨(0,OwL.nil),by dsimp only;omega,OwL.nil_ok,rfl⟩) zh zW zAb ?_;rintro ⟨⟨k,q⟩,w1,w2,w3⟩ junk;try dsimp only
 dsimp only at w1 w2 w3;apply (Xaj);refine q_c ?_ ?_<;>intro hc3;·
  have hlg:=Ync (f:=p.l) (v:=k) za;have hrk:=hP.rng k za;have hfg:=Jp (l:=fr) (k:=(lb p.l k).toNat) false za;have hAk:A.getD k false=fr.getD (lb p.l k).toNat false:=by rw [hAe];exact J0c za
  have hql:=Vsa A k;rw [← w3] at hql;apply Xa1∘Xag∘qbm∘Xaq∘Klg∘Zmf∘Kfg;refine Jw (J4 tb ((⟨.own b19 N [],fr⟩:OwL Bool)) rfl rfl rfl zj zg yf zg zb) rfl ?_;apply (Xbj);refine q_c ?_ ?_<;>intro hc4;·apply Xb3∘qcx;rintro v U J ⟨b53,rfl,rfl,hR53⟩;replace hR53:=hR53.symm;subst hR53;refine Za (Jy (f:=Jj) (a:=(k:Int)) tb rfl rfl rfl rfl (w2) zj zwb rfl zy) rfl ?_;rintro v U J ⟨o54,rfl,hok54,rfl,rfl⟩;apply (Xdr);exact q_k ⟨(k + 1,⟨o54,q.l ++ [(k:Int)]⟩),by dsimp only;omega,hok54,by dsimp only;rw [Uwa,if_neg (by rw [hAk];simpa using hc4),w3]⟩
  apply (Xaw);exact q_k ⟨(k + 1,q),by dsimp only;omega,w2,by dsimp only;rw [Uwa,if_pos (by rw [hAk];simpa using hc4),w3]⟩
 obtain rfl:k=m.places.l.length:=by omega
 apply Xch∘Xci;refine q_r (q.L 3 Jj ++ L) (S ++ R) zhd ?_;exact ⟨q,A,S,rfl,w2,hA,w3,rfl,rfl⟩
end
section
attribute [local irreducible] CJ LJ DJ Tri YV Gives Uq J2 Kj Ut RV J3 OwL.L
def AiryIs.length {m:XMine} {A:List Bool} (h:AiryIs m A):A.length=m.places.l.length:=by rw [h.len];simp [surf]
def Kof {m:XMine} {A l:List Bool} (hA:AiryIs m A) (hl:l.length=m.places.l.length) (h:∀i:Nat,l.getD i false=true↔(i:Int)∈Uwa A m.places.l.length):l=A.map (!·):=by
 have hAl:=hA.length;refine yBa fun i=>?_;rcases yk i m.places.l.length with hi | hi;·rw [Jp (l := l) (k := i) false za, yq, Jp (l := A) (k := i) false za];have h1:=h i;rw [K9b] at h1;have h2:l.getD i false=true↔¬ A.getD i false=true:=h1.trans ⟨fun ⟨j,e,_,h3⟩=>by rw [show i=j from by omega];exact h3,fun h3=>⟨i,rfl,hi,h3⟩⟩;simp only [yRa,ydb];cases ha:A.getD i false <;> cases hb:l.getD i false <;> simp_all
 ·rw [yu za,yu zE]
def V2b (m:XMine) (L:LB) (R:LS) (hm:MineR m R) (hok:MineOk m) (hv:Ul m=0):
 Tri Tryz.prog 189 [m.val].toArray L R (fun w U J=>∃(p:OwL Bool) (A:List Bool) (S:LS),w=p.val∧p.ok 1 blc∧AiryIs m A∧p.l=A.map (!·)∧p.L 4 blc ++ L=U∧S ++ R=J):=by
 have hmp:=hm.places;have hnp:=hok.places;refine Je 22 Tryz.call189 Tryz.func189 rfl rfl rfl ?_;apply (Xaf);intro b1;apply Xb8∘Xab∘qc7;rintro v U J ⟨b9,rfl,rfl,hR9⟩;replace hR9:=hR9.symm;subst hR9;apply (Xdd);refine U2 zUb ?_;apply qay∘qbe;refine Jv rfl (Z4d m _ _ hm hok hv) rfl ?_;rintro v U J ⟨p,A,S,rfl,hpk,hA,hpl,rfl,rfl⟩;have hpn:=Vsa A m.places.l.length;rw [← hpl] at hpn;apply (Xc1);refine Jm [(3,.slice _ _ _),(11,.slice _ _ _),(12,.int _ _),(13,.int _ _)] zh fun tq0=>?_;refine q_p ([5]++rg 13 8) ((⟨fun q=>[(13,.int .i64 ((q.1.1:Nat):Int))],fun q=>p.L 3 Jj ++ ((⟨.own b9 m.places.l.length [],q.1.2⟩:OwL Bool).L 4 blc ++ (⟨b1,m.cells,28⟩ :: L)),fun _=>S ++ R,fun q=>p.l.length - q.1.1⟩:Head {q:Nat×List Bool // q.1≤p.l.length∧q.2.length=m.places.l.length∧∀i:Nat,q.2.getD i false=true↔∃j:Nat,j < q.1∧p.l[j]?=some (i:Int)})) (⟨(0,List.replicate m.places.l.length false),by dsimp only;omega,by simp,fun i=>⟨fun h=>(by simp [yi,yC] at h;split at h <;> simp at h),fun ⟨j,hj,_⟩=>za⟩⟩) ?_;rintro ⟨⟨k,l⟩,q1,hll,q3⟩ junk;try dsimp only
 dsimp only at q1 hll q3;have hkf:(⟨.own b9 m.places.l.length [],l⟩:OwL Bool).ok 1 blc:=by have:=U0 (f:=blc) (wd:=1) (b:=b9) (n:=m.places.l.length) (x:=false) V5 zB;exact OwL.len_ok V5 this zla
 apply (Xaj);refine q_c ?_ ?_<;>intro hc0;·
  have hg:=Jp (l:=p.l) (k:=k) 0 za;have hmem:=yh hg;rw [hpl] at hmem;obtain ⟨u,hve,hvl,hvA⟩:=K9b.1 hmem;rw [← hpl] at hve;rw [hve] at hg;have hlg:=Jp (l:=l) (k:=u) false za;apply (qbb);refine Jw (Jo tb (p) _ rfl rfl rfl rfl zg (i:=k) zk zp) rfl ?_;refine Jw zJb rfl ?_;apply (qad);refine J9 (Jb (Jg ?_));apply (Xaq);refine Jw (Jo tb ((⟨.own b9 m.places.l.length [],l⟩:OwL Bool)) _ rfl rfl ((show _=Value.slice _ _ _ from rfl).trans (K6 hll)) rfl zg (i:=u) zk zp) rfl ?_;refine Vk (Jn tb ((⟨.own b9 m.places.l.length [],l⟩:OwL Bool)) (true) rfl rfl rfl rfl zj zg yf zg ze zb zb) ?_;rintro v U J ⟨rfl,rfl⟩;apply (Xa4);exact Ka ⟨(k + 1,l.set u true),by dsimp only;omega,by simp;exact hll,fun i=>by
  dsimp only;rw [Y3a za];split;·rename_i e;exact ⟨fun _=>⟨k,by omega,by rw [e];exact hg⟩,fun _=>rfl⟩
  ·
   rename_i e;refine (q3 i).trans ⟨fun ⟨j,h1,h2⟩=>⟨j,by omega,h2⟩,fun ⟨j,h1,h2⟩=>?_⟩;rcases yk j k with h4 | h4;·exact ⟨j,h4,h2⟩
   ·(obtain rfl : j = k := by omega);rw [hg] at h2;exact absurd (by have:=yG h2;omega) e⟩ zm zh zi zAb zx
 obtain rfl:k=p.l.length:=by omega
 have hlm:=Kof hA hll (fun i=>by rw [q3 i,← hpl,List.mem_iff_getElem?];exact ⟨fun ⟨j,_,h⟩=>⟨j,h⟩,fun ⟨j,h⟩=>⟨j,(List.getElem?_eq_some_iff.1 h).1,h⟩⟩);apply Xch∘Xci;refine q_r ((⟨.own b9 m.places.l.length [],l⟩:OwL Bool).L 4 blc ++ L) (S ++ R) zhd ?_;exact ⟨(⟨.own b9 m.places.l.length [],l⟩:OwL Bool),A,S,K6 hll,hkf,hA,hlm,rfl,rfl⟩
structure XBounds where
 low:Arr Int
 high:Arr Int
def XBounds.cells (s:XBounds):List Value:=[s.low.val,s.high.val]
abbrev XBounds.val (s:XBounds):Value:=.agg #[s.low.val,s.high.val]
structure BoundsR (s:XBounds) (R:LS):Prop where
 low:InR (isl s.low) R
 high:InR (isl s.high) R
def Vl (a:XAir) (s:XSetting) (b:XBounds) (A:List Bool) (i:Nat):Option Int:=
 if (!(A.getD i false) || (a.mine.places.l.getD i default).surface)=true then (if b.low.l.getD i 0≠0∨b.high.l.getD i 0≠0 then some 12 else none)
 else (if Ugc a s b.high.l (i:Int) < 0∨0 < U1a a s b.low.l (i:Int) then some 12 else none)
def Y4 (a:XAir) (s:XSetting) (b:XBounds) (A:List Bool):Int:=
 if Kx a≠0 then Kx a
 else if Uka a s=false then 21
 else if b.low.l.length≠a.mine.places.l.length∨b.high.l.length≠a.mine.places.l.length then 11
 else if (b.low.l.findSome? Uv).isSome=true∨(b.high.l.findSome? Uv).isSome=true then 1
 else ((List.range a.mine.places.l.length).findSome? (Vl a s b A)).getD 0
section
variable {A B:Prop}
def Ulf(h:A→B:=by exact Jw zPa rfl):=h
def Vdf(h:B:=by exact ⟨[Zja n.pipes,Yma n.at_] ++ S,by rw [hck,Yi hp2 za (hnb.trans (if_pos za))];rfl,rfl,rfl⟩):=h
def K3g(h:A→B:=by exact Ks zea rfl rfl rfl):=h
end
def Vya (b:XBounds) (i:Nat):Option Int:=[b.low.l.getD i 0,b.high.l.getD i 0].findSome? Uv
def Kxa {a:XAir} (h:Kx a=0):Ul a.mine=0:=by
 unfold Kx at h;split at h;·exact ubf
 ·rename_i h1;omega
def Vxc {b:XBounds} {n:Nat} (h1:b.low.l.length=n) (h2:b.high.l.length=n) (h:(List.range n).findSome? (Vya b)=none):b.low.l.findSome? Uv=none∧b.high.l.findSome? Uv=none:=by
 rw [yJ] at h;have h':∀i:Nat,i < n→Uv (b.low.l.getD i 0)=none∧Uv (b.high.l.getD i 0)=none:=fun i hi=>by have:=h i (List.mem_range.2 hi);rw [Vya,yJ] at this;exact ⟨this _ zo,this _ zo⟩
 constructor;·rw [yJ];intro x hx;obtain ⟨i,hi⟩:=List.mem_iff_getElem?.1 hx;have hl:=(List.getElem?_eq_some_iff.1 hi).1;rw [← (show b.low.l.getD i 0=x from getD_some hi)];exact (h' i za).1
 ·rw [yJ];intro x hx;obtain ⟨i,hi⟩:=List.mem_iff_getElem?.1 hx;have hl:=(List.getElem?_eq_some_iff.1 hi).1;rw [← (show b.high.l.getD i 0=x from getD_some hi)];exact (h' i za).2
def Vec {b:XBounds} {n k:Nat} (h1:b.low.l.length=n) (h2:b.high.l.length=n) (hk:k < n) {e:Int} (h:Vya b k=some e):(b.low.l.findSome? Uv).isSome=true∨(b.high.l.findSome? Uv).isSome=true:=by
 cases e1:b.low.l.findSome? Uv with
 | some x=>exact .inl rfl
 | none=>
  cases e2:b.high.l.findSome? Uv with
  | some x=>exact .inr rfl
  | none=>
   rw [yJ] at e1 e2;rw [Vya] at h;have:[b.low.l.getD k 0,b.high.l.getD k 0].findSome? Uv=none:=by
    rw [yJ];intro x hx;simp only [yca,yY,or_false] at hx;rcases hx with rfl | rfl;·exact e1 _ (yh (Jp (l:=b.low.l) (k:=k) 0 za))
    ·exact e2 _ (yh (Jp (l:=b.high.l) (k:=k) 0 za))
   rw [this] at h;cases h
def Y1e (a:XAir) (s:XSetting) (b:XBounds) (A:List Bool) (L:LB) (R:LS) (hm:AirR a R) (hs:SetR s R) (hb:BoundsR b R) (hA:Kx a=0→AiryIs a.mine A):
 Tri Tryz.prog 188 [a.val,s.val,b.val].toArray L R (fun v U J=>∃S:LS,v=.int .i64 (Y4 a s b A)∧L=U∧S ++ R=J):=by
 have hmp:=hm.places;have hbl:=hb.low;have hbh:=hb.high;refine Vm Tryz.call188 hbl fun hbln=>?_;refine Vm Tryz.call188 hbh fun hbhn=>?_;refine Vm Tryz.call188 hmp fun hmpn=>?_;refine Je 124 Tryz.call188 Tryz.func188 rfl rfl rfl ?_;apply (Xaf);intro b3;apply (qax);intro b4;apply (qax);intro b5;apply Xar∘qa8;refine q_l rfl (Z1 a _ _ hm) ?_;apply (Xbb);refine q_c ?_ ?_<;>intro hc0;·apply (Xdx);refine q_i L R ?_;exact ⟨[],by rw [Y4,if_pos hc0],rfl,rfl⟩
 have h0:Kx a=0:=by omega
 have hok:=V3 h0;have hAA:=hA h0;have hmn:=hok.mine.places;apply qbo∘Xct;refine q_l rfl (Jcb a s _ _ hm hs) ?_;apply (Xbj);refine q_c ?_ ?_<;>intro hc1;·apply (Xa8);refine q_i L R ?_;exact ⟨[],by rw [Y4,if_neg hc0,if_pos zL],rfl,rfl⟩
 have hf0:Uka a s=true:=by simpa using hc1
 have hfo:=V7b hf0;have hff:¬ Uka a s=false:=by rw [hf0];decide
 apply qbo∘Xab∘Xce∘Xb7;apply Kf (G:=[_,_,_,_,_,_,_,_]) (j:=8) (cj:=32) rfl rfl zb rfl zmb rfl;·intro hg9;replace hg9:=qb hg9;exact (Xab∘Xce) zvd
 intro junk9;apply (qaf);refine q_c ?_ ?_<;>intro hc2;·apply (Xa8);refine q_i L R ?_;exact ⟨[],by rw [Y4,if_neg hc0,if_neg hff,if_pos za],rfl,rfl⟩
 have hln:b.low.l.length=a.mine.places.l.length:=by omega
 have hhn:b.high.l.length=a.mine.places.l.length:=by omega
 apply (Xc2);refine Jm [(3,.pointer _),(4,.pointer _),(5,.pointer _),(44,.int _ _),(45,.int _ _)] zh fun tq0=>?_;refine q_s ([6,8,10]++rg 45 27) (fun g:FSR (Vya b) (b.low.l.length)=>[(45,.int .i64 ((g.1:Nat):Int))]) (fun g=>(b.low.l.length) - g.1) ⟨0,Kga _ _⟩ ?_;rintro ⟨k0,hk0,hp0⟩ junk;try dsimp only
 apply (Xaj);refine q_c ?_ ?_<;>intro hc3;·
  have hlg:=Jp (l:=b.low.l) (k:=k0) 0 za;have hhg:=Jp (l:=b.high.l) (k:=k0) 0 za;apply Xa1∘Xca;refine Ke tb [0,1,2,3,4,5,6,7,8,9,12,10,11] ([Blk.mk b5 _ _]) Ko zc zi ?_;apply Xby∘K3g∘qbl∘Xby∘K3g∘qbl∘qao;refine Jzb zxb rfl rfl rfl ?_;rintro v U J ⟨b58,rfl,rfl,hR58⟩;replace hR58:=hR58.symm;subst hR58;apply (qa1);refine Ks zPb rfl rfl rfl ?_;refine J1 (Jb (Ki ?_));refine Vw ([6,8,10]++rg 45 27) zJ [(45,.int _ _),(58,.slice _ _ _),(59,.int _ _),(60,.int _ _)] zh fun tq1=>?_;refine U2 (U:=(⟨.own b58 2 [],[b.low.l.getD k0 0,b.high.l.getD k0 0]⟩:OwL Int).L 3 Jj ++ (⟨b5,b.cells,214⟩ :: ⟨b4,s.cells,80⟩ :: ⟨b3,a.cells,32⟩ :: L)) (by simp only [OwL.L,Ow.L,yN,List.flatMap_nil,Jj,yaa,yr,yv];rfl) ?_;refine q_s ([6,10]++rg 60 11) (fun g:FS (Uv) ([b.low.l.getD k0 0,b.high.l.getD k0 0])=>[(60,.int .i64 ((g.1:Nat):Int))]) (fun g=>([b.low.l.getD k0 0,b.high.l.getD k0 0]).length - g.1) ⟨0,Kva _ _⟩ ?_;rintro ⟨k1,hk1,hp1⟩ junk;try dsimp only
  have hk58:(⟨.own b58 2 [],[b.low.l.getD k0 0,b.high.l.getD k0 0]⟩:OwL Int).ok 1 Jj:=⟨rfl,ym _,by simp only [maxLen];omega,rfl⟩;have hl2:[b.low.l.getD k0 0,b.high.l.getD k0 0].length=2:=rfl;apply (Xaj);refine q_c ?_ ?_<;>intro hc4;·
   obtain ⟨y,hy⟩:=Kn (l:=[b.low.l.getD k0 0,b.high.l.getD k0 0]) (k:=k1) za;apply (qbb);refine Jw (Jo tb ((⟨.own b58 2 [],[b.low.l.getD k0 0,b.high.l.getD k0 0]⟩:OwL Int)) _ rfl rfl rfl rfl zg (i:=k1) zk zp) rfl ?_;refine Jw (J4 tb ((⟨.own b58 2 [],[b.low.l.getD k0 0,b.high.l.getD k0 0]⟩:OwL Int)) rfl rfl rfl zj zg yf zg zb) rfl ?_;apply Xau∘Xav;apply Kf (G:=[_,_]) (j:=2) (cj:=66) rfl rfl zb rfl zmb rfl;·exact zsd
   intro junk3;apply (qaf);refine q_c ?_ ?_<;>intro hc5;·apply (Xae);refine J9 (Jb (Uk (Kd (Kh (Ym (Kd (Kd (Kh (Ym (Kd (Kh ?_)))))))))));refine q_i L R ?_;(have hpb:Vya b k0=some 1:=by rw [Vya];exact Zq hp1 hy (if_pos za));exact ⟨[],by rw [Y4,if_neg hc0,if_neg hff,if_neg za,if_pos (Vec rfl za za hpb)],rfl,rfl⟩
   apply (Xaw);exact q_k ⟨k1 + 1,J7a hp1 hy (if_neg za)⟩
  have hn1:=J8a hp1 za;refine K9 (Km (Uc (J6 (Jh (Jb (Jg ?_))))));apply (Xad);exact q_k ⟨k0 + 1,Zk hp0 za hn1⟩
 have hn0:=Jta hp0 za;have hrb:=Vxc (b:=b) rfl za hn0;have hplb:PresOk b.low.l:=Yna hrb.1;have hphb:PresOk b.high.l:=Yna hrb.2;have hck:Y4 a s b A=((List.range a.mine.places.l.length).findSome? (Vl a s b A)).getD 0:=by rw [Y4,if_neg hc0,if_neg hff,if_neg za,if_neg (by rw [hrb.1,hrb.2];simp)]
 apply qbk∘Xd0;refine Jv rfl (V2b a.mine _ _ hm.mineR hok.mine (Kxa h0)) rfl ?_;rintro v U J ⟨p,A2,S,rfl,hpk,hA2,hpl,rfl,rfl⟩;obtain rfl:A=A2:=hAA.unique hA2;have hfx:p.l.length=a.mine.places.l.length:=by rw [hpl,yD];exact hAA.length
 have hm2:AirR a (S ++ R):=⟨hm.places.mono fun r h=>Ja (by simp [h]),hm.roads.mono fun r h=>Ja (by simp [h]),hm.fans.mono fun r h=>Ja (by simp [h]),hm.doors.mono fun r h=>Ja (by simp [h])⟩;have hs2:SetR s (S ++ R):=⟨hs.fans.mono fun r h=>Ja (by simp [h]),hs.doors.mono fun r h=>Ja (by simp [h])⟩;apply Xb8∘Xct;refine Jv rfl (Vmc a s _ _ hm2 hs2 hok hfo) rfl ?_;rintro v U J ⟨n,rfl,hn,rfl,rfl⟩;have hpp:InR (Zja n.pipes) (Zja n.pipes :: Yma n.at_ :: (S ++ R)):=Ja (.head _);have haa:InR (Yma n.at_) (Zja n.pipes :: Yma n.at_ :: (S ++ R)):=Ja (.tail _ (.head _));have hmp3:InR (psl a.mine.places) (Zja n.pipes :: Yma n.at_ :: (S ++ R)):=hmp.mono fun r h=>Ja (by simp [h]);have hbl3:InR (isl b.low) (Zja n.pipes :: Yma n.at_ :: (S ++ R)):=hbl.mono fun r h=>Ja (by simp [h]);have hbh3:InR (isl b.high) (Zja n.pipes :: Yma n.at_ :: (S ++ R)):=hbh.mono fun r h=>Ja (by simp [h]);apply (qaq);intro b12;apply Xa9∘qab∘Xay;refine Jm [(5,.pointer _),(11,.slice _ _ _),(12,.pointer _),(80,.slice _ _ _),(81,.int _ _),(82,.int _ _)] zh fun tq2=>?_;refine q_s ([6,13,14]++rg 82 42) (fun g:FSR (Vl a s b A) (a.mine.places.l.length)=>[(82,.int .i64 ((g.1:Nat):Int))]) (fun g=>(a.mine.places.l.length) - g.1) ⟨0,Kga _ _⟩ ?_;rintro ⟨k2,hk2,hp2⟩ junk;try dsimp only
 apply (Xaj);refine q_c ?_ ?_<;>intro hc6;·
  have hmg:=Jp (l:=a.mine.places.l) (k:=k2) default za;have hpg:p.l[k2]?=some (!(A.getD k2 false)):=by have:=hAA.length;rw [hpl,yq,Jp (l:=A) (k:=k2) false za];rfl
  have hlg:=Jp (l:=b.low.l) (k:=k2) 0 za;have hhg:=Jp (l:=b.high.l) (k:=k2) 0 za;apply Xa1∘Ulf∘Xdn;intro b14;apply qad∘Xb9∘qah;apply Kf (G:=[_,_,_,_]) (j:=2) (cj:=89) rfl rfl zb rfl zmb rfl;·intro hg3;replace hg3:=qb hg3;apply (Xaq);refine Jw (Jo tb (p) _ rfl rfl rfl rfl zg (i:=k2) zk zp) rfl ?_;refine Jw zJb rfl ?_;exact qai
  intro junk3;apply (qaf);refine q_c ?_ ?_<;>intro hc7;·
   (have hnb:Vl a s b A k2=if b.low.l.getD k2 0≠0∨b.high.l.getD k2 0≠0 then some 12 else none:=by rw [Vl,if_pos (by simpa [or_comm] using hc7)]);apply qae∘Xah∘Ulf∘qa7∘Xb7;apply Kf (G:=[_,_,_,_,_,_]) (j:=6) (cj:=101) rfl rfl zb rfl zmb rfl;·intro hg7;replace hg7:=qb hg7;exact (Xah∘Ulf∘qa7) zvd
   intro junk7;apply (qaf);refine q_c ?_ ?_<;>intro hc8;·exact zMd
   apply (Xaw);exact q_k ⟨k2 + 1,Zk hp2 za (hnb.trans (if_neg za))⟩
  have hnb:Vl a s b A k2=if Ugc a s b.high.l (k2:Int) < 0∨0 < U1a a s b.low.l (k2:Int) then some 12 else none:=by rw [Vl,if_neg (by simpa [and_comm] using hc7)]
  apply qae∘qbe∘Xah;refine q_l rfl (K8c n a s b.high _ _ _ hpp haa hbh3 hn hok hhn hphb za) ?_;apply (Xav);refine Jub (k:=115) zmb (fun hg7=>?_) (fun hg7=>?_);·replace hg7:=qb hg7;(iterate 6 refine Vjb rfl rfl ?_);refine Jw zN rfl ?_;apply (qaf);refine Uh rfl ?_;exact zMd
  replace hg7:=qb hg7;refine J0a zGb rfl rfl ?_;refine J0a zzb rfl rfl ?_;refine J0a zHb rfl rfl ?_;refine J0a (Jz znb) rfl rfl ?_;refine V7c rfl (Yeb n a s b.low _ _ _ hpp haa hbl3 hn hok hln hplb za) rfl rfl ?_;rintro v U J ⟨rfl,rfl,rfl⟩;refine J0a (U9b rfl rfl) rfl rfl ?_;refine Jw zN rfl ?_;apply (qaf);refine q_c ?_ ?_<;>intro hc9;·exact zMd
  apply (Xaw);exact q_k ⟨k2 + 1,Zk hp2 za (hnb.trans (if_neg za))⟩
 have hn2:=Jta hp2 za;apply (Xcq);refine q_i L (Zja n.pipes :: Yma n.at_ :: (S ++ R)) ?_;exact ⟨[Zja n.pipes,Yma n.at_] ++ S,by rw [hck,hn2];rfl,rfl,rfl⟩
end
section
attribute [local irreducible] CJ LJ DJ Tri YV Gives Uq J2 Kj Ut RV J3 OwL.L
def nothingS:XSpan:=⟨-1125899906842624,1125899906842624⟩
def Ua (a:XAir) (s:XSetting) (b:XBounds) (A:List Bool) (k:Nat):XSpan:=
 if (a.mine.roads.l.getD k default).closed=true then ⟨0,0⟩
 else if A.getD (a.mine.roads.l.getD k default).fr.toNat false=true then
  ⟨Ud (Ky a s k) (b.low.l.getD (a.mine.roads.l.getD k default).fr.toNat 0 - b.high.l.getD (a.mine.roads.l.getD k default).to.toNat 0),
   K3 (Ky a s k) (b.high.l.getD (a.mine.roads.l.getD k default).fr.toNat 0 - b.low.l.getD (a.mine.roads.l.getD k default).to.toNat 0)⟩
 else nothingS
def U5 (a:XAir) (s:XSetting) (b:XBounds) (A:List Bool):List XSpan:=
 if Y4 a s b A=0 then (List.range a.mine.roads.l.length).map (Ua a s b A) else []
structure CheckOk (a:XAir) (s:XSetting) (b:XBounds):Prop where
 h0:Kx a=0
 hf:Uka a s=true
 hl:b.low.l.length=a.mine.places.l.length
 hh:b.high.l.length=a.mine.places.l.length
 pl:PresOk b.low.l
 ph:PresOk b.high.l
def Z1c {a:XAir} {s:XSetting} {b:XBounds} {A:List Bool} (h:Y4 a s b A=0):CheckOk a s b:=by
 unfold Y4 at h;split at h;·exact ubf
 rename_i h1;split at h;·cases h
 rename_i h2;split at h;·cases h
 rename_i h3;split at h;·cases h
 rename_i h4;refine ⟨by omega,by simpa using h2,by omega,by omega,Yna ?_,Yna ?_⟩;·
  cases e:b.low.l.findSome? Uv with
  | none=>rfl
  | some x=>exact absurd (.inl (by rw [e];rfl)) h4
 ·
  cases e:b.high.l.findSome? Uv with
  | none=>rfl
  | some x=>exact absurd (.inr (by rw [e];rfl)) h4
end
end Go.Proofs.YtchfclmokpbldaaGreat
