/-
  Merged texts. By an AI agent.
-/
import Derived.Test.YtchfclmokpbldaaGreatPart
import Derived.Test.YtchfclmokpbldaaGreatFits
set_option linter.all false
set_option maxHeartbeats 4000000
set_option maxRecDepth 20000
namespace Go.Proofs.YtchfclmokpbldaaGreat
open Go.Aw Go
section
attribute [local irreducible] CJ LJ DJ Tri YV Gives U7 Kb Kp U8 RV Ke OwL.L
section
variable {A B:Prop}
def Y6f(h:A→B:=by exact J0 (Jo tb (p) _ rfl rfl rfl rfl zi (i:=k) zo zw) rfl):=h
def Jng(h:A→B:=by exact J0 zGb rfl):=h
def Ydf(h:A→B:=by exact J0 (Jo tb ((⟨.own b19 N [],fr⟩:OwL Bool)) _ rfl rfl ((show _=Value.slice _ _ _ from rfl).trans (Uq hfl)) rfl zi (i:=(lb p.l k).toNat) zo zw) rfl):=h
end
def J4e (m:XMine) (L:LB) (R:LS) (hm:MineR m R):
 Tri Tryz.prog 196 [m.val].toArray L R (fun v M U=>v=.bool (decide (Ui m=0))∧L=M∧R=U):=by refine Jd 6 Tryz.call196 Tryz.func196 rfl rfl rfl ?_;apply (Xag);intro b1;apply qaz∘qam∘qbe;refine q_l rfl (J5b m _ _ hm) ?_;apply qbn∘Xbb;refine q_b L R ?_;exact zRd
structure FrOk (m:XMine) (f:List Int) (fr:List Bool) (N k:Nat):Prop where
 len:fr.length=N
 iff:∀c:Nat,fr.getD c false=true↔∃j:Nat,j < k∧(m.places.l.getD j default).surface=true∧lb f j=(c:Int)
def FrOk.zero (m:XMine) (f:List Int) (N:Nat):FrOk m f (List.replicate N false) N 0:=by refine ⟨by simp,fun c=>⟨fun h=>?_,fun ⟨j,hj,_⟩=>by omega⟩⟩;rw [yh,yL] at h;split at h <;> simp at h
def FrOk.stay {m:XMine} {f:List Int} {fr:List Bool} {N k:Nat} (h:FrOk m f fr N k) (hs:¬ (m.places.l.getD k default).surface=true):FrOk m f fr N (k + 1):=by
 refine ⟨h.len,fun c=>(h.iff c).trans ⟨fun ⟨j,h1,h2,h3⟩=>⟨j,by omega,h2,h3⟩,fun ⟨j,h1,h2,h3⟩=>?_⟩⟩;rcases yk j k with h4 | h4;·exact ⟨j,h4,h2,h3⟩
 ·
  obtain rfl : j = k := by omega
  exact absurd h2 hs
def FrOk.next {m:XMine} {f:List Int} {fr:List Bool} {N k:Nat} (h:FrOk m f fr N k) (hs:(m.places.l.getD k default).surface=true) (h0:0≤lb f k∧lb f k < (N:Int)):FrOk m f (fr.set (lb f k).toNat true) N (k + 1):=by
 have hl:=h.len;refine ⟨by simp [hl],fun c=>?_⟩;rw [Yua zc];split;·rename_i e;exact ⟨fun _=>⟨k,by omega,hs,by omega⟩,fun _=>rfl⟩
 ·
  rename_i e;refine (h.iff c).trans ⟨fun ⟨j,h1,h2,h3⟩=>⟨j,by omega,h2,h3⟩,fun ⟨j,h1,h2,h3⟩=>?_⟩;rcases yk j k with h4 | h4;·exact ⟨j,h4,h2,h3⟩
  ·(obtain rfl : j = k := by omega);exact absurd zc e
def Zvc (f:List Int) (fr:List Bool) (n:Nat):List Bool:=(List.range n).map fun i=>fr.getD (lb f i).toNat false
def Klc {f:List Int} {fr:List Bool} {n i:Nat} (h:i < n):(Zvc f fr n).getD i false=fr.getD (lb f i).toNat false:=by rw [yh,Zvc,yt,yZ h];rfl
def Vwd {m:XMine} {j:Nat} (h:j < m.places.l.length):(Jud m).getD j false=(m.places.l.getD j default).surface:=by rw [yh,Jud,yt,Js (l:=m.places.l) (k:=j) default h];rfl
def FrOk.airy {m:XMine} {f:List Int} {fr:List Bool} {N:Nat} (h:FrOk m f fr N m.places.l.length) (hp:PartIs m f (N:Int)):AiryIs m (Zvc f fr m.places.l.length):=by
 have hsl:(Jud m).length=m.places.l.length:=by simp [Jud]
 refine ⟨by simp [Zvc,hsl],fun i hi=>?_⟩;have hi':i < m.places.l.length:=by omega
 have hr:=hp.rng i hi';rw [Klc hi',h.iff];refine ⟨fun ⟨j,h1,h2,h3⟩=>⟨j,by omega,by rw [Vwd h1];exact h2,(hp.iff j i h1 hi').1 zc⟩,fun ⟨j,h1,h2,h3⟩=>?_⟩;have h1':j < m.places.l.length:=by omega
 rw [Vwd h1'] at h2;exact ⟨j,h1',h2,by rw [(hp.iff j i h1' hi').2 h3];omega⟩
def Ura (A : List Bool) : Nat → List Int
 | 0=>[]
 | k + 1=>if A.getD k false=true then Ura A k else Ura A k ++ [(k:Int)]
def Vqa (A : List Bool) : ∀ k, (Ura A k).length ≤ k
 | 0=>by simp [Ura]
 | k + 1=>by
  have:=Vqa A k
  rw [Ura]
  split
  ·omega
  ·simp only [yj,ym];omega
def K9b {A : List Bool} {e : Int} : ∀ {k : Nat}, e ∈ Ura A k ↔ ∃ i : Nat, e = (i : Int) ∧ i < k ∧ ¬ A.getD i false = true
 | 0=>⟨fun h=>(by simp [Ura] at h),fun ⟨i,_,h,_⟩=>zc⟩
 | k + 1=>by
  have ih:=K9b (A:=A) (e:=e) (k:=k)
  rw [Ura]
  split
  ·rename_i h
   refine ih.trans ⟨fun ⟨i,h1,h2,h3⟩=>⟨i,h1,by omega,h3⟩,fun ⟨i,h1,h2,h3⟩=>⟨i,h1,?_,h3⟩⟩
   rcases yk i k with h4 | h4
   ·exact h4
   ·obtain rfl : i = k := by omega
    exact absurd h h3
  ·rename_i h
   rw [yOa,ih,yOb]
   refine ⟨fun h0=>?_,fun ⟨i,h1,h2,h3⟩=>?_⟩
   ·rcases h0 with ⟨i, h1, h2, h3⟩ | h0
    ·exact ⟨i,h1,by omega,h3⟩
    ·exact ⟨k,h0,by omega,h⟩
   ·rcases yk i k with h4 | h4
    ·exact .inl ⟨i,h1,h4,h3⟩
    ·obtain rfl : i = k := by omega
     exact .inr h1
def Zjd (m:XMine) (L:LB) (R:LS) (hm:MineR m R) (hok:MineOk m) (hv:Ui m=0):
 Tri Tryz.prog 243 [m.val].toArray L R (fun w M U=>∃(p:OwL Int) (A:List Bool) (S:LS),w=p.val∧p.ok 1 Jj∧AiryIs m A∧p.l=Ura A m.places.l.length∧p.L 3 Jj ++ L=M∧S ++ R=U):=by
 have hmp:=hm.places;have hnp:=hok.places;refine Jd 57 Tryz.call243 Tryz.func243 rfl rfl rfl ?_;apply (Xag);intro b1;apply Xbz∘qbe;refine q_l rfl (J4e m _ _ hm) ?_;apply (Xbg);refine q_c ?_ ?_<;>intro hc0;·apply Xdi∘qbh;refine q_r L R zzd ?_;exact absurd hv zS
 apply qbv∘qbe;refine Ju rfl (Y8e m _ _ hm hok) rfl ?_;rintro v M U ⟨p,N,S,rfl,hpk,hP,rfl,rfl⟩;have hpl:=hP.len;have hpn:=hP.n;have hmp2:InR (psl m.places) (S ++ R):=hmp.mono fun r h=>Jb (by simp [h]);refine J0 zcc rfl ?_;apply Xe3∘Xa2∘qc7;rintro v M U ⟨b19,rfl,rfl,hR19⟩;replace hR19:=hR19.symm;subst hR19;apply Xbz∘Xbh;refine Jh [(1,.pointer _),(3,.slice _ _ _),(5,.slice _ _ _),(21,.slice _ _ _),(22,.int _ _),(23,.int _ _)] zg fun tq0=>?_;refine V4 zgc ?_;refine q_p ([6,7]++rg 23 14) ((⟨fun q=>[(23,.int .i64 ((q.1.1:Nat):Int))],fun q=>(⟨.own b19 N [],q.1.2⟩:OwL Bool).L 4 blc ++ (p.L 3 Jj ++ (⟨b1,m.cells,28⟩ :: L)),fun _=>S ++ R,fun q=>m.places.l.length - q.1.1⟩:Head {q:Nat×List Bool // q.1≤m.places.l.length∧FrOk m p.l q.2 N q.1})) (⟨(0,List.replicate N false),by dsimp only;omega,FrOk.zero m p.l N⟩) ?_;rintro ⟨⟨k,fr⟩,q1,q2⟩ junk;try dsimp only
 dsimp only at q1 q2;have hfl:=q2.len;have hkf:(⟨.own b19 N [],fr⟩:OwL Bool).ok 1 blc:=by have:=Yj (f:=blc) (wd:=1) (b:=b19) (n:=N) (x:=false) V1 zF;exact OwL.len_ok V1 this zsa
 apply (Xay);refine q_c ?_ ?_<;>intro hc1;·
  have hpg:=Js (l:=m.places.l) (k:=k) default zc;have hlg:=Zdc (f:=p.l) (v:=k) zc;have hrk:=hP.rng k zc;have hfg:=Js (l:=fr) (k:=(lb p.l k).toNat) false zc;apply Xbv∘qa3∘Xei;intro b7;apply qad∘Xcv∘qaf;refine q_c ?_ ?_<;>intro hc2;·apply qay∘qbm∘Xaj∘Y6f∘Jng∘Ydf;refine V5 (Jp tb ((⟨.own b19 N [],fr⟩:OwL Bool)) (true) rfl rfl rfl rfl zm zi yf zi zj ze ze) ?_;rintro v M U ⟨rfl,rfl⟩;apply (Xb1);exact q_k ⟨(k + 1,_),by dsimp only;omega,q2.next zO hrk⟩
  apply (Xbk);exact q_k ⟨(k + 1,fr),by dsimp only;omega,q2.stay zO⟩
 obtain rfl:k=m.places.l.length:=by omega
 have hA:=q2.airy hP;obtain ⟨A,hAe⟩:∃A,A=Zvc p.l fr m.places.l.length:=⟨_,rfl⟩;rw [← hAe] at hA;apply qbk∘Xbz∘Xbh;refine Jh [(3,.slice _ _ _),(5,.slice _ _ _),(8,.slice _ _ _),(39,.int _ _),(40,.int _ _)] zg fun tq1=>?_;refine K8 ([8,9]++rg 40 16) ((⟨fun q=>[(40,.int .i64 ((q.1.1:Nat):Int)),(8,q.1.2.val)],fun q=>q.1.2.L 3 Jj ++ ((⟨.own b19 N [],fr⟩:OwL Bool).L 4 blc ++ (p.L 3 Jj ++ (⟨b1,m.cells,28⟩ :: L))),fun _=>S ++ R,fun q=>m.places.l.length - q.1.1⟩:Head {q:Nat×OwL Int // q.1≤m.places.l.length∧q.2.ok 1 Jj∧q.2.l=Ura A q.1})) (⟨(0,OwL.nil),by dsimp only;omega,OwL.nil_ok,rfl⟩) zg zK zJb ?_;rintro ⟨⟨k,q⟩,w1,w2,w3⟩ junk;try dsimp only
 dsimp only at w1 w2 w3;apply (Xay);refine q_c ?_ ?_<;>intro hc3;·
  have hlg:=Zdc (f:=p.l) (v:=k) zc;have hrk:=hP.rng k zc;have hfg:=Js (l:=fr) (k:=(lb p.l k).toNat) false zc;have hAk:A.getD k false=fr.getD (lb p.l k).toNat false:=by rw [hAe];exact Klc zc
  have hql:=Vqa A k;rw [← w3] at hql;apply Xbv∘Xar∘qbm∘Xaj∘Y6f∘Jng∘Ydf;refine J0 (Kc tb ((⟨.own b19 N [],fr⟩:OwL Bool)) rfl rfl rfl zm zi yf zi ze) rfl ?_;apply (Xbg);refine q_c ?_ ?_<;>intro hc4;·apply Xcl∘qcx;rintro v M U ⟨b53,rfl,rfl,hR53⟩;replace hR53:=hR53.symm;subst hR53;refine Y6 (Jq (f:=Jj) (a:=(k:Int)) tb rfl rfl rfl rfl (w2) zm zCb rfl zz) rfl ?_;rintro v M U ⟨o54,rfl,hok54,rfl,rfl⟩;apply qc4∘Xb1;exact q_k ⟨(k + 1,⟨o54,q.l ++ [(k:Int)]⟩),by dsimp only;omega,hok54,by dsimp only;rw [Ura,if_neg (by rw [hAk];simpa using hc4),w3]⟩
  apply (Xbk);exact q_k ⟨(k + 1,q),by dsimp only;omega,w2,by dsimp only;rw [Ura,if_pos (by rw [hAk];simpa using hc4),w3]⟩
 obtain rfl:k=m.places.l.length:=by omega
 apply qbk∘Xej;refine q_r (q.L 3 Jj ++ L) (S ++ R) zzd ?_;exact ⟨q,A,S,rfl,w2,hA,w3,rfl,rfl⟩
end
section
attribute [local irreducible] CJ LJ DJ Tri YV Gives U7 Kb Kp U8 RV Ke OwL.L
section
variable {A B:Prop}
def Zof(h:A→B:=by exact J0 zVa rfl):=h
def Vbf(h:A→B:=by exact Kq (Kc tb ((⟨o10,l⟩:OwL Bool)) rfl rfl rfl zm zi yf zi ze) rfl rfl rfl):=h
def Vpf(h:A→B:=by exact Kq (Jo tb ((⟨o10,l⟩:OwL Bool)) _ rfl rfl ((show _=Value.slice _ _ _ from rfl).trans (by simp only [OwL.val,hll])) rfl zi (i:=r.to.toNat) zo zw) rfl rfl rfl):=h
end
def Jxd (m:XMine) (seen:Arr Bool) (L:LB) (R:LS) (hm:MineR m R) (hs:InR (K4g seen) R) (hok:MineOk m) (hl:seen.l.length=m.places.l.length):
 Tri Tryz.prog 289 [m.val,seen.val].toArray L R (fun w M U=>∃p:OwL Bool,w=p.val∧p.ok 1 blc∧FromIs m seen.l p.l∧p.L 4 blc ++ L=M∧R=U):=by
 have hro:=hm.roads;have hnp:=hok.places;have hnr:=hok.roads;refine Jd 49 Tryz.call289 Tryz.func289 rfl rfl rfl ?_;apply (Xag);intro b2;apply qc4∘Xd0;refine Y6 (K6 (f:=blc) (xs:=seen) tb rfl rfl rfl zj rfl rfl (hs) yf zc) rfl ?_;rintro v M U ⟨o10,rfl,hok10,rfl,rfl⟩;apply Xbz∘qaz∘qa2;refine Jh [(2,.pointer _),(5,.slice _ _ _),(6,.bool _)] zg fun tq0=>?_;refine q_p ([6,7,8]++rg 11 37) ((⟨fun q=>[(6,.bool q.1.1)],fun q=>(⟨o10,q.1.2⟩:OwL Bool).L 4 blc ++ (⟨b2,m.cells,28⟩ :: L),fun _=>R,fun q=>Kra q.1.2 * 2 + (if q.1.1=true then 1 else 0)⟩:Head {q:Bool×List Bool // (⟨o10,q.2⟩:OwL Bool).ok 1 blc∧FromTo m seen.l q.2∧(q.1=false→∀r∈m.roads.l,r.closed=false→q.2.getD r.fr.toNat false=q.2.getD r.to.toNat false)})) (⟨(true,seen.l),hok10,FromTo.init,fun h=>by cases h⟩) ?_;rintro ⟨⟨again,l0⟩,q1,q2,q3⟩ junk;try dsimp only
 dsimp only at q1 q2 q3;apply qbi∘qah∘qaf;refine q_c ?_ ?_<;>intro hc0;·
  refine Jt (Ja (Jy (Ji (Je ?_))));apply qaz∘qam∘Xat;refine Uh ([6,7,8]++rg 11 37) zG [(6,.bool _),(7,.int _ _)] zg fun tq1=>?_;refine q_p ([6,7,8]++rg 12 36) ((⟨fun q=>[(7,.int .i64 ((q.1.1:Nat):Int)),(6,.bool q.1.2.1)],fun q=>(⟨o10,q.1.2.2⟩:OwL Bool).L 4 blc ++ (⟨b2,m.cells,28⟩ :: L),fun _=>R,fun q=>m.roads.l.length - q.1.1⟩:Head {q:Nat×Bool×List Bool // q.1≤m.roads.l.length∧(⟨o10,q.2.2⟩:OwL Bool).ok 1 blc∧FromTo m seen.l q.2.2∧(q.2.1=true→Kra q.2.2 < Kra l0)∧(q.2.1=false→q.2.2=l0∧∀(j:Nat) (r:XRoad),j < q.1→m.roads.l[j]?=some r→r.closed=false→l0.getD r.fr.toNat false=l0.getD r.to.toNat false)})) (⟨(0,false,l0),by dsimp only;omega,q1,q2,(fun h=>by cases h),fun _=>⟨rfl,fun j r hj=>by omega⟩⟩) ?_;rintro ⟨⟨i,ch,l⟩,w1,w2,w3,w4,w5⟩ junk;try dsimp only
  dsimp only at w1 w2 w3 w4 w5;have hll:=w3.len;apply (Xbm);refine q_c ?_ ?_<;>intro hc1;·
   have hr0:=Js (l:=m.roads.l) (k:=i) default zc;have hrk:=hok.road i _ hr0;obtain ⟨r,hrr0⟩:∃r,r=m.roads.l.getD i default:=⟨_,rfl⟩;rw [← hrr0] at hr0 hrk;have hr1:=hrk.fr;have hr2:=hrk.to;have hr3:=hrk.ne;have hgf:=Js (l:=l) (k:=r.fr.toNat) false zc;have hgt:=Js (l:=l) (k:=r.to.toNat) false zc;apply Xcz∘Zof∘Xeo;intro b8;apply (Xem);refine Kg tb [0,1,2,3,4,5,6,7,8,9,10,11,12,13,14,15] ([Blk.mk b8 _ _] ++ ((⟨o10,l⟩:OwL Bool).L 4 blc ++ [])) Kn zf zk ?_;apply (Xae);refine Kq (Uva rfl) rfl rfl rfl ?_;apply (qb2);refine U9 (k:=27) ztb (fun hg3=>?_) (fun hg3=>?_);·
    replace hg3:=qb hg3;refine Kq zrd rfl rfl rfl ?_;apply (Xae);refine Kq zmd rfl rfl rfl ?_;apply (Vbf);refine Kq zrd rfl rfl rfl ?_;apply Xae∘Vpf∘Vbf;refine Kq (Ukd tb rfl rfl rfl) rfl rfl rfl ?_;apply (Xbt);refine q_c ?_ ?_<;>intro hc2;·
     refine Kh tb [43,44,45] [0,1,2,3,4,5,6] [7,8,9,10] ([Blk.mk b8 _ _]) _ Kn zf zk ye ?_;apply (Xd2);refine V6 zrd rfl rfl rfl rfl ?_;apply (Xcw);refine Kz zmd rfl rfl rfl rfl ?_;apply (qba);refine Jwb (Jp tb ((⟨o10,l⟩:OwL Bool)) (true) rfl rfl rfl rfl zm zi yf zi zj ze ze) rfl rfl ?_;rintro v M U ⟨rfl,rfl⟩;apply qa1∘Vpf;(have hq3:(l.set r.fr.toNat true)[r.to.toNat]?=some (l.getD r.to.toNat false):=by rw [yW zc];exact hgt);have hk3:(⟨o10,l.set r.fr.toNat true⟩:OwL Bool).ok 1 blc:=OwL.len_ok V1 w2 zq;refine Jwb (Jp tb ((⟨o10,l.set r.fr.toNat true⟩:OwL Bool)) (true) rfl rfl rfl rfl zm zi yf zi zj ze ze) rfl rfl ?_;rintro v M U ⟨rfl,rfl⟩;apply (qa1);refine Kq (Ux ztb) rfl rfl rfl ?_;apply (Xcd);(have hne:l.getD r.fr.toNat false≠l.getD r.to.toNat false:=by simpa using hc2);(have hcl:r.closed=false:=by simpa using hg3);have hst:Step m r.fr.toNat r.to.toNat:=⟨r,yi hr0,hcl,.inl ⟨by omega,by omega⟩⟩;have hlt:=Ygd (l:=l) (u:=r.fr.toNat) (v:=r.to.toNat) zc zc hne;have hle:Kra l≤Kra l0:=by
      cases ch with
      | true=>have:=w4 rfl;omega
      | false=>rw [(w5 rfl).1];exact yn _
     exact q_k ⟨(i + 1,true,(l.set r.fr.toNat true).set r.to.toNat true),by dsimp only;omega,OwL.len_ok V1 w2 zq,w3.next hst zc zc hne,fun _=>by dsimp only;omega,fun h=>by cases h⟩
    exact uas
   replace hg3:=qb hg3;(iterate 11 apply (qap));apply (Xbt);refine Vy rfl ?_;exact uas
  obtain rfl:i=m.roads.l.length:=by omega
  have hmeas:Kra l * 2 + (if ch=true then 1 else 0) < Kra l0 * 2 + (if again=true then 1 else 0):=by
   rw [if_pos hc0];cases ch with
   | true=>have:=w4 rfl;simp;omega
   | false=>rw [(w5 rfl).1];simp
  refine K5 (Kk (K1 (J8 (Jg ?_))));exact Ka ⟨(ch,l),w2,w3,fun h r hr hcc=>by obtain ⟨j,hj⟩:=List.mem_iff_getElem?.1 hr;rw [(w5 h).1];exact (w5 h).2 j r (List.getElem?_eq_some_iff.1 hj).1 hj hcc⟩ zp zg zk zJb hmeas
 have hll:=q2.len;apply qbk∘Xej;refine q_r ((⟨o10,l0⟩:OwL Bool).L 4 blc ++ L) R zzd ?_;exact ⟨⟨o10,l0⟩,by simp only [OwL.val,hll],q1,q2.done (q3 zS),rfl,rfl⟩
def Kee {m:XMine} {p:OwL Bool} {A:LB} {R:LS} (hin:InB (p.L 4 blc) A) (hk:p.ok 1 blc) (hm:MineR m R) (hok:MineOk m) (hl:p.l.length=m.places.l.length):
 Tri Tryz.prog 289 [m.val,p.val].toArray A R (fun w M U=>∃q:OwL Bool,w=q.val∧q.ok 1 blc∧FromIs m p.l q.l∧A ++ q.L 4 blc=M∧R=U):=by have h:=Jxd m p.arr [] ([K4g p.arr] ++ R) ⟨hm.places.mono fun r h=>Jb (.tail _ h),hm.roads.mono fun r h=>Jb (.tail _ h)⟩ zRb hok hl;have h2:=Tri.lend (S:=[K4g p.arr]) (Post:=fun v M=>∃q:OwL Bool,v=q.val∧q.ok 1 blc∧FromIs m p.l q.l∧q.L 4 blc ++ []=M) (Spl.rest (L:=A)) (fun w G hh s hs=>by rw [List.mem_singleton.1 hs];exact Y2 hh hin hk V1 zj yg) (h.mono fun v M U ⟨q,a1,a2,a3,a4,a5⟩=>⟨⟨q,a1,a2,a3,a4⟩,a5⟩);exact h2.mono fun v L'' U ⟨M,e,⟨q,a1,a2,a3,a4⟩,a5⟩=>⟨q,a1,a2,a3,by rw [← a4,yla] at e;exact e,a5⟩
def Uzd (m:XMine) (L:LB) (R:LS) (hm:MineR m R) (hok:MineOk m):
 Tri Tryz.prog 256 [m.val].toArray L R (fun w M U=>∃p:OwL Bool,w=p.val∧p.ok 1 blc∧AiryIs m p.l∧L ++ p.L 4 blc=M∧R=U):=by
 have hpl:=hm.places;have hnp:=hok.places;refine Jd 28 Tryz.call256 Tryz.func256 rfl rfl rfl ?_;apply (Xag);intro b1;apply qc4∘qam∘Xab∘qc7;rintro v M U ⟨b8,rfl,rfl,hR8⟩;replace hR8:=hR8.symm;subst hR8;apply Xbz∘Xat;refine Jh [(1,.pointer _),(3,.slice _ _ _),(4,.int _ _)] zg fun tq0=>?_;refine V4 zgc ?_;refine q_p ([4]++rg 9 16) ((⟨fun q=>[(4,.int .i64 ((q.1.1:Nat):Int))],fun q=>(⟨.own b8 m.places.l.length [],q.1.2⟩:OwL Bool).L 4 blc ++ (⟨b1,m.cells,28⟩ :: L),fun _=>R,fun q=>m.places.l.length - q.1.1⟩:Head {q:Nat×List Bool // q.1≤m.places.l.length∧q.2.length=m.places.l.length∧∀(j:Nat) (p:XPlace),j < q.1→m.places.l[j]?=some p→q.2[j]?=some p.surface})) (⟨(0,List.replicate m.places.l.length false),by dsimp only;omega,by simp,fun j p hj=>by omega⟩) ?_;rintro ⟨⟨i,l⟩,q1,hll,q3⟩ junk;try dsimp only
 dsimp only at q1 hll q3;have hkl:(⟨.own b8 m.places.l.length [],l⟩:OwL Bool).ok 1 blc:=by have:=Yj (f:=blc) (wd:=1) (b:=b8) (n:=m.places.l.length) (x:=false) V1 zF;exact OwL.len_ok V1 this zua
 apply (Xbm);refine q_c ?_ ?_<;>intro hc0;·
  have hpg:=Js (l:=m.places.l) (k:=i) default zc;have hlg:=Js (l:=l) (k:=i) false zc;refine Jt (Ja (Ji (Jy (Je ?_))));apply Xaj∘Xaf∘Zof∘Xbd;refine J0 (Jo tb ((⟨.own b8 m.places.l.length [],l⟩:OwL Bool)) _ rfl rfl ((show _=Value.slice _ _ _ from rfl).trans (Uq hll)) rfl zi (i:=i) zo zw) rfl ?_;refine V5 (Jp tb ((⟨.own b8 m.places.l.length [],l⟩:OwL Bool)) ((m.places.l.getD i default).surface) rfl rfl rfl rfl zm zi yf zi zj ze ze) ?_;rintro v M U ⟨rfl,rfl⟩;apply (Xb6);exact Ka ⟨(i + 1,l.set i (m.places.l.getD i default).surface),by dsimp only;omega,by simp;exact hll,fun j p hj hp=>by
  rw [yE];split;·rename_i e;subst e;rw [if_pos zc];rw [hpg] at hp;cases hp;rfl
  ·rename_i e;exact q3 j p (by dsimp only at hj;omega) hp⟩ zp zg zk zJb zt
 obtain rfl:i=m.places.l.length:=by omega
 have hsf:l=Jud m:=by
  refine yfa fun j=>?_;rcases yk j m.places.l.length with h | h;·have hp := Js (l := m.places.l) (k := j) default h;rw [q3 j _ h hp,Jud,yt,hp];rfl
  ·rw [yq zc,yq (by simp [Jud];exact h)]
 apply qbk∘qbe∘qbm;refine Ju rfl (Tri.cast (Kee (p:=(⟨.own b8 m.places.l.length [],l⟩:OwL Bool)) zE hkl hm hok hll) (by show #[_,Value.slice _ (List.length _) _]=_;rw [hll];rfl)) rfl ?_;rintro v M U ⟨p,rfl,hp,hF,rfl,rfl⟩;simp only [yp,yA,yv];apply qc4∘qa0;refine q_r (L ++ p.L 4 blc) R zzd ?_;exact ⟨p,rfl,hp,by rw [hsf] at hF;exact hF,rfl,rfl⟩
end
end Go.Proofs.YtchfclmokpbldaaGreat
