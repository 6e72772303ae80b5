/-
  Merged texts. By an AI agent.
-/
import Derived.Test.YtchfclmokpbldaaGreatCflowR
import Derived.Test.YtchfclmokpbldaaGreatNets
set_option linter.all false
set_option maxHeartbeats 4000000
set_option maxRecDepth 20000
namespace Go.Proofs.YtchfclmokpbldaaGreat
open Go.Aw Go
section
def Ume (p : Nat → Prop) (D : Nat → Int) : ∀ n : Nat, (∃ u, u < n ∧ p u) → ∃ u, u < n ∧ p u ∧ ∀ v, v < n → p v → D v ≤ D u
 | 0,h=>by obtain ⟨u,hu,_⟩:=h;omega
 | n + 1,h=>by
  by_cases hn:∃u,u < n∧p u
  ·obtain ⟨u, h1, h2, h3⟩ := Ume p D n hn
   by_cases hp:p n∧D u < D n
   ·exact ⟨n,by omega,hp.1,fun v hv hpv=>by
     rcases yk v n with h | h
     ·have:=h3 v h hpv;omega
     ·obtain rfl : v = n := by omega
      omega⟩
   ·exact ⟨u,by omega,h2,fun v hv hpv=>by
     rcases yk v n with h | h
     ·exact h3 v h hpv
     ·obtain rfl : v = n := by omega
      exact Int.not_lt.1 fun e=>hp ⟨hpv,e⟩⟩
  ·obtain ⟨u, h1, h2⟩ := h
   obtain rfl:u=n:=by
    rcases yk u n with h | h
    ·exact absurd ⟨u,h,h2⟩ hn
    ·omega
   exact ⟨u,by omega,h2,fun v hv hpv=>by
    rcases yk v u with h | h
    ·exact absurd ⟨v,h,hpv⟩ hn
    ·obtain rfl : v = u := by omega
     exact yz _⟩
structure Accept (a:XAir) (s:XSetting) (b:XBounds) (A:List Bool):Prop where
 ck:CheckOk a s b
 fix:∀i:Nat,i < a.mine.places.l.length→(!(A.getD i false) || (a.mine.places.l.getD i default).surface)=true→b.low.l.getD i 0=0∧b.high.l.getD i 0=0
 net:∀i:Nat,i < a.mine.places.l.length→¬ (!(A.getD i false) || (a.mine.places.l.getD i default).surface)=true→0≤K1c a s b.high.l (i:Int)∧U9a a s b.low.l (i:Int)≤0
def Vkb {a:XAir} {s:XSetting} {b:XBounds} {A:List Bool} (h:CheckOk a s b):Y9 a s b A=((List.range a.mine.places.l.length).findSome? (Vq a s b A)).getD 0:=by have h1:=h.hl;have h2:=h.hh;rw [Y9,if_neg (by rw [h.h0];decide),if_neg (by rw [h.hf];decide),if_neg za,if_neg (by rw [J7b h.pl,J7b h.ph];simp)]
def Vmc (a:XAir) (s:XSetting) (b:XBounds) (A:List Bool) (i:Nat):Vq a s b A i=none∨Vq a s b A i=some 12:=by
 unfold Vq;split;·
  split;·exact .inr rfl
  ·exact .inl rfl
 ·
  split;·exact .inr rfl
  ·exact .inl rfl
def Vec {a:XAir} {s:XSetting} {b:XBounds} {A:List Bool}:Y9 a s b A=0↔Accept a s b A:=by
 have node:∀i,Vq a s b A i=none↔((!(A.getD i false) || (a.mine.places.l.getD i default).surface)=true→b.low.l.getD i 0=0∧b.high.l.getD i 0=0)∧(¬ (!(A.getD i false) || (a.mine.places.l.getD i default).surface)=true→0≤K1c a s b.high.l (i:Int)∧U9a a s b.low.l (i:Int)≤0):=fun i=>by
  unfold Vq;by_cases h1:(!(A.getD i false) || (a.mine.places.l.getD i default).surface)=true;·
   rw [if_pos h1];refine ⟨fun h=>⟨fun _=>?_,fun h'=>absurd h1 h'⟩,fun h=>if_neg (by have:=h.1 h1;omega)⟩;split at h;·cases h
   ·omega
  ·
   rw [if_neg h1];refine ⟨fun h=>⟨fun h'=>absurd h' h1,fun _=>?_⟩,fun h=>if_neg (by have:=h.2 h1;omega)⟩;split at h;·cases h
   ·omega
 constructor;·
  intro h;have hC:=Zic h;rw [Vkb hC] at h;have hn:(List.range a.mine.places.l.length).findSome? (Vq a s b A)=none:=by
   cases e:(List.range a.mine.places.l.length).findSome? (Vq a s b A) with
   | none=>rfl
   | some v=>
    obtain ⟨i,_,hi⟩:=yw e;rcases Vmc a s b A i with h1 | h1;·rw [h1] at hi;cases hi
    ·rw [h1] at hi;cases hi;rw [e] at h;cases h
  rw [yK] at hn;exact ⟨hC,fun i hi=>((node i).1 (hn i (List.mem_range.2 hi))).1,fun i hi=>((node i).1 (hn i (List.mem_range.2 hi))).2⟩
 ·intro h;rw [Vkb h.ck,List.findSome?_eq_none_iff.2 (fun i hi=>(node i).2 ⟨h.fix i (List.mem_range.1 hi),h.net i (List.mem_range.1 hi)⟩)];rfl
def FitsF.lessLow {a : XAir} {s : XSetting} {x : XState} (h : FitsF a s x) (ha : AirOk a) {i : Nat} (hi : i < a.mine.roads.l.length) (hc : (a.mine.roads.l.getD i default).closed = false) {d d' : Int}
 (hd:d=x.pres.l.getD (a.mine.roads.l.getD i default).fr.toNat 0 - x.pres.l.getD (a.mine.roads.l.getD i default).to.toNat 0) (hlt:d' < d):Ub (Kz a s i) d' < x.flows.l.getD i 0:=by
 have hf:=h.fit hi hc;rw [← hd] at hf;have hr:(0:Int)≤(i:Int)∧(i:Int) < a.mine.roads.l.length:=by omega
 have hfl:=h.flen;have hq:=h.flow _ (yi (Jn (l:=x.flows.l) (k:=i) 0 za));have h1:=K4a (s:=s) ha hr d';generalize Ub (Kz a s i) d'=l at *;generalize x.flows.l.getD i 0=q at *;refine Int.not_le.1 fun hl=>?_;have k1:=h1.le q za hl;omega
def FitsF.lessHigh {a : XAir} {s : XSetting} {x : XState} (h : FitsF a s x) (ha : AirOk a) {i : Nat} (hi : i < a.mine.roads.l.length) (hc : (a.mine.roads.l.getD i default).closed = false) {d d' : Int}
 (hd:d=x.pres.l.getD (a.mine.roads.l.getD i default).fr.toNat 0 - x.pres.l.getD (a.mine.roads.l.getD i default).to.toNat 0) (hlt:d < d'):x.flows.l.getD i 0 < K2 (Kz a s i) d':=by
 have hf:=h.fit hi hc;rw [← hd] at hf;have hr:(0:Int)≤(i:Int)∧(i:Int) < a.mine.roads.l.length:=by omega
 have hfl:=h.flen;have hq:=h.flow _ (yi (Jn (l:=x.flows.l) (k:=i) 0 za));have h1:=Jra (s:=s) ha hr d';generalize K2 (Kz a s i) d'=l at *;generalize x.flows.l.getD i 0=q at *;refine Int.not_le.1 fun hl=>?_;have k1:=h1.ge q hl za;omega
def Uwf (a:XAir) (fl:List Int) (v:Int) (k:Nat):Int:=if (a.mine.roads.l.getD k default).fr=v then fl.getD k 0 else if (a.mine.roads.l.getD k default).to=v then -(fl.getD k 0) else 0
def Zma (a:XAir) (u v k:Nat):Prop:=(a.mine.roads.l.getD k default).closed=false∧(((a.mine.roads.l.getD k default).fr=(u:Int)∧(a.mine.roads.l.getD k default).to=(v:Int))∨((a.mine.roads.l.getD k default).fr=(v:Int)∧(a.mine.roads.l.getD k default).to=(u:Int)))
def Jmf {a : XAir} {s : XSetting} {x : XState} (h : FitsF a s x) (ha : AirOk a) {H : List Int} {u : Nat} {k : Nat} (hk : k < a.mine.roads.l.length)
 (hle:∀v,Zma a u v k→x.pres.l.getD v 0 - H.getD v 0≤x.pres.l.getD u 0 - H.getD u 0):
 Upa Ub K2 a s H u k≤Uwf a x.flows.l u k∧((∃v,Zma a u v k∧x.pres.l.getD v 0 - H.getD v 0 < x.pres.l.getD u 0 - H.getD u 0)→Upa Ub K2 a s H u k < Uwf a x.flows.l u k):=by
 have hro:=ha.mine.road k _ (Jn default hk);have h1:=hro.fr;have h2:=hro.to;have h3:=hro.ne;have hr:(0:Int)≤(k:Int)∧(k:Int) < a.mine.roads.l.length:=by omega
 rw [Upa,Uwf];cases hc:(a.mine.roads.l.getD k default).closed with
 | true=>have h0:=h.shut hk hc;rw [h0];simp only [if_true];refine ⟨by split;omega;split <;> omega,fun ⟨v,hv,_⟩=>?_⟩;rw [Zma,hc] at hv;cases hv.1
 | false=>
  simp only [yhb,if_false];have hi:=h.inside ha hk hc (d:=Ur a x.pres.l k) rfl;by_cases hf:(a.mine.roads.l.getD k default).fr=(u:Int);·have hj : Zma a u (a.mine.roads.l.getD k default).to.toNat k := ⟨hc, .inl ⟨hf, by omega⟩⟩;have hl:=hle _ hj;(have eu:(a.mine.roads.l.getD k default).fr.toNat=u:=by omega);(have e1:Ur a x.pres.l k=x.pres.l.getD u 0 - x.pres.l.getD (a.mine.roads.l.getD k default).to.toNat 0:=by rw [Ur,eu]);(have e2:Ur a H k=H.getD u 0 - H.getD (a.mine.roads.l.getD k default).to.toNat 0:=by rw [Ur,eu]);have hm:=Uta (s:=s) ha hr (show Ur a H k≤Ur a x.pres.l k by omega);simp only [if_pos hf];refine ⟨by omega,fun ⟨v,hv,hlt⟩=>?_⟩;(have ev:v=(a.mine.roads.l.getD k default).to.toNat:=by exact ubn);subst ev;exact h.lessLow ha hk hc (d:=Ur a x.pres.l k) rfl za
  ·
   simp only [if_neg hf];by_cases ht:(a.mine.roads.l.getD k default).to=(u:Int);·have hj : Zma a u (a.mine.roads.l.getD k default).fr.toNat k := ⟨hc, .inr ⟨by omega, ht⟩⟩;have hl:=hle _ hj;(have eu:(a.mine.roads.l.getD k default).to.toNat=u:=by omega);(have e1:Ur a x.pres.l k=x.pres.l.getD (a.mine.roads.l.getD k default).fr.toNat 0 - x.pres.l.getD u 0:=by rw [Ur,eu]);(have e2:Ur a H k=H.getD (a.mine.roads.l.getD k default).fr.toNat 0 - H.getD u 0:=by rw [Ur,eu]);have hm:=K2a (s:=s) ha hr (show Ur a x.pres.l k≤Ur a H k by omega);simp only [if_pos ht];refine ⟨by omega,fun ⟨v,hv,hlt⟩=>?_⟩;(have ev:v=(a.mine.roads.l.getD k default).fr.toNat:=by exact ubn);subst ev;have:=h.lessHigh ha hk hc (d:=Ur a x.pres.l k) rfl (show Ur a x.pres.l k < Ur a H k by omega);omega
   ·exact ua3
def U4e {a : XAir} {s : XSetting} {x : XState} (h : FitsF a s x) (ha : AirOk a) {H : List Int} {u : Nat} {k : Nat} (hk : k < a.mine.roads.l.length)
 (hle:∀v,Zma a u v k→x.pres.l.getD u 0 - H.getD u 0≤x.pres.l.getD v 0 - H.getD v 0):
 Uwf a x.flows.l u k≤Upa K2 Ub a s H u k∧((∃v,Zma a u v k∧x.pres.l.getD u 0 - H.getD u 0 < x.pres.l.getD v 0 - H.getD v 0)→Uwf a x.flows.l u k < Upa K2 Ub a s H u k):=by
 have hro:=ha.mine.road k _ (Jn default hk);have h1:=hro.fr;have h2:=hro.to;have h3:=hro.ne;have hr:(0:Int)≤(k:Int)∧(k:Int) < a.mine.roads.l.length:=by omega
 rw [Upa,Uwf];cases hc:(a.mine.roads.l.getD k default).closed with
 | true=>have h0:=h.shut hk hc;rw [h0];simp only [if_true];refine ⟨by split;omega;split <;> omega,fun ⟨v,hv,_⟩=>?_⟩;rw [Zma,hc] at hv;cases hv.1
 | false=>
  simp only [yhb,if_false];have hi:=h.inside ha hk hc (d:=Ur a x.pres.l k) rfl;by_cases hf:(a.mine.roads.l.getD k default).fr=(u:Int);·have hj : Zma a u (a.mine.roads.l.getD k default).to.toNat k := ⟨hc, .inl ⟨hf, by omega⟩⟩;have hl:=hle _ hj;(have eu:(a.mine.roads.l.getD k default).fr.toNat=u:=by omega);(have e1:Ur a x.pres.l k=x.pres.l.getD u 0 - x.pres.l.getD (a.mine.roads.l.getD k default).to.toNat 0:=by rw [Ur,eu]);(have e2:Ur a H k=H.getD u 0 - H.getD (a.mine.roads.l.getD k default).to.toNat 0:=by rw [Ur,eu]);have hm:=K2a (s:=s) ha hr (show Ur a x.pres.l k≤Ur a H k by omega);simp only [if_pos hf];refine ⟨by omega,fun ⟨v,hv,hlt⟩=>?_⟩;(have ev:v=(a.mine.roads.l.getD k default).to.toNat:=by exact ubn);subst ev;exact h.lessHigh ha hk hc (d:=Ur a x.pres.l k) rfl za
  ·
   simp only [if_neg hf];by_cases ht:(a.mine.roads.l.getD k default).to=(u:Int);·have hj : Zma a u (a.mine.roads.l.getD k default).fr.toNat k := ⟨hc, .inr ⟨by omega, ht⟩⟩;have hl:=hle _ hj;(have eu:(a.mine.roads.l.getD k default).to.toNat=u:=by omega);(have e1:Ur a x.pres.l k=x.pres.l.getD (a.mine.roads.l.getD k default).fr.toNat 0 - x.pres.l.getD u 0:=by rw [Ur,eu]);(have e2:Ur a H k=H.getD (a.mine.roads.l.getD k default).fr.toNat 0 - H.getD u 0:=by rw [Ur,eu]);have hm:=Uta (s:=s) ha hr (show Ur a H k≤Ur a x.pres.l k by omega);simp only [if_pos ht];refine ⟨by omega,fun ⟨v,hv,hlt⟩=>?_⟩;(have ev:v=(a.mine.roads.l.getD k default).fr.toNat:=by exact ubn);subst ev;have:=h.lessLow ha hk hc (d:=Ur a x.pres.l k) rfl (show Ur a H k < Ur a x.pres.l k by omega);omega
   ·exact ua3
def Uqe {a : XAir} {s : XSetting} {x : XState} (h : FitsF a s x) (ha : AirOk a) {H : List Int} {u : Nat}
 (hle:∀v k,k < a.mine.roads.l.length→Zma a u v k→x.pres.l.getD v 0 - H.getD v 0≤x.pres.l.getD u 0 - H.getD u 0):
 ∀k,k≤a.mine.roads.l.length→Zkb Ub K2 a s H u k≤Kfb a x.flows.l u k∧((∃j v,j < k∧Zma a u v j∧x.pres.l.getD v 0 - H.getD v 0 < x.pres.l.getD u 0 - H.getD u 0)→Zkb Ub K2 a s H u k < Kfb a x.flows.l u k)
 | 0,_=>⟨yz _,fun ⟨_,_,h,_⟩=>by omega⟩
 | k + 1,hk=>by
  have ih:=Uqe h ha hle k za
  have it:=Jmf h ha (H:=H) (u:=u) (k:=k) za (fun v hv=>hle v k za hv)
  have e:Kfb a x.flows.l u (k + 1)=Kfb a x.flows.l u k + Uwf a x.flows.l u k:=rfl
  rw [Zkb,e]
  refine ⟨by omega,fun ⟨j,v,h1,h2,h3⟩=>?_⟩
  rcases yk j k with h4 | h4
  ·have := ih.2 ⟨j, v, h4, h2, h3⟩
   omega
  ·obtain rfl : j = k := by omega
   have:=it.2 ⟨v,h2,h3⟩
   omega
def Y4d {a : XAir} {s : XSetting} {x : XState} (h : FitsF a s x) (ha : AirOk a) {H : List Int} {u : Nat}
 (hle:∀v k,k < a.mine.roads.l.length→Zma a u v k→x.pres.l.getD u 0 - H.getD u 0≤x.pres.l.getD v 0 - H.getD v 0):
 ∀k,k≤a.mine.roads.l.length→Kfb a x.flows.l u k≤Zkb K2 Ub a s H u k∧((∃j v,j < k∧Zma a u v j∧x.pres.l.getD u 0 - H.getD u 0 < x.pres.l.getD v 0 - H.getD v 0)→Kfb a x.flows.l u k < Zkb K2 Ub a s H u k)
 | 0,_=>⟨yz _,fun ⟨_,_,h,_⟩=>by omega⟩
 | k + 1,hk=>by
  have ih:=Y4d h ha hle k za
  have it:=U4e h ha (H:=H) (u:=u) (k:=k) za (fun v hv=>hle v k za hv)
  have e:Kfb a x.flows.l u (k + 1)=Kfb a x.flows.l u k + Uwf a x.flows.l u k:=rfl
  rw [Zkb,e]
  refine ⟨by omega,fun ⟨j,v,h1,h2,h3⟩=>?_⟩
  rcases yk j k with h4 | h4
  ·have := ih.2 ⟨j, v, h4, h2, h3⟩
   omega
  ·obtain rfl : j = k := by omega
   have:=it.2 ⟨v,h2,h3⟩
   omega
def U8c {a:XAir} {u v k:Nat} (hk:k < a.mine.roads.l.length) (h:Zma a u v k):Step a.mine u v:=
 ⟨_,yi (Jn default hk),h.1,h.2⟩
def Urc {a:XAir} {u v:Nat} (h:Step a.mine u v):∃k,k < a.mine.roads.l.length∧Zma a u v k:=by obtain ⟨r,hr,hc,h1⟩:=h;obtain ⟨k,hk⟩:=List.mem_iff_getElem?.1 hr;have hl:=(List.getElem?_eq_some_iff.1 hk).1;have e:a.mine.roads.l.getD k default=r:=getD_some hk;exact ⟨k,hl,by rw [Zma,e];exact ⟨hc,h1⟩⟩
def FitsF.surf {a:XAir} {s:XSetting} {x:XState} (h:FitsF a s x) {u:Nat} (hu:u < a.mine.places.l.length) (hs:(a.mine.places.l.getD u default).surface=true):x.pres.l.getD u 0=0:=by
 have hp:=h.place u hu;unfold Uz at hp;split at hp;·cases hp
 ·
  rename_i hn;rcases Int.decEq (x.pres.l.getD u 0) 0 with h0 | h0;·exact absurd (.inl ⟨hs,h0⟩) hn
  ·exact h0
def Jad (m:XMine) (i:Nat) (hi:i < m.places.l.length):(surf m).getD i false=(m.places.l.getD i default).surface:=by rw [surf,yh,yr,Jn (l:=m.places.l) (k:=i) default hi];rfl
def J1a (m:XMine):(surf m).length=m.places.l.length:=by simp [surf]
def AiryIs.step {m:XMine} {A:List Bool} (hA:AiryIs m A) (hm:MineOk m) {u v:Nat} (hu:A.getD u false=true) (h:Step m u v):A.getD v false=true:=by have hl:=h.lt hm;obtain ⟨j,h1,h2,h3⟩:=(hA.iff u (by rw [J1a];exact hl.1)).1 hu;exact (hA.iff v (by rw [J1a];exact hl.2)).2 ⟨j,h1,h2,h3.tail h⟩
def U0e {a : XAir} {s : XSetting} {x : XState} {A : List Bool} {H : List Int} (h : FitsF a s x) (ha : AirOk a) (hA : AiryIs a.mine A)
 (hfix:∀u:Nat,u < a.mine.places.l.length→(a.mine.places.l.getD u default).surface=true→H.getD u 0=0)
 (hnet:∀u:Nat,u < a.mine.places.l.length→A.getD u false=true→(a.mine.places.l.getD u default).surface=false→0≤K1c a s H (u:Int)) {u:Nat} (hu:u < a.mine.places.l.length) (hua:A.getD u false=true):
 x.pres.l.getD u 0≤H.getD u 0:=by
 refine Int.not_lt.1 fun hlt=>?_;obtain ⟨w,w1,w2,w3⟩:=Ume (fun v=>A.getD v false=true) (fun v=>x.pres.l.getD v 0 - H.getD v 0) a.mine.places.l.length ⟨u,hu,hua⟩;have hpos:0 < x.pres.l.getD w 0 - H.getD w 0:=by have:=w3 u hu hua;omega
 obtain ⟨j,h1,h2,h3⟩:=(hA.iff w (by rw [J1a];exact w1)).1 w2;rw [J1a] at h1;rw [Jad _ _ h1] at h2;have key:j < a.mine.places.l.length∧A.getD j false=true∧x.pres.l.getD j 0 - H.getD j 0=x.pres.l.getD w 0 - H.getD w 0:=by
  refine Conn.closed (P:=fun v=>v < a.mine.places.l.length∧A.getD v false=true∧x.pres.l.getD v 0 - H.getD v 0=x.pres.l.getD w 0 - H.getD w 0) (fun y z hy hs=>?_) h3.symm ⟨w1,w2,rfl⟩;obtain ⟨y1,y2,y3⟩:=hy;have z1:=(hs.lt ha.mine).2;have z2:=hA.step ha.mine y2 hs;refine ⟨z1,z2,?_⟩;have zle:=w3 z z1 z2;rcases yla (x.pres.l.getD z 0 - H.getD z 0) (x.pres.l.getD w 0 - H.getD w 0) with hz | hz;·
   exfalso;have hys:(a.mine.places.l.getD y default).surface=false:=by
    cases e:(a.mine.places.l.getD y default).surface with
    | false=>rfl
    | true=>have e1:=h.surf y1 e;have e2:=hfix y y1 e;omega
   have b1:=h.still ha y1 hys;have b2:=hnet y y1 y2 hys;obtain ⟨k,k1,k2⟩:=Urc hs;have b3:=(Uqe h ha (H:=H) (u:=y) (fun v i hi hv=>by have sv:=U8c hi hv;have:=w3 v (sv.lt ha.mine).2 (hA.step ha.mine y2 sv);omega) _ (ym _)).2 ⟨k,z,k1,k2,by omega⟩;rw [K1c] at b2;omega
  ·omega
 have e1:=h.surf h1 h2;have e2:=hfix j h1 h2;omega
def Zse {a : XAir} {s : XSetting} {x : XState} {A : List Bool} {H : List Int} (h : FitsF a s x) (ha : AirOk a) (hA : AiryIs a.mine A)
 (hfix:∀u:Nat,u < a.mine.places.l.length→(a.mine.places.l.getD u default).surface=true→H.getD u 0=0)
 (hnet:∀u:Nat,u < a.mine.places.l.length→A.getD u false=true→(a.mine.places.l.getD u default).surface=false→U9a a s H (u:Int)≤0) {u:Nat} (hu:u < a.mine.places.l.length) (hua:A.getD u false=true):
 H.getD u 0≤x.pres.l.getD u 0:=by
 refine Int.not_lt.1 fun hlt=>?_;obtain ⟨w,w1,w2,w3⟩:=Ume (fun v=>A.getD v false=true) (fun v=>H.getD v 0 - x.pres.l.getD v 0) a.mine.places.l.length ⟨u,hu,hua⟩;have hpos:0 < H.getD w 0 - x.pres.l.getD w 0:=by have:=w3 u hu hua;omega
 obtain ⟨j,h1,h2,h3⟩:=(hA.iff w (by rw [J1a];exact w1)).1 w2;rw [J1a] at h1;rw [Jad _ _ h1] at h2;have key:j < a.mine.places.l.length∧A.getD j false=true∧H.getD j 0 - x.pres.l.getD j 0=H.getD w 0 - x.pres.l.getD w 0:=by
  refine Conn.closed (P:=fun v=>v < a.mine.places.l.length∧A.getD v false=true∧H.getD v 0 - x.pres.l.getD v 0=H.getD w 0 - x.pres.l.getD w 0) (fun y z hy hs=>?_) h3.symm ⟨w1,w2,rfl⟩;obtain ⟨y1,y2,y3⟩:=hy;have z1:=(hs.lt ha.mine).2;have z2:=hA.step ha.mine y2 hs;refine ⟨z1,z2,?_⟩;have zle:=w3 z z1 z2;rcases yla (H.getD z 0 - x.pres.l.getD z 0) (H.getD w 0 - x.pres.l.getD w 0) with hz | hz;·
   exfalso;have hys:(a.mine.places.l.getD y default).surface=false:=by
    cases e:(a.mine.places.l.getD y default).surface with
    | false=>rfl
    | true=>have e1:=h.surf y1 e;have e2:=hfix y y1 e;omega
   have b1:=h.still ha y1 hys;have b2:=hnet y y1 y2 hys;obtain ⟨k,k1,k2⟩:=Urc hs;have b3:=(Y4d h ha (H:=H) (u:=y) (fun v i hi hv=>by have sv:=U8c hi hv;have:=w3 v (sv.lt ha.mine).2 (hA.step ha.mine y2 sv);omega) _ (ym _)).2 ⟨k,z,k1,k2,by omega⟩;rw [U9a] at b2;omega
  ·omega
 have e1:=h.surf h1 h2;have e2:=hfix j h1 h2;omega
def Accept.surf {a:XAir} {s:XSetting} {b:XBounds} {A:List Bool} (h:Accept a s b A) {u:Nat} (hu:u < a.mine.places.l.length) (hs:(a.mine.places.l.getD u default).surface=true):b.low.l.getD u 0=0∧b.high.l.getD u 0=0:=
 h.fix u hu (by rw [hs];simp)
def Accept.holds {a:XAir} {s:XSetting} {b:XBounds} {A:List Bool} {x:XState} (h:Accept a s b A) (hf:FitsF a s x) (hA:AiryIs a.mine A) {u:Nat} (hu:u < a.mine.places.l.length) (hua:A.getD u false=true):
 b.low.l.getD u 0≤x.pres.l.getD u 0∧x.pres.l.getD u 0≤b.high.l.getD u 0:=
 ⟨Zse hf (V1 h.ck.h0) hA (fun v hv hs=>(h.surf hv hs).1) (fun v hv hva hs=>(h.net v hv (by rw [hva,hs];simp)).2) hu hua,
  U0e hf (V1 h.ck.h0) hA (fun v hv hs=>(h.surf hv hs).2) (fun v hv hva hs=>(h.net v hv (by rw [hva,hs];simp)).1) hu hua⟩
def Accept.flows {a:XAir} {s:XSetting} {b:XBounds} {A:List Bool} {x:XState} (h:Accept a s b A) (hf:FitsF a s x) (hA:AiryIs a.mine A) {k:Nat} (hk:k < a.mine.roads.l.length):
 (Ui a s b A k).low≤x.flows.l.getD k 0∧x.flows.l.getD k 0≤(Ui a s b A k).high:=by
 have ha:=V1 h.ck.h0;have hro:=ha.mine.road k _ (Jn default hk);have h1:=hro.fr;have h2:=hro.to;have hr:(0:Int)≤(k:Int)∧(k:Int) < a.mine.roads.l.length:=by omega
 have hfl:=hf.flen;have hq:=hf.flow _ (yi (Jn (l:=x.flows.l) (k:=k) 0 za));rw [Ui];cases hc:(a.mine.roads.l.getD k default).closed with
 | true=>rw [if_pos rfl,hf.shut hk hc];exact ⟨yz _,yz _⟩
 | false=>
  rw [if_neg ze];split;·rename_i hv;have hs:Step a.mine (a.mine.roads.l.getD k default).fr.toNat (a.mine.roads.l.getD k default).to.toNat:=⟨_,yi (Jn default hk),hc,.inl ⟨by omega,by omega⟩⟩;have b1:=h.holds hf hA za hv;have b2:=h.holds hf hA za (hA.step ha.mine hv hs);have hi:=hf.inside ha hk hc (d:=Ur a x.pres.l k) rfl;have e:Ur a x.pres.l k=x.pres.l.getD (a.mine.roads.l.getD k default).fr.toNat 0 - x.pres.l.getD (a.mine.roads.l.getD k default).to.toNat 0:=rfl;have m1:=Uta (s:=s) ha hr (show b.low.l.getD (a.mine.roads.l.getD k default).fr.toNat 0 - b.high.l.getD (a.mine.roads.l.getD k default).to.toNat 0≤Ur a x.pres.l k by omega);have m2:=K2a (s:=s) ha hr (show Ur a x.pres.l k≤b.high.l.getD (a.mine.roads.l.getD k default).fr.toNat 0 - b.low.l.getD (a.mine.roads.l.getD k default).to.toNat 0 by omega);exact ⟨yic m1 hi.1,yic hi.2 m2⟩
  ·rw [nothingS];dsimp only;omega
end
section
def Tri.turn {P : Program} {f : FuncId} {args : Array Value} {L : LB} {R : LS} {Post Post' : Y3} (h : Tri P f args L R Post)
 (k:∀v U J,Post v U J→∃L'' R'',U.Perm L''∧(∀r∈R'',InR r J)∧Post' v L'' R''):Tri P f args L R Post':=
 ⟨h.1,fun w G hh=>(h.2 w G hh).mono fun e w' ⟨v,U,J,he,hp,hst⟩=>by
  obtain ⟨L'',R'',h1,h2,h3⟩:=k v U J hp
  exact ⟨v,L'',R'',he,h3,(hst.perm h1).weak ye h2⟩⟩
def Kbc (g:Int→Bool) (start:Int) (up:Bool):Option Int:=
 ((List.range ((K7b up start).toNat + 1)).find? fun (m:Nat)=>g (start + sgn up * (m:Int))).map fun (m:Nat)=>start + sgn up * (m:Int)
def Zyd {g:Int→Bool} {start:Int} {up:Bool} {v:Int} (h:First g start up v true):Kbc g start up=some v:=by
 obtain ⟨m,m0,m1,mv,mg,mj⟩:=h.yes rfl;have e:(List.range ((K7b up start).toNat + 1)).find? (fun (m:Nat)=>g (start + sgn up * (m:Int)))=some m.toNat:=by
  rw [ycb];refine ⟨?_,List.mem_range.2 za,fun j hj=>?_⟩;·rw [yma m0,← mv];exact mg
  ·rw [mj j za za];rfl
 rw [Kbc,e,yEa,yma m0,mv]
def Z6d {g:Int→Bool} {start:Int} {up:Bool} {v:Int} (h0:0≤K7b up start) (h:First g start up v false):Kbc g start up=none:=by
 obtain ⟨_,hj⟩:=h.no rfl;have e:(List.range ((K7b up start).toNat + 1)).find? (fun (m:Nat)=>g (start + sgn up * (m:Int)))=none:=by rw [List.find?_range_eq_none];intro i hi;rw [hj i za za];rfl
 rw [Kbc,e];rfl
def Jsb {g:Int→Bool} {start:Int} {up:Bool} {v:Int} (h0:0≤K7b up start) (h:Kbc g start up=some v):First g start up v true:=by
 unfold Kbc at h;obtain ⟨m,hm,rfl⟩:=Option.map_eq_some_iff.1 h;rw [ycb] at hm;obtain ⟨h1,h2,h3⟩:=hm;have h2':=List.mem_range.1 h2;refine ⟨fun _=>⟨m,by omega,by omega,rfl,h1,fun j j0 j1=>?_⟩,fun h=>by cases h⟩;have:=h3 j.toNat za;rw [yma j0] at this;cases e:g (start + sgn up * j) with
 | false=>rfl
 | true=>rw [e] at this;cases this
def Uwc {g:Int→Bool} {start:Int} {up:Bool} {v:Int} {ok:Bool} (h0:0≤K7b up start) (h:First g start up v ok):v=(Kbc g start up).getD 0∧ok=(Kbc g start up).isSome:=by
 cases ok with
 | true=>rw [Zyd h];exact ⟨rfl,rfl⟩
 | false=>rw [Z6d h0 h];exact ⟨(h.no rfl).1,rfl⟩
attribute [irreducible] Kbc
def Yoc (a:XAir) (s:XSetting) (up:Bool) (l:List Int) (v:Int):Int→Bool:=if up=true then U7f a s l v else Vpd a s l v
def Uaa (a:XAir) (s:XSetting) (up:Bool) (l:List Int) (k:Nat):Option Int:=Kbc (Yoc a s up l k) (l.getD k 0) up
abbrev Yhb (a:XAir) (A:List Bool) (k:Nat):Bool:=!(A.getD k false) || (a.mine.places.l.getD k default).surface
def Um (a : XAir) (s : XSetting) (A : List Bool) (up : Bool) (l : List Int) : Nat → Option (List Int)
 | 0=>some l
 | k + 1=>(Um a s A up l k).bind fun m=>if Yhb a A k=true then some m else (Uaa a s up m k).map fun v=>m.set k v
def Vn (a : XAir) (s : XSetting) (A : List Bool) (up : Bool) : Nat → List Int → Option (List Int)
 | 0,_=>none
 | n + 1,l=>match Um a s A up l a.mine.places.l.length with
  | none=>none
  | some m=>if m=l then some m else Vn a s A up n m
def Y6 (a:XAir) (ps:List Int) (A:List Bool) (i:Nat):Option Int:=if Yhb a A i=true∧ps.getD i 0≠0 then some 12 else none
def V2 (a:XAir) (s:XSetting) (ps:List Int) (A:List Bool):Int:=
 if Ky a≠0 then Ky a else if Una a s=false then 21 else if ps.length≠a.mine.places.l.length then 11
 else if (ps.findSome? Ul).isSome=true then 1 else ((List.range a.mine.places.l.length).findSome? (Y6 a ps A)).getD 0
def Ug (a:XAir) (s:XSetting) (A:List Bool) (up:Bool) (ps:List Int):Int×List Int:=
 if V2 a s ps A≠0 then (V2 a s ps A,[]) else match Vn a s A up 200 ps with
  | none=>(2,[])
  | some l=>(0,l)
def Yu (a:XAir) (s:XSetting) (A:List Bool):Int×List Int×List Int:=
 let p:=Ug a s A false (List.replicate a.mine.places.l.length 0)
 if p.1≠0 then (p.1,[],[]) else
  let q:=Ug a s A true p.2
  if q.1≠0 then (q.1,[],[]) else
   let r:=Ug a s A false q.2
   if r.1≠0 then (r.1,[],[]) else (0,r.2,q.2)
structure StartOk (a:XAir) (s:XSetting) (ps:List Int) (A:List Bool):Prop where
 h0:Ky a=0
 hf:Una a s=true
 hl:ps.length=a.mine.places.l.length
 hp:PresOk ps
 fix:∀i:Nat,i < a.mine.places.l.length→Yhb a A i=true→ps.getD i 0=0
def Ura {a:XAir} {s:XSetting} {ps:List Int} {A:List Bool}:V2 a s ps A=0↔StartOk a s ps A:=by
 constructor;·
  intro h;unfold V2 at h;split at h;·exact ubi
  rename_i h1;split at h;·cases h
  rename_i h2;split at h;·cases h
  rename_i h3;split at h;·cases h
  rename_i h4;refine ⟨by omega,by simpa using h2,by omega,Zra (by simpa using h4),fun i hi hf=>?_⟩;have hn:(List.range a.mine.places.l.length).findSome? (Y6 a ps A)=none:=by
   cases e:(List.range a.mine.places.l.length).findSome? (Y6 a ps A) with
   | none=>rfl
   | some v=>
    obtain ⟨j,_,hj⟩:=yw e;unfold Y6 at hj;split at hj;·cases hj;rw [e] at h;cases h
    ·cases hj
  rw [yK] at hn;have:=hn i (List.mem_range.2 hi);unfold Y6 at this;split at this;·cases this
  ·rename_i h5;exact Decidable.not_not.1 fun h6=>h5 ⟨hf,h6⟩
 ·intro h;rw [V2,if_neg (by rw [h.h0];decide),if_neg (by rw [h.hf];decide),if_neg (by rw [h.hl];simp),if_neg (by rw [J7b h.hp];simp),List.findSome?_eq_none_iff.2 (fun i hi=>show Y6 a ps A i=none from if_neg (fun h'=>h'.2 (h.fix i (List.mem_range.1 hi) h'.1)))];rfl
def Vzd {a:XAir} {s:XSetting} {up:Bool} {l:List Int} {k:Nat} {v:Int} (h:PresOk l) (hv:Uaa a s up l k=some v):-70368744177664≤v∧v≤70368744177664:=by obtain ⟨m,m0,m1,mv,_,_⟩:=(Jsb (Y5b (h.get k)).1 hv).yes rfl;rw [mv];exact Ybd (h.get k) ⟨m0,m1⟩
structure Swept (a:XAir) (s:XSetting) (A:List Bool) (up:Bool) (l:List Int) (k:Nat) (m:List Int):Prop where
 to:Um a s A up l k=some m
 len:m.length=l.length
 pres:PresOk m
 rest:∀j:Nat,k≤j→m[j]?=l[j]?
def Swept.zero {a:XAir} {s:XSetting} {A:List Bool} {up:Bool} {l:List Int} (h:PresOk l):Swept a s A up l 0 l:=⟨rfl,rfl,h,fun _ _=>rfl⟩
def Swept.skip {a:XAir} {s:XSetting} {A:List Bool} {up:Bool} {l m:List Int} {k:Nat} (h:Swept a s A up l k m) (hf:Yhb a A k=true):Swept a s A up l (k + 1) m:=
 ⟨by rw [Um,h.to,yMa,if_pos hf],h.len,h.pres,fun j hj=>h.rest j za⟩
def Swept.fail {a:XAir} {s:XSetting} {A:List Bool} {up:Bool} {l m:List Int} {k:Nat} (h:Swept a s A up l k m) (hf:¬ Yhb a A k=true) (hn:Uaa a s up m k=none):∀n,k + 1≤n→Um a s A up l n=none:=by
 intro n hn2;induction n with
 | zero=>omega
 | succ n ih=>
  rcases yk k n with h1 | h1;·rw [Um,ih za];rfl
  ·(obtain rfl : n = k := by omega);rw [Um,h.to,yMa,if_neg hf,hn];rfl
def Swept.next {a:XAir} {s:XSetting} {A:List Bool} {up:Bool} {l m:List Int} {k:Nat} (h:Swept a s A up l k m) (hf:¬ Yhb a A k=true) {v:Int} (hv:Uaa a s up m k=some v):Swept a s A up l (k + 1) (m.set k v):=
 ⟨by rw [Um,h.to,yMa,if_neg hf,hv];rfl,by rw [yL];exact h.len,h.pres.set _ (Vzd h.pres hv),fun j hj=>by rw [yZ za];exact h.rest j za⟩
def Swept.flag {a:XAir} {s:XSetting} {A:List Bool} {up:Bool} {l m:List Int} {k:Nat} (h:Swept a s A up l k m) (hk:k < l.length) (v:Int):decide (m.set k v≠l)=(decide (m≠l) || decide (v≠m.getD k 0)):=by
 have hlen:=h.len;have hg:=Jn (l:=m) (k:=k) 0 za;by_cases h1:v=m.getD k 0;·rw [h1,Zza];simp
 ·
  have h2:m.set k v≠l:=fun e=>by have h3:=h.rest k (ym _);rw [← e,yI za,hg] at h3;exact h1 (yD h3).symm
  rw [decide_eq_true h2,decide_eq_true h1,yjc]
def U4d {a:XAir} {s:XSetting} {A:List Bool} {up:Bool} {n:Nat} {l m:List Int} (hs:Um a s A up l a.mine.places.l.length=some m) (hne:m≠l):Vn a s A up (n + 1) l=Vn a s A up n m:=by rw [Vn,hs];exact if_neg hne
def Jnc {a:XAir} {s:XSetting} {A:List Bool} {up:Bool} {n:Nat} {l:List Int} (hs:Um a s A up l a.mine.places.l.length=some l):Vn a s A up (n + 1) l=some l:=by rw [Vn,hs];exact if_pos rfl
def Vid {a:XAir} {s:XSetting} {A:List Bool} {up:Bool} {n:Nat} {l:List Int} (hs:Um a s A up l a.mine.places.l.length=none):Vn a s A up (n + 1) l=none:=by rw [Vn,hs]
def Z6 {a : XAir} {s : XSetting} {A : List Bool} {up : Bool} {l : List Int} (hl : PresOk l) : ∀ {k : Nat} {m : List Int}, Um a s A up l k = some m → Swept a s A up l k m
 | 0,m,h=>by cases h;exact .zero hl
 | k + 1,m,h=>by
  have h':=h
  rw [Um,yNa] at h'
  obtain ⟨m1,h1,h2⟩:=h'
  have ih:=Z6 hl h1
  split at h2
  ·rename_i hf
   cases h2
   exact ih.skip hf
  ·rename_i hf
   obtain ⟨v,hv,rfl⟩:=Option.map_eq_some_iff.1 h2
   exact ih.next hf hv
def Zga {a : XAir} {s : XSetting} {A : List Bool} {up : Bool} : ∀ {n : Nat} {l m : List Int}, PresOk l → Vn a s A up n l = some m → m.length = l.length ∧ PresOk m ∧ Um a s A up m a.mine.places.l.length = some m
 | 0,l,m,_,h=>by cases h
 | n + 1,l,m,hl,h=>by
  rw [Vn] at h
  split at h
  ·cases h
  ·rename_i m1 h1
   have hs:=Z6 hl h1
   split at h
   ·rename_i e
    cases h
    subst e
    exact ⟨rfl,hl,h1⟩
   ·obtain ⟨k1, k2, k3⟩ := Zga hs.pres h
    exact ⟨k1.trans hs.len,k2,k3⟩
def Zob {a:XAir} {s:XSetting} {A:List Bool} {up:Bool} {ps:List Int} (h:(Ug a s A up ps).1=0):StartOk a s ps A∧Vn a s A up 200 ps=some (Ug a s A up ps).2:=by
 unfold Ug at h ⊢;split at h;·exact ubi
 ·
  rename_i h1;rw [if_neg h1];refine ⟨Ura.1 za,?_⟩;split at h;·cases h
  ·rename_i l e;rw [e]
end
section
attribute [local irreducible] CJ LJ DJ Tri YV Gives U5 J2 Kn U6 RV J4 OwL.L
abbrev V8f (x:Option Int):Value:=.tuple #[.int .i64 (x.getD 0),.bool x.isSome]
def Uie {ps:List Int} (h:PresOk ps) (up:Bool) (k:Nat):0≤K7b up (ps.getD k 0):=(Y5b (h.get k)).1
def Jjf {α:Type} {f:α→List Value} {z:List Value} {b n:Nat} {T:TypeId} {x:α} {A:LB} (hz:z=f x):InB ((⟨.own b n [],List.replicate n x⟩:OwL α).L T f) (⟨b,J8c z n,T⟩ :: A):=by rw [Yg hz A];exact Vl
end
end Go.Proofs.YtchfclmokpbldaaGreat
