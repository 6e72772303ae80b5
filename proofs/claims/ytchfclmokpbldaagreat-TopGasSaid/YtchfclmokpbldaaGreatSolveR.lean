/-
  Merged texts. By an AI agent.
-/
import Derived.Test.YtchfclmokpbldaaGreatCflowR
import Derived.Test.YtchfclmokpbldaaGreatNets
set_option linter.all false
set_option maxHeartbeats 4000000
set_option maxRecDepth 20000
namespace Go.Proofs.YtchfclmokpbldaaGreat
open Go.Aw Go
section
def Vxe (p : Nat → Prop) (D : Nat → Int) : ∀ n : Nat, (∃ u, u < n ∧ p u) → ∃ u, u < n ∧ p u ∧ ∀ v, v < n → p v → D v ≤ D u
 | 0,h=>by obtain ⟨u,hu,_⟩:=h;omega
 | n + 1,h=>by
  by_cases hn:∃u,u < n∧p u
  ·obtain ⟨u, h1, h2, h3⟩ := Vxe p D n hn
   by_cases hp:p n∧D u < D n
   ·exact ⟨n,by omega,hp.1,fun v hv hpv=>by
     rcases yk v n with h | h
     ·have:=h3 v h hpv;omega
     ·obtain rfl : v = n := by omega
      omega⟩
   ·exact ⟨u,by omega,h2,fun v hv hpv=>by
     rcases yk v n with h | h
     ·exact h3 v h hpv
     ·obtain rfl : v = n := by omega
      exact Int.not_lt.1 fun e=>hp ⟨hpv,e⟩⟩
  ·obtain ⟨u, h1, h2⟩ := h
   obtain rfl:u=n:=by
    rcases yk u n with h | h
    ·exact absurd ⟨u,h,h2⟩ hn
    ·omega
   exact ⟨u,by omega,h2,fun v hv hpv=>by
    rcases yk v u with h | h
    ·exact absurd ⟨v,h,hpv⟩ hn
    ·obtain rfl : v = u := by omega
     exact yz _⟩
structure Accept (a:XAir) (s:XSetting) (b:XBounds) (A:List Bool):Prop where
 ck:CheckOk a s b
 fix:∀i:Nat,i < a.mine.places.l.length→(!(A.getD i false) || (a.mine.places.l.getD i default).surface)=true→b.low.l.getD i 0=0∧b.high.l.getD i 0=0
 net:∀i:Nat,i < a.mine.places.l.length→¬ (!(A.getD i false) || (a.mine.places.l.getD i default).surface)=true→0≤Ugc a s b.high.l (i:Int)∧U1a a s b.low.l (i:Int)≤0
def Vbb {a:XAir} {s:XSetting} {b:XBounds} {A:List Bool} (h:CheckOk a s b):Y4 a s b A=((List.range a.mine.places.l.length).findSome? (Vl a s b A)).getD 0:=by have h1:=h.hl;have h2:=h.hh;rw [Y4,if_neg (by rw [h.h0];decide),if_neg (by rw [h.hf];decide),if_neg za,if_neg (by rw [Jib h.pl,Jib h.ph];simp)]
def Utc (a:XAir) (s:XSetting) (b:XBounds) (A:List Bool) (i:Nat):Vl a s b A i=none∨Vl a s b A i=some 12:=by
 unfold Vl;split;·
  split;·exact .inr rfl
  ·exact .inl rfl
 ·
  split;·exact .inr rfl
  ·exact .inl rfl
def Koc {a:XAir} {s:XSetting} {b:XBounds} {A:List Bool}:Y4 a s b A=0↔Accept a s b A:=by
 have node:∀i,Vl a s b A i=none↔((!(A.getD i false) || (a.mine.places.l.getD i default).surface)=true→b.low.l.getD i 0=0∧b.high.l.getD i 0=0)∧(¬ (!(A.getD i false) || (a.mine.places.l.getD i default).surface)=true→0≤Ugc a s b.high.l (i:Int)∧U1a a s b.low.l (i:Int)≤0):=fun i=>by
  unfold Vl;by_cases h1:(!(A.getD i false) || (a.mine.places.l.getD i default).surface)=true;·
   rw [if_pos h1];refine ⟨fun h=>⟨fun _=>?_,fun h'=>absurd h1 h'⟩,fun h=>if_neg (by have:=h.1 h1;omega)⟩;split at h;·cases h
   ·omega
  ·
   rw [if_neg h1];refine ⟨fun h=>⟨fun h'=>absurd h' h1,fun _=>?_⟩,fun h=>if_neg (by have:=h.2 h1;omega)⟩;split at h;·cases h
   ·omega
 constructor;·
  intro h;have hC:=Z1c h;rw [Vbb hC] at h;have hn:(List.range a.mine.places.l.length).findSome? (Vl a s b A)=none:=by
   cases e:(List.range a.mine.places.l.length).findSome? (Vl a s b A) with
   | none=>rfl
   | some v=>
    obtain ⟨i,_,hi⟩:=yy e;rcases Utc a s b A i with h1 | h1;·rw [h1] at hi;cases hi
    ·rw [h1] at hi;cases hi;rw [e] at h;cases h
  rw [yJ] at hn;exact ⟨hC,fun i hi=>((node i).1 (hn i (List.mem_range.2 hi))).1,fun i hi=>((node i).1 (hn i (List.mem_range.2 hi))).2⟩
 ·intro h;rw [Vbb h.ck,List.findSome?_eq_none_iff.2 (fun i hi=>(node i).2 ⟨h.fix i (List.mem_range.1 hi),h.net i (List.mem_range.1 hi)⟩)];rfl
def FitsF.lessLow {a : XAir} {s : XSetting} {x : XState} (h : FitsF a s x) (ha : AirOk a) {i : Nat} (hi : i < a.mine.roads.l.length) (hc : (a.mine.roads.l.getD i default).closed = false) {d d' : Int}
 (hd:d=x.pres.l.getD (a.mine.roads.l.getD i default).fr.toNat 0 - x.pres.l.getD (a.mine.roads.l.getD i default).to.toNat 0) (hlt:d' < d):Ud (Ky a s i) d' < x.flows.l.getD i 0:=by
 have hf:=h.fit hi hc;rw [← hd] at hf;have hr:(0:Int)≤(i:Int)∧(i:Int) < a.mine.roads.l.length:=by omega
 have hfl:=h.flen;have hq:=h.flow _ (yh (Jp (l:=x.flows.l) (k:=i) 0 za));have h1:=Ksa (s:=s) ha hr d';generalize Ud (Ky a s i) d'=l at *;generalize x.flows.l.getD i 0=q at *;refine Int.not_le.1 fun hl=>?_;have k1:=h1.le q za hl;omega
def FitsF.lessHigh {a : XAir} {s : XSetting} {x : XState} (h : FitsF a s x) (ha : AirOk a) {i : Nat} (hi : i < a.mine.roads.l.length) (hc : (a.mine.roads.l.getD i default).closed = false) {d d' : Int}
 (hd:d=x.pres.l.getD (a.mine.roads.l.getD i default).fr.toNat 0 - x.pres.l.getD (a.mine.roads.l.getD i default).to.toNat 0) (hlt:d < d'):x.flows.l.getD i 0 < K3 (Ky a s i) d':=by
 have hf:=h.fit hi hc;rw [← hd] at hf;have hr:(0:Int)≤(i:Int)∧(i:Int) < a.mine.roads.l.length:=by omega
 have hfl:=h.flen;have hq:=h.flow _ (yh (Jp (l:=x.flows.l) (k:=i) 0 za));have h1:=Jea (s:=s) ha hr d';generalize K3 (Ky a s i) d'=l at *;generalize x.flows.l.getD i 0=q at *;refine Int.not_le.1 fun hl=>?_;have k1:=h1.ge q hl za;omega
def K5f (a:XAir) (fl:List Int) (v:Int) (k:Nat):Int:=if (a.mine.roads.l.getD k default).fr=v then fl.getD k 0 else if (a.mine.roads.l.getD k default).to=v then -(fl.getD k 0) else 0
def Y5a (a:XAir) (u v k:Nat):Prop:=(a.mine.roads.l.getD k default).closed=false∧(((a.mine.roads.l.getD k default).fr=(u:Int)∧(a.mine.roads.l.getD k default).to=(v:Int))∨((a.mine.roads.l.getD k default).fr=(v:Int)∧(a.mine.roads.l.getD k default).to=(u:Int)))
def Zfe {a : XAir} {s : XSetting} {x : XState} (h : FitsF a s x) (ha : AirOk a) {H : List Int} {u : Nat} {k : Nat} (hk : k < a.mine.roads.l.length)
 (hle:∀v,Y5a a u v k→x.pres.l.getD v 0 - H.getD v 0≤x.pres.l.getD u 0 - H.getD u 0):
 Uaa Ud K3 a s H u k≤K5f a x.flows.l u k∧((∃v,Y5a a u v k∧x.pres.l.getD v 0 - H.getD v 0 < x.pres.l.getD u 0 - H.getD u 0)→Uaa Ud K3 a s H u k < K5f a x.flows.l u k):=by
 have hro:=ha.mine.road k _ (Jp default hk);have h1:=hro.fr;have h2:=hro.to;have h3:=hro.ne;have hr:(0:Int)≤(k:Int)∧(k:Int) < a.mine.roads.l.length:=by omega
 rw [Uaa,K5f];cases hc:(a.mine.roads.l.getD k default).closed with
 | true=>have h0:=h.shut hk hc;rw [h0];simp only [if_true];refine ⟨by split;omega;split <;> omega,fun ⟨v,hv,_⟩=>?_⟩;rw [Y5a,hc] at hv;cases hv.1
 | false=>
  simp only [yyb,if_false];have hi:=h.inside ha hk hc (d:=Ur a x.pres.l k) rfl;by_cases hf:(a.mine.roads.l.getD k default).fr=(u:Int);·have hj : Y5a a u (a.mine.roads.l.getD k default).to.toNat k := ⟨hc, .inl ⟨hf, by omega⟩⟩;have hl:=hle _ hj;(have eu:(a.mine.roads.l.getD k default).fr.toNat=u:=by omega);(have e1:Ur a x.pres.l k=x.pres.l.getD u 0 - x.pres.l.getD (a.mine.roads.l.getD k default).to.toNat 0:=by rw [Ur,eu]);(have e2:Ur a H k=H.getD u 0 - H.getD (a.mine.roads.l.getD k default).to.toNat 0:=by rw [Ur,eu]);have hm:=Ufa (s:=s) ha hr (show Ur a H k≤Ur a x.pres.l k by omega);simp only [if_pos hf];refine ⟨by omega,fun ⟨v,hv,hlt⟩=>?_⟩;(have ev:v=(a.mine.roads.l.getD k default).to.toNat:=by exact ubl);subst ev;exact h.lessLow ha hk hc (d:=Ur a x.pres.l k) rfl za
  ·
   simp only [if_neg hf];by_cases ht:(a.mine.roads.l.getD k default).to=(u:Int);·have hj : Y5a a u (a.mine.roads.l.getD k default).fr.toNat k := ⟨hc, .inr ⟨by omega, ht⟩⟩;have hl:=hle _ hj;(have eu:(a.mine.roads.l.getD k default).to.toNat=u:=by omega);(have e1:Ur a x.pres.l k=x.pres.l.getD (a.mine.roads.l.getD k default).fr.toNat 0 - x.pres.l.getD u 0:=by rw [Ur,eu]);(have e2:Ur a H k=H.getD (a.mine.roads.l.getD k default).fr.toNat 0 - H.getD u 0:=by rw [Ur,eu]);have hm:=Kpa (s:=s) ha hr (show Ur a x.pres.l k≤Ur a H k by omega);simp only [if_pos ht];refine ⟨by omega,fun ⟨v,hv,hlt⟩=>?_⟩;(have ev:v=(a.mine.roads.l.getD k default).fr.toNat:=by exact ubl);subst ev;have:=h.lessHigh ha hk hc (d:=Ur a x.pres.l k) rfl (show Ur a x.pres.l k < Ur a H k by omega);omega
   ·exact ua1
def Yfe {a : XAir} {s : XSetting} {x : XState} (h : FitsF a s x) (ha : AirOk a) {H : List Int} {u : Nat} {k : Nat} (hk : k < a.mine.roads.l.length)
 (hle:∀v,Y5a a u v k→x.pres.l.getD u 0 - H.getD u 0≤x.pres.l.getD v 0 - H.getD v 0):
 K5f a x.flows.l u k≤Uaa K3 Ud a s H u k∧((∃v,Y5a a u v k∧x.pres.l.getD u 0 - H.getD u 0 < x.pres.l.getD v 0 - H.getD v 0)→K5f a x.flows.l u k < Uaa K3 Ud a s H u k):=by
 have hro:=ha.mine.road k _ (Jp default hk);have h1:=hro.fr;have h2:=hro.to;have h3:=hro.ne;have hr:(0:Int)≤(k:Int)∧(k:Int) < a.mine.roads.l.length:=by omega
 rw [Uaa,K5f];cases hc:(a.mine.roads.l.getD k default).closed with
 | true=>have h0:=h.shut hk hc;rw [h0];simp only [if_true];refine ⟨by split;omega;split <;> omega,fun ⟨v,hv,_⟩=>?_⟩;rw [Y5a,hc] at hv;cases hv.1
 | false=>
  simp only [yyb,if_false];have hi:=h.inside ha hk hc (d:=Ur a x.pres.l k) rfl;by_cases hf:(a.mine.roads.l.getD k default).fr=(u:Int);·have hj : Y5a a u (a.mine.roads.l.getD k default).to.toNat k := ⟨hc, .inl ⟨hf, by omega⟩⟩;have hl:=hle _ hj;(have eu:(a.mine.roads.l.getD k default).fr.toNat=u:=by omega);(have e1:Ur a x.pres.l k=x.pres.l.getD u 0 - x.pres.l.getD (a.mine.roads.l.getD k default).to.toNat 0:=by rw [Ur,eu]);(have e2:Ur a H k=H.getD u 0 - H.getD (a.mine.roads.l.getD k default).to.toNat 0:=by rw [Ur,eu]);have hm:=Kpa (s:=s) ha hr (show Ur a x.pres.l k≤Ur a H k by omega);simp only [if_pos hf];refine ⟨by omega,fun ⟨v,hv,hlt⟩=>?_⟩;(have ev:v=(a.mine.roads.l.getD k default).to.toNat:=by exact ubl);subst ev;exact h.lessHigh ha hk hc (d:=Ur a x.pres.l k) rfl za
  ·
   simp only [if_neg hf];by_cases ht:(a.mine.roads.l.getD k default).to=(u:Int);·have hj : Y5a a u (a.mine.roads.l.getD k default).fr.toNat k := ⟨hc, .inr ⟨by omega, ht⟩⟩;have hl:=hle _ hj;(have eu:(a.mine.roads.l.getD k default).to.toNat=u:=by omega);(have e1:Ur a x.pres.l k=x.pres.l.getD (a.mine.roads.l.getD k default).fr.toNat 0 - x.pres.l.getD u 0:=by rw [Ur,eu]);(have e2:Ur a H k=H.getD (a.mine.roads.l.getD k default).fr.toNat 0 - H.getD u 0:=by rw [Ur,eu]);have hm:=Ufa (s:=s) ha hr (show Ur a H k≤Ur a x.pres.l k by omega);simp only [if_pos ht];refine ⟨by omega,fun ⟨v,hv,hlt⟩=>?_⟩;(have ev:v=(a.mine.roads.l.getD k default).fr.toNat:=by exact ubl);subst ev;have:=h.lessLow ha hk hc (d:=Ur a x.pres.l k) rfl (show Ur a H k < Ur a x.pres.l k by omega);omega
   ·exact ua1
def Yae {a : XAir} {s : XSetting} {x : XState} (h : FitsF a s x) (ha : AirOk a) {H : List Int} {u : Nat}
 (hle:∀v k,k < a.mine.roads.l.length→Y5a a u v k→x.pres.l.getD v 0 - H.getD v 0≤x.pres.l.getD u 0 - H.getD u 0):
 ∀k,k≤a.mine.roads.l.length→Jfc Ud K3 a s H u k≤J5b a x.flows.l u k∧((∃j v,j < k∧Y5a a u v j∧x.pres.l.getD v 0 - H.getD v 0 < x.pres.l.getD u 0 - H.getD u 0)→Jfc Ud K3 a s H u k < J5b a x.flows.l u k)
 | 0,_=>⟨yz _,fun ⟨_,_,h,_⟩=>by omega⟩
 | k + 1,hk=>by
  have ih:=Yae h ha hle k za
  have it:=Zfe h ha (H:=H) (u:=u) (k:=k) za (fun v hv=>hle v k za hv)
  have e:J5b a x.flows.l u (k + 1)=J5b a x.flows.l u k + K5f a x.flows.l u k:=rfl
  rw [Jfc,e]
  refine ⟨by omega,fun ⟨j,v,h1,h2,h3⟩=>?_⟩
  rcases yk j k with h4 | h4
  ·have := ih.2 ⟨j, v, h4, h2, h3⟩
   omega
  ·obtain rfl : j = k := by omega
   have:=it.2 ⟨v,h2,h3⟩
   omega
def Yad {a : XAir} {s : XSetting} {x : XState} (h : FitsF a s x) (ha : AirOk a) {H : List Int} {u : Nat}
 (hle:∀v k,k < a.mine.roads.l.length→Y5a a u v k→x.pres.l.getD u 0 - H.getD u 0≤x.pres.l.getD v 0 - H.getD v 0):
 ∀k,k≤a.mine.roads.l.length→J5b a x.flows.l u k≤Jfc K3 Ud a s H u k∧((∃j v,j < k∧Y5a a u v j∧x.pres.l.getD u 0 - H.getD u 0 < x.pres.l.getD v 0 - H.getD v 0)→J5b a x.flows.l u k < Jfc K3 Ud a s H u k)
 | 0,_=>⟨yz _,fun ⟨_,_,h,_⟩=>by omega⟩
 | k + 1,hk=>by
  have ih:=Yad h ha hle k za
  have it:=Yfe h ha (H:=H) (u:=u) (k:=k) za (fun v hv=>hle v k za hv)
  have e:J5b a x.flows.l u (k + 1)=J5b a x.flows.l u k + K5f a x.flows.l u k:=rfl
  rw [Jfc,e]
  refine ⟨by omega,fun ⟨j,v,h1,h2,h3⟩=>?_⟩
  rcases yk j k with h4 | h4
  ·have := ih.2 ⟨j, v, h4, h2, h3⟩
   omega
  ·obtain rfl : j = k := by omega
   have:=it.2 ⟨v,h2,h3⟩
   omega
def K3c {a:XAir} {u v k:Nat} (hk:k < a.mine.roads.l.length) (h:Y5a a u v k):Step a.mine u v:=
 ⟨_,yh (Jp default hk),h.1,h.2⟩
def Kwc {a:XAir} {u v:Nat} (h:Step a.mine u v):∃k,k < a.mine.roads.l.length∧Y5a a u v k:=by obtain ⟨r,hr,hc,h1⟩:=h;obtain ⟨k,hk⟩:=List.mem_iff_getElem?.1 hr;have hl:=(List.getElem?_eq_some_iff.1 hk).1;have e:a.mine.roads.l.getD k default=r:=getD_some hk;exact ⟨k,hl,by rw [Y5a,e];exact ⟨hc,h1⟩⟩
def FitsF.surf {a:XAir} {s:XSetting} {x:XState} (h:FitsF a s x) {u:Nat} (hu:u < a.mine.places.l.length) (hs:(a.mine.places.l.getD u default).surface=true):x.pres.l.getD u 0=0:=by
 have hp:=h.place u hu;unfold Yb at hp;split at hp;·cases hp
 ·
  rename_i hn;rcases Int.decEq (x.pres.l.getD u 0) 0 with h0 | h0;·exact absurd (.inl ⟨hs,h0⟩) hn
  ·exact h0
def Zcc (m:XMine) (i:Nat) (hi:i < m.places.l.length):(surf m).getD i false=(m.places.l.getD i default).surface:=by rw [surf,yi,yq,Jp (l:=m.places.l) (k:=i) default hi];rfl
def Jna (m:XMine):(surf m).length=m.places.l.length:=by simp [surf]
def AiryIs.step {m:XMine} {A:List Bool} (hA:AiryIs m A) (hm:MineOk m) {u v:Nat} (hu:A.getD u false=true) (h:Step m u v):A.getD v false=true:=by have hl:=h.lt hm;obtain ⟨j,h1,h2,h3⟩:=(hA.iff u (by rw [Jna];exact hl.1)).1 hu;exact (hA.iff v (by rw [Jna];exact hl.2)).2 ⟨j,h1,h2,h3.tail h⟩
def Uwe {a : XAir} {s : XSetting} {x : XState} {A : List Bool} {H : List Int} (h : FitsF a s x) (ha : AirOk a) (hA : AiryIs a.mine A)
 (hfix:∀u:Nat,u < a.mine.places.l.length→(a.mine.places.l.getD u default).surface=true→H.getD u 0=0)
 (hnet:∀u:Nat,u < a.mine.places.l.length→A.getD u false=true→(a.mine.places.l.getD u default).surface=false→0≤Ugc a s H (u:Int)) {u:Nat} (hu:u < a.mine.places.l.length) (hua:A.getD u false=true):
 x.pres.l.getD u 0≤H.getD u 0:=by
 refine Int.not_lt.1 fun hlt=>?_;obtain ⟨w,w1,w2,w3⟩:=Vxe (fun v=>A.getD v false=true) (fun v=>x.pres.l.getD v 0 - H.getD v 0) a.mine.places.l.length ⟨u,hu,hua⟩;have hpos:0 < x.pres.l.getD w 0 - H.getD w 0:=by have:=w3 u hu hua;omega
 obtain ⟨j,h1,h2,h3⟩:=(hA.iff w (by rw [Jna];exact w1)).1 w2;rw [Jna] at h1;rw [Zcc _ _ h1] at h2;have key:j < a.mine.places.l.length∧A.getD j false=true∧x.pres.l.getD j 0 - H.getD j 0=x.pres.l.getD w 0 - H.getD w 0:=by
  refine Conn.closed (P:=fun v=>v < a.mine.places.l.length∧A.getD v false=true∧x.pres.l.getD v 0 - H.getD v 0=x.pres.l.getD w 0 - H.getD w 0) (fun y z hy hs=>?_) h3.symm ⟨w1,w2,rfl⟩;obtain ⟨y1,y2,y3⟩:=hy;have z1:=(hs.lt ha.mine).2;have z2:=hA.step ha.mine y2 hs;refine ⟨z1,z2,?_⟩;have zle:=w3 z z1 z2;rcases yla (x.pres.l.getD z 0 - H.getD z 0) (x.pres.l.getD w 0 - H.getD w 0) with hz | hz;·
   exfalso;have hys:(a.mine.places.l.getD y default).surface=false:=by
    cases e:(a.mine.places.l.getD y default).surface with
    | false=>rfl
    | true=>have e1:=h.surf y1 e;have e2:=hfix y y1 e;omega
   have b1:=h.still ha y1 hys;have b2:=hnet y y1 y2 hys;obtain ⟨k,k1,k2⟩:=Kwc hs;have b3:=(Yae h ha (H:=H) (u:=y) (fun v i hi hv=>by have sv:=K3c hi hv;have:=w3 v (sv.lt ha.mine).2 (hA.step ha.mine y2 sv);omega) _ (ym _)).2 ⟨k,z,k1,k2,by omega⟩;rw [Ugc] at b2;omega
  ·omega
 have e1:=h.surf h1 h2;have e2:=hfix j h1 h2;omega
def J6f {a : XAir} {s : XSetting} {x : XState} {A : List Bool} {H : List Int} (h : FitsF a s x) (ha : AirOk a) (hA : AiryIs a.mine A)
 (hfix:∀u:Nat,u < a.mine.places.l.length→(a.mine.places.l.getD u default).surface=true→H.getD u 0=0)
 (hnet:∀u:Nat,u < a.mine.places.l.length→A.getD u false=true→(a.mine.places.l.getD u default).surface=false→U1a a s H (u:Int)≤0) {u:Nat} (hu:u < a.mine.places.l.length) (hua:A.getD u false=true):
 H.getD u 0≤x.pres.l.getD u 0:=by
 refine Int.not_lt.1 fun hlt=>?_;obtain ⟨w,w1,w2,w3⟩:=Vxe (fun v=>A.getD v false=true) (fun v=>H.getD v 0 - x.pres.l.getD v 0) a.mine.places.l.length ⟨u,hu,hua⟩;have hpos:0 < H.getD w 0 - x.pres.l.getD w 0:=by have:=w3 u hu hua;omega
 obtain ⟨j,h1,h2,h3⟩:=(hA.iff w (by rw [Jna];exact w1)).1 w2;rw [Jna] at h1;rw [Zcc _ _ h1] at h2;have key:j < a.mine.places.l.length∧A.getD j false=true∧H.getD j 0 - x.pres.l.getD j 0=H.getD w 0 - x.pres.l.getD w 0:=by
  refine Conn.closed (P:=fun v=>v < a.mine.places.l.length∧A.getD v false=true∧H.getD v 0 - x.pres.l.getD v 0=H.getD w 0 - x.pres.l.getD w 0) (fun y z hy hs=>?_) h3.symm ⟨w1,w2,rfl⟩;obtain ⟨y1,y2,y3⟩:=hy;have z1:=(hs.lt ha.mine).2;have z2:=hA.step ha.mine y2 hs;refine ⟨z1,z2,?_⟩;have zle:=w3 z z1 z2;rcases yla (H.getD z 0 - x.pres.l.getD z 0) (H.getD w 0 - x.pres.l.getD w 0) with hz | hz;·
   exfalso;have hys:(a.mine.places.l.getD y default).surface=false:=by
    cases e:(a.mine.places.l.getD y default).surface with
    | false=>rfl
    | true=>have e1:=h.surf y1 e;have e2:=hfix y y1 e;omega
   have b1:=h.still ha y1 hys;have b2:=hnet y y1 y2 hys;obtain ⟨k,k1,k2⟩:=Kwc hs;have b3:=(Yad h ha (H:=H) (u:=y) (fun v i hi hv=>by have sv:=K3c hi hv;have:=w3 v (sv.lt ha.mine).2 (hA.step ha.mine y2 sv);omega) _ (ym _)).2 ⟨k,z,k1,k2,by omega⟩;rw [U1a] at b2;omega
  ·omega
 have e1:=h.surf h1 h2;have e2:=hfix j h1 h2;omega
def Accept.surf {a:XAir} {s:XSetting} {b:XBounds} {A:List Bool} (h:Accept a s b A) {u:Nat} (hu:u < a.mine.places.l.length) (hs:(a.mine.places.l.getD u default).surface=true):b.low.l.getD u 0=0∧b.high.l.getD u 0=0:=
 h.fix u hu (by rw [hs];simp)
def Accept.holds {a:XAir} {s:XSetting} {b:XBounds} {A:List Bool} {x:XState} (h:Accept a s b A) (hf:FitsF a s x) (hA:AiryIs a.mine A) {u:Nat} (hu:u < a.mine.places.l.length) (hua:A.getD u false=true):
 b.low.l.getD u 0≤x.pres.l.getD u 0∧x.pres.l.getD u 0≤b.high.l.getD u 0:=
 ⟨J6f hf (V3 h.ck.h0) hA (fun v hv hs=>(h.surf hv hs).1) (fun v hv hva hs=>(h.net v hv (by rw [hva,hs];simp)).2) hu hua,
  Uwe hf (V3 h.ck.h0) hA (fun v hv hs=>(h.surf hv hs).2) (fun v hv hva hs=>(h.net v hv (by rw [hva,hs];simp)).1) hu hua⟩
def Accept.flows {a:XAir} {s:XSetting} {b:XBounds} {A:List Bool} {x:XState} (h:Accept a s b A) (hf:FitsF a s x) (hA:AiryIs a.mine A) {k:Nat} (hk:k < a.mine.roads.l.length):
 (Ua a s b A k).low≤x.flows.l.getD k 0∧x.flows.l.getD k 0≤(Ua a s b A k).high:=by
 have ha:=V3 h.ck.h0;have hro:=ha.mine.road k _ (Jp default hk);have h1:=hro.fr;have h2:=hro.to;have hr:(0:Int)≤(k:Int)∧(k:Int) < a.mine.roads.l.length:=by omega
 have hfl:=hf.flen;have hq:=hf.flow _ (yh (Jp (l:=x.flows.l) (k:=k) 0 za));rw [Ua];cases hc:(a.mine.roads.l.getD k default).closed with
 | true=>rw [if_pos rfl,hf.shut hk hc];exact ⟨yz _,yz _⟩
 | false=>
  rw [if_neg ze];split;·rename_i hv;have hs:Step a.mine (a.mine.roads.l.getD k default).fr.toNat (a.mine.roads.l.getD k default).to.toNat:=⟨_,yh (Jp default hk),hc,.inl ⟨by omega,by omega⟩⟩;have b1:=h.holds hf hA za hv;have b2:=h.holds hf hA za (hA.step ha.mine hv hs);have hi:=hf.inside ha hk hc (d:=Ur a x.pres.l k) rfl;have e:Ur a x.pres.l k=x.pres.l.getD (a.mine.roads.l.getD k default).fr.toNat 0 - x.pres.l.getD (a.mine.roads.l.getD k default).to.toNat 0:=rfl;have m1:=Ufa (s:=s) ha hr (show b.low.l.getD (a.mine.roads.l.getD k default).fr.toNat 0 - b.high.l.getD (a.mine.roads.l.getD k default).to.toNat 0≤Ur a x.pres.l k by omega);have m2:=Kpa (s:=s) ha hr (show Ur a x.pres.l k≤b.high.l.getD (a.mine.roads.l.getD k default).fr.toNat 0 - b.low.l.getD (a.mine.roads.l.getD k default).to.toNat 0 by omega);exact ⟨ybc m1 hi.1,ybc hi.2 m2⟩
  ·rw [nothingS];dsimp only;omega
end
section
def Tri.turn {P : Program} {f : FuncId} {args : Array Value} {L : LB} {R : LS} {Post Post' : Ys} (h : Tri P f args L R Post)
 (k:∀v U J,Post v U J→∃L'' R'',U.Perm L''∧(∀r∈R'',InR r J)∧Post' v L'' R''):Tri P f args L R Post':=
 ⟨h.1,fun w G hh=>(h.2 w G hh).mono fun e w' ⟨v,U,J,he,hp,hst⟩=>by
  obtain ⟨L'',R'',h1,h2,h3⟩:=k v U J hp
  exact ⟨v,L'',R'',he,h3,(hst.perm h1).weak ye h2⟩⟩
def Jyc (g:Int→Bool) (start:Int) (up:Bool):Option Int:=
 ((List.range ((Kgb up start).toNat + 1)).find? fun (m:Nat)=>g (start + sgn up * (m:Int))).map fun (m:Nat)=>start + sgn up * (m:Int)
def Jke {g:Int→Bool} {start:Int} {up:Bool} {v:Int} (h:First g start up v true):Jyc g start up=some v:=by
 obtain ⟨m,m0,m1,mv,mg,mj⟩:=h.yes rfl;have e:(List.range ((Kgb up start).toNat + 1)).find? (fun (m:Nat)=>g (start + sgn up * (m:Int)))=some m.toNat:=by
  rw [ybb];refine ⟨?_,List.mem_range.2 za,fun j hj=>?_⟩;·rw [yma m0,← mv];exact mg
  ·rw [mj j za za];rfl
 rw [Jyc,e,yRa,yma m0,mv]
def Y9d {g:Int→Bool} {start:Int} {up:Bool} {v:Int} (h0:0≤Kgb up start) (h:First g start up v false):Jyc g start up=none:=by
 obtain ⟨_,hj⟩:=h.no rfl;have e:(List.range ((Kgb up start).toNat + 1)).find? (fun (m:Nat)=>g (start + sgn up * (m:Int)))=none:=by rw [List.find?_range_eq_none];intro i hi;rw [hj i za za];rfl
 rw [Jyc,e];rfl
def Jhb {g:Int→Bool} {start:Int} {up:Bool} {v:Int} (h0:0≤Kgb up start) (h:Jyc g start up=some v):First g start up v true:=by
 unfold Jyc at h;obtain ⟨m,hm,rfl⟩:=Option.map_eq_some_iff.1 h;rw [ybb] at hm;obtain ⟨h1,h2,h3⟩:=hm;have h2':=List.mem_range.1 h2;refine ⟨fun _=>⟨m,by omega,by omega,rfl,h1,fun j j0 j1=>?_⟩,fun h=>by cases h⟩;have:=h3 j.toNat za;rw [yma j0] at this;cases e:g (start + sgn up * j) with
 | false=>rfl
 | true=>rw [e] at this;cases this
def K4c {g:Int→Bool} {start:Int} {up:Bool} {v:Int} {ok:Bool} (h0:0≤Kgb up start) (h:First g start up v ok):v=(Jyc g start up).getD 0∧ok=(Jyc g start up).isSome:=by
 cases ok with
 | true=>rw [Jke h];exact ⟨rfl,rfl⟩
 | false=>rw [Y9d h0 h];exact ⟨(h.no rfl).1,rfl⟩
attribute [irreducible] Jyc
def Vfc (a:XAir) (s:XSetting) (up:Bool) (l:List Int) (v:Int):Int→Bool:=if up=true then Yzf a s l v else Kqd a s l v
def Kza (a:XAir) (s:XSetting) (up:Bool) (l:List Int) (k:Nat):Option Int:=Jyc (Vfc a s up l k) (l.getD k 0) up
abbrev V3b (a:XAir) (A:List Bool) (k:Nat):Bool:=!(A.getD k false) || (a.mine.places.l.getD k default).surface
def Um (a : XAir) (s : XSetting) (A : List Bool) (up : Bool) (l : List Int) : Nat → Option (List Int)
 | 0=>some l
 | k + 1=>(Um a s A up l k).bind fun m=>if V3b a A k=true then some m else (Kza a s up m k).map fun v=>m.set k v
def Vi (a : XAir) (s : XSetting) (A : List Bool) (up : Bool) : Nat → List Int → Option (List Int)
 | 0,_=>none
 | n + 1,l=>match Um a s A up l a.mine.places.l.length with
  | none=>none
  | some m=>if m=l then some m else Vi a s A up n m
def Yx (a:XAir) (ps:List Int) (A:List Bool) (i:Nat):Option Int:=if V3b a A i=true∧ps.getD i 0≠0 then some 12 else none
def Vy (a:XAir) (s:XSetting) (ps:List Int) (A:List Bool):Int:=
 if Kx a≠0 then Kx a else if Uka a s=false then 21 else if ps.length≠a.mine.places.l.length then 11
 else if (ps.findSome? Uv).isSome=true then 1 else ((List.range a.mine.places.l.length).findSome? (Yx a ps A)).getD 0
def Ug (a:XAir) (s:XSetting) (A:List Bool) (up:Bool) (ps:List Int):Int×List Int:=
 if Vy a s ps A≠0 then (Vy a s ps A,[]) else match Vi a s A up 200 ps with
  | none=>(2,[])
  | some l=>(0,l)
def Yl (a:XAir) (s:XSetting) (A:List Bool):Int×List Int×List Int:=
 let p:=Ug a s A false (List.replicate a.mine.places.l.length 0)
 if p.1≠0 then (p.1,[],[]) else
  let q:=Ug a s A true p.2
  if q.1≠0 then (q.1,[],[]) else
   let r:=Ug a s A false q.2
   if r.1≠0 then (r.1,[],[]) else (0,r.2,q.2)
structure StartOk (a:XAir) (s:XSetting) (ps:List Int) (A:List Bool):Prop where
 h0:Kx a=0
 hf:Uka a s=true
 hl:ps.length=a.mine.places.l.length
 hp:PresOk ps
 fix:∀i:Nat,i < a.mine.places.l.length→V3b a A i=true→ps.getD i 0=0
def Uia {a:XAir} {s:XSetting} {ps:List Int} {A:List Bool}:Vy a s ps A=0↔StartOk a s ps A:=by
 constructor;·
  intro h;unfold Vy at h;split at h;·exact ubf
  rename_i h1;split at h;·cases h
  rename_i h2;split at h;·cases h
  rename_i h3;split at h;·cases h
  rename_i h4;refine ⟨by omega,by simpa using h2,by omega,Yna (by simpa using h4),fun i hi hf=>?_⟩;have hn:(List.range a.mine.places.l.length).findSome? (Yx a ps A)=none:=by
   cases e:(List.range a.mine.places.l.length).findSome? (Yx a ps A) with
   | none=>rfl
   | some v=>
    obtain ⟨j,_,hj⟩:=yy e;unfold Yx at hj;split at hj;·cases hj;rw [e] at h;cases h
    ·cases hj
  rw [yJ] at hn;have:=hn i (List.mem_range.2 hi);unfold Yx at this;split at this;·cases this
  ·rename_i h5;exact Decidable.not_not.1 fun h6=>h5 ⟨hf,h6⟩
 ·intro h;rw [Vy,if_neg (by rw [h.h0];decide),if_neg (by rw [h.hf];decide),if_neg (by rw [h.hl];simp),if_neg (by rw [Jib h.hp];simp),List.findSome?_eq_none_iff.2 (fun i hi=>show Yx a ps A i=none from if_neg (fun h'=>h'.2 (h.fix i (List.mem_range.1 hi) h'.1)))];rfl
def Uhd {a:XAir} {s:XSetting} {up:Bool} {l:List Int} {k:Nat} {v:Int} (h:PresOk l) (hv:Kza a s up l k=some v):-70368744177664≤v∧v≤70368744177664:=by obtain ⟨m,m0,m1,mv,_,_⟩:=(Jhb (Yjb (h.get k)).1 hv).yes rfl;rw [mv];exact Ymd (h.get k) ⟨m0,m1⟩
structure Swept (a:XAir) (s:XSetting) (A:List Bool) (up:Bool) (l:List Int) (k:Nat) (m:List Int):Prop where
 to:Um a s A up l k=some m
 len:m.length=l.length
 pres:PresOk m
 rest:∀j:Nat,k≤j→m[j]?=l[j]?
def Swept.zero {a:XAir} {s:XSetting} {A:List Bool} {up:Bool} {l:List Int} (h:PresOk l):Swept a s A up l 0 l:=⟨rfl,rfl,h,fun _ _=>rfl⟩
def Swept.skip {a:XAir} {s:XSetting} {A:List Bool} {up:Bool} {l m:List Int} {k:Nat} (h:Swept a s A up l k m) (hf:V3b a A k=true):Swept a s A up l (k + 1) m:=
 ⟨by rw [Um,h.to,yJa,if_pos hf],h.len,h.pres,fun j hj=>h.rest j za⟩
def Swept.fail {a:XAir} {s:XSetting} {A:List Bool} {up:Bool} {l m:List Int} {k:Nat} (h:Swept a s A up l k m) (hf:¬ V3b a A k=true) (hn:Kza a s up m k=none):∀n,k + 1≤n→Um a s A up l n=none:=by
 intro n hn2;induction n with
 | zero=>omega
 | succ n ih=>
  rcases yk k n with h1 | h1;·rw [Um,ih za];rfl
  ·(obtain rfl : n = k := by omega);rw [Um,h.to,yJa,if_neg hf,hn];rfl
def Swept.next {a:XAir} {s:XSetting} {A:List Bool} {up:Bool} {l m:List Int} {k:Nat} (h:Swept a s A up l k m) (hf:¬ V3b a A k=true) {v:Int} (hv:Kza a s up m k=some v):Swept a s A up l (k + 1) (m.set k v):=
 ⟨by rw [Um,h.to,yJa,if_neg hf,hv];rfl,by rw [yK];exact h.len,h.pres.set _ (Uhd h.pres hv),fun j hj=>by rw [yba za];exact h.rest j za⟩
def Swept.flag {a:XAir} {s:XSetting} {A:List Bool} {up:Bool} {l m:List Int} {k:Nat} (h:Swept a s A up l k m) (hk:k < l.length) (v:Int):decide (m.set k v≠l)=(decide (m≠l) || decide (v≠m.getD k 0)):=by
 have hlen:=h.len;have hg:=Jp (l:=m) (k:=k) 0 za;by_cases h1:v=m.getD k 0;·rw [h1,Zia];simp
 ·
  have h2:m.set k v≠l:=fun e=>by have h3:=h.rest k (ym _);rw [← e,yH za,hg] at h3;exact h1 (yG h3).symm
  rw [decide_eq_true h2,decide_eq_true h1,yoc]
def Vbd {a:XAir} {s:XSetting} {A:List Bool} {up:Bool} {n:Nat} {l m:List Int} (hs:Um a s A up l a.mine.places.l.length=some m) (hne:m≠l):Vi a s A up (n + 1) l=Vi a s A up n m:=by rw [Vi,hs];exact if_neg hne
def Zkb {a:XAir} {s:XSetting} {A:List Bool} {up:Bool} {n:Nat} {l:List Int} (hs:Um a s A up l a.mine.places.l.length=some l):Vi a s A up (n + 1) l=some l:=by rw [Vi,hs];exact if_pos rfl
def Uad {a:XAir} {s:XSetting} {A:List Bool} {up:Bool} {n:Nat} {l:List Int} (hs:Um a s A up l a.mine.places.l.length=none):Vi a s A up (n + 1) l=none:=by rw [Vi,hs]
def Zz {a : XAir} {s : XSetting} {A : List Bool} {up : Bool} {l : List Int} (hl : PresOk l) : ∀ {k : Nat} {m : List Int}, Um a s A up l k = some m → Swept a s A up l k m
 | 0,m,h=>by cases h;exact .zero hl
 | k + 1,m,h=>by
  have h':=h
  rw [Um,yKa] at h'
  obtain ⟨m1,h1,h2⟩:=h'
  have ih:=Zz hl h1
  split at h2
  ·rename_i hf
   cases h2
   exact ih.skip hf
  ·rename_i hf
   obtain ⟨v,hv,rfl⟩:=Option.map_eq_some_iff.1 h2
   exact ih.next hf hv
def Yta {a : XAir} {s : XSetting} {A : List Bool} {up : Bool} : ∀ {n : Nat} {l m : List Int}, PresOk l → Vi a s A up n l = some m → m.length = l.length ∧ PresOk m ∧ Um a s A up m a.mine.places.l.length = some m
 | 0,l,m,_,h=>by cases h
 | n + 1,l,m,hl,h=>by
  rw [Vi] at h
  split at h
  ·cases h
  ·rename_i m1 h1
   have hs:=Zz hl h1
   split at h
   ·rename_i e
    cases h
    subst e
    exact ⟨rfl,hl,h1⟩
   ·obtain ⟨k1, k2, k3⟩ := Yta hs.pres h
    exact ⟨k1.trans hs.len,k2,k3⟩
def Z9b {a:XAir} {s:XSetting} {A:List Bool} {up:Bool} {ps:List Int} (h:(Ug a s A up ps).1=0):StartOk a s ps A∧Vi a s A up 200 ps=some (Ug a s A up ps).2:=by
 unfold Ug at h ⊢;split at h;·exact ubf
 ·
  rename_i h1;rw [if_neg h1];refine ⟨Uia.1 za,?_⟩;split at h;·cases h
  ·rename_i l e;rw [e]
end
section
attribute [local irreducible] CJ LJ DJ Tri YV Gives Uq J2 Kj Ut RV J3 OwL.L
abbrev Yjf (x:Option Int):Value:=.tuple #[.int .i64 (x.getD 0),.bool x.isSome]
def Ude {ps:List Int} (h:PresOk ps) (up:Bool) (k:Nat):0≤Kgb up (ps.getD k 0):=(Yjb (h.get k)).1
def Zte {α:Type} {f:α→List Value} {z:List Value} {b n:Nat} {T:TypeId} {x:α} {A:LB} (hz:z=f x):InB ((⟨.own b n [],List.replicate n x⟩:OwL α).L T f) (⟨b,Jhc z n,T⟩ :: A):=by rw [Vh hz A];exact V0
end
end Go.Proofs.YtchfclmokpbldaaGreat
