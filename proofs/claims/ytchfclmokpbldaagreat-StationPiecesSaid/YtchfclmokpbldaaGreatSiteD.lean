/-
  Merged texts. By an AI agent.
-/
import Derived.Test.YtchfclmokpbldaaGreatFits
import Derived.Test.YtchfclmokpbldaaGreatDrawC
import Derived.Test.YtchfclmokpbldaaGreatWinR
set_option linter.all false
set_option maxHeartbeats 4000000
set_option maxRecDepth 20000
namespace Go.Proofs.YtchfclmokpbldaaGreat
open Go.Aw Go
section
def K1a (n:Nat):XRoad:=⟨0,(n:Int),10,4,false,false,⟨1,1⟩,⟨0,0⟩⟩
section
variable {a:XAir} {s:XSetting} {x:XState} (h:MadeA a s x) (hr:a.mine.roads.l.length=0)
include h hr
def MadeA.no_fans:a.fans.l=[]:=by
 have ha:=Yy h.err;cases hf:a.fans.l with
 | nil=>rfl
 | cons f l=>obtain ⟨h1,h2⟩:=ha.fan 0 f (by rw [hf];rfl);have:=h1.road;omega
def MadeA.no_doors:a.doors.l=[]:=by
 have ha:=Yy h.err;cases hf:a.doors.l with
 | nil=>rfl
 | cons f l=>obtain ⟨h1,h2⟩:=ha.door 0 f (by rw [hf];rfl);have:=h1.road;omega
def MadeA.all_surface (i:Nat) (hi:i < a.mine.places.l.length):(a.mine.places.l.getD i default).surface=true:=by
 cases hs:(a.mine.places.l.getD i default).surface with
 | true=>rfl
 | false=>obtain ⟨k,u,hk,_⟩:=h.shaft i hi hs;omega
def MadeA.all_zero (i:Nat) (hi:i < a.mine.places.l.length):x.pres.l.getD i 0=0:=by
 have hp:=(Kuc h.err h.fit h.fits).place i hi;rw [Vr] at hp;split at hp;·cases hp
 ·
  rename_i hn;have:=h.all_surface hr i hi;by_cases hz:x.pres.l.getD i 0=0;·exact hz
  ·exact absurd (.inl ⟨this,hz⟩) hn
end
def Jxd {m:XMine} (h:Uf m=0):m.places.l.findSome? Z3=none:=by
 cases hf:m.places.l.findSome? Z3 with
 | none=>rfl
 | some e=>
  rw [Uf] at h;split at h;·omega
  rw [hf] at h;obtain ⟨p,_,hp⟩:=yy hf;unfold Z3 at hp;exact uaN
def Uxc {a:XAir} (h:Kv a=0):Uf a.mine=0:=by
 rw [Kv] at h;split at h;·omega
 ·omega
section
variable {a:XAir} {s:XSetting} {x:XState} {P:Arr XPlace} {Rd:Arr XRoad} {Pr Fl:Arr Int} (h:MadeA a s x) (hr:a.mine.roads.l.length=0) (hP:P.l=a.mine.places.l ++ [⟨0,true⟩]) (hR:Rd.l=[K1a a.mine.places.l.length]) (hPr:Pr.l=x.pres.l ++ [0]) (hFl:Fl.l=[0])
include h hr hP hR
def Krd:Kv ⟨⟨P,Rd⟩,a.fans,a.doors⟩=0:=by
 have hn:=h.nplaces;have hf:=h.no_fans hr;have hd:=h.no_doors hr;have hm:Uf ⟨P,Rd⟩=0:=by
  rw [Uf,if_neg (by simp only [hP,hR,yj,ym];omega)];dsimp only;rw [hP,List.findSome?_append,Jxd (Uxc h.err),hR];show (([K1a a.mine.places.l.length].findSome? (Vm (a.mine.places.l ++ [(⟨0,true⟩:XPlace)]).length)).getD 0)=0;have e:Vm (a.mine.places.l ++ [(⟨0,true⟩:XPlace)]).length (K1a a.mine.places.l.length)=none:=by rw [Vm,K1a,if_neg (by simp only [yj,ym];omega),if_neg];dsimp only;decide
  rw [yRb,e];rfl
 rw [Kv,if_neg zw];dsimp only;rw [hf,hd];rfl
include hPr hFl
def Kge:V0c ⟨⟨P,Rd⟩,a.fans,a.doors⟩ s ⟨Pr,Fl⟩=0:=by
 have hn:=h.nplaces;have hpl:=(Kuc h.err h.fit h.fits).plen;have hz:∀i:Nat,i < a.mine.places.l.length + 1→Pr.l.getD i 0=0:=fun i hi=>by
  rw [hPr,yh];rcases yl i x.pres.l.length with h1 | h1;·rw [yx h1, ← yh];exact h.all_zero hr i za
  ·rw [yD h1,show i - x.pres.l.length=0 by omega];rfl
 have hzm:∀p∈Pr.l,p=0:=fun p hp=>by
  obtain ⟨i,hi,rfl⟩:=List.mem_iff_getElem.1 hp;have:Pr.l.length=a.mine.places.l.length + 1:=by rw [hPr,yj,ym];omega
  have:=hz i za;rw [yh,yH hi] at this;exact this
 rw [Kzc (Krd h hr hP hR) (show K6a ⟨⟨P,Rd⟩,a.fans,a.doors⟩ s=true from h.fit) (by simp only [hP,hR,hPr,hFl,yj,ym];omega)];dsimp only;rw [List.findSome?_eq_none_iff.2 (fun p hp=>by rw [hzm p hp];rfl),hFl];have e1:[(0:Int)].findSome? V9a=none:=by decide
 rw [e1];dsimp only;have e2:(List.range [(0:Int)].length).findSome? (Yn ⟨⟨P,Rd⟩,a.fans,a.doors⟩ s ⟨Pr,Fl⟩)=none:=by
  refine List.findSome?_eq_none_iff.2 fun i hi=>?_;obtain rfl:i=0:=by simpa using List.mem_range.1 hi
  rw [Yn];dsimp only;rw [hR,hFl];have e3:K8 ⟨⟨P,Rd⟩,a.fans,a.doors⟩ s ((0:Nat):Int) 0=⟨0,0⟩:=by rw [K8];dsimp only;rw [h.no_fans hr];show innerTo _ s 0 0 0=_;rw [innerTo];dsimp only;rw [h.no_doors hr];show Y8b (Ut _ s 0 0) _ 0=_;rw [Ut];dsimp only;rw [hR];rfl
  have e4:([(0:Int)]).getD 0 0=0:=rfl;have e5:([K1a a.mine.places.l.length]).getD 0 default=K1a a.mine.places.l.length:=rfl;rw [e4,e5,e3,K1a];dsimp only;rw [show Pr.l.getD (Int.toNat 0) 0=0 from hz 0 za,yB,hz _ (Nat.lt_succ_self _)];rfl
 rw [e2];dsimp only;rw [List.findSome?_eq_none_iff.2 (fun i hi=>?_)];·rfl
 ·
  have hi2 := List.mem_range.1 hi;rw [hPr,yj,ym] at hi2;rw [Vr];dsimp only;rw [hz i za];have hs:(P.l.getD i default).surface=true:=by
   rw [hP,yh];rcases yl i a.mine.places.l.length with h1 | h1;·rw [yx h1, ← yh];exact h.all_surface hr i h1
   ·rw [yD h1,show i - a.mine.places.l.length=0 by omega];rfl
  rw [hs,if_neg zo]
end
end
section
structure AirD (a:XAir) (s:XSetting) (x:XState):Prop where
 err:Kv a=0
 fit:K6a a s=true
 fits:V0c a s x=0
 nplaces:1≤a.mine.places.l.length∧a.mine.places.l.length≤7
 nroads:1≤a.mine.roads.l.length∧a.mine.roads.l.length≤9
 nfans:a.fans.l.length≤2
 ndoors:a.doors.l.length≤2
def Ksf {a:XAir} {s:XSetting} {x:XState} (h:MadeA a s x) (hr:¬ a.mine.roads.l.length=0):AirD a s x:=by have h1:=h.nplaces;have h2:=h.nroads;exact ⟨h.err,h.fit,h.fits,by omega,by omega,h.nfans,h.ndoors⟩
def Uge {a:XAir} {s:XSetting} {x:XState} {P:Arr XPlace} {Rd:Arr XRoad} {Pr Fl:Arr Int} (h:MadeA a s x) (hr:a.mine.roads.l.length=0) (hP:P.l=a.mine.places.l ++ [⟨0,true⟩]) (hR:Rd.l=[K1a a.mine.places.l.length]) (hPr:Pr.l=x.pres.l ++ [0]) (hFl:Fl.l=[0]):
 AirD ⟨⟨P,Rd⟩,a.fans,a.doors⟩ s ⟨Pr,Fl⟩:=by
 have h1:=h.nplaces;refine ⟨Krd h hr hP hR,h.fit,Kge h hr hP hR hPr hFl,?_,?_,h.nfans,h.ndoors⟩;·dsimp only;rw [hP,yj,ym];omega
 ·dsimp only;rw [hR,ym];omega
structure SenK (a:XAir) (i:Nat) (t:XSens):Prop where
 kind:1≤t.kind∧t.kind≤6
 d:SensD t.kind (i:Int) t.target t
 target:0≤t.target∧t.target < Kna a t
def SenL (a:XAir) (l:List XSens):Prop:=∀(i:Nat) (t:XSens),l[i]?=some t→SenK a i t
def SenL.snoc {a:XAir} {l:List XSens} (h:SenL a l) {t:XSens} (ht:SenK a l.length t):SenL a (l ++ [t]):=fun i z hz=>by
 rw [yka] at hz
 split at hz
 ·exact h i z hz
 ·rw [yha] at hz
  split at hz
  ·cases hz
   rename_i h1 h2
   rw [show i=l.length by omega]
   exact ht
  ·cases hz
structure RoadsA (n i:Nat) (l:List Int):Prop where
 len:l.length≤i
 at_:∀k:Nat,k < l.length→0≤l.getD k 0∧l.getD k 0 < n∧l.getD k 0 < i
 up:∀k:Nat,k + 1 < l.length→l.getD k 0 < l.getD (k + 1) 0
def RoadsA.nil {n:Nat}:RoadsA n 0 []:=⟨yn _,fun k hk=>absurd hk zo,fun k hk=>absurd hk zo⟩
def RoadsA.stay {n i:Nat} {l:List Int} (h:RoadsA n i l):RoadsA n (i + 1) l:=⟨by have:=h.len;omega,fun k hk=>by have:=h.at_ k hk;omega,h.up⟩
def RoadsA.next {n i:Nat} {l:List Int} (h:RoadsA n i l) (hi:i < n):RoadsA n (i + 1) (l ++ [(i:Int)]):=by
 have hl:=h.len;have e:∀k:Nat,k < l.length→(l ++ [(i:Int)]).getD k 0=l.getD k 0:=fun k hk=>by rw [yh,yx hk,← yh]
 have e2:(l ++ [(i:Int)]).getD l.length 0=(i:Int):=by rw [yh,yD (yn _),yGb];rfl
 refine ⟨by rw [yj,ym];omega,fun k hk=>?_,fun k hk=>?_⟩;·
  rw [yj, ym] at hk;rcases yl k l.length with h1 | h1;·rw [e k h1];have:=h.at_ k h1;omega
  ·(obtain rfl : k = l.length := by omega);rw [e2];omega
 ·
  rw [yj, ym] at hk;rcases yl (k + 1) l.length with h1 | h1;·rw [e k za,e _ h1];exact h.up k h1
  ·(have hk2 : k + 1 = l.length := by omega);rw [e k za,hk2,e2];have:=h.at_ k za;omega
def RoadsA.good {n i:Nat} {l:List Int} (h:RoadsA n i l) (k:Nat) (hk:k < l.length):¬ Vv n l k:=by
 rw [Vv];have h1:=h.at_ k hk;rintro (h2 | ⟨h2,h3⟩);·exact h2 za
 ·have := h.up (k - 1) za;rw [show k - 1 + 1=k by omega] at this;omega
structure ZoneD (conds n:Nat) (z:XZone):Prop where
 rule:RuleD conds 2 z.rule.l
 hold:0≤z.hold∧z.hold≤8
 fresh:0≤z.fresh∧z.fresh≤1
 roads:RoadsA n n z.roads.l
def ZoneD.err {conds n:Nat} {z:XZone} (h:ZoneD conds n z):V6 conds n z=0:=by have h1:=h.hold;have h2:=h.fresh;rw [V6,if_neg (by rw [h.rule.err];decide),if_neg za,if_neg];rintro ⟨i,hi,hb⟩;exact h.roads.good i hi hb
structure SiteD (s:XSite) (u:XSetting) (x:XState):Prop where
 air:AirD s.air u x
 sens:SenL s.air s.sensors.l
 nsens:1≤s.sensors.l.length∧s.sensors.l.length≤8
 cond:∀c∈s.conds.l,CondD s.sensors.l s.air.mine.roads.l.length c
 ncond:1≤s.conds.l.length∧s.conds.l.length≤4
 zone:∀z∈s.zones.l,ZoneD s.conds.l.length s.air.mine.roads.l.length z
 nzone:1≤s.zones.l.length∧s.zones.l.length≤3
 pers:s.persons.l=[1,2,1,3]
def SensD.err {kind address target:Int} {t:XSens} (h:SensD kind address target t) (hk:1≤kind∧kind≤6) (ha:0≤address∧address≤255) (ht:0≤target):U1 t=0:=by obtain ⟨h1,h2,h3,h4,h5,h6,h7,h8⟩:=h;rw [U1,if_neg za,if_pos (by rw [Zi];omega)]
def SiteD.ok {s:XSite} {u:XSetting} {x:XState} (h:SiteD s u x):SiteOk s:=by
 have h1:=h.nsens;have h2:=h.ncond;have h3:=h.nzone;refine ⟨h.air.err,⟨by omega,by omega,by omega,by rw [h.pers];decide⟩,fun i hi=>?_,fun c hc=>(h.cond c hc).err,fun z hz=>(h.zone z hz).err,fun p hp=>?_⟩;·have hs := h.sens i _ (Ju default hi);refine Yrb rfl (hs.d.err hs.kind za hs.target.1) hs.target fun k hk e=>?_;have h5:=h.sens k _ (Ju (l:=s.sensors.l) (k:=k) default za);have e1:=h5.d.address;have e2:=hs.d.address;omega
 ·rw [h.pers] at hp;simp only [yU,yR,or_false] at hp;omega
end
end Go.Proofs.YtchfclmokpbldaaGreat
