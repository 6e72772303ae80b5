/-
  Merged texts. By an AI agent.
-/
import Derived.Test.YtchfclmokpbldaaGreatFeedC
import Derived.Test.YtchfclmokpbldaaGreatRuleD
import Derived.Test.YtchfclmokpbldaaGreatLaw11b
import Derived.Test.YtchfclmokpbldaaGreatCongrS
import Derived.Test.YtchfclmokpbldaaGreatData
set_option linter.all false
set_option maxHeartbeats 4000000
set_option maxRecDepth 20000
namespace Go.Proofs.YtchfclmokpbldaaGreat
open Go.Aw Go
section
attribute [local irreducible] CJ LJ DJ Tri YV Gives Uo J0 Kj Un RV J2 OwL.L
def Kte (sw:List XSwitch) (zn:List Int) (rp s t:Int):Int:=
 if feedE sw zn rp≠0 then feedE sw zn rp else if s < 0∨(sw.length:Int)≤s then 16 else if t≠1∧t≠-1 then 10 else 0
def Vte (sw:List XSwitch) (s t:Int):List XSwitch:=
 sw.set s.toNat ⟨(sw.getD s.toNat default).above,(sw.getD s.toNat default).since,t,(sw.getD s.toNat default).closed,if t= -1 then false else (sw.getD s.toNat default).late⟩
def Jbe {sw:List XSwitch} (h:Y9e sw):∀(n:Nat) (s:Int),s < sw.length→(s + 1).toNat≤n→∀x∈Yxa sw s,0≤x∧x≤s:=by
 intro n;induction n with
 | zero=>intro s _ hn;rw [Yha za];intro x hx;cases hx
 | succ n ih=>
  intro s hs hn x hx;by_cases h0:s < 0;·rw [Yha h0] at hx;cases hx
  ·
   have ha := h s.toNat za;rw [Kbb h za hs,yU] at hx;rcases hx with rfl | hx;·omega
   ·have := ih _ za za x hx;omega
def Kce {sw:List XSwitch} {zn:List Int} {rp s:Int} {x:Int} (hx:x∈J5b sw zn rp s):0≤x∧x≤s∧s < sw.length:=by
 rw [J5b] at hx;split at hx;·cases hx
 ·have hok := Z1 (sw := sw) (zn := zn) (rp := rp) za;have:=Jbe hok.up _ s za (yn _) x hx;omega
def Jae {sw:List XSwitch} {zn:List Int} {rp s:Int}:(J5b sw zn rp s).length≤32:=by
 rw [J5b];split;·simp
 ·have hok := Z1 (sw := sw) (zn := zn) (rp := rp) za;have h1:=hok.sn;have:=Yqc hok.up _ s za (yn _);omega
def Yvf (sw:List XSwitch) (a y:Int):Bool:=decide (y≠a∧(sw.getD y.toNat default).shown= -1)
def Jdg (sw:List XSwitch) (l:List Int):Int:=l.foldl (fun a x=>if (sw.getD x.toNat default).shown≠1 then x else a) (l.getD 0 0)
def Jrc (c:List XCut) (sw:List XSwitch) (zn:List Int) (rp zone a:Int) (k:Nat):Prop:=
 ((k:Int)≠zone∧(c.getD k default).off=true)∧a∈J5b sw zn rp (zn.getD k 0)∧¬∃y∈J5b sw zn rp (zn.getD k 0),Yvf sw a y=true
instance (c:List XCut) (sw:List XSwitch) (zn:List Int) (rp zone a:Int) (k:Nat):Decidable (Jrc c sw zn rp zone a k):=by unfold Jrc;infer_instance
def Kye (c:List XCut) (sw:List XSwitch) (zn:List Int) (rp zone a:Int):Prop:=∃k:Nat,k < zn.length∧Jrc c sw zn rp zone a k
instance (c:List XCut) (sw:List XSwitch) (zn:List Int) (rp zone a:Int):Decidable (Kye c sw zn rp zone a):=by unfold Kye;infer_instance
end
section
def Z8f {P:Program} {fn:Func} {t:Nat→Value} {L:LB} {R:LS} {r s q z:ResultVar} {v u x y:Value} (hr:fn.results=#[r,s,q,z]) (h:RV P t L R r v) (k:RV P t L R s u) (m:RV P t L R q x) (m2:RV P t L R z y):∀c n a w,Fr n t a→St c L R w→(results fn a.tmps).run P w=.ok (.tuple #[v,u,x,y]) w:=by intro c n a w hf hs;have h1:=Y4a h hf hs;have h2:=Y4a k hf hs;have h3:=Y4a m hf hs;have h4:=Y4a m2 hf hs;rw [Uja,hr];simp [h1,h2,h3,h4]
attribute [local irreducible] CJ LJ DJ Tri YV Gives Uo J0 Kj Un RV J2 OwL.L
def atR (f:XFeeder) (k:Int):Int:=Jdg f.switches.l (J5b f.switches.l f.zones.l f.reply (f.zones.l.getD k.toNat 0))
def Uqf (s:XSite) (c:List XCut) (fl:List XSpan) (r:XRest) (f:XFeeder) (t:Int):Int:=
 if sharedE s c.length fl.length t≠0 then sharedE s c.length fl.length t
 else if r.zone= -1∨r.step≠2 then 10
 else if Vue r t then 8
 else if readyE s c fl r.zone t≠0 then readyE s c fl r.zone t
 else if feedE f.switches.l f.zones.l f.reply≠0 then feedE f.switches.l f.zones.l f.reply
 else if f.zones.l.length≠s.zones.l.length then 17
 else if Kye c f.switches.l f.zones.l f.reply r.zone (atR f r.zone) then 20 else 0
def J9c (s:XSite) (c:List XCut) (fl:List XSpan) (r:XRest) (f:XFeeder) (t:Int):Int:=
 if Uqf s c fl r f t≠0 then Uqf s c fl r f t else Vef f.switches.l f.zones.l f.reply (atR f r.zone) t
def Z2f (f:XFeeder) (r:XRest):Prop:=atR f r.zone=f.zones.l.getD r.zone.toNat 0
instance (f:XFeeder) (r:XRest):Decidable (Z2f f r):=by unfold Z2f;infer_instance
def Z3e (s:XSite) (c:List XCut) (fl:List XSpan) (r:XRest) (f:XFeeder) (t:Int):XRest:=
 if J9c s c fl r f t≠0 then r else if Z2f f r then noRest else ⟨r.zone,r.first,r.second,r.step,t⟩
def Jyf (s:XSite) (c:List XCut) (fl:List XSpan) (r:XRest) (f:XFeeder) (t:Int):List XCut:=
 if J9c s c fl r f t≠0 then c else if Z2f f r then c.set r.zone.toNat ⟨false,(c.getD r.zone.toNat default).clear,(c.getD r.zone.toNat default).reason⟩ else c
def Vfe (s:XSite) (c:List XCut) (fl:List XSpan) (r:XRest) (f:XFeeder) (t:Int):List XSwitch:=
 if J9c s c fl r f t≠0 then f.switches.l else Zye f.switches.l (atR f r.zone) t
end
section
def Y3b (z:XZone):XZone:=⟨⟨none,0,z.rule.l⟩,z.hold,⟨none,0,z.roads.l⟩,z.fresh⟩
def K1 (s:XSite):XSite:=⟨Y6 s.air,⟨none,0,s.sensors.l⟩,⟨none,0,s.conds.l⟩,⟨none,0,s.zones.l.map Y3b⟩,⟨none,0,s.persons.l⟩⟩
def V8a (s:XSite) (k:Nat):(K1 s).zones.l.getD k default=Y3b (s.zones.l.getD k default):=Uob rfl
def Yaa (s:XSite):(K1 s).zones.l.length=s.zones.l.length:=yC _
def Kid (a:XAir) (x:XSens):Kna (Y6 a) x=Kna a x:=by rw [Kna,Kna,show (Y6 a).fans.l.length=a.fans.l.length from yC _,show (Y6 a).doors.l.length=a.doors.l.length from yC _];rfl
def Vfb (a:XAir) (S:List XSens):Um (Y6 a) S=Um a S:=by
 have e:Z2 (Y6 a) S=Z2 a S:=by funext i;rw [Z2,Z2,Kid]
 rw [Um,Um,e]
def Jpc (s:XSite):Yt (K1 s)=Yt s:=by rw [Yt,Yt,show (K1 s).zones.l=s.zones.l.map Y3b from rfl,yYb];rfl
def Jta (s:XSite):K5 (K1 s)=K5 s:=by rw [K5,K5,Jpc,Yaa,show Kv (K1 s).air=Kv s.air from Vsb _,show Um (K1 s).air (K1 s).sensors.l=Um s.air s.sensors.l from Vfb _ _];rfl
def Y6a (s:XSite) (m:List XMeas) (w:List XWatch) (fl:List XSpan) (t:Int):valuesErr (K1 s) m w fl t=valuesErr s m w fl t:=by rw [valuesErr,valuesErr,Jta];rfl
def Udb (s:XSite) (v:List Int) (c:List XCut) (t:Int):cutsErr (K1 s) v c t=cutsErr s v c t:=by rw [cutsErr,cutsErr,Jta,Yaa];rfl
def Znb (s:XSite) (v:List Int) (c:List XCut) (t:Int):cutAt (K1 s) v c t=cutAt s v c t:=by funext i;rw [cutAt,cutAt,V8a];rfl
def Kkb (s : XSite) (v : List Int) (c : List XCut) : ∀ k, Vda (K1 s) v c k = Vda s v c k
 | 0=>rfl
 | k + 1=>by rw [Vda,Vda,Kkb s v c k,V8a];rfl
def Ygb (s:XSite) (c:List XCut) (fl:List XSpan) (k t:Int):readyE (K1 s) c fl k t=readyE s c fl k t:=by rw [readyE,readyE,V8a];rfl
def K5b (s:XSite) (n m:Nat) (t:Int):sharedE (K1 s) n m t=sharedE s n m t:=by rw [sharedE,sharedE,Jta,Yaa];rfl
abbrev SiteE (s s':XSite):Prop:=K1 s=K1 s'
section
variable {s s':XSite} (h:SiteE s s')
include h
def SiteE.air:Y6 s.air=Y6 s'.air:=congrArg XSite.air zdc
def SiteE.sens:s.sensors.l=s'.sensors.l:=by have e:=congrArg (fun x:XSite=>x.sensors.l) zdc;exact e
def SiteE.conds:s.conds.l=s'.conds.l:=by have e:=congrArg (fun x:XSite=>x.conds.l) zdc;exact e
def SiteE.persons:s.persons.l=s'.persons.l:=by have e:=congrArg (fun x:XSite=>x.persons.l) zdc;exact e
def SiteE.nfans:s.air.fans.l.length=s'.air.fans.l.length:=by have:=congrArg (fun x:XSite=>x.air.fans.l.length) zdc;simpa [K1,Y6] using this
def SiteE.ndoors:s.air.doors.l.length=s'.air.doors.l.length:=by have:=congrArg (fun x:XSite=>x.air.doors.l.length) zdc;simpa [K1,Y6] using this
def SiteE.nzones:s.zones.l.length=s'.zones.l.length:=by rw [← Yaa s,h,Yaa s']
def SiteE.zone (k:Nat):Y3b (s.zones.l.getD k default)=Y3b (s'.zones.l.getD k default):=by rw [← V8a s,h,V8a s']
def SiteE.rule (k:Nat):(s.zones.l.getD k default).rule.l=(s'.zones.l.getD k default).rule.l:=by have e:=congrArg (fun z:XZone=>z.rule.l) (SiteE.zone h k);exact e
def SiteE.door (k:Nat):(s.air.doors.l.getD k default).rests.l=(s'.air.doors.l.getD k default).rests.l:=by
 have e:Ywa (s.air.doors.l.getD k default)=Ywa (s'.air.doors.l.getD k default):=by rw [← Veb s.air,SiteE.air h,Veb s'.air]
 have e2:=congrArg (fun d:XDoor=>d.rests.l) e;exact e2
def SiteE.err:K5 s=K5 s':=by rw [← Jta s,h,Jta s']
def SiteE.valuesErr (m:List XMeas) (w:List XWatch) (fl:List XSpan) (t:Int):valuesErr s m w fl t=valuesErr s' m w fl t:=by rw [← Y6a s,h,Y6a s']
def SiteE.valuesV (m:List XMeas) (w:List XWatch) (fl:List XSpan) (t:Int):valuesV s m w fl t=valuesV s' m w fl t:=by rw [Go.Proofs.YtchfclmokpbldaaGreat.valuesV,Go.Proofs.YtchfclmokpbldaaGreat.valuesV,SiteE.valuesErr h,SiteE.sens h,SiteE.conds h]
def SiteE.valuesW (m:List XMeas) (w:List XWatch) (fl:List XSpan) (t:Int):valuesW s m w fl t=valuesW s' m w fl t:=by rw [Go.Proofs.YtchfclmokpbldaaGreat.valuesW,Go.Proofs.YtchfclmokpbldaaGreat.valuesW,SiteE.valuesErr h,SiteE.sens h,SiteE.conds h]
def SiteE.cutsErr (v:List Int) (c:List XCut) (t:Int):cutsErr s v c t=cutsErr s' v c t:=by rw [← Udb s,h,Udb s']
def SiteE.cutAt (v:List Int) (c:List XCut) (t:Int):cutAt s v c t=cutAt s' v c t:=by rw [← Znb s,h,Znb s']
def SiteE.cutsC (v:List Int) (c:List XCut) (t:Int):cutsC s v c t=cutsC s' v c t:=by rw [Go.Proofs.YtchfclmokpbldaaGreat.cutsC,Go.Proofs.YtchfclmokpbldaaGreat.cutsC,SiteE.cutsErr h,SiteE.cutAt h]
def SiteE.cutsN (v:List Int) (c:List XCut) (t:Int):cutsN s v c t=cutsN s' v c t:=by rw [Go.Proofs.YtchfclmokpbldaaGreat.cutsN,Go.Proofs.YtchfclmokpbldaaGreat.cutsN,SiteE.cutsErr h,← Kkb s,h,Kkb s']
def SiteE.readyE (c:List XCut) (fl:List XSpan) (k t:Int):readyE s c fl k t=readyE s' c fl k t:=by rw [← Ygb s,h,Ygb s']
def SiteE.sharedE (n m:Nat) (t:Int):sharedE s n m t=sharedE s' n m t:=by rw [← K5b s,h,K5b s']
def SiteE.askE (c:List XCut) (fl:List XSpan) (r:XRest) (p k t:Int):askE s c fl r p k t=askE s' c fl r p k t:=by rw [Go.Proofs.YtchfclmokpbldaaGreat.askE,Go.Proofs.YtchfclmokpbldaaGreat.askE,SiteE.sharedE h,SiteE.readyE h,SiteE.persons h]
def SiteE.askR (c:List XCut) (fl:List XSpan) (r:XRest) (p k t:Int):askR s c fl r p k t=askR s' c fl r p k t:=by rw [Go.Proofs.YtchfclmokpbldaaGreat.askR,Go.Proofs.YtchfclmokpbldaaGreat.askR,SiteE.askE h]
end
end
section
def Yof (x:XSwitch) (t:Int):XSwitch:=⟨x.above,t,0,false,false⟩
def V1 (sw:List XSwitch) (s t:Int):List XSwitch:=if (sw.getD s.toNat default).closed=true then sw.set s.toNat (Yof (sw.getD s.toNat default) t) else sw
def V6d (sw:List XSwitch) (s t:Int):(V1 sw s t).length=sw.length:=by rw [V1];split <;> simp
structure SwKeep (sw sw':List XSwitch) (t:Int):Prop where
 len:sw'.length=sw.length
 at_:∀i:Nat,i < sw.length→(sw'.getD i default).above=(sw.getD i default).above∧((sw'.getD i default).since=(sw.getD i default).since∨(sw'.getD i default).since=t)∧(-1≤(sw'.getD i default).shown∧(sw'.getD i default).shown≤1)∧¬ ((sw'.getD i default).late=true∧((sw'.getD i default).closed=true∨(sw'.getD i default).shown= -1))
def J9f {sw:List XSwitch} {zn:List Int} {rp:Int} (h:feedE sw zn rp=0):∀i:Nat,i < sw.length→(-1≤(sw.getD i default).shown∧(sw.getD i default).shown≤1)∧¬ ((sw.getD i default).late=true∧((sw.getD i default).closed=true∨(sw.getD i default).shown= -1)):=fun i hi=>by
 by_cases h0:32 < sw.length∨16 < zn.length
 ·rw [feedE,if_pos h0] at h;omega
 cases h1:(List.range sw.length).findSome? (Uha sw) with
 | some e=>rw [Z9a h0 h1] at h;exact absurd h (K5c (fun _=>U6d) h1)
 | none=>
  have:=Keb h1 hi
  rw [Uha] at this
  split at this
  ·cases this
  split at this
  ·cases this
  split at this
  ·cases this
  rename_i k1 k2 k3
  rw [not_or] at k3
  exact ⟨by omega,k3.2⟩
def SwKeep.refl {sw:List XSwitch} {zn:List Int} {rp:Int} (h:feedE sw zn rp=0) (t:Int):SwKeep sw sw t:=⟨rfl,fun i hi=>⟨rfl,.inl rfl,J9f h i hi⟩⟩
def SwKeep.feedE {sw sw':List XSwitch} {zn:List Int} {rp t:Int} (k:SwKeep sw sw' t) (h:feedE sw zn rp=0) (ht:0≤t∧t≤2147483648):feedE sw' zn rp=0:=by
 have hl:=k.len;have hok:=Z1 h;have h0':¬ (32 < sw'.length∨16 < zn.length):=by have:=hok.sn;have:=hok.zl;omega
 have h1':(List.range sw'.length).findSome? (Uha sw')=none:=by
  rw [yE];intro i hi;rw [ysa,hl] at hi;have h2:=k.at_ i hi;have h3:=hok.up i hi;have h4:=hok.since i hi;exact Jld rfl za za (fun h=>by
   rcases h with h | h;·omega
   ·exact h2.2.2.2 h)
 have h2':(List.range zn.length).findSome? (Yta sw'.length zn)=none:=by rw [yE];intro i hi;rw [ysa] at hi;have:=hok.zr i hi;exact J1d za (fun ⟨j,hj,e⟩=>hok.zd i j hj hi e)
 rw [Jrb h0' h1' h2',if_neg (by have:=hok.rp;omega)]
def SwKeep.time {sw sw':List XSwitch} {t:Int} (k:SwKeep sw sw' t) (h:Vka sw t):Vka sw' t:=⟨h.1,fun x hx=>by
 obtain ⟨i,hi⟩:=List.mem_iff_getElem?.1 hx
 have hi':=(List.getElem?_eq_some_iff.1 hi).1
 have hl:=k.len
 have e:=getD_some (d:=default) hi
 have h2:=k.at_ i za
 have h3:=h.2 _ (yi (Ju (l:=sw) (k:=i) default za))
 rw [e] at h2
 omega⟩
def SwKeep.set {sw sw':List XSwitch} {t:Int} (k:SwKeep sw sw' t) {i:Nat} {x:XSwitch} (h1:x.above=(sw'.getD i default).above) (h2:x.since=(sw'.getD i default).since∨x.since=t) (h3:-1≤x.shown∧x.shown≤1) (h4:¬ (x.late=true∧(x.closed=true∨x.shown= -1))):SwKeep sw (sw'.set i x) t:=by
 refine ⟨by rw [yP];exact k.len,fun j hj=>?_⟩;have hl:=k.len;have hk:=k.at_ j hj;rw [yh,yJ];split;·
  rename_i e;subst e;rw [if_pos za];refine ⟨by rw [← hk.1,← h1];rfl,?_,h3,h4⟩;rcases h2 with h2 | h2;·
   rcases hk.2.1 with h5 | h5;·exact .inl (by rw [← h5,← h2];rfl)
   ·exact .inr (by rw [← h5,← h2];rfl)
  ·exact .inr h2
 ·rw [← yh];exact hk
def SwKeep.openS {sw sw':List XSwitch} {t:Int} (k:SwKeep sw sw' t) (s:Int):SwKeep sw (V1 sw' s t) t:=by
 rw [V1];split;·exact k.set rfl (.inr rfl) ⟨by show (-1:Int)≤0;decide,by show (0:Int)≤1;decide⟩ (by simp [Yof])
 ·exact k
def Knd (x:XSwitch):Bool:=!x.closed && decide (x.shown≠-1) && !x.late
structure XTick where
 sw:List XSwitch
 late:List Int
 opened : List Int
 deriving Inhabited
def Z0d (x:XSwitch):XSwitch:=⟨x.above,x.since,x.shown,x.closed,true⟩
def K1b (rp t:Int) (y:XTick) (i:Nat):XTick:=
 if Knd (y.sw.getD i default)=true∧rp≤t - (y.sw.getD i default).since then
  if 0≤(y.sw.getD i default).above∧((y.sw.set i (Z0d (y.sw.getD i default))).getD (y.sw.getD i default).above.toNat default).closed=true then
   ⟨V1 (y.sw.set i (Z0d (y.sw.getD i default))) (y.sw.getD i default).above t,y.late ++ [(i:Int)],y.opened ++ [(y.sw.getD i default).above]⟩
  else ⟨y.sw.set i (Z0d (y.sw.getD i default)),y.late ++ [(i:Int)],y.opened⟩
 else y
def Vla (sw : List XSwitch) (rp t : Int) : Nat → XTick
 | 0=>⟨sw,[],[]⟩
 | k + 1=>K1b rp t (Vla sw rp t k) (sw.length - 1 - k)
def Jra (sw:List XSwitch) (rp t:Int):XTick:=Vla sw rp t sw.length
def Jpd {sw:List XSwitch} {rp t:Int} {y:XTick} (i:Nat) (hi:i < sw.length) (k:SwKeep sw y.sw t):SwKeep sw (K1b rp t y i).sw t:=by
 have h2:=k.at_ i hi;rw [K1b];split;·
  rename_i hw;have hw1:=hw.1;rw [Knd,yp,yp,decide_eq_true_eq] at hw1;have hs:SwKeep sw (y.sw.set i (Z0d (y.sw.getD i default))) t:=k.set rfl (.inl rfl) h2.2.2.1 (fun h=>by
   rcases h.2 with h | h;·have : (y.sw.getD i default).closed = true := h;rw [this] at hw1;exact absurd hw1.1.1 ze
   ·exact hw1.1.2 h)
  split;·exact hs.openS _
  ·exact hs
 ·exact k
def Via {sw : List XSwitch} {zn : List Int} {rp t : Int} (h : feedE sw zn rp = 0) : ∀ k, k ≤ sw.length → SwKeep sw (Vla sw rp t k).sw t
 | 0,_=>.refl h t
 | k + 1,hk=>Jpd _ za (Via h k za)
def Ynd {rp t:Int} {y:XTick} {i:Nat}:(K1b rp t y i).late.length≤y.late.length + 1∧(K1b rp t y i).opened.length≤y.opened.length + 1:=by
 rw [K1b];repeat' split
 all_goals (first | (simp only [yj,yv,yL];omega) | omega)
def J3b {sw : List XSwitch} {rp t : Int} : ∀ k, (Vla sw rp t k).late.length ≤ k ∧ (Vla sw rp t k).opened.length ≤ k
 | 0=>⟨yn _,yn _⟩
 | k + 1=>by
  have h1:=J3b (sw:=sw) (rp:=rp) (t:=t) k
  have h2:=Ynd (rp:=rp) (t:=t) (y:=Vla sw rp t k) (i:=sw.length - 1 - k)
  rw [Vla];omega
end
section
def Z4f (x:Int) (k:Nat):Int:=x / 2 ^ k % 2
def Z3f (a b:Int):Int:=((a.toNat ^^^ b.toNat:Nat):Int)
def Kib (r b:Int):Int:=if r / 32768=b then 2 * r % 65536 else Z3f (2 * r % 65536) 4129
def Zbb (r x : Int) : Nat → Int
 | 0=>r
 | k + 1=>Kib (Zbb r x k) (Z4f x (7 - k))
def Y7c (r x:Int):Int:=Zbb r x 8
def Jvb (l:List Int):Int:=l.foldl Y7c 65535
def Crc (r:Int):Prop:=0≤r∧r < 65536
def Vyd {r:Int} (b:Int) (h:Crc r):Crc (Kib r b):=by
 obtain ⟨h1,h2⟩:=h;have hm:0≤2 * r % 65536∧2 * r % 65536 < 65536:=by omega
 rw [Kib];split;·exact hm
 ·refine ⟨Int.natCast_nonneg _, ?_⟩;have:(2 * r % 65536).toNat ^^^ (4129:Int).toNat < 2 ^ 16:=Nat.xor_lt_two_pow za ze;rw [Z3f];omega
def Usb {r : Int} (x : Int) (h : Crc r) : ∀ k, Crc (Zbb r x k)
 | 0=>h
 | k + 1=>Vyd _ (Usb x h k)
def Zjb : ∀ (l : List Int) {r : Int}, Crc r → Crc (l.foldl Y7c r)
 | [],_,h=>h
 | x :: l,_,h=>Zjb l (Usb x h 8)
def Kbc (l:List Int):Crc (Jvb l):=Zjb l ⟨by decide,by decide⟩
def V4c {l:List Int} {k:Nat} {x:Int} (h:l[k]?=some x):Jvb (l.take (k + 1))=Y7c (Jvb (l.take k)) x:=by rw [yna,h,Jvb,yBa];rfl
structure XTele where
 address:Int
 kind:Int
 data:List Int
 deriving DecidableEq,Inhabited
def Y0 (l:List Int):Prop:=l.getD 0 0≠126∨(1 < l.length∧64 < l.getD 1 0)
instance (l:List Int):Decidable (Y0 l):=by unfold Y0;exact inferInstance
def Uv (l:List Int):Prop:=(l.length:Int) < 2∨(l.length:Int) < l.getD 1 0 + 6
instance (l:List Int):Decidable (Uv l):=by unfold Uv;exact inferInstance
def lenT (l:List Int):Nat:=(l.getD 1 0).toNat
def Zka (l:List Int):Int:=l.getD (4 + lenT l) 0 * 256 + l.getD (5 + lenT l) 0
def Vza (l:List Int):List Int:=(l.take (4 + lenT l)).drop 1
def Ufb (l:List Int):XTele:=⟨l.getD 2 0,l.getD 3 0,(l.take (4 + lenT l)).drop 4⟩
structure XFed where
 held:List Int
 dropped:Int
 out:List XTele
 deriving DecidableEq,Inhabited
def Ul (l:List Int) (d:Int):XFed:=
 if hl:l=[] then ⟨[],d,[]⟩
 else if Y0 l then Ul l.tail (d + 1)
 else if Uv l then ⟨l,d,[]⟩
 else if Jvb (Vza l)≠Zka l then Ul l.tail (d + 1)
 else ⟨(Ul (l.drop (lenT l + 6)) d).held,(Ul (l.drop (lenT l + 6)) d).dropped,Ufb l :: (Ul (l.drop (lenT l + 6)) d).out⟩
termination_by l.length
decreasing_by
 all_goals have:=List.length_pos_iff.2 hl
 all_goals simp only [yIb,yca];omega
def Yga (d:Int):Ul [] d=⟨[],d,[]⟩:=by rw [Ul,dif_pos rfl]
def Vu {l:List Int} {d:Int} (h:l≠[]) (h1:Y0 l∨(¬ Uv l∧Jvb (Vza l)≠Zka l)):Ul l d=Ul l.tail (d + 1):=by
 rw [Ul,dif_neg h];split;·rfl
 ·
  rename_i h2;rcases h1 with h1 | ⟨h3,h4⟩;·exact absurd h1 h2
  ·rw [if_neg h3,if_pos h4]
def K5a {l:List Int} {d:Int} (h:l≠[]) (h1:¬ Y0 l) (h2:Uv l):Ul l d=⟨l,d,[]⟩:=by rw [Ul,dif_neg h,if_neg h1,if_pos h2]
def Kba {l:List Int} {d:Int} (h:l≠[]) (h1:¬ Y0 l) (h2:¬ Uv l) (h3:Jvb (Vza l)=Zka l):Ul l d=⟨(Ul (l.drop (lenT l + 6)) d).held,(Ul (l.drop (lenT l + 6)) d).dropped,Ufb l :: (Ul (l.drop (lenT l + 6)) d).out⟩:=by rw [Ul,dif_neg h,if_neg h1,if_neg h2,if_neg (by rw [h3];exact fun h=>h rfl)]
def BytesOk (l:List Int):Prop:=∀x∈l,0≤x∧x≤255
def BytesOk.at {l:List Int} (h:BytesOk l) (i:Nat):0≤l.getD i 0∧l.getD i 0≤255:=by
 rcases yl i l.length with hi | hi;·exact h _ (yi (Ju (l:=l) (k:=i) 0 hi))
 ·rw [yh,yr hi];decide
def Vhb {l:List Int} (h:BytesOk l) (h2:¬ Uv l):lenT l + 6≤l.length∧((lenT l:Nat):Int)=l.getD 1 0:=by have:=h.at 1;rw [Uv] at h2;rw [lenT];omega
def Yma {l b:List Int} {i:Nat} (h:i < l.length):(l ++ b).getD i 0=l.getD i 0:=by rw [yh,yx h,← yh]
def Kle:∀(n:Nat) {l:List Int} (b:List Int) (d:Int),l.length=n→BytesOk l→
 Ul (l ++ b) d=⟨(Ul ((Ul l d).held ++ b) (Ul l d).dropped).held,(Ul ((Ul l d).held ++ b) (Ul l d).dropped).dropped,(Ul l d).out ++ (Ul ((Ul l d).held ++ b) (Ul l d).dropped).out⟩:=by
 intro n;induction n using Nat.strongRecOn with
 | ind n ih=>
  intro l b d hn hb;rcases yba (l=[]) with h | h;·subst h;rw [Yga];rfl
  ·
   have hpos := List.length_pos_iff.2 h;(have hab:l ++ b≠[]:=by simp [h]);have e0:(l ++ b).getD 0 0=l.getD 0 0:=Yma hpos;have htl:(l ++ b).tail=l.tail ++ b:=List.tail_append_of_ne_nil h;have hbt:BytesOk l.tail:=fun x hx=>hb x (yob hx);have e1:1 < l.length→(l ++ b).getD 1 0=l.getD 1 0:=fun h=>Yma h;rcases yba (Y0 l) with h1 | h1;·
    have h1':Y0 (l ++ b):=by
     rw [Y0] at h1 ⊢;rw [e0];rcases h1 with h1 | ⟨h1,h2⟩;·exact .inl h1
     ·exact .inr ⟨by rw [yj];omega,by rw [e1 h1];exact h2⟩
    rw [Vu h (.inl h1),Vu hab (.inl h1'),htl];exact ih (l.tail.length) zda b (d + 1) rfl hbt
   ·
    rcases yba (Uv l) with h2 | h2;·rw [K5a h h1 h2];rfl
    ·
     obtain ⟨hw1, hw2⟩ := Vhb hb h2;have e1':=e1 za;(have el:lenT (l ++ b)=lenT l:=by rw [lenT,lenT,e1']);(have h1':¬ Y0 (l ++ b):=by rw [Y0] at h1 ⊢;rw [e0,e1'];intro h3;exact h1 (h3.imp_right fun h=>⟨by omega,h.2⟩));(have h2':¬ Uv (l ++ b):=by rw [Uv,e1',yj];omega);(have e2:Vza (l ++ b)=Vza l:=by rw [Vza,Vza,el,yHa za]);(have e3:Zka (l ++ b)=Zka l:=by rw [Zka,Zka,el,Yma za,Yma za]);(have e4:Ufb (l ++ b)=Ufb l:=by rw [Ufb,Ufb,el,Yma za,Yma za,yHa za]);rcases yba (Jvb (Vza l)=Zka l) with h3 | h3;·have e5 : (l ++ b).drop (lenT l + 6) = l.drop (lenT l + 6) ++ b := ydb hw1;rw [Kba h h1 h2 h3,Kba hab h1' h2' (by rw [e2,e3];exact h3),el,e4,e5];rw [ih (l.drop (lenT l + 6)).length zoa b d rfl (fun x hx=>hb x (yqa hx))];rfl
     ·rw [Vu h (.inr ⟨h2, h3⟩), Vu hab (.inr ⟨h2', by rw [e2, e3]; exact h3⟩), htl];exact ih (l.tail.length) zda b (d + 1) rfl hbt
def Vma (f:XTele):List Int:=126 :: (f.data.length:Int) :: f.address :: f.kind :: f.data
def Uuc (f:XTele):List Int:=Vma f ++ [Jvb (Vma f).tail / 256,Jvb (Vma f).tail % 256]
def Ydd (f:XTele):(Uuc f).length=f.data.length + 6:=by simp [Uuc,Vma]
end
section
structure XEntry where
 time:Int
 kind:Int
 target:Int
 value:Int
 deriving DecidableEq,Inhabited
def XEntry.cells (x:XEntry):List Value:=[.int .i64 x.time,.int .i64 x.kind,.int .i64 x.target,.int .i64 x.value]
abbrev Umb (x:Arr XEntry):Sl:=x.sl 4 XEntry.cells []
structure PSta where
 time:Int
 held:List Int
 dropped:Int
 meas:List XMeas
 watches:List XWatch
 cuts:List XCut
 sw:List XSwitch
 rest:XRest
 log:List XEntry
structure PSite where
 site:XSite
 zn:List Int
 rp:Int
 air:List Bool
def Ync (S:List XSens) (kind target:Int):Option Nat:=(List.range S.length).find? fun i=>decide ((S.getD i default).kind=kind∧(S.getD i default).target=target)
def J1a (S:List XSens) (m:List XMeas) (t kind target n:Int):Int:=
 match Ync S kind target with
 | none=>-1
 | some i=>if (Zk S m (i:Int) t).low=(Zk S m (i:Int) t).high∧0≤(Zk S m (i:Int) t).low∧(Zk S m (i:Int) t).low < n then (Zk S m (i:Int) t).low else -1
def Zvb (S:List XSens) (m:List XMeas) (t kind target n:Int) (hn:0≤n):-1≤J1a S m t kind target n∧(J1a S m t kind target n < n∨J1a S m t kind target n= -1):=by
 rw [J1a];split;·omega
 ·split <;> omega
def Zja (s:XSite) (m:List XMeas) (t:Int) (k:Nat):List Int:=(List.range k).map fun (i:Nat)=>J1a s.sensors.l m t 5 (i:Int) 3
def Uaa (s:XSite) (m:List XMeas) (t:Int) (k:Nat):List Int:=(List.range k).map fun (i:Nat)=>J1a s.sensors.l m t 6 (i:Int) ((s.air.doors.l.getD i default).rests.l.length:Int)
def Vie (s:XSite) (m:List XMeas) (t:Int):Sts:=(Zja s m t s.air.fans.l.length,Uaa s m t s.air.doors.l.length)
def Vna (s:XSite) (A:List Bool) (m:List XMeas) (t:Int):List XSpan:=(Ule (flS s.air A (Vie s m t)) nothingS 3 s.sensors.l m t).out
def V8d (s:XSite) (m:List XMeas) (t:Int) (k:Nat):Zja s m t (k + 1)=Zja s m t k ++ [J1a s.sensors.l m t 5 (k:Int) 3]:=by rw [Zja,yQb,yV];rfl
def Zrc (s:XSite) (m:List XMeas) (t:Int) (k:Nat):Uaa s m t (k + 1)=Uaa s m t k ++ [J1a s.sensors.l m t 6 (k:Int) ((s.air.doors.l.getD k default).rests.l.length:Int)]:=by rw [Uaa,yQb,yV];rfl
def V4b (s:XSite) (m:List XMeas) (t:Int) (k:Nat):(Zja s m t k).length=k:=by simp [Zja]
def J0b (s:XSite) (m:List XMeas) (t:Int) (k:Nat):(Uaa s m t k).length=k:=by simp [Uaa]
def U0d {s:XSite} (m:List XMeas) (t:Int):K6a s.air (mkS (Vie s m t))=true:=by
 refine Uzc ⟨V4b .., J0b .., fun i x hx=>?_,fun i x d hx hd=>?_⟩;·have hx : (Zja s m t s.air.fans.l.length)[i]? = some x := hx;rw [Zja,yt] at hx;obtain ⟨hi,-⟩:=List.getElem?_eq_some_iff.1 (show (Zja s m t s.air.fans.l.length)[i]?=some x from by rw [Zja,yt];exact hx);rw [V4b] at hi;rw [yda hi] at hx;have e:=yI hx;have:=Zvb s.sensors.l m t 5 (i:Int) 3 ze;dsimp only at e;rw [← e];omega
 ·have hx : (Uaa s m t s.air.doors.l.length)[i]? = some x := hx;obtain ⟨hi,-⟩:=List.getElem?_eq_some_iff.1 hx;rw [J0b] at hi;rw [Uaa,yt,yda hi] at hx;have e:=yI hx;have hg:=getD_some (d:=default) hd;have:=Zvb s.sensors.l m t 6 (i:Int) ((s.air.doors.l.getD i default).rests.l.length:Int) za;rw [hg] at this;dsimp only at e;rw [← e,hg];omega
def Z4a (l:List XEntry) (e:XEntry):List XEntry:=(l ++ [e]).drop (l.length + 1 - 400)
def Vtd {l:List XEntry} (e:XEntry):(Z4a l e).length≤400:=by rw [Z4a,yca,yj];simp;omega
def Jua (p:PSta) (kind target value:Int):PSta:={ p with log:=Z4a p.log ⟨p.time,kind,target,value⟩ }
def Ydc (g:PSite) (p:PSta) (z:Int):PSta:=
 let p1:=Jua p 1 z (p.cuts.getD z.toNat default).reason
 let s:=g.zn.getD z.toNat 0
 let p2:PSta:={ p1 with sw:=V1 p.sw s p.time }
 if (p.sw.getD s.toNat default).closed=true then Jua p2 2 s 0 else p2
def Zpa (g:PSite) (p:PSta) (l:List Int):PSta:=l.foldl (Ydc g) p
def Zp (kind:Int) (p:PSta) (l:List Int):PSta:=l.foldl (fun p x=>Jua p kind x 0) p
def J0f (g:PSite) (sw:List XSwitch) (z:Nat):Bool:=(J5b sw g.zn g.rp (g.zn.getD z 0)).any fun k=>!(sw.getD k.toNat default).closed || decide ((sw.getD k.toNat default).shown= -1)
def V7a (g:PSite) (vals:List Int) (p:PSta) (z:Nat):PSta:=
 if (p.cuts.getD z default).off=true∨J0f g p.sw z=false then p
 else Ydc g { p with cuts:=p.cuts.set z ⟨true,(p.cuts.getD z default).clear,Uwa (g.site.zones.l.getD z default).rule.l vals⟩ } (z:Int)
def darkTo (g : PSite) (vals : List Int) (p : PSta) : Nat → PSta
 | 0=>p
 | k + 1=>V7a g vals (darkTo g vals p k) k
def Zub (c:List XCut) (r:XRest):Prop:=r.zone= -1∨((0≤r.zone∧r.zone < c.length)∧(c.getD r.zone.toNat default).off=true∧(c.getD r.zone.toNat default).clear≠-1)
instance (c:List XCut) (r:XRest):Decidable (Zub c r):=by unfold Zub;infer_instance
def Jma (c:List XCut) (r:XRest):XRest:=if Zub c r then r else noRest
def flP (g:PSite) (p:PSta):List XSpan:=Vna g.site g.air p.meas p.time
def Uib (g:PSite) (p:PSta):List Int:=valuesV g.site p.meas p.watches (flP g p) p.time
def settleA (g:PSite) (p:PSta):PSta:=
 Zpa g { p with watches:=valuesW g.site p.meas p.watches (flP g p) p.time,cuts:=cutsC g.site (Uib g p) p.cuts p.time } (cutsN g.site (Uib g p) p.cuts p.time)
def settleB (g:PSite) (p:PSta):PSta:=
 Zp 2 (Zp 3 { p with rest:=Jma p.cuts p.rest,sw:=(Jra p.sw g.rp p.time).sw } (Jra p.sw g.rp p.time).late) (Jra p.sw g.rp p.time).opened
def Ka (g:PSite) (p0:PSta) (t:Int):PSta:=
 let p:={ p0 with time:=t }
 let q:=settleB g (settleA g p)
 darkTo g (Uib g p) q q.cuts.length
def Jxa (p:PSta) (t:Int):Prop:=t < p.time∨2147483648 < t
instance (p:PSta) (t:Int):Decidable (Jxa p t):=by unfold Jxa;infer_instance
def Jpa (S:List XSens) (ad:Int):Int:=(((List.range S.length).find? fun i=>decide ((S.getD i default).address=ad)).map Int.ofNat).getD (-1)
end
section
structure Inv (g:PSite) (p:PSta):Prop where
 site:K5 g.site=0
 airy:AiryIs g.site.air.mine g.air
 time:0≤p.time∧p.time≤2147483648
 meas:p.meas.length=g.site.sensors.l.length
 mok:∀x∈p.meas,Kza x
 wlen:p.watches.length=g.site.conds.l.length
 wok:∀w∈p.watches,K3a w∧w.last≤p.time
 clen:p.cuts.length=g.site.zones.l.length
 fe:feedE p.sw g.zn g.rp=0
 since:∀x∈p.sw,x.since≤p.time
 zlen:g.zn.length=g.site.zones.l.length
 rest:0≤p.rest.time∧(p.rest.zone= -1∨(0≤p.rest.zone∧p.rest.zone < p.cuts.length))
 log:p.log.length≤400
 held:BytesOk p.held∧p.held.length≤70
section
variable {g:PSite} {p:PSta}
def Inv.sok (h:Inv g p):SiteOk g.site:=Z4 h.site
def Inv.fok (h:Inv g p):FeedOk p.sw g.zn g.rp:=Z1 h.fe
def Inv.air (h:Inv g p):Kv g.site.air=0:=h.sok.air
def Inv.tok (h:Inv g p):Vka p.sw p.time:=⟨h.time,h.since⟩
def Inv.at (h:Inv g p) {t:Int} (h1:p.time≤t) (h2:t≤2147483648):Inv g { p with time:=t }:=
 { h with time:=⟨by have:=h.time;dsimp only;omega,h2⟩,wok:=fun w hw=>⟨(h.wok w hw).1,by have:=(h.wok w hw).2;dsimp only;omega⟩,since:=fun x hx=>by have:=h.since x hx;dsimp only;omega }
def Inv.note (h:Inv g p) (kind target value:Int):Inv g (Jua p kind target value):={ h with log:=by show (Z4a p.log _).length≤400;exact Vtd _ }
def Inv.sws (h:Inv g p) {sw:List XSwitch} (k:SwKeep p.sw sw p.time):Inv g { p with sw:=sw }:=
 { h with fe:=k.feedE h.fe h.time,since:=(k.time h.tok).2 }
def Inv.cut (h:Inv g p) (z:Int):Inv g (Ydc g p z):=by
 have h1:=h.note 1 z (p.cuts.getD z.toNat default).reason;have h2:=h1.sws (sw:=V1 p.sw (g.zn.getD z.toNat 0) p.time) ((SwKeep.refl h.fe p.time).openS _);rw [Ydc];split;·exact h2.note _ _ _
 ·exact h2
def Zbd : ∀ (l : List Int) {p : PSta}, Inv g p → Inv g (Zpa g p l)
 | [],_,h=>h
 | z :: l,_,h=>Zbd l (h.cut z)
def Inv.cuts (h:Inv g p) (l:List Int):Inv g (Zpa g p l):=Zbd l h
def K3d (kind : Int) : ∀ (l : List Int) {p : PSta}, Inv g p → Inv g (Zp kind p l)
 | [],_,h=>h
 | z :: l,_,h=>K3d kind l (h.note kind z 0)
def Inv.notes (kind:Int) (h:Inv g p) (l:List Int):Inv g (Zp kind p l):=K3d kind l h
def Uxb (z:Int):(Ydc g p z).cuts=p.cuts:=by rw [Ydc];split <;> rfl
def Inv.flLen (h:Inv g p):(flP g p).length=g.site.air.mine.roads.l.length:=by rw [flP,Vna,Ule,(V5c ..).1,flS];exact Z1d h.air (U0d _ _) h.airy
def Uwe {S:List XSens} {n:Nat} {c:XCond} (h:Ko S n c=0) (hk:c.kind=1):Zb c.level:=by
 rw [Ko] at h;split at h;·omega
 split at h;·omega
 rw [Zx] at h;split at h;·assumption
 ·omega
def Inv.valErr (h:Inv g p):valuesErr g.site p.meas p.watches (flP g p) p.time=0:=by
 have ht:=h.time;rw [valuesErr,if_neg (by rw [h.site];decide),if_neg (by rw [h.meas,h.wlen,h.flLen];simp),if_neg za];have:(List.range p.watches.length).findSome? (fun i=>nzO (Z1b (g.site.conds.l.getD i default) (p.watches.getD i default) p.time))=none:=by
  rw [yE];intro i hi;rw [ysa] at hi;have hw:=h.wok _ (yi (Ju (l:=p.watches) (k:=i) default hi));have hc:=h.sok.cond _ (yi (Ju (l:=g.site.conds.l) (k:=i) default (by rw [← h.wlen];exact hi)));rw [nzO,if_pos];rw [Z1b];split;·rename_i hk;exact Zxb (Uwe hc hk) za hw.1
  ·rfl
 rw [this];rfl
def J5e (l:XLevel) {w:XWatch} (x:XSpan) {t:Int} (ht:0≤t) (h:K3a w) (hl:w.last≤t):K3a (Zl l w x t)∧(Zl l w x t).last≤t:=by
 obtain ⟨h1,h2,h3,h4⟩:=h;rw [Zl];repeat' split
 all_goals refine ⟨⟨ht,?_,?_,?_⟩,yG _⟩
 all_goals dsimp only
 all_goals first | omega | exact .inl rfl | exact .inr rfl | (rcases h4 with h4 | h4;exact .inl h4;simp_all)
def Inv.valLen (h:Inv g p):(Uib g p).length=g.site.conds.l.length:=by rw [Uib,valuesV,if_neg (by rw [h.valErr];decide),yC,yec,h.wlen]
def Inv.cutErr (h:Inv g p):cutsErr g.site (Uib g p) p.cuts p.time=0:=by have ht:=h.time;rw [cutsErr,if_neg (by rw [h.site];decide),if_neg (by rw [h.valLen,h.clen];simp),if_neg za]
def Inv.sA (h:Inv g p):Inv g { p with watches:=valuesW g.site p.meas p.watches (flP g p) p.time,cuts:=cutsC g.site (Uib g p) p.cuts p.time }:=by
 have hw:(valuesW g.site p.meas p.watches (flP g p) p.time).length=p.watches.length:=by rw [valuesW,if_neg (by rw [h.valErr];decide),yC,yec]
 have hc:(cutsC g.site (Uib g p) p.cuts p.time).length=p.cuts.length:=by rw [cutsC,if_neg (by rw [h.cutErr];decide),yC,yec]
 refine { h with wlen:=hw.trans h.wlen,wok:=fun w hm=>?_,clen:=hc.trans h.clen,rest:=by rw [hc];exact h.rest };have hm:w∈valuesW g.site p.meas p.watches (flP g p) p.time:=hm;rw [valuesW,if_neg (by rw [h.valErr];decide),List.mem_map] at hm;obtain ⟨i,hi,rfl⟩:=hm;rw [ysa] at hi;have hw:=h.wok _ (yi (Ju (l:=p.watches) (k:=i) default hi));show K3a (Vra _ _ _ _ _)∧(Vra _ _ _ _ _).last≤p.time;rw [Vra];split;·exact J5e _ _ h.time.1 hw.1 hw.2
 ·exact hw
def Inv.settleA (h:Inv g p):Inv g (settleA g p):=h.sA.cuts _
def Kwd (c:List XCut) (r:XRest) (h:0≤r.time):0≤(Jma c r).time∧((Jma c r).zone= -1∨(0≤(Jma c r).zone∧(Jma c r).zone < c.length)):=by
 rw [Jma];split;·rename_i hk;rw [Zub] at hk;exact ⟨h,hk.imp_right fun h=>h.1⟩
 ·exact ⟨by decide,.inl rfl⟩
def Inv.settleB (h:Inv g p):Inv g (settleB g p):=by have h1:Inv g { p with rest:=Jma p.cuts p.rest }:={ h with rest:=Kwd _ _ h.rest.1 };have h2:=h1.sws (sw:=(Jra p.sw g.rp p.time).sw) (Via h.fe _ (yn _));exact (h2.notes 3 _).notes 2 _
def Inv.dark (h:Inv g p) (vals:List Int) (z:Nat):Inv g (V7a g vals p z):=by
 rw [V7a];split;·exact h
 ·refine Inv.cut (p := { p with cuts := p.cuts.set z ⟨true, (p.cuts.getD z default).clear, Uwa (g.site.zones.l.getD z default).rule.l vals⟩ }) ?_ _;exact { h with clen:=by show (p.cuts.set _ _).length=_;rw [yP];exact h.clen,rest:=by show _∧(_∨(_∧_ < ((p.cuts.set _ _).length:Int)));rw [yP];exact h.rest }
def Inv.darkTo (h : Inv g p) (vals : List Int) : ∀ k, Inv g (darkTo g vals p k)
 | 0=>h
 | k + 1=>(Inv.darkTo h vals k).dark vals k
def Inv.settle (h:Inv g p) {t:Int} (h1:p.time≤t) (h2:t≤2147483648):Inv g (Ka g p t):=((h.at h1 h2).settleA.settleB).darkTo _ _
def Vmc (z:Int):(Ydc g p z).time=p.time:=by rw [Ydc];split <;> rfl
end
end
end Go.Proofs.YtchfclmokpbldaaGreat
