/-
  Merged texts. By an AI agent.
-/
import Derived.Test.YtchfclmokpbldaaGreatSiteC
import Derived.Test.YtchfclmokpbldaaGreatData
import Derived.Test.YtchfclmokpbldaaGreatCutB
set_option linter.all false
set_option maxHeartbeats 4000000
set_option maxRecDepth 20000
namespace Go.Proofs.YtchfclmokpbldaaGreat
open Go.Aw Go
section
def V9f (x:XSwitch) (t:Int):XSwitch:=⟨x.above,t,0,false,false⟩
def Ye (sw:List XSwitch) (s t:Int):List XSwitch:=if (sw.getD s.toNat default).closed=true then sw.set s.toNat (V9f (sw.getD s.toNat default) t) else sw
def Y7d (sw:List XSwitch) (s t:Int):(Ye sw s t).length=sw.length:=by rw [Ye];split <;> simp
structure SwKeep (sw sw':List XSwitch) (t:Int):Prop where
 len:sw'.length=sw.length
 at_:∀i:Nat,i < sw.length→(sw'.getD i default).above=(sw.getD i default).above∧((sw'.getD i default).since=(sw.getD i default).since∨(sw'.getD i default).since=t)∧(-1≤(sw'.getD i default).shown∧(sw'.getD i default).shown≤1)∧¬ ((sw'.getD i default).late=true∧((sw'.getD i default).closed=true∨(sw'.getD i default).shown= -1))
def K1f {sw:List XSwitch} {zn:List Int} {rp:Int} (h:feedE sw zn rp=0):∀i:Nat,i < sw.length→(-1≤(sw.getD i default).shown∧(sw.getD i default).shown≤1)∧¬ ((sw.getD i default).late=true∧((sw.getD i default).closed=true∨(sw.getD i default).shown= -1)):=fun i hi=>by
 by_cases h0:32 < sw.length∨16 < zn.length
 ·rw [feedE,if_pos h0] at h;omega
 cases h1:(List.range sw.length).findSome? (Uea sw) with
 | some e=>rw [Kya h0 h1] at h;exact absurd h (Uac (fun _=>U3d) h1)
 | none=>
  have:=K8b h1 hi
  rw [Uea] at this
  split at this
  ·cases this
  split at this
  ·cases this
  split at this
  ·cases this
  rename_i k1 k2 k3
  rw [not_or] at k3
  exact ⟨by omega,k3.2⟩
def SwKeep.refl {sw:List XSwitch} {zn:List Int} {rp:Int} (h:feedE sw zn rp=0) (t:Int):SwKeep sw sw t:=⟨rfl,fun i hi=>⟨rfl,.inl rfl,K1f h i hi⟩⟩
def SwKeep.feedE {sw sw':List XSwitch} {zn:List Int} {rp t:Int} (k:SwKeep sw sw' t) (h:feedE sw zn rp=0) (ht:0≤t∧t≤2147483648):feedE sw' zn rp=0:=by
 have hl:=k.len;have hok:=Zo h;have h0':¬ (32 < sw'.length∨16 < zn.length):=by have:=hok.sn;have:=hok.zl;omega
 have h1':(List.range sw'.length).findSome? (Uea sw')=none:=by
  rw [yG];intro i hi;rw [yKa,hl] at hi;have h2:=k.at_ i hi;have h3:=hok.up i hi;have h4:=hok.since i hi;exact Vlc rfl zc zc (fun h=>by
   rcases h with h | h;·omega
   ·exact h2.2.2.2 h)
 have h2':(List.range zn.length).findSome? (Yva sw'.length zn)=none:=by rw [yG];intro i hi;rw [yKa] at hi;have:=hok.zr i hi;exact Uic zc (fun ⟨j,hj,e⟩=>hok.zd i j hj hi e)
 rw [Vea h0' h1' h2',if_neg (by have:=hok.rp;omega)]
def SwKeep.time {sw sw':List XSwitch} {t:Int} (k:SwKeep sw sw' t) (h:Kma sw t):Kma sw' t:=⟨h.1,fun x hx=>by
 obtain ⟨i,hi⟩:=List.mem_iff_getElem?.1 hx
 have hi':=(List.getElem?_eq_some_iff.1 hi).1
 have hl:=k.len
 have e:=getD_some (d:=default) hi
 have h2:=k.at_ i zc
 have h3:=h.2 _ (yi (Js (l:=sw) (k:=i) default zc))
 rw [e] at h2
 omega⟩
def SwKeep.set {sw sw':List XSwitch} {t:Int} (k:SwKeep sw sw' t) {i:Nat} {x:XSwitch} (h1:x.above=(sw'.getD i default).above) (h2:x.since=(sw'.getD i default).since∨x.since=t) (h3:-1≤x.shown∧x.shown≤1) (h4:¬ (x.late=true∧(x.closed=true∨x.shown= -1))):SwKeep sw (sw'.set i x) t:=by
 refine ⟨by rw [yN];exact k.len,fun j hj=>?_⟩;have hl:=k.len;have hk:=k.at_ j hj;rw [yh,yE];split;·
  rename_i e;subst e;rw [if_pos zc];refine ⟨by rw [← hk.1,← h1];rfl,?_,h3,h4⟩;rcases h2 with h2 | h2;·
   rcases hk.2.1 with h5 | h5;·exact .inl (by rw [← h5,← h2];rfl)
   ·exact .inr (by rw [← h5,← h2];rfl)
  ·exact .inr h2
 ·rw [← yh];exact hk
def SwKeep.openS {sw sw':List XSwitch} {t:Int} (k:SwKeep sw sw' t) (s:Int):SwKeep sw (Ye sw' s t) t:=by
 rw [Ye];split;·exact k.set rfl (.inr rfl) ⟨by show (-1:Int)≤0;decide,by show (0:Int)≤1;decide⟩ (by simp [V9f])
 ·exact k
def Vfd (x:XSwitch):Bool:=!x.closed && decide (x.shown≠-1) && !x.late
structure XTick where
 sw:List XSwitch
 late:List Int
 opened : List Int
 deriving Inhabited
def Z2d (x:XSwitch):XSwitch:=⟨x.above,x.since,x.shown,x.closed,true⟩
def Urb (rp t:Int) (y:XTick) (i:Nat):XTick:=
 if Vfd (y.sw.getD i default)=true∧rp≤t - (y.sw.getD i default).since then
  if 0≤(y.sw.getD i default).above∧((y.sw.set i (Z2d (y.sw.getD i default))).getD (y.sw.getD i default).above.toNat default).closed=true then
   ⟨Ye (y.sw.set i (Z2d (y.sw.getD i default))) (y.sw.getD i default).above t,y.late ++ [(i:Int)],y.opened ++ [(y.sw.getD i default).above]⟩
  else ⟨y.sw.set i (Z2d (y.sw.getD i default)),y.late ++ [(i:Int)],y.opened⟩
 else y
def V0a (sw : List XSwitch) (rp t : Int) : Nat → XTick
 | 0=>⟨sw,[],[]⟩
 | k + 1=>Urb rp t (V0a sw rp t k) (sw.length - 1 - k)
def J4a (sw:List XSwitch) (rp t:Int):XTick:=V0a sw rp t sw.length
def Kwd {sw:List XSwitch} {rp t:Int} {y:XTick} (i:Nat) (hi:i < sw.length) (k:SwKeep sw y.sw t):SwKeep sw (Urb rp t y i).sw t:=by
 have h2:=k.at_ i hi;rw [Urb];split;·
  rename_i hw;have hw1:=hw.1;rw [Vfd,yo,yo,decide_eq_true_eq] at hw1;have hs:SwKeep sw (y.sw.set i (Z2d (y.sw.getD i default))) t:=k.set rfl (.inl rfl) h2.2.2.1 (fun h=>by
   rcases h.2 with h | h;·have : (y.sw.getD i default).closed = true := h;rw [this] at hw1;exact absurd hw1.1.1 zj
   ·exact hw1.1.2 h)
  split;·exact hs.openS _
  ·exact hs
 ·exact k
def Vka {sw : List XSwitch} {zn : List Int} {rp t : Int} (h : feedE sw zn rp = 0) : ∀ k, k ≤ sw.length → SwKeep sw (V0a sw rp t k).sw t
 | 0,_=>.refl h t
 | k + 1,hk=>Kwd _ zc (Vka h k zc)
def Yxd {rp t:Int} {y:XTick} {i:Nat}:(Urb rp t y i).late.length≤y.late.length + 1∧(Urb rp t y i).opened.length≤y.opened.length + 1:=by
 rw [Urb];repeat' split
 all_goals (first | (simp only [yj,yC,yV];omega) | omega)
def K0b {sw : List XSwitch} {rp t : Int} : ∀ k, (V0a sw rp t k).late.length ≤ k ∧ (V0a sw rp t k).opened.length ≤ k
 | 0=>⟨yn _,yn _⟩
 | k + 1=>by
  have h1:=K0b (sw:=sw) (rp:=rp) (t:=t) k
  have h2:=Yxd (rp:=rp) (t:=t) (y:=V0a sw rp t k) (i:=sw.length - 1 - k)
  rw [V0a];omega
end
section
def Jaf (l:List Int):Prop:=l.getD 0 0≠126∨(1 < l.length∧64 < l.getD 1 0)
instance (l:List Int):Decidable (Jaf l):=by unfold Jaf;exact inferInstance
def Vzd (l:List Int):Prop:=(l.length:Int) < 2∨(l.length:Int) < l.getD 1 0 + 6
instance (l:List Int):Decidable (Vzd l):=by unfold Vzd;exact inferInstance
def K8c (l:List Int):Prop:=∀x∈l,0≤x∧x≤255
end
section
structure XEntry where
 time:Int
 kind:Int
 target:Int
 value:Int
 deriving DecidableEq,Inhabited
def XEntry.cells (x:XEntry):List Value:=[.int .i64 x.time,.int .i64 x.kind,.int .i64 x.target,.int .i64 x.value]
abbrev Uec (x:Arr XEntry):Sl:=x.sl 4 XEntry.cells []
structure PSta where
 time:Int
 held:List Int
 dropped:Int
 meas:List XMeas
 watches:List XWatch
 cuts:List XCut
 sw:List XSwitch
 rest:XRest
 log:List XEntry
structure PSite where
 site:XSite
 zn:List Int
 rp:Int
 air:List Bool
def Ypc (S:List XSens) (kind target:Int):Option Nat:=(List.range S.length).find? fun i=>decide ((S.getD i default).kind=kind∧(S.getD i default).target=target)
def Zb (S:List XSens) (m:List XMeas) (t kind target n:Int):Int:=
 match Ypc S kind target with
 | none=>-1
 | some i=>if (Ze S m (i:Int) t).low=(Ze S m (i:Int) t).high∧0≤(Ze S m (i:Int) t).low∧(Ze S m (i:Int) t).low < n then (Ze S m (i:Int) t).low else -1
def Kfc (S:List XSens) (m:List XMeas) (t kind target n:Int) (hn:0≤n):-1≤Zb S m t kind target n∧(Zb S m t kind target n < n∨Zb S m t kind target n= -1):=by
 rw [Zb];split;·omega
 ·split <;> omega
def Vaa (s:XSite) (m:List XMeas) (t:Int) (k:Nat):List Int:=(List.range k).map fun (i:Nat)=>Zb s.sensors.l m t 5 (i:Int) 3
def J6a (s:XSite) (m:List XMeas) (t:Int) (k:Nat):List Int:=(List.range k).map fun (i:Nat)=>Zb s.sensors.l m t 6 (i:Int) ((s.air.doors.l.getD i default).rests.l.length:Int)
def Uie (s:XSite) (m:List XMeas) (t:Int):Sts:=(Vaa s m t s.air.fans.l.length,J6a s m t s.air.doors.l.length)
def Uka (s:XSite) (A:List Bool) (m:List XMeas) (t:Int):List XSpan:=(J1e (flS s.air A (Uie s m t)) nothingS 3 s.sensors.l m t).out
def Kec (s:XSite) (m:List XMeas) (t:Int) (k:Nat):Vaa s m t (k + 1)=Vaa s m t k ++ [Zb s.sensors.l m t 5 (k:Int) 3]:=by rw [Vaa,yYa,yS];rfl
def V9b (s:XSite) (m:List XMeas) (t:Int) (k:Nat):J6a s m t (k + 1)=J6a s m t k ++ [Zb s.sensors.l m t 6 (k:Int) ((s.air.doors.l.getD k default).rests.l.length:Int)]:=by rw [J6a,yYa,yS];rfl
def Knb (s:XSite) (m:List XMeas) (t:Int) (k:Nat):(Vaa s m t k).length=k:=by simp [Vaa]
def Y8a (s:XSite) (m:List XMeas) (t:Int) (k:Nat):(J6a s m t k).length=k:=by simp [J6a]
def Uqc {s:XSite} (m:List XMeas) (t:Int):J8a s.air (mkS (Uie s m t))=true:=by
 refine Vyc ⟨Knb .., Y8a .., fun i x hx=>?_,fun i x d hx hd=>?_⟩;·have hx : (Vaa s m t s.air.fans.l.length)[i]? = some x := hx;rw [Vaa,yt] at hx;obtain ⟨hi,-⟩:=List.getElem?_eq_some_iff.1 (show (Vaa s m t s.air.fans.l.length)[i]?=some x from by rw [Vaa,yt];exact hx);rw [Knb] at hi;rw [yZ hi] at hx;have e:=yH hx;have:=Kfc s.sensors.l m t 5 (i:Int) 3 zj;dsimp only at e;rw [← e];omega
 ·have hx : (J6a s m t s.air.doors.l.length)[i]? = some x := hx;obtain ⟨hi,-⟩:=List.getElem?_eq_some_iff.1 hx;rw [Y8a] at hi;rw [J6a,yt,yZ hi] at hx;have e:=yH hx;have hg:=getD_some (d:=default) hd;have:=Kfc s.sensors.l m t 6 (i:Int) ((s.air.doors.l.getD i default).rests.l.length:Int) zc;rw [hg] at this;dsimp only at e;rw [← e,hg];omega
def J6b (l:List XEntry) (e:XEntry):List XEntry:=(l ++ [e]).drop (l.length + 1 - 400)
def Ysd {l:List XEntry} (e:XEntry):(J6b l e).length≤400:=by rw [J6b,yjb,yj];simp;omega
def Yda (p:PSta) (kind target value:Int):PSta:={ p with log:=J6b p.log ⟨p.time,kind,target,value⟩ }
def Y1d (g:PSite) (p:PSta) (z:Int):PSta:=
 let p1:=Yda p 1 z (p.cuts.getD z.toNat default).reason
 let s:=g.zn.getD z.toNat 0
 let p2:PSta:={ p1 with sw:=Ye p.sw s p.time }
 if (p.sw.getD s.toNat default).closed=true then Yda p2 2 s 0 else p2
def U7b (g:PSite) (p:PSta) (l:List Int):PSta:=l.foldl (Y1d g) p
def Kda (kind:Int) (p:PSta) (l:List Int):PSta:=l.foldl (fun p x=>Yda p kind x 0) p
def Kwf (g:PSite) (sw:List XSwitch) (z:Nat):Bool:=(K7b sw g.zn g.rp (g.zn.getD z 0)).any fun k=>!(sw.getD k.toNat default).closed || decide ((sw.getD k.toNat default).shown= -1)
def U4b (g:PSite) (vals:List Int) (p:PSta) (z:Nat):PSta:=
 if (p.cuts.getD z default).off=true∨Kwf g p.sw z=false then p
 else Y1d g { p with cuts:=p.cuts.set z ⟨true,(p.cuts.getD z default).clear,V5a (g.site.zones.l.getD z default).rule.l vals⟩ } (z:Int)
def darkTo (g : PSite) (vals : List Int) (p : PSta) : Nat → PSta
 | 0=>p
 | k + 1=>U4b g vals (darkTo g vals p k) k
def Ksc (c:List XCut) (r:XRest):Prop:=r.zone= -1∨((0≤r.zone∧r.zone < c.length)∧(c.getD r.zone.toNat default).off=true∧(c.getD r.zone.toNat default).clear≠-1)
instance (c:List XCut) (r:XRest):Decidable (Ksc c r):=by unfold Ksc;infer_instance
def J1a (c:List XCut) (r:XRest):XRest:=if Ksc c r then r else noRest
def flP (g:PSite) (p:PSta):List XSpan:=Uka g.site g.air p.meas p.time
def Vib (g:PSite) (p:PSta):List Int:=valuesV g.site p.meas p.watches (flP g p) p.time
def settleA (g:PSite) (p:PSta):PSta:=
 U7b g { p with watches:=valuesW g.site p.meas p.watches (flP g p) p.time,cuts:=cutsC g.site (Vib g p) p.cuts p.time } (cutsN g.site (Vib g p) p.cuts p.time)
def settleB (g:PSite) (p:PSta):PSta:=
 Kda 2 (Kda 3 { p with rest:=J1a p.cuts p.rest,sw:=(J4a p.sw g.rp p.time).sw } (J4a p.sw g.rp p.time).late) (J4a p.sw g.rp p.time).opened
def Ky (g:PSite) (p0:PSta) (t:Int):PSta:=
 let p:={ p0 with time:=t }
 let q:=settleB g (settleA g p)
 darkTo g (Vib g p) q q.cuts.length
def Jrc (p:PSta) (t:Int):Prop:=t < p.time∨2147483648 < t
instance (p:PSta) (t:Int):Decidable (Jrc p t):=by unfold Jrc;infer_instance
end
section
structure Inv (g:PSite) (p:PSta):Prop where
 site:K7 g.site=0
 airy:AiryIs g.site.air.mine g.air
 time:0≤p.time∧p.time≤2147483648
 meas:p.meas.length=g.site.sensors.l.length
 mok:∀x∈p.meas,Uua x
 wlen:p.watches.length=g.site.conds.l.length
 wok:∀w∈p.watches,Uga w∧w.last≤p.time
 clen:p.cuts.length=g.site.zones.l.length
 fe:feedE p.sw g.zn g.rp=0
 since:∀x∈p.sw,x.since≤p.time
 zlen:g.zn.length=g.site.zones.l.length
 rest:0≤p.rest.time∧(p.rest.zone= -1∨(0≤p.rest.zone∧p.rest.zone < p.cuts.length))
 log:p.log.length≤400
 held:K8c p.held∧p.held.length≤70
section
variable {g:PSite} {p:PSta}
def Inv.sok (h:Inv g p):SiteOk g.site:=Ys h.site
def Inv.fok (h:Inv g p):FeedOk p.sw g.zn g.rp:=Zo h.fe
def Inv.air (h:Inv g p):Ko g.site.air=0:=h.sok.air
def Inv.tok (h:Inv g p):Kma p.sw p.time:=⟨h.time,h.since⟩
def Inv.at (h:Inv g p) {t:Int} (h1:p.time≤t) (h2:t≤2147483648):Inv g { p with time:=t }:=
 { h with time:=⟨by have:=h.time;dsimp only;omega,h2⟩,wok:=fun w hw=>⟨(h.wok w hw).1,by have:=(h.wok w hw).2;dsimp only;omega⟩,since:=fun x hx=>by have:=h.since x hx;dsimp only;omega }
def Inv.note (h:Inv g p) (kind target value:Int):Inv g (Yda p kind target value):={ h with log:=by show (J6b p.log _).length≤400;exact Ysd _ }
def Inv.sws (h:Inv g p) {sw:List XSwitch} (k:SwKeep p.sw sw p.time):Inv g { p with sw:=sw }:=
 { h with fe:=k.feedE h.fe h.time,since:=(k.time h.tok).2 }
def Inv.cut (h:Inv g p) (z:Int):Inv g (Y1d g p z):=by
 have h1:=h.note 1 z (p.cuts.getD z.toNat default).reason;have h2:=h1.sws (sw:=Ye p.sw (g.zn.getD z.toNat 0) p.time) ((SwKeep.refl h.fe p.time).openS _);rw [Y1d];split;·exact h2.note _ _ _
 ·exact h2
def Znd : ∀ (l : List Int) {p : PSta}, Inv g p → Inv g (U7b g p l)
 | [],_,h=>h
 | z :: l,_,h=>Znd l (h.cut z)
def Inv.cuts (h:Inv g p) (l:List Int):Inv g (U7b g p l):=Znd l h
def U6d (kind : Int) : ∀ (l : List Int) {p : PSta}, Inv g p → Inv g (Kda kind p l)
 | [],_,h=>h
 | z :: l,_,h=>U6d kind l (h.note kind z 0)
def Inv.notes (kind:Int) (h:Inv g p) (l:List Int):Inv g (Kda kind p l):=U6d kind l h
def Ydc (z:Int):(Y1d g p z).cuts=p.cuts:=by rw [Y1d];split <;> rfl
def Inv.flLen (h:Inv g p):(flP g p).length=g.site.air.mine.roads.l.length:=by rw [flP,Uka,J1e,(V6b ..).1,flS];exact J6d h.air (Uqc _ _) h.airy
def Yke {S:List XSens} {n:Nat} {c:XCond} (h:J7 S n c=0) (hk:c.kind=1):Zj c.level:=by
 rw [J7] at h;split at h;·omega
 split at h;·omega
 rw [Za] at h;split at h;·assumption
 ·omega
def Inv.valErr (h:Inv g p):valuesErr g.site p.meas p.watches (flP g p) p.time=0:=by
 have ht:=h.time;rw [valuesErr,if_neg (by rw [h.site];decide),if_neg (by rw [h.meas,h.wlen,h.flLen];simp),if_neg zc];have:(List.range p.watches.length).findSome? (fun i=>nzO (Jxc (g.site.conds.l.getD i default) (p.watches.getD i default) p.time))=none:=by
  rw [yG];intro i hi;rw [yKa] at hi;have hw:=h.wok _ (yi (Js (l:=p.watches) (k:=i) default hi));have hc:=h.sok.cond _ (yi (Js (l:=g.site.conds.l) (k:=i) default (by rw [← h.wlen];exact hi)));rw [nzO,if_pos];rw [Jxc];split;·rename_i hk;exact Knc (Yke hc hk) zc hw.1
  ·rfl
 rw [this];rfl
def Kfe (l:XLevel) {w:XWatch} (x:XSpan) {t:Int} (ht:0≤t) (h:Uga w) (hl:w.last≤t):Uga (Jba l w x t)∧(Jba l w x t).last≤t:=by
 obtain ⟨h1,h2,h3,h4⟩:=h;rw [Jba];repeat' split
 all_goals refine ⟨⟨ht,?_,?_,?_⟩,yI _⟩
 all_goals dsimp only
 all_goals first | omega | exact .inl rfl | exact .inr rfl | (rcases h4 with h4 | h4;exact .inl h4;simp_all)
def Inv.valLen (h:Inv g p):(Vib g p).length=g.site.conds.l.length:=by rw [Vib,valuesV,if_neg (by rw [h.valErr];decide),yK,yVb,h.wlen]
def Inv.cutErr (h:Inv g p):cutsErr g.site (Vib g p) p.cuts p.time=0:=by have ht:=h.time;rw [cutsErr,if_neg (by rw [h.site];decide),if_neg (by rw [h.valLen,h.clen];simp),if_neg zc]
def Inv.sA (h:Inv g p):Inv g { p with watches:=valuesW g.site p.meas p.watches (flP g p) p.time,cuts:=cutsC g.site (Vib g p) p.cuts p.time }:=by
 have hw:(valuesW g.site p.meas p.watches (flP g p) p.time).length=p.watches.length:=by rw [valuesW,if_neg (by rw [h.valErr];decide),yK,yVb]
 have hc:(cutsC g.site (Vib g p) p.cuts p.time).length=p.cuts.length:=by rw [cutsC,if_neg (by rw [h.cutErr];decide),yK,yVb]
 refine { h with wlen:=hw.trans h.wlen,wok:=fun w hm=>?_,clen:=hc.trans h.clen,rest:=by rw [hc];exact h.rest };have hm:w∈valuesW g.site p.meas p.watches (flP g p) p.time:=hm;rw [valuesW,if_neg (by rw [h.valErr];decide),List.mem_map] at hm;obtain ⟨i,hi,rfl⟩:=hm;rw [yKa] at hi;have hw:=h.wok _ (yi (Js (l:=p.watches) (k:=i) default hi));show Uga (V2a _ _ _ _ _)∧(V2a _ _ _ _ _).last≤p.time;rw [V2a];split;·exact Kfe _ _ h.time.1 hw.1 hw.2
 ·exact hw
def Inv.settleA (h:Inv g p):Inv g (settleA g p):=h.sA.cuts _
def Vad (c:List XCut) (r:XRest) (h:0≤r.time):0≤(J1a c r).time∧((J1a c r).zone= -1∨(0≤(J1a c r).zone∧(J1a c r).zone < c.length)):=by
 rw [J1a];split;·rename_i hk;rw [Ksc] at hk;exact ⟨h,hk.imp_right fun h=>h.1⟩
 ·exact ⟨by decide,.inl rfl⟩
def Inv.settleB (h:Inv g p):Inv g (settleB g p):=by have h1:Inv g { p with rest:=J1a p.cuts p.rest }:={ h with rest:=Vad _ _ h.rest.1 };have h2:=h1.sws (sw:=(J4a p.sw g.rp p.time).sw) (Vka h.fe _ (yn _));exact (h2.notes 3 _).notes 2 _
def Inv.dark (h:Inv g p) (vals:List Int) (z:Nat):Inv g (U4b g vals p z):=by
 rw [U4b];split;·exact h
 ·refine Inv.cut (p := { p with cuts := p.cuts.set z ⟨true, (p.cuts.getD z default).clear, V5a (g.site.zones.l.getD z default).rule.l vals⟩ }) ?_ _;exact { h with clen:=by show (p.cuts.set _ _).length=_;rw [yN];exact h.clen,rest:=by show _∧(_∨(_∧_ < ((p.cuts.set _ _).length:Int)));rw [yN];exact h.rest }
def Inv.darkTo (h : Inv g p) (vals : List Int) : ∀ k, Inv g (darkTo g vals p k)
 | 0=>h
 | k + 1=>(Inv.darkTo h vals k).dark vals k
def Inv.settle (h:Inv g p) {t:Int} (h1:p.time≤t) (h2:t≤2147483648):Inv g (Ky g p t):=((h.at h1 h2).settleA.settleB).darkTo _ _
end
end
section
attribute [local irreducible] CJ LJ DJ Tri YV Gives U7 Kb Kp U8 RV Ke OwL.L
end
section
def U4e (g:PSite) (p:PSta) (person zone t:Int):PSta×Int:=
 if Jrc p t then (p,8)
 else
  let q:=Ky g p t
  let e:=askE g.site q.cuts (flP g q) q.rest person zone t
  if e≠0 then (Yda q 7 zone e,e) else (Yda { q with rest:=askR g.site q.cuts (flP g q) q.rest person zone t } 4 zone person,0)
section
variable {g:PSite} {p:PSta}
def Jsf {t:Int} (h:¬ Jrc p t):p.time≤t∧t≤2147483648:=by rw [Jrc] at h;omega
end
end
section
structure XSta where
 site:XSite
 time:Int
 held:Arr Int
 dropped:Int
 meas:Arr XMeas
 watches:Arr XWatch
 cuts:Arr XCut
 feeder:XFeeder
 rest:XRest
 log:Arr XEntry
def XSta.cells (x:XSta):List Value:=[x.site.air.mine.places.val,x.site.air.mine.roads.val,x.site.air.fans.val,x.site.air.doors.val,x.site.sensors.val,x.site.conds.val,x.site.zones.val,x.site.persons.val,.int .i64 x.time,x.held.val,.int .i64 x.dropped,x.meas.val,x.watches.val,x.cuts.val,x.feeder.switches.val,x.feeder.zones.val,.int .i64 x.feeder.reply,.int .i64 x.rest.zone,.int .i64 x.rest.first,.int .i64 x.rest.second,.int .i64 x.rest.step,.int .i64 x.rest.time,x.log.val]
abbrev XSta.val (x:XSta):Value:=.agg #[x.site.air.mine.places.val,x.site.air.mine.roads.val,x.site.air.fans.val,x.site.air.doors.val,x.site.sensors.val,x.site.conds.val,x.site.zones.val,x.site.persons.val,.int .i64 x.time,x.held.val,.int .i64 x.dropped,x.meas.val,x.watches.val,x.cuts.val,x.feeder.switches.val,x.feeder.zones.val,.int .i64 x.feeder.reply,.int .i64 x.rest.zone,.int .i64 x.rest.first,.int .i64 x.rest.second,.int .i64 x.rest.step,.int .i64 x.rest.time,x.log.val]
structure StaR (x:XSta) (R:LS):Prop where
 site:SiteR x.site R
 held:InR (bsl x.held) R
 meas:InR (V3a x.meas) R
 watches:InR (Zrc x.watches) R
 cuts:InR (J6c x.cuts) R
 feeder:FeederR x.feeder R
 log:InR (Uec x.log) R
def StaR.mono {x:XSta} {R U:LS} (h:StaR x R) (k:∀r∈R,InR r U):StaR x U:=⟨h.site.mono k,h.held.mono k,h.meas.mono k,h.watches.mono k,h.cuts.mono k,h.feeder.mono k,h.log.mono k⟩
structure StaIs (g:PSite) (p:PSta) (x:XSta):Prop where
 site:SiteE x.site g.site
 time:x.time=p.time
 held:x.held.l=p.held
 dropped:x.dropped=p.dropped
 meas:x.meas.l=p.meas
 watches:x.watches.l=p.watches
 cuts:x.cuts.l=p.cuts
 sw:x.feeder.switches.l=p.sw
 zn:x.feeder.zones.l=g.zn
 rp:x.feeder.reply=g.rp
 rest:x.rest=p.rest
 log:x.log.l=p.log
end
end Go.Proofs.YtchfclmokpbldaaGreat
