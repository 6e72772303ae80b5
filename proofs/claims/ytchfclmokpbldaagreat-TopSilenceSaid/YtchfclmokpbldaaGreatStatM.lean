/-
  Merged texts. By an AI agent.
-/
import Derived.Test.YtchfclmokpbldaaGreatData
import Derived.Test.YtchfclmokpbldaaGreatFeedT
import Derived.Test.YtchfclmokpbldaaGreatWinR
set_option linter.all false
set_option maxHeartbeats 4000000
set_option maxRecDepth 20000
namespace Go.Proofs.YtchfclmokpbldaaGreat
open Go.Aw Go
section
def V2g (x:Int) (k:Nat):Int:=x / 2 ^ k % 2
def V3g (a b:Int):Int:=((a.toNat ^^^ b.toNat:Nat):Int)
def Upb (r b:Int):Int:=if r / 32768=b then 2 * r % 65536 else V3g (2 * r % 65536) 4129
def Kfc (r x : Int) : Nat → Int
 | 0=>r
 | k + 1=>Upb (Kfc r x k) (V2g x (7 - k))
def Vtd (r x:Int):Int:=Kfc r x 8
def Jab (l:List Int):Int:=l.foldl Vtd 65535
def Crc (r:Int):Prop:=0≤r∧r < 65536
def Jhe {r:Int} (b:Int) (h:Crc r):Crc (Upb r b):=by
 obtain ⟨h1,h2⟩:=h;have hm:0≤2 * r % 65536∧2 * r % 65536 < 65536:=by omega
 rw [Upb];split;·exact hm
 ·refine ⟨yWb _, ?_⟩;have:(2 * r % 65536).toNat ^^^ (4129:Int).toNat < 2 ^ 16:=Nat.xor_lt_two_pow za ze;rw [V3g];omega
def V3b {r : Int} (x : Int) (h : Crc r) : ∀ k, Crc (Kfc r x k)
 | 0=>h
 | k + 1=>Jhe _ (V3b x h k)
def Kic : ∀ (l : List Int) {r : Int}, Crc r → Crc (l.foldl Vtd r)
 | [],_,h=>h
 | x :: l,_,h=>Kic l (V3b x h 8)
def V7c (l:List Int):Crc (Jab l):=Kic l ⟨by decide,by decide⟩
def Yvc {l:List Int} {k:Nat} {x:Int} (h:l[k]?=some x):Jab (l.take (k + 1))=Vtd (Jab (l.take k)) x:=by rw [yfa,h,Jab,yBa];rfl
structure XTele where
 address:Int
 kind:Int
 data:List Int
 deriving DecidableEq,Inhabited
def Jja (l:List Int):Prop:=l.getD 0 0≠126∨(1 < l.length∧64 < l.getD 1 0)
instance (l:List Int):Decidable (Jja l):=by unfold Jja;exact inferInstance
def Vc (l:List Int):Prop:=(l.length:Int) < 2∨(l.length:Int) < l.getD 1 0 + 6
instance (l:List Int):Decidable (Vc l):=by unfold Vc;exact inferInstance
def lenT (l:List Int):Nat:=(l.getD 1 0).toNat
def Vxb (l:List Int):Int:=l.getD (4 + lenT l) 0 * 256 + l.getD (5 + lenT l) 0
def K5b (l:List Int):List Int:=(l.take (4 + lenT l)).drop 1
def K7c (l:List Int):XTele:=⟨l.getD 2 0,l.getD 3 0,(l.take (4 + lenT l)).drop 4⟩
structure XFed where
 held:List Int
 dropped:Int
 out:List XTele
 deriving DecidableEq,Inhabited
def Vb (l:List Int) (d:Int):XFed:=
 if hl:l=[] then ⟨[],d,[]⟩
 else if Jja l then Vb l.tail (d + 1)
 else if Vc l then ⟨l,d,[]⟩
 else if Jab (K5b l)≠Vxb l then Vb l.tail (d + 1)
 else ⟨(Vb (l.drop (lenT l + 6)) d).held,(Vb (l.drop (lenT l + 6)) d).dropped,K7c l :: (Vb (l.drop (lenT l + 6)) d).out⟩
termination_by l.length
decreasing_by
 all_goals have:=List.length_pos_iff.2 hl
 all_goals simp only [yfb,yX];omega
def Y2a (d:Int):Vb [] d=⟨[],d,[]⟩:=by rw [Vb,dif_pos rfl]
def Jya {l:List Int} {d:Int} (h:l≠[]) (h1:Jja l∨(¬ Vc l∧Jab (K5b l)≠Vxb l)):Vb l d=Vb l.tail (d + 1):=by
 rw [Vb,dif_neg h];split;·rfl
 ·
  rename_i h2;rcases h1 with h1 | ⟨h3,h4⟩;·exact absurd h1 h2
  ·rw [if_neg h3,if_pos h4]
def Zga {l:List Int} {d:Int} (h:l≠[]) (h1:¬ Jja l) (h2:Vc l):Vb l d=⟨l,d,[]⟩:=by rw [Vb,dif_neg h,if_neg h1,if_pos h2]
def Vea {l:List Int} {d:Int} (h:l≠[]) (h1:¬ Jja l) (h2:¬ Vc l) (h3:Jab (K5b l)=Vxb l):Vb l d=⟨(Vb (l.drop (lenT l + 6)) d).held,(Vb (l.drop (lenT l + 6)) d).dropped,K7c l :: (Vb (l.drop (lenT l + 6)) d).out⟩:=by rw [Vb,dif_neg h,if_neg h1,if_neg h2,if_neg (by rw [h3];exact fun h=>h rfl)]
def BytesOk (l:List Int):Prop:=∀x∈l,0≤x∧x≤255
def BytesOk.at {l:List Int} (h:BytesOk l) (i:Nat):0≤l.getD i 0∧l.getD i 0≤255:=by
 rcases yl i l.length with hi | hi;·exact h _ (yi (Jt (l:=l) (k:=i) 0 hi))
 ·rw [yh,yt hi];decide
def Zyc {l:List Int} (h:BytesOk l) (h2:¬ Vc l):lenT l + 6≤l.length∧((lenT l:Nat):Int)=l.getD 1 0:=by have:=h.at 1;rw [Vc] at h2;rw [lenT];omega
def Jma (f:XTele):List Int:=126 :: (f.data.length:Int) :: f.address :: f.kind :: f.data
def Zo (f:XTele):List Int:=Jma f ++ [Jab (Jma f).tail / 256,Jab (Jma f).tail % 256]
def Zja (f:XTele):(Zo f).length=f.data.length + 6:=by simp [Zo,Jma]
def Jje {f:XTele} (h:f.data.length≤64) (r:List Int) (d:Int):Vb (Zo f ++ r) d=⟨(Vb r d).held,(Vb r d).dropped,f :: (Vb r d).out⟩:=by
 have e:Zo f ++ r=126 :: (f.data.length:Int) :: f.address :: f.kind :: (f.data ++ (Jab (Jma f).tail / 256 :: Jab (Jma f).tail % 256 :: r)):=by simp [Zo,Jma]
 have hlen:(Zo f ++ r).length=f.data.length + 6 + r.length:=by rw [yj,Zja]
 have g1:(Zo f ++ r).getD 1 0=(f.data.length:Int):=by rw [e];rfl
 have eT:lenT (Zo f ++ r)=f.data.length:=by rw [lenT,g1];rfl
 have hne:Zo f ++ r≠[]:=by rw [e];simp
 have h1:¬ Jja (Zo f ++ r):=by
  rw [Jja,g1];have:(Zo f ++ r).getD 0 0=126:=by rw [e];rfl
  omega
 have h2:¬ Vc (Zo f ++ r):=by rw [Vc,g1,hlen];omega
 have hb:K5b (Zo f ++ r)=(Jma f).tail:=by rw [K5b,eT,e,yYb 4];show ((126 :: (f.data.length:Int) :: f.address :: f.kind :: List.take f.data.length (f.data ++ _)):List Int).drop 1=_;rw [yJa (ym _),yeb];rfl
 have hd:K7c (Zo f ++ r)=f:=by rw [K7c,eT,e,yYb 4];show (⟨f.address,f.kind,List.take f.data.length (f.data ++ _)⟩:XTele)=f;rw [yJa (ym _),yeb]
 have hc:Vxb (Zo f ++ r)=Jab (Jma f).tail:=by
  have a1:(Zo f ++ r).getD (4 + f.data.length) 0=Jab (Jma f).tail / 256:=by rw [e,yYb 4];show (f.data ++ _).getD f.data.length 0=_;rw [yh,yB (ym _),yzb];rfl
  have a2:(Zo f ++ r).getD (5 + f.data.length) 0=Jab (Jma f).tail % 256:=by rw [e,show 5 + f.data.length=f.data.length + 1 + 4 by omega];show (f.data ++ _).getD (f.data.length + 1) 0=_;rw [yh,yB za,Nat.add_sub_cancel_left];rfl
  rw [Vxb,eT,a1,a2];omega
 have hr:(Zo f ++ r).drop (f.data.length + 6)=r:=by rw [← Zja f,List.drop_left]
 rw [Vea hne h1 h2 (by rw [hb,hc]),eT,hr,hd]
end
section
structure XEntry where
 time:Int
 kind:Int
 target:Int
 value:Int
 deriving DecidableEq,Inhabited
def XEntry.cells (x:XEntry):List Value:=[.int .i64 x.time,.int .i64 x.kind,.int .i64 x.target,.int .i64 x.value]
abbrev Jda (x:Arr XEntry):Sl:=x.sl 4 XEntry.cells []
structure PSta where
 time:Int
 held:List Int
 dropped:Int
 meas:List XMeas
 watches:List XWatch
 cuts:List XCut
 sw:List XSwitch
 rest:XRest
 log:List XEntry
structure PSite where
 site:XSite
 zn:List Int
 rp:Int
 air:List Bool
def J6d (S:List XSens) (kind target:Int):Option Nat:=(List.range S.length).find? fun i=>decide ((S.getD i default).kind=kind∧(S.getD i default).target=target)
def Ksa (S:List XSens) (m:List XMeas) (t kind target n:Int):Int:=
 match J6d S kind target with
 | none=>-1
 | some i=>if (Y2 S m (i:Int) t).low=(Y2 S m (i:Int) t).high∧0≤(Y2 S m (i:Int) t).low∧(Y2 S m (i:Int) t).low < n then (Y2 S m (i:Int) t).low else -1
def Kwc (S:List XSens) (m:List XMeas) (t kind target n:Int) (hn:0≤n):-1≤Ksa S m t kind target n∧(Ksa S m t kind target n < n∨Ksa S m t kind target n= -1):=by
 rw [Ksa];split;·omega
 ·split <;> omega
def J0b (s:XSite) (m:List XMeas) (t:Int) (k:Nat):List Int:=(List.range k).map fun (i:Nat)=>Ksa s.sensors.l m t 5 (i:Int) 3
def U3a (s:XSite) (m:List XMeas) (t:Int) (k:Nat):List Int:=(List.range k).map fun (i:Nat)=>Ksa s.sensors.l m t 6 (i:Int) ((s.air.doors.l.getD i default).rests.l.length:Int)
def Zae (s:XSite) (m:List XMeas) (t:Int):Sts:=(J0b s m t s.air.fans.l.length,U3a s m t s.air.doors.l.length)
def Yja (s:XSite) (A:List Bool) (m:List XMeas) (t:Int):List XSpan:=(Zce (flS s.air A (Zae s m t)) nothingS 3 s.sensors.l m t).out
def Zud (s:XSite) (m:List XMeas) (t:Int) (k:Nat):J0b s m t (k + 1)=J0b s m t k ++ [Ksa s.sensors.l m t 5 (k:Int) 3]:=by rw [J0b,ykb,yV];rfl
def Ved (s:XSite) (m:List XMeas) (t:Int) (k:Nat):U3a s m t (k + 1)=U3a s m t k ++ [Ksa s.sensors.l m t 6 (k:Int) ((s.air.doors.l.getD k default).rests.l.length:Int)]:=by rw [U3a,ykb,yV];rfl
def Zkb (s:XSite) (m:List XMeas) (t:Int) (k:Nat):(J0b s m t k).length=k:=by simp [J0b]
def Ukb (s:XSite) (m:List XMeas) (t:Int) (k:Nat):(U3a s m t k).length=k:=by simp [U3a]
def Y2d {s:XSite} (m:List XMeas) (t:Int):Uza s.air (mkS (Zae s m t))=true:=by
 refine Jhd ⟨Zkb .., Ukb .., fun i x hx=>?_,fun i x d hx hd=>?_⟩;·have hx : (J0b s m t s.air.fans.l.length)[i]? = some x := hx;rw [J0b,yr] at hx;obtain ⟨hi,-⟩:=List.getElem?_eq_some_iff.1 (show (J0b s m t s.air.fans.l.length)[i]?=some x from by rw [J0b,yr];exact hx);rw [Zkb] at hi;rw [yU hi] at hx;have e:=yL hx;have:=Kwc s.sensors.l m t 5 (i:Int) 3 ze;dsimp only at e;rw [← e];omega
 ·have hx : (U3a s m t s.air.doors.l.length)[i]? = some x := hx;obtain ⟨hi,-⟩:=List.getElem?_eq_some_iff.1 hx;rw [Ukb] at hi;rw [U3a,yr,yU hi] at hx;have e:=yL hx;have hg:=getD_some (d:=default) hd;have:=Kwc s.sensors.l m t 6 (i:Int) ((s.air.doors.l.getD i default).rests.l.length:Int) za;rw [hg] at this;dsimp only at e;rw [← e,hg];omega
def Kcb (l:List XEntry) (e:XEntry):List XEntry:=(l ++ [e]).drop (l.length + 1 - 400)
def Zrd {l:List XEntry} (e:XEntry):(Kcb l e).length≤400:=by rw [Kcb,yX,yj];simp;omega
def Zh (p:PSta) (kind target value:Int):PSta:={ p with log:=Kcb p.log ⟨p.time,kind,target,value⟩ }
def Yac (g:PSite) (p:PSta) (z:Int):PSta:=
 let p1:=Zh p 1 z (p.cuts.getD z.toNat default).reason
 let s:=g.zn.getD z.toNat 0
 let p2:PSta:={ p1 with sw:=Yi p.sw s p.time }
 if (p.sw.getD s.toNat default).closed=true then Zh p2 2 s 0 else p2
def Zra (g:PSite) (p:PSta) (l:List Int):PSta:=l.foldl (Yac g) p
def Jsa (kind:Int) (p:PSta) (l:List Int):PSta:=l.foldl (fun p x=>Zh p kind x 0) p
def Yef (g:PSite) (sw:List XSwitch) (z:Nat):Bool:=(Zaa sw g.zn g.rp (g.zn.getD z 0)).any fun k=>!(sw.getD k.toNat default).closed || decide ((sw.getD k.toNat default).shown= -1)
def Via (g:PSite) (vals:List Int) (p:PSta) (z:Nat):PSta:=
 if (p.cuts.getD z default).off=true∨Yef g p.sw z=false then p
 else Yac g { p with cuts:=p.cuts.set z ⟨true,(p.cuts.getD z default).clear,Kpa (g.site.zones.l.getD z default).rule.l vals⟩ } (z:Int)
def darkTo (g : PSite) (vals : List Int) (p : PSta) : Nat → PSta
 | 0=>p
 | k + 1=>Via g vals (darkTo g vals p k) k
def Ufc (c:List XCut) (r:XRest):Prop:=r.zone= -1∨((0≤r.zone∧r.zone < c.length)∧(c.getD r.zone.toNat default).off=true∧(c.getD r.zone.toNat default).clear≠-1)
instance (c:List XCut) (r:XRest):Decidable (Ufc c r):=by unfold Ufc;infer_instance
def Kua (c:List XCut) (r:XRest):XRest:=if Ufc c r then r else noRest
def flP (g:PSite) (p:PSta):List XSpan:=Yja g.site g.air p.meas p.time
def Vrb (g:PSite) (p:PSta):List Int:=valuesV g.site p.meas p.watches (flP g p) p.time
def settleA (g:PSite) (p:PSta):PSta:=
 Zra g { p with watches:=valuesW g.site p.meas p.watches (flP g p) p.time,cuts:=cutsC g.site (Vrb g p) p.cuts p.time } (cutsN g.site (Vrb g p) p.cuts p.time)
def settleB (g:PSite) (p:PSta):PSta:=
 Jsa 2 (Jsa 3 { p with rest:=Kua p.cuts p.rest,sw:=(Uma p.sw g.rp p.time).sw } (Uma p.sw g.rp p.time).late) (Uma p.sw g.rp p.time).opened
def Ji (g:PSite) (p0:PSta) (t:Int):PSta:=
 let p:={ p0 with time:=t }
 let q:=settleB g (settleA g p)
 darkTo g (Vrb g p) q q.cuts.length
def Zu (p:PSta) (t:Int):Prop:=t < p.time∨2147483648 < t
instance (p:PSta) (t:Int):Decidable (Zu p t):=by unfold Zu;infer_instance
def Jra (S:List XSens) (ad:Int):Int:=(((List.range S.length).find? fun i=>decide ((S.getD i default).address=ad)).map Int.ofNat).getD (-1)
end
section
structure Inv (g:PSite) (p:PSta):Prop where
 site:K8 g.site=0
 airy:AiryIs g.site.air.mine g.air
 time:0≤p.time∧p.time≤2147483648
 meas:p.meas.length=g.site.sensors.l.length
 mok:∀x∈p.meas,Uaa x
 wlen:p.watches.length=g.site.conds.l.length
 wok:∀w∈p.watches,Ula w∧w.last≤p.time
 clen:p.cuts.length=g.site.zones.l.length
 fe:feedE p.sw g.zn g.rp=0
 since:∀x∈p.sw,x.since≤p.time
 zlen:g.zn.length=g.site.zones.l.length
 rest:0≤p.rest.time∧(p.rest.zone= -1∨(0≤p.rest.zone∧p.rest.zone < p.cuts.length))
 log:p.log.length≤400
 held:BytesOk p.held∧p.held.length≤70
section
variable {g:PSite} {p:PSta}
def Inv.sok (h:Inv g p):SiteOk g.site:=Jka h.site
def Inv.fok (h:Inv g p):FeedOk p.sw g.zn g.rp:=Yd h.fe
def Inv.air (h:Inv g p):Kx g.site.air=0:=h.sok.air
def Inv.tok (h:Inv g p):Yia p.sw p.time:=⟨h.time,h.since⟩
def Inv.at (h:Inv g p) {t:Int} (h1:p.time≤t) (h2:t≤2147483648):Inv g { p with time:=t }:=
 { h with time:=⟨by have:=h.time;dsimp only;omega,h2⟩,wok:=fun w hw=>⟨(h.wok w hw).1,by have:=(h.wok w hw).2;dsimp only;omega⟩,since:=fun x hx=>by have:=h.since x hx;dsimp only;omega }
def Inv.note (h:Inv g p) (kind target value:Int):Inv g (Zh p kind target value):={ h with log:=by show (Kcb p.log _).length≤400;exact Zrd _ }
def Inv.sws (h:Inv g p) {sw:List XSwitch} (k:SwKeep p.sw sw p.time):Inv g { p with sw:=sw }:=
 { h with fe:=k.feedE h.fe h.time,since:=(k.time h.tok).2 }
def Inv.cut (h:Inv g p) (z:Int):Inv g (Yac g p z):=by
 have h1:=h.note 1 z (p.cuts.getD z.toNat default).reason;have h2:=h1.sws (sw:=Yi p.sw (g.zn.getD z.toNat 0) p.time) ((SwKeep.refl h.fe p.time).openS _);rw [Yac];split;·exact h2.note _ _ _
 ·exact h2
def Ule : ∀ (l : List Int) {p : PSta}, Inv g p → Inv g (Zra g p l)
 | [],_,h=>h
 | z :: l,_,h=>Ule l (h.cut z)
def Inv.cuts (h:Inv g p) (l:List Int):Inv g (Zra g p l):=Ule l h
def V5d (kind : Int) : ∀ (l : List Int) {p : PSta}, Inv g p → Inv g (Jsa kind p l)
 | [],_,h=>h
 | z :: l,_,h=>V5d kind l (h.note kind z 0)
def Inv.notes (kind:Int) (h:Inv g p) (l:List Int):Inv g (Jsa kind p l):=V5d kind l h
def K4b (z:Int):(Yac g p z).cuts=p.cuts:=by rw [Yac];split <;> rfl
def Inv.flLen (h:Inv g p):(flP g p).length=g.site.air.mine.roads.l.length:=by rw [flP,Yja,Zce,(Y2c ..).1,flS];exact Kqe h.air (Y2d _ _) h.airy
def Ymc {S:List XSens} {n:Nat} {c:XCond} (h:Kt S n c=0) (hk:c.kind=1):Yr c.level:=by
 rw [Kt] at h;split at h;·omega
 split at h;·omega
 rw [Y1] at h;exact ubk
def Inv.valErr (h:Inv g p):valuesErr g.site p.meas p.watches (flP g p) p.time=0:=by
 have ht:=h.time;rw [valuesErr,if_neg (by rw [h.site];decide),if_neg (by rw [h.meas,h.wlen,h.flLen];simp),if_neg za];have:(List.range p.watches.length).findSome? (fun i=>nzO (Koc (g.site.conds.l.getD i default) (p.watches.getD i default) p.time))=none:=by
  rw [yH];intro i hi;rw [yqa] at hi;have hw:=h.wok _ (yi (Jt (l:=p.watches) (k:=i) default hi));have hc:=h.sok.cond _ (yi (Jt (l:=g.site.conds.l) (k:=i) default (by rw [← h.wlen];exact hi)));rw [nzO,if_pos];rw [Koc];split;·rename_i hk;exact K2c (Ymc hc hk) za hw.1
  ·rfl
 rw [this];rfl
def Ute (l:XLevel) {w:XWatch} (x:XSpan) {t:Int} (ht:0≤t) (h:Ula w) (hl:w.last≤t):Ula (Zp l w x t)∧(Zp l w x t).last≤t:=by
 obtain ⟨h1,h2,h3,h4⟩:=h;rw [Zp];repeat' split
 all_goals refine ⟨⟨ht,?_,?_,?_⟩,yF _⟩
 all_goals dsimp only
 all_goals first | omega | exact .inl rfl | exact .inr rfl | (rcases h4 with h4 | h4;exact .inl h4;simp_all)
def Inv.valLen (h:Inv g p):(Vrb g p).length=g.site.conds.l.length:=by rw [Vrb,valuesV,if_neg (by rw [h.valErr];decide),yA,ypb,h.wlen]
def Inv.cutErr (h:Inv g p):cutsErr g.site (Vrb g p) p.cuts p.time=0:=by have ht:=h.time;rw [cutsErr,if_neg (by rw [h.site];decide),if_neg (by rw [h.valLen,h.clen];simp),if_neg za]
def Inv.sA (h:Inv g p):Inv g { p with watches:=valuesW g.site p.meas p.watches (flP g p) p.time,cuts:=cutsC g.site (Vrb g p) p.cuts p.time }:=by
 have hw:(valuesW g.site p.meas p.watches (flP g p) p.time).length=p.watches.length:=by rw [valuesW,if_neg (by rw [h.valErr];decide),yA,ypb]
 have hc:(cutsC g.site (Vrb g p) p.cuts p.time).length=p.cuts.length:=by rw [cutsC,if_neg (by rw [h.cutErr];decide),yA,ypb]
 refine { h with wlen:=hw.trans h.wlen,wok:=fun w hm=>?_,clen:=hc.trans h.clen,rest:=by rw [hc];exact h.rest };have hm:w∈valuesW g.site p.meas p.watches (flP g p) p.time:=hm;rw [valuesW,if_neg (by rw [h.valErr];decide),List.mem_map] at hm;obtain ⟨i,hi,rfl⟩:=hm;rw [yqa] at hi;have hw:=h.wok _ (yi (Jt (l:=p.watches) (k:=i) default hi));show Ula (Ywa _ _ _ _ _)∧(Ywa _ _ _ _ _).last≤p.time;rw [Ywa];split;·exact Ute _ _ h.time.1 hw.1 hw.2
 ·exact hw
def Inv.settleA (h:Inv g p):Inv g (settleA g p):=h.sA.cuts _
def Y9d (c:List XCut) (r:XRest) (h:0≤r.time):0≤(Kua c r).time∧((Kua c r).zone= -1∨(0≤(Kua c r).zone∧(Kua c r).zone < c.length)):=by
 rw [Kua];split;·rename_i hk;rw [Ufc] at hk;exact ⟨h,hk.imp_right fun h=>h.1⟩
 ·exact ⟨by decide,.inl rfl⟩
def Inv.settleB (h:Inv g p):Inv g (settleB g p):=by have h1:Inv g { p with rest:=Kua p.cuts p.rest }:={ h with rest:=Y9d _ _ h.rest.1 };have h2:=h1.sws (sw:=(Uma p.sw g.rp p.time).sw) (Vwa h.fe _ (ym _));exact (h2.notes 3 _).notes 2 _
def Inv.dark (h:Inv g p) (vals:List Int) (z:Nat):Inv g (Via g vals p z):=by
 rw [Via];split;·exact h
 ·refine Inv.cut (p := { p with cuts := p.cuts.set z ⟨true, (p.cuts.getD z default).clear, Kpa (g.site.zones.l.getD z default).rule.l vals⟩ }) ?_ _;exact { h with clen:=by show (p.cuts.set _ _).length=_;rw [yE];exact h.clen,rest:=by show _∧(_∨(_∧_ < ((p.cuts.set _ _).length:Int)));rw [yE];exact h.rest }
def Inv.darkTo (h : Inv g p) (vals : List Int) : ∀ k, Inv g (darkTo g vals p k)
 | 0=>h
 | k + 1=>(Inv.darkTo h vals k).dark vals k
def Inv.settle (h:Inv g p) {t:Int} (h1:p.time≤t) (h2:t≤2147483648):Inv g (Ji g p t):=((h.at h1 h2).settleA.settleB).darkTo _ _
def Z7c (z:Int):(Yac g p z).time=p.time:=by rw [Yac];split <;> rfl
end
end
section
attribute [local irreducible] CJ LJ DJ Tri YV Gives Uq J2 Km Ur RV J4 OwL.L
def Kke (k:Int):Int:=if k=6 then 5 else if k=5 then 2 else 1
def Zpe (s:XSens) (r:Int):XSpan:=⟨s.offset + s.scale * r / 1000 - s.error,s.offset + -((-(s.scale * r)) / 1000) + s.error⟩
def Jpa (s:XSens) (r:Int):XSpan:=
 if U1 s≠0∨¬ (0≤r∧r≤65535) then nothingS
 else if 4≤s.kind then if Kke s.kind < r then nothingS else ⟨r,r⟩
 else if s.kind=1∨s.kind=2 then ⟨max (Zpe s r).low 0,max (Zpe s r).high 0⟩ else Zpe s r
def Yra {s:XSens} (h:U1 s=0):Zn s:=by
 rw [U1] at h;split at h;·omega
 exact ubk
def Kwd {s:XSens} {r:Int} (h:U1 s=0) (hr:0≤r∧r≤65535):-65535000000≤s.scale * r∧s.scale * r≤65535000000:=by have hs:=Yra h;rw [Zn] at hs;have h1:s.scale * r≤1000000 * r:=yEa za hr.1;have h2:-1000000 * r≤s.scale * r:=yEa za hr.1;omega
end
section
def Vt (S:List XSens) (f:XTele) (t:Int):Int:=
 if t < 0∨2147483648 < t then 8
 else if Jra S f.address < 0∨U1 (S.getD (Jra S f.address).toNat default)≠0 then 9
 else if f.kind≠1∧f.kind≠2 then 5
 else if f.kind=1∧f.data.length≠2∨f.kind=2∧f.data.length≠0 then 6 else 0
def Vqa (S:List XSens) (f:XTele) (t:Int):XMeas:=
 ⟨Jra S f.address,t,if f.kind=1 then Jpa (S.getD (Jra S f.address).toNat default) (f.data.getD 0 0 * 256 + f.data.getD 1 0) else nothingS⟩
def U1a (S:List XSens) (t:Int) (m:List XMeas) (f:XTele):List XMeas:=if Vt S f t=0 then m.set (Jra S f.address).toNat (Vqa S f t) else m
def feedR (g:PSite) (p:PSta) (b:List Int) (t:Int):PSta:=
 { p with held:=(Vb (p.held ++ b) p.dropped).held,dropped:=(Vb (p.held ++ b) p.dropped).dropped,meas:=(Vb (p.held ++ b) p.dropped).out.foldl (U1a g.site.sensors.l t) p.meas }
def Yqa (g:PSite) (p:PSta) (b:List Int) (t:Int):PSta×Int:=if Zu p t then (p,8) else (Ji g (feedR g p b t) t,0)
def Yib (g:PSite) (p:PSta) (t:Int):PSta×Int:=if Zu p t then (p,8) else (Ji g p t,0)
def J5a (g:PSite) (p:PSta) (s sh t:Int):PSta×Int:=
 if Zu p t then (p,8) else if V7 p.sw g.zn g.rp s sh≠0 then (p,V7 p.sw g.zn g.rp s sh) else (Ji g { p with sw:=Z1 p.sw s sh } t,0)
def Jze (g:PSite) (p:PSta) (person zone t:Int):PSta×Int:=
 if Zu p t then (p,8)
 else
  let q:=Ji g p t
  let e:=askE g.site q.cuts (flP g q) q.rest person zone t
  if e≠0 then (Zh q 7 zone e,e) else (Zh { q with rest:=askR g.site q.cuts (flP g q) q.rest person zone t } 4 zone person,0)
def Zk (g:PSite) (p:PSta) (person t:Int):PSta×Int:=
 if Zu p t then (p,8)
 else
  let q:=Ji g p t
  let e:=confirmE g.site q.cuts (flP g q) q.rest person t
  if e≠0 then (Zh q 7 q.rest.zone e,e) else (Zh { q with rest:=confirmR g.site q.cuts (flP g q) q.rest person t } 5 q.rest.zone person,0)
def mkF (g:PSite) (p:PSta):XFeeder:=⟨⟨none,0,p.sw⟩,⟨none,0,g.zn⟩,g.rp⟩
def U4a (g:PSite) (p:PSta) (t:Int):PSta×Int:=
 if Zu p t then (p,8)
 else
  let q:=Ji g p t
  let e:=Vs g.site q.cuts (flP g q) q.rest (mkF g q) t
  if e≠0 then (Zh q 7 q.rest.zone e,e)
  else (Zh { q with rest:=Uia g.site q.cuts (flP g q) q.rest (mkF g q) t,cuts:=Kna g.site q.cuts (flP g q) q.rest (mkF g q) t,sw:=Zz g.site q.cuts (flP g q) q.rest (mkF g q) t } 6 (atR (mkF g q) q.rest.zone) 0,0)
def Jad (l:XLevel) (w:XWatch):Int:=if Y1 l≠0∨w.since < 0 then 1099511627776 else w.since + l.delay
def Kae (g : PSite) (p : PSta) : Nat → Int → Int
 | 0,v=>v
 | k + 1,v=>if (g.site.conds.l.getD k default).kind=1 then min (Kae g p k v) (Jad (g.site.conds.l.getD k default).level (p.watches.getD k default)) else Kae g p k v
def Ktb (g:PSite) (p:PSta):Bool:=(List.range g.site.sensors.l.length).any fun i=>decide (Y2 g.site.sensors.l p.meas (i:Int) p.time≠nothingS)
def Zuf (g:PSite) (p:PSta):Int:=if Ktb g p=true then min (Kae g p g.site.conds.l.length (Zxc p.sw g.rp)) p.time else Kae g p g.site.conds.l.length (Zxc p.sw g.rp)
def K6g (g:PSite) (p:PSta):Int:=if Zuf g p≤p.time then p.time + 1 else Zuf g p
def Kje {S:List XSens} {ad:Int} (h:¬ Jra S ad < 0):(Jra S ad).toNat < S.length∧0≤Jra S ad:=by
 rw [Jra] at h ⊢;cases hf:(List.range S.length).find? (fun i=>decide ((S.getD i default).address=ad)) with
 | none=>rw [hf] at h;exact absurd ze h
 | some i=>have:=List.mem_of_find?_eq_some hf;rw [yqa] at this;exact ⟨this,yWb i⟩
def Z4c (S:List XSens) (t:Int) (m:List XMeas) (f:XTele):(U1a S t m f).length=m.length:=by rw [U1a];split <;> simp
def J0e {a t:Int} (ht:0≤t∧t≤2147483648):Uaa ⟨a,t,nothingS⟩:=⟨ht,by show (-1125899906842624:Int)≤ -1125899906842624∧(-1125899906842624:Int)≤1125899906842624;decide,by show (-1125899906842624:Int)≤1125899906842624∧(1125899906842624:Int)≤1125899906842624;decide⟩
def K5c (s:XSens) (r:Int):(-1125899906842624≤(Jpa s r).low∧(Jpa s r).low≤1125899906842624)∧(-1125899906842624≤(Jpa s r).high∧(Jpa s r).high≤1125899906842624):=by
 rw [Jpa];split;·exact ⟨by decide,by decide⟩
 rename_i h;have hm:=Kwd (s:=s) (r:=r) za za;have hs:=Yra (s:=s) za;rw [Zn] at hs;split;·
  split;·exact ⟨by decide,by decide⟩
  ·dsimp only;omega
 split;·simp only [Zpe];omega
 ·simp only [Zpe];omega
def Zye {S:List XSens} {t:Int} {m:List XMeas} (f:XTele) (h:∀x∈m,Uaa x):∀x∈U1a S t m f,Uaa x:=by
 rw [U1a];split;·
  rename_i he;intro x hx;rcases ytb hx with hx | rfl;·exact h x hx
  ·
   have ht:0≤t∧t≤2147483648:=by
    rw [Vt] at he;split at he;·cases he
    ·omega
   rw [Vqa];split;·exact ⟨ht,(K5c _ _).1,(K5c _ _).2⟩
   ·exact J0e ht
 ·exact h
def Vzc {S : List XSens} {t : Int} : ∀ (l : List XTele) {m : List XMeas}, (∀ x ∈ m, Uaa x) → (∀ x ∈ l.foldl (U1a S t) m, Uaa x) ∧ (l.foldl (U1a S t) m).length = m.length
 | [],m,h=>⟨h,rfl⟩
 | f :: l,m,h=>by
  have:=Vzc (S:=S) (t:=t) l (Zye (S:=S) (t:=t) f h)
  exact ⟨this.1,this.2.trans (Z4c ..)⟩
def Jte:∀(n:Nat) {l:List Int} (d:Int),l.length=n→BytesOk l→(BytesOk (Vb l d).held∧(Vb l d).held.length≤70)∧d≤(Vb l d).dropped∧(Vb l d).dropped≤d + n:=by
 intro n;induction n using Nat.strongRecOn with
 | ind n ih=>
  intro l d hn hb;rcases yha (l=[]) with h | h;·subst h;rw [Y2a];exact ⟨⟨fun x hx=>(by cases hx),yga _⟩,yF _,(by show d≤d + (n:Int);omega)⟩
  ·
   have hpos := List.length_pos_iff.2 h;have hbt:BytesOk l.tail:=fun x hx=>hb x (yOb hx);have hskip:=ih l.tail.length (by rw [yfb];omega) (d + 1) rfl hbt;(have hskip2:((l.tail.length:Nat):Int) + 1=n:=by rw [yfb];omega);rcases yha (Jja l) with h1 | h1;·rw [Jya h (.inl h1)];exact ⟨hskip.1,by omega,by omega⟩
   ·
    rcases yha (Vc l) with h2 | h2;·rw [Zga h h1 h2];refine ⟨⟨hb,?_⟩,yF _,by dsimp only;omega⟩;have hx:=hb.at 1;rw [Vc] at h2;rw [Jja] at h1;have:¬ (1 < l.length∧64 < l.getD 1 0):=fun h=>h1 (.inr h);dsimp only;omega
    ·
     rcases yha (Jab (K5b l) = Vxb l) with h3 | h3;·rw [Vea h h1 h2 h3];have:=ih (l.drop (lenT l + 6)).length (by rw [yX];omega) d rfl (fun x hx=>hb x (yxa hx));refine ⟨this.1,this.2.1,?_⟩;have h4:=this.2.2;rw [yX] at h4;dsimp only;omega
     ·rw [Jya h (.inr ⟨h2, h3⟩)];exact ⟨hskip.1,by omega,by omega⟩
section
variable {g:PSite} {p:PSta}
def Inv.feedR (h:Inv g p) {b:List Int} (hb:BytesOk b) (t:Int):Inv g (feedR g p b t):=by
 have h1:=Vzc (S:=g.site.sensors.l) (t:=t) (Vb (p.held ++ b) p.dropped).out h.mok;have h2:=Jte _ (l:=p.held ++ b) p.dropped rfl (fun x hx=>by
  rcases List.mem_append.1 hx with hx | hx;·exact h.held.1 x hx
  ·exact hb x hx)
 exact { h with meas:=h1.2.trans h.meas,mok:=h1.1,held:=h2.1 }
def Kze (l:List Int):(Zra g p l).time=p.time:=by
 induction l generalizing p with
 | nil=>rfl
 | cons z l ih=>exact ih.trans (Z7c z)
def Kjc (kind:Int) (l:List Int):(Jsa kind p l).time=p.time:=by
 induction l generalizing p with
 | nil=>rfl
 | cons z l ih=>exact ih
def Ynb (vals : List Int) : ∀ k, (darkTo g vals p k).time = p.time
 | 0=>rfl
 | k + 1=>by
  rw [darkTo,Via]
  split
  ·exact Ynb vals k
  ·rw [Z7c];exact Ynb vals k
def Vo (t:Int):(Ji g p t).time=t:=by rw [Ji];rw [Ynb,settleB,Kjc,Kjc];dsimp only;rw [settleA,Kze]
def Yw {t:Int} (h:¬ Zu p t):p.time≤t∧t≤2147483648:=by rw [Zu] at h;omega
def Inv.feed (h:Inv g p) {b:List Int} (hb:BytesOk b) (t:Int):Inv g (Yqa g p b t).1:=by
 rw [Yqa];split;·exact h
 ·rename_i hl;exact (h.feedR hb t).settle (Yw hl).1 (Yw hl).2
def Inv.tick (h:Inv g p) (t:Int):Inv g (Yib g p t).1:=by
 rw [Yib];split;·exact h
 ·rename_i hl;exact h.settle (Yw hl).1 (Yw hl).2
def Inv.ansSw (h:Inv g p) {s sh:Int} (he:V7 p.sw g.zn g.rp s sh=0):Inv g { p with sw:=Z1 p.sw s sh }:=by
 rw [V7,if_neg (by rw [h.fe];decide)] at he;split at he;·cases he
 rename_i h1;split at he;·cases he
 rename_i h2;have hg:=Yxe h.fe s.toNat za;have k:SwKeep p.sw (Z1 p.sw s sh) p.time:=(SwKeep.refl h.fe p.time).set rfl (.inl rfl) zu (fun h3=>by
  dsimp only at h3;split at h3;·exact absurd h3.1 ze
  ·
   rename_i h4;rcases h3.2 with h5 | h5;·exact hg.2 ⟨h3.1,.inl h5⟩
   ·exact h4 h5)
 exact h.sws k
def Inv.answer (h:Inv g p) (s sh t:Int):Inv g (J5a g p s sh t).1:=by
 rw [J5a];split;·exact h
 rename_i hl;split;·exact h
 rename_i he;exact (h.ansSw (Decidable.not_not.1 he)).settle (Yw hl).1 (Yw hl).2
def Inv.ask (h:Inv g p) (a z t:Int):Inv g (Jze g p a z t).1:=by
 rw [Jze];split;·exact h
 rename_i hl;have hs:=h.settle (Yw hl).1 (Yw hl).2;dsimp only;split;·exact hs.note _ _ _
 ·
  rename_i he;have he:askE g.site (Ji g p t).cuts (flP g (Ji g p t)) (Ji g p t).rest a z t=0:=Decidable.not_not.1 he;have e:askR g.site (Ji g p t).cuts (flP g (Ji g p t)) (Ji g p t).rest a z t=⟨z,a,-1,1,t⟩:=by rw [askR,if_pos he]
  have h1:Inv g { Ji g p t with rest:=askR g.site (Ji g p t).cuts (flP g (Ji g p t)) (Ji g p t).rest a z t }:=by
   refine { hs with rest:=?_ };rw [e];refine ⟨by have:=h.time;have:=Yw hl;dsimp only;omega,.inr ?_⟩;rw [askE] at he;split at he;·omega
   split at he;·cases he
   split at he;·cases he
   exact Uvb he
  exact h1.note _ _ _
def Inv.confirm (h:Inv g p) (a t:Int):Inv g (Zk g p a t).1:=by
 rw [Zk];split;·exact h
 rename_i hl;have hs:=h.settle (Yw hl).1 (Yw hl).2;dsimp only;split;·exact hs.note _ _ _
 ·
  rename_i he;have he:confirmE g.site (Ji g p t).cuts (flP g (Ji g p t)) (Ji g p t).rest a t=0:=Decidable.not_not.1 he;have h1:Inv g { Ji g p t with rest:=confirmR g.site (Ji g p t).cuts (flP g (Ji g p t)) (Ji g p t).rest a t }:=by refine { hs with rest:=?_ };rw [confirmR,if_pos he];exact ⟨by have:=h.time;have:=Yw hl;dsimp only;omega,hs.rest.2⟩
  exact h1.note _ _ _
end
end
section
structure XSta where
 site:XSite
 time:Int
 held:Arr Int
 dropped:Int
 meas:Arr XMeas
 watches:Arr XWatch
 cuts:Arr XCut
 feeder:XFeeder
 rest:XRest
 log:Arr XEntry
def XSta.cells (x:XSta):List Value:=[x.site.air.mine.places.val,x.site.air.mine.roads.val,x.site.air.fans.val,x.site.air.doors.val,x.site.sensors.val,x.site.conds.val,x.site.zones.val,x.site.persons.val,.int .i64 x.time,x.held.val,.int .i64 x.dropped,x.meas.val,x.watches.val,x.cuts.val,x.feeder.switches.val,x.feeder.zones.val,.int .i64 x.feeder.reply,.int .i64 x.rest.zone,.int .i64 x.rest.first,.int .i64 x.rest.second,.int .i64 x.rest.step,.int .i64 x.rest.time,x.log.val]
abbrev XSta.val (x:XSta):Value:=.agg #[x.site.air.mine.places.val,x.site.air.mine.roads.val,x.site.air.fans.val,x.site.air.doors.val,x.site.sensors.val,x.site.conds.val,x.site.zones.val,x.site.persons.val,.int .i64 x.time,x.held.val,.int .i64 x.dropped,x.meas.val,x.watches.val,x.cuts.val,x.feeder.switches.val,x.feeder.zones.val,.int .i64 x.feeder.reply,.int .i64 x.rest.zone,.int .i64 x.rest.first,.int .i64 x.rest.second,.int .i64 x.rest.step,.int .i64 x.rest.time,x.log.val]
structure StaR (x:XSta) (R:LS):Prop where
 site:SiteR x.site R
 held:InR (bsl x.held) R
 meas:InR (Ya x.meas) R
 watches:InR (Kde x.watches) R
 cuts:InR (Uyc x.cuts) R
 feeder:FeederR x.feeder R
 log:InR (Jda x.log) R
def StaR.mono {x:XSta} {R U:LS} (h:StaR x R) (k:∀r∈R,InR r U):StaR x U:=⟨h.site.mono k,h.held.mono k,h.meas.mono k,h.watches.mono k,h.cuts.mono k,h.feeder.mono k,h.log.mono k⟩
structure StaIs (g:PSite) (p:PSta) (x:XSta):Prop where
 site:SiteE x.site g.site
 time:x.time=p.time
 held:x.held.l=p.held
 dropped:x.dropped=p.dropped
 meas:x.meas.l=p.meas
 watches:x.watches.l=p.watches
 cuts:x.cuts.l=p.cuts
 sw:x.feeder.switches.l=p.sw
 zn:x.feeder.zones.l=g.zn
 rp:x.feeder.reply=g.rp
 rest:x.rest=p.rest
 log:x.log.l=p.log
end
end Go.Proofs.YtchfclmokpbldaaGreat
