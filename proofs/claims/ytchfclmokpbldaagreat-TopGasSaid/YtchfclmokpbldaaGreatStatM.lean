/-
  Merged texts. By an AI agent.
-/
import Derived.Test.YtchfclmokpbldaaGreatData
import Derived.Test.YtchfclmokpbldaaGreatFeedT
import Derived.Test.YtchfclmokpbldaaGreatWinR
set_option linter.all false
set_option maxHeartbeats 4000000
set_option maxRecDepth 20000
namespace Go.Proofs.YtchfclmokpbldaaGreat
open Go.Aw Go
section
def U2g (x:Int) (k:Nat):Int:=x / 2 ^ k % 2
def U3g (a b:Int):Int:=((a.toNat ^^^ b.toNat:Nat):Int)
def Ufb (r b:Int):Int:=if r / 32768=b then 2 * r % 65536 else U3g (2 * r % 65536) 4129
def Jvc (r x : Int) : Nat → Int
 | 0=>r
 | k + 1=>Ufb (Jvc r x k) (U2g x (7 - k))
def Ktd (r x:Int):Int:=Jvc r x 8
def Zza (l:List Int):Int:=l.foldl Ktd 65535
def Crc (r:Int):Prop:=0≤r∧r < 65536
def Jue {r:Int} (b:Int) (h:Crc r):Crc (Ufb r b):=by
 obtain ⟨h1,h2⟩:=h;have hm:0≤2 * r % 65536∧2 * r % 65536 < 65536:=by omega
 rw [Ufb];split;·exact hm
 ·refine ⟨Int.natCast_nonneg _, ?_⟩;have:(2 * r % 65536).toNat ^^^ (4129:Int).toNat < 2 ^ 16:=Nat.xor_lt_two_pow za ze;rw [U3g];omega
def V1b {r : Int} (x : Int) (h : Crc r) : ∀ k, Crc (Jvc r x k)
 | 0=>h
 | k + 1=>Jue _ (V1b x h k)
def K6c : ∀ (l : List Int) {r : Int}, Crc r → Crc (l.foldl Ktd r)
 | [],_,h=>h
 | x :: l,_,h=>K6c l (V1b x h 8)
def Voc (l:List Int):Crc (Zza l):=K6c l ⟨by decide,by decide⟩
def Y3c {l:List Int} {k:Nat} {x:Int} (h:l[k]?=some x):Zza (l.take (k + 1))=Ktd (Zza (l.take k)) x:=by rw [yfa,h,Zza,yAa];rfl
structure XTele where
 address:Int
 kind:Int
 data:List Int
 deriving DecidableEq,Inhabited
def Z7 (l:List Int):Prop:=l.getD 0 0≠126∨(1 < l.length∧64 < l.getD 1 0)
instance (l:List Int):Decidable (Z7 l):=by unfold Z7;exact inferInstance
def U9 (l:List Int):Prop:=(l.length:Int) < 2∨(l.length:Int) < l.getD 1 0 + 6
instance (l:List Int):Decidable (U9 l):=by unfold U9;exact inferInstance
def lenT (l:List Int):Nat:=(l.getD 1 0).toNat
def Vlb (l:List Int):Int:=l.getD (4 + lenT l) 0 * 256 + l.getD (5 + lenT l) 0
def Kvb (l:List Int):List Int:=(l.take (4 + lenT l)).drop 1
def Kjc (l:List Int):XTele:=⟨l.getD 2 0,l.getD 3 0,(l.take (4 + lenT l)).drop 4⟩
structure XFed where
 held:List Int
 dropped:Int
 out:List XTele
 deriving DecidableEq,Inhabited
def Vc (l:List Int) (d:Int):XFed:=
 if hl:l=[] then ⟨[],d,[]⟩
 else if Z7 l then Vc l.tail (d + 1)
 else if U9 l then ⟨l,d,[]⟩
 else if Zza (Kvb l)≠Vlb l then Vc l.tail (d + 1)
 else ⟨(Vc (l.drop (lenT l + 6)) d).held,(Vc (l.drop (lenT l + 6)) d).dropped,Kjc l :: (Vc (l.drop (lenT l + 6)) d).out⟩
termination_by l.length
decreasing_by
 all_goals have:=List.length_pos_iff.2 hl
 all_goals simp only [yhb,yV];omega
def Y1a (d:Int):Vc [] d=⟨[],d,[]⟩:=by rw [Vc,dif_pos rfl]
def Jpa {l:List Int} {d:Int} (h:l≠[]) (h1:Z7 l∨(¬ U9 l∧Zza (Kvb l)≠Vlb l)):Vc l d=Vc l.tail (d + 1):=by
 rw [Vc,dif_neg h];split;·rfl
 ·
  rename_i h2;rcases h1 with h1 | ⟨h3,h4⟩;·exact absurd h1 h2
  ·rw [if_neg h3,if_pos h4]
def Zga {l:List Int} {d:Int} (h:l≠[]) (h1:¬ Z7 l) (h2:U9 l):Vc l d=⟨l,d,[]⟩:=by rw [Vc,dif_neg h,if_neg h1,if_pos h2]
def U0a {l:List Int} {d:Int} (h:l≠[]) (h1:¬ Z7 l) (h2:¬ U9 l) (h3:Zza (Kvb l)=Vlb l):Vc l d=⟨(Vc (l.drop (lenT l + 6)) d).held,(Vc (l.drop (lenT l + 6)) d).dropped,Kjc l :: (Vc (l.drop (lenT l + 6)) d).out⟩:=by rw [Vc,dif_neg h,if_neg h1,if_neg h2,if_neg (by rw [h3];exact fun h=>h rfl)]
def BytesOk (l:List Int):Prop:=∀x∈l,0≤x∧x≤255
def BytesOk.at {l:List Int} (h:BytesOk l) (i:Nat):0≤l.getD i 0∧l.getD i 0≤255:=by
 rcases yk i l.length with hi | hi;·exact h _ (yh (Jp (l:=l) (k:=i) 0 hi))
 ·rw [yi,yu hi];decide
def Z2c {l:List Int} (h:BytesOk l) (h2:¬ U9 l):lenT l + 6≤l.length∧((lenT l:Nat):Int)=l.getD 1 0:=by have:=h.at 1;rw [U9] at h2;rw [lenT];omega
def Zx (f:XTele):List Int:=126 :: (f.data.length:Int) :: f.address :: f.kind :: f.data
def Zc (f:XTele):List Int:=Zx f ++ [Zza (Zx f).tail / 256,Zza (Zx f).tail % 256]
def Uib (f:XTele):(Zc f).length=f.data.length + 6:=by simp [Zc,Zx]
def Z5d {f:XTele} (h:f.data.length≤64) (r:List Int) (d:Int):Vc (Zc f ++ r) d=⟨(Vc r d).held,(Vc r d).dropped,f :: (Vc r d).out⟩:=by
 have e:Zc f ++ r=126 :: (f.data.length:Int) :: f.address :: f.kind :: (f.data ++ (Zza (Zx f).tail / 256 :: Zza (Zx f).tail % 256 :: r)):=by simp [Zc,Zx]
 have hlen:(Zc f ++ r).length=f.data.length + 6 + r.length:=by rw [yl,Uib]
 have g1:(Zc f ++ r).getD 1 0=(f.data.length:Int):=by rw [e];rfl
 have eT:lenT (Zc f ++ r)=f.data.length:=by rw [lenT,g1];rfl
 have hne:Zc f ++ r≠[]:=by rw [e];simp
 have h1:¬ Z7 (Zc f ++ r):=by
  rw [Z7,g1];have:(Zc f ++ r).getD 0 0=126:=by rw [e];rfl
  omega
 have h2:¬ U9 (Zc f ++ r):=by rw [U9,g1,hlen];omega
 have hb:Kvb (Zc f ++ r)=(Zx f).tail:=by rw [Kvb,eT,e,yZb 4];show ((126 :: (f.data.length:Int) :: f.address :: f.kind :: List.take f.data.length (f.data ++ _)):List Int).drop 1=_;rw [yIa (ym _),ygb];rfl
 have hd:Kjc (Zc f ++ r)=f:=by rw [Kjc,eT,e,yZb 4];show (⟨f.address,f.kind,List.take f.data.length (f.data ++ _)⟩:XTele)=f;rw [yIa (ym _),ygb]
 have hc:Vlb (Zc f ++ r)=Zza (Zx f).tail:=by
  have a1:(Zc f ++ r).getD (4 + f.data.length) 0=Zza (Zx f).tail / 256:=by rw [e,yZb 4];show (f.data ++ _).getD f.data.length 0=_;rw [yi,yZ (ym _),ync];rfl
  have a2:(Zc f ++ r).getD (5 + f.data.length) 0=Zza (Zx f).tail % 256:=by rw [e,show 5 + f.data.length=f.data.length + 1 + 4 by omega];show (f.data ++ _).getD (f.data.length + 1) 0=_;rw [yi,yZ za,Nat.add_sub_cancel_left];rfl
  rw [Vlb,eT,a1,a2];omega
 have hr:(Zc f ++ r).drop (f.data.length + 6)=r:=by rw [← Uib f,List.drop_left]
 rw [U0a hne h1 h2 (by rw [hb,hc]),eT,hr,hd]
end
section
structure XEntry where
 time:Int
 kind:Int
 target:Int
 value:Int
 deriving DecidableEq,Inhabited
def XEntry.cells (x:XEntry):List Value:=[.int .i64 x.time,.int .i64 x.kind,.int .i64 x.target,.int .i64 x.value]
abbrev J5a (x:Arr XEntry):Sl:=x.sl 4 XEntry.cells []
structure PSta where
 time:Int
 held:List Int
 dropped:Int
 meas:List XMeas
 watches:List XWatch
 cuts:List XCut
 sw:List XSwitch
 rest:XRest
 log:List XEntry
structure PSite where
 site:XSite
 zn:List Int
 rp:Int
 air:List Bool
def Jkd (S:List XSens) (kind target:Int):Option Nat:=(List.range S.length).find? fun i=>decide ((S.getD i default).kind=kind∧(S.getD i default).target=target)
def Kea (S:List XSens) (m:List XMeas) (t kind target n:Int):Int:=
 match Jkd S kind target with
 | none=>-1
 | some i=>if (K0a S m (i:Int) t).low=(K0a S m (i:Int) t).high∧0≤(K0a S m (i:Int) t).low∧(K0a S m (i:Int) t).low < n then (K0a S m (i:Int) t).low else -1
def Kbc (S:List XSens) (m:List XMeas) (t kind target n:Int) (hn:0≤n):-1≤Kea S m t kind target n∧(Kea S m t kind target n < n∨Kea S m t kind target n= -1):=by
 rw [Kea];split;·omega
 ·split <;> omega
def Jxb (s:XSite) (m:List XMeas) (t:Int) (k:Nat):List Int:=(List.range k).map fun (i:Nat)=>Kea s.sensors.l m t 5 (i:Int) 3
def U9a (s:XSite) (m:List XMeas) (t:Int) (k:Nat):List Int:=(List.range k).map fun (i:Nat)=>Kea s.sensors.l m t 6 (i:Int) ((s.air.doors.l.getD i default).rests.l.length:Int)
def Yme (s:XSite) (m:List XMeas) (t:Int):Sts:=(Jxb s m t s.air.fans.l.length,U9a s m t s.air.doors.l.length)
def Yga (s:XSite) (A:List Bool) (m:List XMeas) (t:Int):List XSpan:=(Ycc (flS s.air A (Yme s m t)) nothingS 3 s.sensors.l m t).out
def Zld (s:XSite) (m:List XMeas) (t:Int) (k:Nat):Jxb s m t (k + 1)=Jxb s m t k ++ [Kea s.sensors.l m t 5 (k:Int) 3]:=by rw [Jxb,yTb,yU];rfl
def Kvd (s:XSite) (m:List XMeas) (t:Int) (k:Nat):U9a s m t (k + 1)=U9a s m t k ++ [Kea s.sensors.l m t 6 (k:Int) ((s.air.doors.l.getD k default).rests.l.length:Int)]:=by rw [U9a,yTb,yU];rfl
def Zcb (s:XSite) (m:List XMeas) (t:Int) (k:Nat):(Jxb s m t k).length=k:=by simp [Jxb]
def Udb (s:XSite) (m:List XMeas) (t:Int) (k:Nat):(U9a s m t k).length=k:=by simp [U9a]
def Ywd {s:XSite} (m:List XMeas) (t:Int):Uka s.air (mkS (Yme s m t))=true:=by
 refine Jrd ⟨Zcb .., Udb .., fun i x hx=>?_,fun i x d hx hd=>?_⟩;·have hx : (Jxb s m t s.air.fans.l.length)[i]? = some x := hx;rw [Jxb,yq] at hx;obtain ⟨hi,-⟩:=List.getElem?_eq_some_iff.1 (show (Jxb s m t s.air.fans.l.length)[i]?=some x from by rw [Jxb,yq];exact hx);rw [Zcb] at hi;rw [yL hi] at hx;have e:=yG hx;have:=Kbc s.sensors.l m t 5 (i:Int) 3 ze;dsimp only at e;rw [← e];omega
 ·have hx : (U9a s m t s.air.doors.l.length)[i]? = some x := hx;obtain ⟨hi,-⟩:=List.getElem?_eq_some_iff.1 hx;rw [Udb] at hi;rw [U9a,yq,yL hi] at hx;have e:=yG hx;have hg:=getD_some (d:=default) hd;have:=Kbc s.sensors.l m t 6 (i:Int) ((s.air.doors.l.getD i default).rests.l.length:Int) za;rw [hg] at this;dsimp only at e;rw [← e,hg];omega
def J2b (l:List XEntry) (e:XEntry):List XEntry:=(l ++ [e]).drop (l.length + 1 - 400)
def Jqe {l:List XEntry} (e:XEntry):(J2b l e).length≤400:=by rw [J2b,yV,yl];simp;omega
def Jma (p:PSta) (kind target value:Int):PSta:={ p with log:=J2b p.log ⟨p.time,kind,target,value⟩ }
def Jcd (g:PSite) (p:PSta) (z:Int):PSta:=
 let p1:=Jma p 1 z (p.cuts.getD z.toNat default).reason
 let s:=g.zn.getD z.toNat 0
 let p2:PSta:={ p1 with sw:=Ye p.sw s p.time }
 if (p.sw.getD s.toNat default).closed=true then Jma p2 2 s 0 else p2
def Kqb (g:PSite) (p:PSta) (l:List Int):PSta:=l.foldl (Jcd g) p
def Kda (kind:Int) (p:PSta) (l:List Int):PSta:=l.foldl (fun p x=>Jma p kind x 0) p
def Y4f (g:PSite) (sw:List XSwitch) (z:Nat):Bool:=(Y9a sw g.zn g.rp (g.zn.getD z 0)).any fun k=>!(sw.getD k.toNat default).closed || decide ((sw.getD k.toNat default).shown= -1)
def Z2a (g:PSite) (vals:List Int) (p:PSta) (z:Nat):PSta:=
 if (p.cuts.getD z default).off=true∨Y4f g p.sw z=false then p
 else Jcd g { p with cuts:=p.cuts.set z ⟨true,(p.cuts.getD z default).clear,Zxa (g.site.zones.l.getD z default).rule.l vals⟩ } (z:Int)
def darkTo (g : PSite) (vals : List Int) (p : PSta) : Nat → PSta
 | 0=>p
 | k + 1=>Z2a g vals (darkTo g vals p k) k
def Kfc (c:List XCut) (r:XRest):Prop:=r.zone= -1∨((0≤r.zone∧r.zone < c.length)∧(c.getD r.zone.toNat default).off=true∧(c.getD r.zone.toNat default).clear≠-1)
instance (c:List XCut) (r:XRest):Decidable (Kfc c r):=by unfold Kfc;infer_instance
def Kla (c:List XCut) (r:XRest):XRest:=if Kfc c r then r else noRest
def flP (g:PSite) (p:PSta):List XSpan:=Yga g.site g.air p.meas p.time
def Yxb (g:PSite) (p:PSta):List Int:=valuesV g.site p.meas p.watches (flP g p) p.time
def settleA (g:PSite) (p:PSta):PSta:=
 Kqb g { p with watches:=valuesW g.site p.meas p.watches (flP g p) p.time,cuts:=cutsC g.site (Yxb g p) p.cuts p.time } (cutsN g.site (Yxb g p) p.cuts p.time)
def settleB (g:PSite) (p:PSta):PSta:=
 Kda 2 (Kda 3 { p with rest:=Kla p.cuts p.rest,sw:=(Uba p.sw g.rp p.time).sw } (Uba p.sw g.rp p.time).late) (Uba p.sw g.rp p.time).opened
def Jk (g:PSite) (p0:PSta) (t:Int):PSta:=
 let p:={ p0 with time:=t }
 let q:=settleB g (settleA g p)
 darkTo g (Yxb g p) q q.cuts.length
def Jda (p:PSta) (t:Int):Prop:=t < p.time∨2147483648 < t
instance (p:PSta) (t:Int):Decidable (Jda p t):=by unfold Jda;infer_instance
def J4a (S:List XSens) (ad:Int):Int:=(((List.range S.length).find? fun i=>decide ((S.getD i default).address=ad)).map Int.ofNat).getD (-1)
end
section
structure Inv (g:PSite) (p:PSta):Prop where
 site:Uf g.site=0
 airy:AiryIs g.site.air.mine g.air
 time:0≤p.time∧p.time≤2147483648
 meas:p.meas.length=g.site.sensors.l.length
 mok:∀x∈p.meas,K5a x
 wlen:p.watches.length=g.site.conds.l.length
 wok:∀w∈p.watches,Uqa w∧w.last≤p.time
 clen:p.cuts.length=g.site.zones.l.length
 fe:feedE p.sw g.zn g.rp=0
 since:∀x∈p.sw,x.since≤p.time
 zlen:g.zn.length=g.site.zones.l.length
 rest:0≤p.rest.time∧(p.rest.zone= -1∨(0≤p.rest.zone∧p.rest.zone < p.cuts.length))
 log:p.log.length≤400
 held:BytesOk p.held∧p.held.length≤70
section
variable {g:PSite} {p:PSta}
def Inv.sok (h:Inv g p):SiteOk g.site:=Z5 h.site
def Inv.fok (h:Inv g p):FeedOk p.sw g.zn g.rp:=Yn h.fe
def Inv.air (h:Inv g p):Kx g.site.air=0:=h.sok.air
def Inv.tok (h:Inv g p):Yba p.sw p.time:=⟨h.time,h.since⟩
def Inv.at (h:Inv g p) {t:Int} (h1:p.time≤t) (h2:t≤2147483648):Inv g { p with time:=t }:=
 { h with time:=⟨by have:=h.time;dsimp only;omega,h2⟩,wok:=fun w hw=>⟨(h.wok w hw).1,by have:=(h.wok w hw).2;dsimp only;omega⟩,since:=fun x hx=>by have:=h.since x hx;dsimp only;omega }
def Inv.note (h:Inv g p) (kind target value:Int):Inv g (Jma p kind target value):={ h with log:=by show (J2b p.log _).length≤400;exact Jqe _ }
def Inv.sws (h:Inv g p) {sw:List XSwitch} (k:SwKeep p.sw sw p.time):Inv g { p with sw:=sw }:=
 { h with fe:=k.feedE h.fe h.time,since:=(k.time h.tok).2 }
def Inv.cut (h:Inv g p) (z:Int):Inv g (Jcd g p z):=by
 have h1:=h.note 1 z (p.cuts.getD z.toNat default).reason;have h2:=h1.sws (sw:=Ye p.sw (g.zn.getD z.toNat 0) p.time) ((SwKeep.refl h.fe p.time).openS _);rw [Jcd];split;·exact h2.note _ _ _
 ·exact h2
def K8e : ∀ (l : List Int) {p : PSta}, Inv g p → Inv g (Kqb g p l)
 | [],_,h=>h
 | z :: l,_,h=>K8e l (h.cut z)
def Inv.cuts (h:Inv g p) (l:List Int):Inv g (Kqb g p l):=K8e l h
def Ybd (kind : Int) : ∀ (l : List Int) {p : PSta}, Inv g p → Inv g (Kda kind p l)
 | [],_,h=>h
 | z :: l,_,h=>Ybd kind l (h.note kind z 0)
def Inv.notes (kind:Int) (h:Inv g p) (l:List Int):Inv g (Kda kind p l):=Ybd kind l h
def Y7c (z:Int):(Jcd g p z).cuts=p.cuts:=by rw [Jcd];split <;> rfl
def Inv.flLen (h:Inv g p):(flP g p).length=g.site.air.mine.roads.l.length:=by rw [flP,Yga,Ycc,(Jod ..).1,flS];exact Uvc h.air (Ywd _ _) h.airy
def Z9e {S:List XSens} {n:Nat} {c:XCond} (h:Kv S n c=0) (hk:c.kind=1):Jia c.level:=by
 rw [Kv] at h;split at h;·omega
 split at h;·omega
 rw [Jxa] at h;split at h;·assumption
 ·omega
def Inv.valErr (h:Inv g p):valuesErr g.site p.meas p.watches (flP g p) p.time=0:=by
 have ht:=h.time;rw [valuesErr,if_neg (by rw [h.site];decide),if_neg (by rw [h.meas,h.wlen,h.flLen];simp),if_neg za];have:(List.range p.watches.length).findSome? (fun i=>nzO (J1c (g.site.conds.l.getD i default) (p.watches.getD i default) p.time))=none:=by
  rw [yJ];intro i hi;rw [yMa] at hi;have hw:=h.wok _ (yh (Jp (l:=p.watches) (k:=i) default hi));have hc:=h.sok.cond _ (yh (Jp (l:=g.site.conds.l) (k:=i) default (by rw [← h.wlen];exact hi)));rw [nzO,if_pos];rw [J1c];split;·rename_i hk;exact K1c (Z9e hc hk) za hw.1
  ·rfl
 rw [this];rfl
def Vle (l:XLevel) {w:XWatch} (x:XSpan) {t:Int} (ht:0≤t) (h:Uqa w) (hl:w.last≤t):Uqa (J3a l w x t)∧(J3a l w x t).last≤t:=by
 obtain ⟨h1,h2,h3,h4⟩:=h;rw [J3a];repeat' split
 all_goals refine ⟨⟨ht,?_,?_,?_⟩,yz _⟩
 all_goals dsimp only
 all_goals first | omega | exact .inl rfl | exact .inr rfl | (rcases h4 with h4 | h4;exact .inl h4;simp_all)
def Inv.valLen (h:Inv g p):(Yxb g p).length=g.site.conds.l.length:=by rw [Yxb,valuesV,if_neg (by rw [h.valErr];decide),yD,yfc,h.wlen]
def Inv.cutErr (h:Inv g p):cutsErr g.site (Yxb g p) p.cuts p.time=0:=by have ht:=h.time;rw [cutsErr,if_neg (by rw [h.site];decide),if_neg (by rw [h.valLen,h.clen];simp),if_neg za]
def Inv.sA (h:Inv g p):Inv g { p with watches:=valuesW g.site p.meas p.watches (flP g p) p.time,cuts:=cutsC g.site (Yxb g p) p.cuts p.time }:=by
 have hw:(valuesW g.site p.meas p.watches (flP g p) p.time).length=p.watches.length:=by rw [valuesW,if_neg (by rw [h.valErr];decide),yD,yfc]
 have hc:(cutsC g.site (Yxb g p) p.cuts p.time).length=p.cuts.length:=by rw [cutsC,if_neg (by rw [h.cutErr];decide),yD,yfc]
 refine { h with wlen:=hw.trans h.wlen,wok:=fun w hm=>?_,clen:=hc.trans h.clen,rest:=by rw [hc];exact h.rest };have hm:w∈valuesW g.site p.meas p.watches (flP g p) p.time:=hm;rw [valuesW,if_neg (by rw [h.valErr];decide),List.mem_map] at hm;obtain ⟨i,hi,rfl⟩:=hm;rw [yMa] at hi;have hw:=h.wok _ (yh (Jp (l:=p.watches) (k:=i) default hi));show Uqa (Krb _ _ _ _ _)∧(Krb _ _ _ _ _).last≤p.time;rw [Krb];split;·exact Vle _ _ h.time.1 hw.1 hw.2
 ·exact hw
def Inv.settleA (h:Inv g p):Inv g (settleA g p):=h.sA.cuts _
def Yud (c:List XCut) (r:XRest) (h:0≤r.time):0≤(Kla c r).time∧((Kla c r).zone= -1∨(0≤(Kla c r).zone∧(Kla c r).zone < c.length)):=by
 rw [Kla];split;·rename_i hk;rw [Kfc] at hk;exact ⟨h,hk.imp_right fun h=>h.1⟩
 ·exact ⟨by decide,.inl rfl⟩
def Inv.settleB (h:Inv g p):Inv g (settleB g p):=by have h1:Inv g { p with rest:=Kla p.cuts p.rest }:={ h with rest:=Yud _ _ h.rest.1 };have h2:=h1.sws (sw:=(Uba p.sw g.rp p.time).sw) (Vra h.fe _ (ym _));exact (h2.notes 3 _).notes 2 _
def Inv.dark (h:Inv g p) (vals:List Int) (z:Nat):Inv g (Z2a g vals p z):=by
 rw [Z2a];split;·exact h
 ·refine Inv.cut (p := { p with cuts := p.cuts.set z ⟨true, (p.cuts.getD z default).clear, Zxa (g.site.zones.l.getD z default).rule.l vals⟩ }) ?_ _;exact { h with clen:=by show (p.cuts.set _ _).length=_;rw [yK];exact h.clen,rest:=by show _∧(_∨(_∧_ < ((p.cuts.set _ _).length:Int)));rw [yK];exact h.rest }
def Inv.darkTo (h : Inv g p) (vals : List Int) : ∀ k, Inv g (darkTo g vals p k)
 | 0=>h
 | k + 1=>(Inv.darkTo h vals k).dark vals k
def Inv.settle (h:Inv g p) {t:Int} (h1:p.time≤t) (h2:t≤2147483648):Inv g (Jk g p t):=((h.at h1 h2).settleA.settleB).darkTo _ _
def Z0c (z:Int):(Jcd g p z).time=p.time:=by rw [Jcd];split <;> rfl
end
end
section
attribute [local irreducible] CJ LJ DJ Tri YV Gives Uq J2 Kj Ut RV J3 OwL.L
def Z7d (k:Int):Int:=if k=6 then 5 else if k=5 then 2 else 1
def Zad (s:XSens) (r:Int):XSpan:=⟨s.offset + s.scale * r / 1000 - s.error,s.offset + -((-(s.scale * r)) / 1000) + s.error⟩
def Vn (s:XSens) (r:Int):XSpan:=
 if Uo s≠0∨¬ (0≤r∧r≤65535) then nothingS
 else if 4≤s.kind then if Z7d s.kind < r then nothingS else ⟨r,r⟩
 else if s.kind=1∨s.kind=2 then ⟨max (Zad s r).low 0,max (Zad s r).high 0⟩ else Zad s r
def Z4b {s:XSens} (h:Uo s=0):Zt s:=by
 rw [Uo] at h;split at h;·omega
 split at h;·assumption
 ·omega
def Vee {s:XSens} {r:Int} (h:Uo s=0) (hr:0≤r∧r≤65535):-65535000000≤s.scale * r∧s.scale * r≤65535000000:=by have hs:=Z4b h;rw [Zt] at hs;have h1:s.scale * r≤1000000 * r:=yDa za hr.1;have h2:-1000000 * r≤s.scale * r:=yDa za hr.1;omega
end
section
def Vu (S:List XSens) (f:XTele) (t:Int):Int:=
 if t < 0∨2147483648 < t then 8
 else if J4a S f.address < 0∨Uo (S.getD (J4a S f.address).toNat default)≠0 then 9
 else if f.kind≠1∧f.kind≠2 then 5
 else if f.kind=1∧f.data.length≠2∨f.kind=2∧f.data.length≠0 then 6 else 0
def Ycb (S:List XSens) (f:XTele) (t:Int):XMeas:=
 ⟨J4a S f.address,t,if f.kind=1 then Vn (S.getD (J4a S f.address).toNat default) (f.data.getD 0 0 * 256 + f.data.getD 1 0) else nothingS⟩
def Yha (S:List XSens) (t:Int) (m:List XMeas) (f:XTele):List XMeas:=if Vu S f t=0 then m.set (J4a S f.address).toNat (Ycb S f t) else m
def feedR (g:PSite) (p:PSta) (b:List Int) (t:Int):PSta:=
 { p with held:=(Vc (p.held ++ b) p.dropped).held,dropped:=(Vc (p.held ++ b) p.dropped).dropped,meas:=(Vc (p.held ++ b) p.dropped).out.foldl (Yha g.site.sensors.l t) p.meas }
def Jtc (g:PSite) (p:PSta) (b:List Int) (t:Int):PSta×Int:=if Jda p t then (p,8) else (Jk g (feedR g p b t) t,0)
def K7a (g:PSite) (p:PSta) (s sh t:Int):PSta×Int:=
 if Jda p t then (p,8) else if Ya p.sw g.zn g.rp s sh≠0 then (p,Ya p.sw g.zn g.rp s sh) else (Jk g { p with sw:=Jsa p.sw s sh } t,0)
def U3e (g:PSite) (p:PSta) (person zone t:Int):PSta×Int:=
 if Jda p t then (p,8)
 else
  let q:=Jk g p t
  let e:=askE g.site q.cuts (flP g q) q.rest person zone t
  if e≠0 then (Jma q 7 zone e,e) else (Jma { q with rest:=askR g.site q.cuts (flP g q) q.rest person zone t } 4 zone person,0)
def Zv (g:PSite) (p:PSta) (person t:Int):PSta×Int:=
 if Jda p t then (p,8)
 else
  let q:=Jk g p t
  let e:=confirmE g.site q.cuts (flP g q) q.rest person t
  if e≠0 then (Jma q 7 q.rest.zone e,e) else (Jma { q with rest:=confirmR g.site q.cuts (flP g q) q.rest person t } 5 q.rest.zone person,0)
def mkF (g:PSite) (p:PSta):XFeeder:=⟨⟨none,0,p.sw⟩,⟨none,0,g.zn⟩,g.rp⟩
def Yya (g:PSite) (p:PSta) (t:Int):PSta×Int:=
 if Jda p t then (p,8)
 else
  let q:=Jk g p t
  let e:=Vt g.site q.cuts (flP g q) q.rest (mkF g q) t
  if e≠0 then (Jma q 7 q.rest.zone e,e)
  else (Jma { q with rest:=K4a g.site q.cuts (flP g q) q.rest (mkF g q) t,cuts:=Kca g.site q.cuts (flP g q) q.rest (mkF g q) t,sw:=Zj g.site q.cuts (flP g q) q.rest (mkF g q) t } 6 (atR (mkF g q) q.rest.zone) 0,0)
def Z9d {S:List XSens} {ad:Int} (h:¬ J4a S ad < 0):(J4a S ad).toNat < S.length∧0≤J4a S ad:=by
 rw [J4a] at h ⊢;cases hf:(List.range S.length).find? (fun i=>decide ((S.getD i default).address=ad)) with
 | none=>rw [hf] at h;exact absurd ze h
 | some i=>have:=List.mem_of_find?_eq_some hf;rw [yMa] at this;exact ⟨this,Int.natCast_nonneg i⟩
def Yhe (S:List XSens) (t:Int) (m:List XMeas) (f:XTele):(Yha S t m f).length=m.length:=by rw [Yha];split <;> simp
def Zsd {a t:Int} (ht:0≤t∧t≤2147483648):K5a ⟨a,t,nothingS⟩:=⟨ht,by show (-1125899906842624:Int)≤ -1125899906842624∧(-1125899906842624:Int)≤1125899906842624;decide,by show (-1125899906842624:Int)≤1125899906842624∧(1125899906842624:Int)≤1125899906842624;decide⟩
def Umb (s:XSens) (r:Int):(-1125899906842624≤(Vn s r).low∧(Vn s r).low≤1125899906842624)∧(-1125899906842624≤(Vn s r).high∧(Vn s r).high≤1125899906842624):=by
 rw [Vn];split;·exact ⟨by decide,by decide⟩
 rename_i h;have hm:=Vee (s:=s) (r:=r) za za;have hs:=Z4b (s:=s) za;rw [Zt] at hs;split;·
  split;·exact ⟨by decide,by decide⟩
  ·dsimp only;omega
 split;·simp only [Zad];omega
 ·simp only [Zad];omega
def Zke {S:List XSens} {t:Int} {m:List XMeas} (f:XTele) (h:∀x∈m,K5a x):∀x∈Yha S t m f,K5a x:=by
 rw [Yha];split;·
  rename_i he;intro x hx;rcases yYa hx with hx | rfl;·exact h x hx
  ·
   have ht:0≤t∧t≤2147483648:=by
    rw [Vu] at he;split at he;·cases he
    ·omega
   rw [Ycb];split;·exact ⟨ht,(Umb _ _).1,(Umb _ _).2⟩
   ·exact Zsd ht
 ·exact h
def Vqc {S : List XSens} {t : Int} : ∀ (l : List XTele) {m : List XMeas}, (∀ x ∈ m, K5a x) → (∀ x ∈ l.foldl (Yha S t) m, K5a x) ∧ (l.foldl (Yha S t) m).length = m.length
 | [],m,h=>⟨h,rfl⟩
 | f :: l,m,h=>by
  have:=Vqc (S:=S) (t:=t) l (Zke (S:=S) (t:=t) f h)
  exact ⟨this.1,this.2.trans (Yhe ..)⟩
def Zwd:∀(n:Nat) {l:List Int} (d:Int),l.length=n→BytesOk l→(BytesOk (Vc l d).held∧(Vc l d).held.length≤70)∧d≤(Vc l d).dropped∧(Vc l d).dropped≤d + n:=by
 intro n;induction n using Nat.strongRecOn with
 | ind n ih=>
  intro l d hn hb;rcases yga (l=[]) with h | h;·subst h;rw [Y1a];exact ⟨⟨fun x hx=>(by cases hx),yS _⟩,yz _,(by show d≤d + (n:Int);omega)⟩
  ·
   have hpos := List.length_pos_iff.2 h;have hbt:BytesOk l.tail:=fun x hx=>hb x (yQb hx);have hskip:=ih l.tail.length (by rw [yhb];omega) (d + 1) rfl hbt;(have hskip2:((l.tail.length:Nat):Int) + 1=n:=by rw [yhb];omega);rcases yga (Z7 l) with h1 | h1;·rw [Jpa h (.inl h1)];exact ⟨hskip.1,by omega,by omega⟩
   ·
    rcases yga (U9 l) with h2 | h2;·rw [Zga h h1 h2];refine ⟨⟨hb,?_⟩,yz _,by dsimp only;omega⟩;have hx:=hb.at 1;rw [U9] at h2;rw [Z7] at h1;have:¬ (1 < l.length∧64 < l.getD 1 0):=fun h=>h1 (.inr h);dsimp only;omega
    ·
     rcases yga (Zza (Kvb l) = Vlb l) with h3 | h3;·rw [U0a h h1 h2 h3];have:=ih (l.drop (lenT l + 6)).length (by rw [yV];omega) d rfl (fun x hx=>hb x (ywa hx));refine ⟨this.1,this.2.1,?_⟩;have h4:=this.2.2;rw [yV] at h4;dsimp only;omega
     ·rw [Jpa h (.inr ⟨h2, h3⟩)];exact ⟨hskip.1,by omega,by omega⟩
section
variable {g:PSite} {p:PSta}
def Inv.feedR (h:Inv g p) {b:List Int} (hb:BytesOk b) (t:Int):Inv g (feedR g p b t):=by
 have h1:=Vqc (S:=g.site.sensors.l) (t:=t) (Vc (p.held ++ b) p.dropped).out h.mok;have h2:=Zwd _ (l:=p.held ++ b) p.dropped rfl (fun x hx=>by
  rcases List.mem_append.1 hx with hx | hx;·exact h.held.1 x hx
  ·exact hb x hx)
 exact { h with meas:=h1.2.trans h.meas,mok:=h1.1,held:=h2.1 }
def J8e (l:List Int):(Kqb g p l).time=p.time:=by
 induction l generalizing p with
 | nil=>rfl
 | cons z l ih=>exact ih.trans (Z0c z)
def J6c (kind:Int) (l:List Int):(Kda kind p l).time=p.time:=by
 induction l generalizing p with
 | nil=>rfl
 | cons z l ih=>exact ih
def Ymb (vals : List Int) : ∀ k, (darkTo g vals p k).time = p.time
 | 0=>rfl
 | k + 1=>by
  rw [darkTo,Z2a]
  split
  ·exact Ymb vals k
  ·rw [Z0c];exact Ymb vals k
def V6a (t:Int):(Jk g p t).time=t:=by rw [Jk];rw [Ymb,settleB,J6c,J6c];dsimp only;rw [settleA,J8e]
def Zr {t:Int} (h:¬ Jda p t):p.time≤t∧t≤2147483648:=by rw [Jda] at h;omega
def Inv.feed (h:Inv g p) {b:List Int} (hb:BytesOk b) (t:Int):Inv g (Jtc g p b t).1:=by
 rw [Jtc];split;·exact h
 ·rename_i hl;exact (h.feedR hb t).settle (Zr hl).1 (Zr hl).2
def Inv.ansSw (h:Inv g p) {s sh:Int} (he:Ya p.sw g.zn g.rp s sh=0):Inv g { p with sw:=Jsa p.sw s sh }:=by
 rw [Ya,if_neg (by rw [h.fe];decide)] at he;split at he;·cases he
 rename_i h1;split at he;·cases he
 rename_i h2;have hg:=Koe h.fe s.toNat za;have k:SwKeep p.sw (Jsa p.sw s sh) p.time:=(SwKeep.refl h.fe p.time).set rfl (.inl rfl) zx (fun h3=>by
  dsimp only at h3;split at h3;·exact absurd h3.1 ze
  ·
   rename_i h4;rcases h3.2 with h5 | h5;·exact hg.2 ⟨h3.1,.inl h5⟩
   ·exact h4 h5)
 exact h.sws k
def Inv.answer (h:Inv g p) (s sh t:Int):Inv g (K7a g p s sh t).1:=by
 rw [K7a];split;·exact h
 rename_i hl;split;·exact h
 rename_i he;exact (h.ansSw (Decidable.not_not.1 he)).settle (Zr hl).1 (Zr hl).2
def Inv.ask (h:Inv g p) (a z t:Int):Inv g (U3e g p a z t).1:=by
 rw [U3e];split;·exact h
 rename_i hl;have hs:=h.settle (Zr hl).1 (Zr hl).2;dsimp only;split;·exact hs.note _ _ _
 ·
  rename_i he;have he:askE g.site (Jk g p t).cuts (flP g (Jk g p t)) (Jk g p t).rest a z t=0:=Decidable.not_not.1 he;have e:askR g.site (Jk g p t).cuts (flP g (Jk g p t)) (Jk g p t).rest a z t=⟨z,a,-1,1,t⟩:=by rw [askR,if_pos he]
  have h1:Inv g { Jk g p t with rest:=askR g.site (Jk g p t).cuts (flP g (Jk g p t)) (Jk g p t).rest a z t }:=by
   refine { hs with rest:=?_ };rw [e];refine ⟨by have:=h.time;have:=Zr hl;dsimp only;omega,.inr ?_⟩;rw [askE] at he;split at he;·omega
   split at he;·cases he
   split at he;·cases he
   exact Usb he
  exact h1.note _ _ _
def Inv.confirm (h:Inv g p) (a t:Int):Inv g (Zv g p a t).1:=by
 rw [Zv];split;·exact h
 rename_i hl;have hs:=h.settle (Zr hl).1 (Zr hl).2;dsimp only;split;·exact hs.note _ _ _
 ·
  rename_i he;have he:confirmE g.site (Jk g p t).cuts (flP g (Jk g p t)) (Jk g p t).rest a t=0:=Decidable.not_not.1 he;have h1:Inv g { Jk g p t with rest:=confirmR g.site (Jk g p t).cuts (flP g (Jk g p t)) (Jk g p t).rest a t }:=by refine { hs with rest:=?_ };rw [confirmR,if_pos he];exact ⟨by have:=h.time;have:=Zr hl;dsimp only;omega,hs.rest.2⟩
  exact h1.note _ _ _
end
end
section
structure XSta where
 site:XSite
 time:Int
 held:Arr Int
 dropped:Int
 meas:Arr XMeas
 watches:Arr XWatch
 cuts:Arr XCut
 feeder:XFeeder
 rest:XRest
 log:Arr XEntry
def XSta.cells (x:XSta):List Value:=[x.site.air.mine.places.val,x.site.air.mine.roads.val,x.site.air.fans.val,x.site.air.doors.val,x.site.sensors.val,x.site.conds.val,x.site.zones.val,x.site.persons.val,.int .i64 x.time,x.held.val,.int .i64 x.dropped,x.meas.val,x.watches.val,x.cuts.val,x.feeder.switches.val,x.feeder.zones.val,.int .i64 x.feeder.reply,.int .i64 x.rest.zone,.int .i64 x.rest.first,.int .i64 x.rest.second,.int .i64 x.rest.step,.int .i64 x.rest.time,x.log.val]
abbrev XSta.val (x:XSta):Value:=.agg #[x.site.air.mine.places.val,x.site.air.mine.roads.val,x.site.air.fans.val,x.site.air.doors.val,x.site.sensors.val,x.site.conds.val,x.site.zones.val,x.site.persons.val,.int .i64 x.time,x.held.val,.int .i64 x.dropped,x.meas.val,x.watches.val,x.cuts.val,x.feeder.switches.val,x.feeder.zones.val,.int .i64 x.feeder.reply,.int .i64 x.rest.zone,.int .i64 x.rest.first,.int .i64 x.rest.second,.int .i64 x.rest.step,.int .i64 x.rest.time,x.log.val]
structure StaR (x:XSta) (R:LS):Prop where
 site:SiteR x.site R
 held:InR (bsl x.held) R
 meas:InR (Yu x.meas) R
 watches:InR (Ztd x.watches) R
 cuts:InR (Vuc x.cuts) R
 feeder:FeederR x.feeder R
 log:InR (J5a x.log) R
def StaR.mono {x:XSta} {R J:LS} (h:StaR x R) (k:∀r∈R,InR r J):StaR x J:=⟨h.site.mono k,h.held.mono k,h.meas.mono k,h.watches.mono k,h.cuts.mono k,h.feeder.mono k,h.log.mono k⟩
structure StaIs (g:PSite) (p:PSta) (x:XSta):Prop where
 site:SiteE x.site g.site
 time:x.time=p.time
 held:x.held.l=p.held
 dropped:x.dropped=p.dropped
 meas:x.meas.l=p.meas
 watches:x.watches.l=p.watches
 cuts:x.cuts.l=p.cuts
 sw:x.feeder.switches.l=p.sw
 zn:x.feeder.zones.l=g.zn
 rp:x.feeder.reply=g.rp
 rest:x.rest=p.rest
 log:x.log.l=p.log
end
end Go.Proofs.YtchfclmokpbldaaGreat
