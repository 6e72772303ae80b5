/-
  Merged texts. By an AI agent.
-/
import Derived.Test.YtchfclmokpbldaaGreatData
import Derived.Test.YtchfclmokpbldaaGreatFeedT
import Derived.Test.YtchfclmokpbldaaGreatWinR
set_option linter.all false
set_option maxHeartbeats 4000000
set_option maxRecDepth 20000
namespace Go.Proofs.YtchfclmokpbldaaGreat
open Go.Aw Go
section
def U7g (x:Int) (k:Nat):Int:=x / 2 ^ k % 2
def U6g (a b:Int):Int:=((a.toNat ^^^ b.toNat:Nat):Int)
def K6b (r b:Int):Int:=if r / 32768=b then 2 * r % 65536 else U6g (2 * r % 65536) 4129
def Jwc (r x : Int) : Nat → Int
 | 0=>r
 | k + 1=>K6b (Jwc r x k) (U7g x (7 - k))
def Ubd (r x:Int):Int:=Jwc r x 8
def Ubb (l:List Int):Int:=l.foldl Ubd 65535
def Crc (r:Int):Prop:=0≤r∧r < 65536
def Jke {r:Int} (b:Int) (h:Crc r):Crc (K6b r b):=by
 obtain ⟨h1,h2⟩:=h;have hm:0≤2 * r % 65536∧2 * r % 65536 < 65536:=by omega
 rw [K6b];split;·exact hm
 ·refine ⟨Int.natCast_nonneg _, ?_⟩;have:(2 * r % 65536).toNat ^^^ (4129:Int).toNat < 2 ^ 16:=Nat.xor_lt_two_pow za ze;rw [U6g];omega
def Vvb {r : Int} (x : Int) (h : Crc r) : ∀ k, Crc (Jwc r x k)
 | 0=>h
 | k + 1=>Jke _ (Vvb x h k)
def Kuc : ∀ (l : List Int) {r : Int}, Crc r → Crc (l.foldl Ubd r)
 | [],_,h=>h
 | x :: l,_,h=>Kuc l (Vvb x h 8)
def V9c (l:List Int):Crc (Ubb l):=Kuc l ⟨by decide,by decide⟩
def Yzc {l:List Int} {k:Nat} {x:Int} (h:l[k]?=some x):Ubb (l.take (k + 1))=Ubd (Ubb (l.take k)) x:=by rw [yha,h,Ubb,yDa];rfl
structure XTele where
 address:Int
 kind:Int
 data:List Int
 deriving DecidableEq,Inhabited
def Kfa (l:List Int):Prop:=l.getD 0 0≠126∨(1 < l.length∧64 < l.getD 1 0)
instance (l:List Int):Decidable (Kfa l):=by unfold Kfa;exact inferInstance
def Vn (l:List Int):Prop:=(l.length:Int) < 2∨(l.length:Int) < l.getD 1 0 + 6
instance (l:List Int):Decidable (Vn l):=by unfold Vn;exact inferInstance
def lenT (l:List Int):Nat:=(l.getD 1 0).toNat
def Jnc (l:List Int):Int:=l.getD (4 + lenT l) 0 * 256 + l.getD (5 + lenT l) 0
def Vjb (l:List Int):List Int:=(l.take (4 + lenT l)).drop 1
def Y4d (l:List Int):XTele:=⟨l.getD 2 0,l.getD 3 0,(l.take (4 + lenT l)).drop 4⟩
structure XFed where
 held:List Int
 dropped:Int
 out:List XTele
 deriving DecidableEq,Inhabited
def Ve (l:List Int) (d:Int):XFed:=
 if hl:l=[] then ⟨[],d,[]⟩
 else if Kfa l then Ve l.tail (d + 1)
 else if Vn l then ⟨l,d,[]⟩
 else if Ubb (Vjb l)≠Jnc l then Ve l.tail (d + 1)
 else ⟨(Ve (l.drop (lenT l + 6)) d).held,(Ve (l.drop (lenT l + 6)) d).dropped,Y4d l :: (Ve (l.drop (lenT l + 6)) d).out⟩
termination_by l.length
decreasing_by
 all_goals have:=List.length_pos_iff.2 hl
 all_goals simp only [ycb,yY];omega
def Kkb (d:Int):Ve [] d=⟨[],d,[]⟩:=by rw [Ve,dif_pos rfl]
def J3a {l:List Int} {d:Int} (h:l≠[]) (h1:Kfa l∨(¬ Vn l∧Ubb (Vjb l)≠Jnc l)):Ve l d=Ve l.tail (d + 1):=by
 rw [Ve,dif_neg h];split;·rfl
 ·
  rename_i h2;rcases h1 with h1 | ⟨h3,h4⟩;·exact absurd h1 h2
  ·rw [if_neg h3,if_pos h4]
def Zka {l:List Int} {d:Int} (h:l≠[]) (h1:¬ Kfa l) (h2:Vn l):Ve l d=⟨l,d,[]⟩:=by rw [Ve,dif_neg h,if_neg h1,if_pos h2]
def Zla {l:List Int} {d:Int} (h:l≠[]) (h1:¬ Kfa l) (h2:¬ Vn l) (h3:Ubb (Vjb l)=Jnc l):Ve l d=⟨(Ve (l.drop (lenT l + 6)) d).held,(Ve (l.drop (lenT l + 6)) d).dropped,Y4d l :: (Ve (l.drop (lenT l + 6)) d).out⟩:=by rw [Ve,dif_neg h,if_neg h1,if_neg h2,if_neg (by rw [h3];exact fun h=>h rfl)]
def BytesOk (l:List Int):Prop:=∀x∈l,0≤x∧x≤255
def BytesOk.at {l:List Int} (h:BytesOk l) (i:Nat):0≤l.getD i 0∧l.getD i 0≤255:=by
 rcases yl i l.length with hi | hi;·exact h _ (yi (Ju (l:=l) (k:=i) 0 hi))
 ·rw [yh,yq hi];decide
def Ylc {l:List Int} (h:BytesOk l) (h2:¬ Vn l):lenT l + 6≤l.length∧((lenT l:Nat):Int)=l.getD 1 0:=by have:=h.at 1;rw [Vn] at h2;rw [lenT];omega
def Yia (f:XTele):List Int:=126 :: (f.data.length:Int) :: f.address :: f.kind :: f.data
def Jrd (f:XTele):List Int:=Yia f ++ [Ubb (Yia f).tail / 256,Ubb (Yia f).tail % 256]
def J5e (f:XTele):(Jrd f).length=f.data.length + 6:=by simp [Jrd,Yia]
end
section
structure XEntry where
 time:Int
 kind:Int
 target:Int
 value:Int
 deriving DecidableEq,Inhabited
def XEntry.cells (x:XEntry):List Value:=[.int .i64 x.time,.int .i64 x.kind,.int .i64 x.target,.int .i64 x.value]
abbrev Z5 (x:Arr XEntry):Sl:=x.sl 4 XEntry.cells []
structure PSta where
 time:Int
 held:List Int
 dropped:Int
 meas:List XMeas
 watches:List XWatch
 cuts:List XCut
 sw:List XSwitch
 rest:XRest
 log:List XEntry
structure PSite where
 site:XSite
 zn:List Int
 rp:Int
 air:List Bool
def Yoc (S:List XSens) (kind target:Int):Option Nat:=(List.range S.length).find? fun i=>decide ((S.getD i default).kind=kind∧(S.getD i default).target=target)
def Jta (S:List XSens) (m:List XMeas) (t kind target n:Int):Int:=
 match Yoc S kind target with
 | none=>-1
 | some i=>if (U4 S m (i:Int) t).low=(U4 S m (i:Int) t).high∧0≤(U4 S m (i:Int) t).low∧(U4 S m (i:Int) t).low < n then (U4 S m (i:Int) t).low else -1
def K5c (S:List XSens) (m:List XMeas) (t kind target n:Int) (hn:0≤n):-1≤Jta S m t kind target n∧(Jta S m t kind target n < n∨Jta S m t kind target n= -1):=by
 rw [Jta];split;·omega
 ·split <;> omega
def Ypa (s:XSite) (m:List XMeas) (t:Int) (k:Nat):List Int:=(List.range k).map fun (i:Nat)=>Jta s.sensors.l m t 5 (i:Int) 3
def K5a (s:XSite) (m:List XMeas) (t:Int) (k:Nat):List Int:=(List.range k).map fun (i:Nat)=>Jta s.sensors.l m t 6 (i:Int) ((s.air.doors.l.getD i default).rests.l.length:Int)
def Z7d (s:XSite) (m:List XMeas) (t:Int):Sts:=(Ypa s m t s.air.fans.l.length,K5a s m t s.air.doors.l.length)
def Z6 (s:XSite) (A:List Bool) (m:List XMeas) (t:Int):List XSpan:=(Kxe (flS s.air A (Z7d s m t)) nothingS 3 s.sensors.l m t).out
def Zmd (s:XSite) (m:List XMeas) (t:Int) (k:Nat):Ypa s m t (k + 1)=Ypa s m t k ++ [Jta s.sensors.l m t 5 (k:Int) 3]:=by rw [Ypa,yvb,yW];rfl
def Uqd (s:XSite) (m:List XMeas) (t:Int) (k:Nat):K5a s m t (k + 1)=K5a s m t k ++ [Jta s.sensors.l m t 6 (k:Int) ((s.air.doors.l.getD k default).rests.l.length:Int)]:=by rw [K5a,yvb,yW];rfl
def Zib (s:XSite) (m:List XMeas) (t:Int) (k:Nat):(Ypa s m t k).length=k:=by simp [Ypa]
def Ugb (s:XSite) (m:List XMeas) (t:Int) (k:Nat):(K5a s m t k).length=k:=by simp [K5a]
def Ykd {s:XSite} (m:List XMeas) (t:Int):Vba s.air (mkS (Z7d s m t))=true:=by
 refine Jad ⟨Zib .., Ugb .., fun i x hx=>?_,fun i x d hx hd=>?_⟩;·have hx : (Ypa s m t s.air.fans.l.length)[i]? = some x := hx;rw [Ypa,yu] at hx;obtain ⟨hi,-⟩:=List.getElem?_eq_some_iff.1 (show (Ypa s m t s.air.fans.l.length)[i]?=some x from by rw [Ypa,yu];exact hx);rw [Zib] at hi;rw [yX hi] at hx;have e:=yL hx;have:=K5c s.sensors.l m t 5 (i:Int) 3 ze;dsimp only at e;rw [← e];omega
 ·have hx : (K5a s m t s.air.doors.l.length)[i]? = some x := hx;obtain ⟨hi,-⟩:=List.getElem?_eq_some_iff.1 hx;rw [Ugb] at hi;rw [K5a,yu,yX hi] at hx;have e:=yL hx;have hg:=getD_some (d:=default) hd;have:=K5c s.sensors.l m t 6 (i:Int) ((s.air.doors.l.getD i default).rests.l.length:Int) za;rw [hg] at this;dsimp only at e;rw [← e,hg];omega
def Knb (l:List XEntry) (e:XEntry):List XEntry:=(l ++ [e]).drop (l.length + 1 - 400)
def Jie {l:List XEntry} (e:XEntry):(Knb l e).length≤400:=by rw [Knb,yY,yj];simp;omega
def Y0 (p:PSta) (kind target value:Int):PSta:={ p with log:=Knb p.log ⟨p.time,kind,target,value⟩ }
def Jsc (g:PSite) (p:PSta) (z:Int):PSta:=
 let p1:=Y0 p 1 z (p.cuts.getD z.toNat default).reason
 let s:=g.zn.getD z.toNat 0
 let p2:PSta:={ p1 with sw:=Vj p.sw s p.time }
 if (p.sw.getD s.toNat default).closed=true then Y0 p2 2 s 0 else p2
def Y6a (g:PSite) (p:PSta) (l:List Int):PSta:=l.foldl (Jsc g) p
def Zn (kind:Int) (p:PSta) (l:List Int):PSta:=l.foldl (fun p x=>Y0 p kind x 0) p
def Jkc (g:PSite) (sw:List XSwitch) (z:Nat):Bool:=(Uka sw g.zn g.rp (g.zn.getD z 0)).any fun k=>!(sw.getD k.toNat default).closed || decide ((sw.getD k.toNat default).shown= -1)
def Uma (g:PSite) (vals:List Int) (p:PSta) (z:Nat):PSta:=
 if (p.cuts.getD z default).off=true∨Jkc g p.sw z=false then p
 else Jsc g { p with cuts:=p.cuts.set z ⟨true,(p.cuts.getD z default).clear,Jla (g.site.zones.l.getD z default).rule.l vals⟩ } (z:Int)
def darkTo (g : PSite) (vals : List Int) (p : PSta) : Nat → PSta
 | 0=>p
 | k + 1=>Uma g vals (darkTo g vals p k) k
def Kbc (c:List XCut) (r:XRest):Prop:=r.zone= -1∨((0≤r.zone∧r.zone < c.length)∧(c.getD r.zone.toNat default).off=true∧(c.getD r.zone.toNat default).clear≠-1)
instance (c:List XCut) (r:XRest):Decidable (Kbc c r):=by unfold Kbc;infer_instance
def Zo (c:List XCut) (r:XRest):XRest:=if Kbc c r then r else noRest
def flP (g:PSite) (p:PSta):List XSpan:=Z6 g.site g.air p.meas p.time
def Kyb (g:PSite) (p:PSta):List Int:=valuesV g.site p.meas p.watches (flP g p) p.time
def settleA (g:PSite) (p:PSta):PSta:=
 Y6a g { p with watches:=valuesW g.site p.meas p.watches (flP g p) p.time,cuts:=cutsC g.site (Kyb g p) p.cuts p.time } (cutsN g.site (Kyb g p) p.cuts p.time)
def settleB (g:PSite) (p:PSta):PSta:=
 Zn 2 (Zn 3 { p with rest:=Zo p.cuts p.rest,sw:=(J1a p.sw g.rp p.time).sw } (J1a p.sw g.rp p.time).late) (J1a p.sw g.rp p.time).opened
def Jh (g:PSite) (p0:PSta) (t:Int):PSta:=
 let p:={ p0 with time:=t }
 let q:=settleB g (settleA g p)
 darkTo g (Kyb g p) q q.cuts.length
def Zt (p:PSta) (t:Int):Prop:=t < p.time∨2147483648 < t
instance (p:PSta) (t:Int):Decidable (Zt p t):=by unfold Zt;infer_instance
def Jsa (S:List XSens) (ad:Int):Int:=(((List.range S.length).find? fun i=>decide ((S.getD i default).address=ad)).map Int.ofNat).getD (-1)
end
section
structure Inv (g:PSite) (p:PSta):Prop where
 site:K5 g.site=0
 airy:AiryIs g.site.air.mine g.air
 time:0≤p.time∧p.time≤2147483648
 meas:p.meas.length=g.site.sensors.l.length
 mok:∀x∈p.meas,Uda x
 wlen:p.watches.length=g.site.conds.l.length
 wok:∀w∈p.watches,Uja w∧w.last≤p.time
 clen:p.cuts.length=g.site.zones.l.length
 fe:feedE p.sw g.zn g.rp=0
 since:∀x∈p.sw,x.since≤p.time
 zlen:g.zn.length=g.site.zones.l.length
 rest:0≤p.rest.time∧(p.rest.zone= -1∨(0≤p.rest.zone∧p.rest.zone < p.cuts.length))
 log:p.log.length≤400
 held:BytesOk p.held∧p.held.length≤70
section
variable {g:PSite} {p:PSta}
def Inv.sok (h:Inv g p):SiteOk g.site:=Jea h.site
def Inv.fok (h:Inv g p):FeedOk p.sw g.zn g.rp:=Vi h.fe
def Inv.air (h:Inv g p):Kz g.site.air=0:=h.sok.air
def Inv.tok (h:Inv g p):Yha p.sw p.time:=⟨h.time,h.since⟩
def Inv.at (h:Inv g p) {t:Int} (h1:p.time≤t) (h2:t≤2147483648):Inv g { p with time:=t }:=
 { h with time:=⟨by have:=h.time;dsimp only;omega,h2⟩,wok:=fun w hw=>⟨(h.wok w hw).1,by have:=(h.wok w hw).2;dsimp only;omega⟩,since:=fun x hx=>by have:=h.since x hx;dsimp only;omega }
def Inv.note (h:Inv g p) (kind target value:Int):Inv g (Y0 p kind target value):={ h with log:=by show (Knb p.log _).length≤400;exact Jie _ }
def Inv.sws (h:Inv g p) {sw:List XSwitch} (k:SwKeep p.sw sw p.time):Inv g { p with sw:=sw }:=
 { h with fe:=k.feedE h.fe h.time,since:=(k.time h.tok).2 }
def Inv.cut (h:Inv g p) (z:Int):Inv g (Jsc g p z):=by
 have h1:=h.note 1 z (p.cuts.getD z.toNat default).reason;have h2:=h1.sws (sw:=Vj p.sw (g.zn.getD z.toNat 0) p.time) ((SwKeep.refl h.fe p.time).openS _);rw [Jsc];split;·exact h2.note _ _ _
 ·exact h2
def U3e : ∀ (l : List Int) {p : PSta}, Inv g p → Inv g (Y6a g p l)
 | [],_,h=>h
 | z :: l,_,h=>U3e l (h.cut z)
def Inv.cuts (h:Inv g p) (l:List Int):Inv g (Y6a g p l):=U3e l h
def Y3d (kind : Int) : ∀ (l : List Int) {p : PSta}, Inv g p → Inv g (Zn kind p l)
 | [],_,h=>h
 | z :: l,_,h=>Y3d kind l (h.note kind z 0)
def Inv.notes (kind:Int) (h:Inv g p) (l:List Int):Inv g (Zn kind p l):=Y3d kind l h
def U9a (z:Int):(Jsc g p z).cuts=p.cuts:=by rw [Jsc];split <;> rfl
def Inv.flLen (h:Inv g p):(flP g p).length=g.site.air.mine.roads.l.length:=by rw [flP,Z6,Kxe,(Yuc ..).1,flS];exact V6e h.air (Ykd _ _) h.airy
def Vic {S:List XSens} {n:Nat} {c:XCond} (h:Ks S n c=0) (hk:c.kind=1):Vz c.level:=by
 rw [Ks] at h;split at h;·omega
 split at h;·omega
 rw [Yy] at h;exact ubl
def Inv.valErr (h:Inv g p):valuesErr g.site p.meas p.watches (flP g p) p.time=0:=by
 have ht:=h.time;rw [valuesErr,if_neg (by rw [h.site];decide),if_neg (by rw [h.meas,h.wlen,h.flLen];simp),if_neg za];have:(List.range p.watches.length).findSome? (fun i=>nzO (Kec (g.site.conds.l.getD i default) (p.watches.getD i default) p.time))=none:=by
  rw [yI];intro i hi;rw [yva] at hi;have hw:=h.wok _ (yi (Ju (l:=p.watches) (k:=i) default hi));have hc:=h.sok.cond _ (yi (Ju (l:=g.site.conds.l) (k:=i) default (by rw [← h.wlen];exact hi)));rw [nzO,if_pos];rw [Kec];split;·rename_i hk;exact K0c (Vic hc hk) za hw.1
  ·rfl
 rw [this];rfl
def Yme (l:XLevel) {w:XWatch} (x:XSpan) {t:Int} (ht:0≤t) (h:Uja w) (hl:w.last≤t):Uja (Zi l w x t)∧(Zi l w x t).last≤t:=by
 obtain ⟨h1,h2,h3,h4⟩:=h;rw [Zi];repeat' split
 all_goals refine ⟨⟨ht,?_,?_,?_⟩,yF _⟩
 all_goals dsimp only
 all_goals first | omega | exact .inl rfl | exact .inr rfl | (rcases h4 with h4 | h4;exact .inl h4;simp_all)
def Inv.valLen (h:Inv g p):(Kyb g p).length=g.site.conds.l.length:=by rw [Kyb,valuesV,if_neg (by rw [h.valErr];decide),yG,yEb,h.wlen]
def Inv.cutErr (h:Inv g p):cutsErr g.site (Kyb g p) p.cuts p.time=0:=by have ht:=h.time;rw [cutsErr,if_neg (by rw [h.site];decide),if_neg (by rw [h.valLen,h.clen];simp),if_neg za]
def Inv.sA (h:Inv g p):Inv g { p with watches:=valuesW g.site p.meas p.watches (flP g p) p.time,cuts:=cutsC g.site (Kyb g p) p.cuts p.time }:=by
 have hw:(valuesW g.site p.meas p.watches (flP g p) p.time).length=p.watches.length:=by rw [valuesW,if_neg (by rw [h.valErr];decide),yG,yEb]
 have hc:(cutsC g.site (Kyb g p) p.cuts p.time).length=p.cuts.length:=by rw [cutsC,if_neg (by rw [h.cutErr];decide),yG,yEb]
 refine { h with wlen:=hw.trans h.wlen,wok:=fun w hm=>?_,clen:=hc.trans h.clen,rest:=by rw [hc];exact h.rest };have hm:w∈valuesW g.site p.meas p.watches (flP g p) p.time:=hm;rw [valuesW,if_neg (by rw [h.valErr];decide),List.mem_map] at hm;obtain ⟨i,hi,rfl⟩:=hm;rw [yva] at hi;have hw:=h.wok _ (yi (Ju (l:=p.watches) (k:=i) default hi));show Uja (Zg _ _ _ _ _)∧(Zg _ _ _ _ _).last≤p.time;rw [Zg];split;·exact Yme _ _ h.time.1 hw.1 hw.2
 ·exact hw
def Inv.settleA (h:Inv g p):Inv g (settleA g p):=h.sA.cuts _
def V9d (c:List XCut) (r:XRest) (h:0≤r.time):0≤(Zo c r).time∧((Zo c r).zone= -1∨(0≤(Zo c r).zone∧(Zo c r).zone < c.length)):=by
 rw [Zo];split;·rename_i hk;rw [Kbc] at hk;exact ⟨h,hk.imp_right fun h=>h.1⟩
 ·exact ⟨by decide,.inl rfl⟩
def Inv.settleB (h:Inv g p):Inv g (settleB g p):=by have h1:Inv g { p with rest:=Zo p.cuts p.rest }:={ h with rest:=V9d _ _ h.rest.1 };have h2:=h1.sws (sw:=(J1a p.sw g.rp p.time).sw) (Vqa h.fe _ (ym _));exact (h2.notes 3 _).notes 2 _
def Inv.dark (h:Inv g p) (vals:List Int) (z:Nat):Inv g (Uma g vals p z):=by
 rw [Uma];split;·exact h
 ·refine Inv.cut (p := { p with cuts := p.cuts.set z ⟨true, (p.cuts.getD z default).clear, Jla (g.site.zones.l.getD z default).rule.l vals⟩ }) ?_ _;exact { h with clen:=by show (p.cuts.set _ _).length=_;rw [yE];exact h.clen,rest:=by show _∧(_∨(_∧_ < ((p.cuts.set _ _).length:Int)));rw [yE];exact h.rest }
def Inv.darkTo (h : Inv g p) (vals : List Int) : ∀ k, Inv g (darkTo g vals p k)
 | 0=>h
 | k + 1=>(Inv.darkTo h vals k).dark vals k
def Inv.settle (h:Inv g p) {t:Int} (h1:p.time≤t) (h2:t≤2147483648):Inv g (Jh g p t):=((h.at h1 h2).settleA.settleB).darkTo _ _
def Jqd (z:Int):(Jsc g p z).time=p.time:=by rw [Jsc];split <;> rfl
end
end
section
attribute [local irreducible] CJ LJ DJ Tri YV Gives Ur J3 Ko Uq RV J5 OwL.L
def Zqd (k:Int):Int:=if k=6 then 5 else if k=5 then 2 else 1
def J0f (s:XSens) (r:Int):XSpan:=⟨s.offset + s.scale * r / 1000 - s.error,s.offset + -((-(s.scale * r)) / 1000) + s.error⟩
def Jva (s:XSens) (r:Int):XSpan:=
 if U0 s≠0∨¬ (0≤r∧r≤65535) then nothingS
 else if 4≤s.kind then if Zqd s.kind < r then nothingS else ⟨r,r⟩
 else if s.kind=1∨s.kind=2 then ⟨max (J0f s r).low 0,max (J0f s r).high 0⟩ else J0f s r
def J5b {s:XSens} (h:U0 s=0):Zk s:=by
 rw [U0] at h;split at h;·omega
 exact ubl
def Kzd {s:XSens} {r:Int} (h:U0 s=0) (hr:0≤r∧r≤65535):-65535000000≤s.scale * r∧s.scale * r≤65535000000:=by have hs:=J5b h;rw [Zk] at hs;have h1:s.scale * r≤1000000 * r:=yFa za hr.1;have h2:-1000000 * r≤s.scale * r:=yFa za hr.1;omega
end
section
def Vr (S:List XSens) (f:XTele) (t:Int):Int:=
 if t < 0∨2147483648 < t then 8
 else if Jsa S f.address < 0∨U0 (S.getD (Jsa S f.address).toNat default)≠0 then 9
 else if f.kind≠1∧f.kind≠2 then 5
 else if f.kind=1∧f.data.length≠2∨f.kind=2∧f.data.length≠0 then 6 else 0
def Vla (S:List XSens) (f:XTele) (t:Int):XMeas:=
 ⟨Jsa S f.address,t,if f.kind=1 then Jva (S.getD (Jsa S f.address).toNat default) (f.data.getD 0 0 * 256 + f.data.getD 1 0) else nothingS⟩
def Zqa (S:List XSens) (t:Int) (m:List XMeas) (f:XTele):List XMeas:=if Vr S f t=0 then m.set (Jsa S f.address).toNat (Vla S f t) else m
def feedR (g:PSite) (p:PSta) (b:List Int) (t:Int):PSta:=
 { p with held:=(Ve (p.held ++ b) p.dropped).held,dropped:=(Ve (p.held ++ b) p.dropped).dropped,meas:=(Ve (p.held ++ b) p.dropped).out.foldl (Zqa g.site.sensors.l t) p.meas }
def Yzb (g:PSite) (p:PSta) (b:List Int) (t:Int):PSta×Int:=if Zt p t then (p,8) else (Jh g (feedR g p b t) t,0)
def Yxa (g:PSite) (p:PSta) (t:Int):PSta×Int:=if Zt p t then (p,8) else (Jh g p t,0)
def J6a (g:PSite) (p:PSta) (s sh t:Int):PSta×Int:=
 if Zt p t then (p,8) else if Ys p.sw g.zn g.rp s sh≠0 then (p,Ys p.sw g.zn g.rp s sh) else (Jh g { p with sw:=Jga p.sw s sh } t,0)
def Vtd (g:PSite) (p:PSta) (person zone t:Int):PSta×Int:=
 if Zt p t then (p,8)
 else
  let q:=Jh g p t
  let e:=askE g.site q.cuts (flP g q) q.rest person zone t
  if e≠0 then (Y0 q 7 zone e,e) else (Y0 { q with rest:=askR g.site q.cuts (flP g q) q.rest person zone t } 4 zone person,0)
def Za (g:PSite) (p:PSta) (person t:Int):PSta×Int:=
 if Zt p t then (p,8)
 else
  let q:=Jh g p t
  let e:=confirmE g.site q.cuts (flP g q) q.rest person t
  if e≠0 then (Y0 q 7 q.rest.zone e,e) else (Y0 { q with rest:=confirmR g.site q.cuts (flP g q) q.rest person t } 5 q.rest.zone person,0)
def mkF (g:PSite) (p:PSta):XFeeder:=⟨⟨none,0,p.sw⟩,⟨none,0,g.zn⟩,g.rp⟩
def Vfa (g:PSite) (p:PSta) (t:Int):PSta×Int:=
 if Zt p t then (p,8)
 else
  let q:=Jh g p t
  let e:=V0 g.site q.cuts (flP g q) q.rest (mkF g q) t
  if e≠0 then (Y0 q 7 q.rest.zone e,e)
  else (Y0 { q with rest:=Y6 g.site q.cuts (flP g q) q.rest (mkF g q) t,cuts:=Z0 g.site q.cuts (flP g q) q.rest (mkF g q) t,sw:=Yx g.site q.cuts (flP g q) q.rest (mkF g q) t } 6 (atR (mkF g q) q.rest.zone) 0,0)
def Zoc (l:XLevel) (w:XWatch):Int:=if Yy l≠0∨w.since < 0 then 1099511627776 else w.since + l.delay
def Ufd (g : PSite) (p : PSta) : Nat → Int → Int
 | 0,v=>v
 | k + 1,v=>if (g.site.conds.l.getD k default).kind=1 then min (Ufd g p k v) (Zoc (g.site.conds.l.getD k default).level (p.watches.getD k default)) else Ufd g p k v
def Kmb (g:PSite) (p:PSta):Bool:=(List.range g.site.sensors.l.length).any fun i=>decide (U4 g.site.sensors.l p.meas (i:Int) p.time≠nothingS)
def Zse (g:PSite) (p:PSta):Int:=if Kmb g p=true then min (Ufd g p g.site.conds.l.length (Ycc p.sw g.rp)) p.time else Ufd g p g.site.conds.l.length (Ycc p.sw g.rp)
def Jle (g:PSite) (p:PSta):Int:=if Zse g p≤p.time then p.time + 1 else Zse g p
def Ztd {S:List XSens} {ad:Int} (h:¬ Jsa S ad < 0):(Jsa S ad).toNat < S.length∧0≤Jsa S ad:=by
 rw [Jsa] at h ⊢;cases hf:(List.range S.length).find? (fun i=>decide ((S.getD i default).address=ad)) with
 | none=>rw [hf] at h;exact absurd ze h
 | some i=>have:=List.mem_of_find?_eq_some hf;rw [yva] at this;exact ⟨this,Int.natCast_nonneg i⟩
def Ygc (S:List XSens) (t:Int) (m:List XMeas) (f:XTele):(Zqa S t m f).length=m.length:=by rw [Zqa];split <;> simp
def Jue {a t:Int} (ht:0≤t∧t≤2147483648):Uda ⟨a,t,nothingS⟩:=⟨ht,by show (-1125899906842624:Int)≤ -1125899906842624∧(-1125899906842624:Int)≤1125899906842624;decide,by show (-1125899906842624:Int)≤1125899906842624∧(1125899906842624:Int)≤1125899906842624;decide⟩
def Knc (s:XSens) (r:Int):(-1125899906842624≤(Jva s r).low∧(Jva s r).low≤1125899906842624)∧(-1125899906842624≤(Jva s r).high∧(Jva s r).high≤1125899906842624):=by
 rw [Jva];split;·exact ⟨by decide,by decide⟩
 rename_i h;have hm:=Kzd (s:=s) (r:=r) za za;have hs:=J5b (s:=s) za;rw [Zk] at hs;split;·
  split;·exact ⟨by decide,by decide⟩
  ·dsimp only;omega
 split;·simp only [J0f];omega
 ·simp only [J0f];omega
def Zbe {S:List XSens} {t:Int} {m:List XMeas} (f:XTele) (h:∀x∈m,Uda x):∀x∈Zqa S t m f,Uda x:=by
 rw [Zqa];split;·
  rename_i he;intro x hx;rcases yob hx with hx | rfl;·exact h x hx
  ·
   have ht:0≤t∧t≤2147483648:=by
    rw [Vr] at he;split at he;·cases he
    ·omega
   rw [Vla];split;·exact ⟨ht,(Knc _ _).1,(Knc _ _).2⟩
   ·exact Jue ht
 ·exact h
def Unc {S : List XSens} {t : Int} : ∀ (l : List XTele) {m : List XMeas}, (∀ x ∈ m, Uda x) → (∀ x ∈ l.foldl (Zqa S t) m, Uda x) ∧ (l.foldl (Zqa S t) m).length = m.length
 | [],m,h=>⟨h,rfl⟩
 | f :: l,m,h=>by
  have:=Unc (S:=S) (t:=t) l (Zbe (S:=S) (t:=t) f h)
  exact ⟨this.1,this.2.trans (Ygc ..)⟩
def K8c:∀(n:Nat) {l:List Int} (d:Int),l.length=n→BytesOk l→(BytesOk (Ve l d).held∧(Ve l d).held.length≤70)∧d≤(Ve l d).dropped∧(Ve l d).dropped≤d + n:=by
 intro n;induction n using Nat.strongRecOn with
 | ind n ih=>
  intro l d hn hb;rcases yaa (l=[]) with h | h;·subst h;rw [Kkb];exact ⟨⟨fun x hx=>(by cases hx),yga _⟩,yF _,(by show d≤d + (n:Int);omega)⟩
  ·
   have hpos := List.length_pos_iff.2 h;have hbt:BytesOk l.tail:=fun x hx=>hb x (yPb hx);have hskip:=ih l.tail.length (by rw [ycb];omega) (d + 1) rfl hbt;(have hskip2:((l.tail.length:Nat):Int) + 1=n:=by rw [ycb];omega);rcases yaa (Kfa l) with h1 | h1;·rw [J3a h (.inl h1)];exact ⟨hskip.1,by omega,by omega⟩
   ·
    rcases yaa (Vn l) with h2 | h2;·rw [Zka h h1 h2];refine ⟨⟨hb,?_⟩,yF _,by dsimp only;omega⟩;have hx:=hb.at 1;rw [Vn] at h2;rw [Kfa] at h1;have:¬ (1 < l.length∧64 < l.getD 1 0):=fun h=>h1 (.inr h);dsimp only;omega
    ·
     rcases yaa (Ubb (Vjb l) = Jnc l) with h3 | h3;·rw [Zla h h1 h2 h3];have:=ih (l.drop (lenT l + 6)).length (by rw [yY];omega) d rfl (fun x hx=>hb x (yya hx));refine ⟨this.1,this.2.1,?_⟩;have h4:=this.2.2;rw [yY] at h4;dsimp only;omega
     ·rw [J3a h (.inr ⟨h2, h3⟩)];exact ⟨hskip.1,by omega,by omega⟩
section
variable {g:PSite} {p:PSta}
def Inv.feedR (h:Inv g p) {b:List Int} (hb:BytesOk b) (t:Int):Inv g (feedR g p b t):=by
 have h1:=Unc (S:=g.site.sensors.l) (t:=t) (Ve (p.held ++ b) p.dropped).out h.mok;have h2:=K8c _ (l:=p.held ++ b) p.dropped rfl (fun x hx=>by
  rcases List.mem_append.1 hx with hx | hx;·exact h.held.1 x hx
  ·exact hb x hx)
 exact { h with meas:=h1.2.trans h.meas,mok:=h1.1,held:=h2.1 }
def Upe (l:List Int):(Y6a g p l).time=p.time:=by
 induction l generalizing p with
 | nil=>rfl
 | cons z l ih=>exact ih.trans (Jqd z)
def Krc (kind:Int) (l:List Int):(Zn kind p l).time=p.time:=by
 induction l generalizing p with
 | nil=>rfl
 | cons z l ih=>exact ih
def Y5b (vals : List Int) : ∀ k, (darkTo g vals p k).time = p.time
 | 0=>rfl
 | k + 1=>by
  rw [darkTo,Uma]
  split
  ·exact Y5b vals k
  ·rw [Jqd];exact Y5b vals k
def Yn (t:Int):(Jh g p t).time=t:=by rw [Jh];rw [Y5b,settleB,Krc,Krc];dsimp only;rw [settleA,Upe]
def V3 {t:Int} (h:¬ Zt p t):p.time≤t∧t≤2147483648:=by rw [Zt] at h;omega
def Inv.feed (h:Inv g p) {b:List Int} (hb:BytesOk b) (t:Int):Inv g (Yzb g p b t).1:=by
 rw [Yzb];split;·exact h
 ·rename_i hl;exact (h.feedR hb t).settle (V3 hl).1 (V3 hl).2
def Inv.tick (h:Inv g p) (t:Int):Inv g (Yxa g p t).1:=by
 rw [Yxa];split;·exact h
 ·rename_i hl;exact h.settle (V3 hl).1 (V3 hl).2
def Inv.ansSw (h:Inv g p) {s sh:Int} (he:Ys p.sw g.zn g.rp s sh=0):Inv g { p with sw:=Jga p.sw s sh }:=by
 rw [Ys,if_neg (by rw [h.fe];decide)] at he;split at he;·cases he
 rename_i h1;split at he;·cases he
 rename_i h2;have hg:=Kfe h.fe s.toNat za;have k:SwKeep p.sw (Jga p.sw s sh) p.time:=(SwKeep.refl h.fe p.time).set rfl (.inl rfl) zu (fun h3=>by
  dsimp only at h3;split at h3;·exact absurd h3.1 ze
  ·
   rename_i h4;rcases h3.2 with h5 | h5;·exact hg.2 ⟨h3.1,.inl h5⟩
   ·exact h4 h5)
 exact h.sws k
def Inv.answer (h:Inv g p) (s sh t:Int):Inv g (J6a g p s sh t).1:=by
 rw [J6a];split;·exact h
 rename_i hl;split;·exact h
 rename_i he;exact (h.ansSw (Decidable.not_not.1 he)).settle (V3 hl).1 (V3 hl).2
def Inv.ask (h:Inv g p) (a z t:Int):Inv g (Vtd g p a z t).1:=by
 rw [Vtd];split;·exact h
 rename_i hl;have hs:=h.settle (V3 hl).1 (V3 hl).2;dsimp only;split;·exact hs.note _ _ _
 ·
  rename_i he;have he:askE g.site (Jh g p t).cuts (flP g (Jh g p t)) (Jh g p t).rest a z t=0:=Decidable.not_not.1 he;have e:askR g.site (Jh g p t).cuts (flP g (Jh g p t)) (Jh g p t).rest a z t=⟨z,a,-1,1,t⟩:=by rw [askR,if_pos he]
  have h1:Inv g { Jh g p t with rest:=askR g.site (Jh g p t).cuts (flP g (Jh g p t)) (Jh g p t).rest a z t }:=by
   refine { hs with rest:=?_ };rw [e];refine ⟨by have:=h.time;have:=V3 hl;dsimp only;omega,.inr ?_⟩;rw [askE] at he;split at he;·omega
   split at he;·cases he
   split at he;·cases he
   exact K9b he
  exact h1.note _ _ _
def Inv.confirm (h:Inv g p) (a t:Int):Inv g (Za g p a t).1:=by
 rw [Za];split;·exact h
 rename_i hl;have hs:=h.settle (V3 hl).1 (V3 hl).2;dsimp only;split;·exact hs.note _ _ _
 ·
  rename_i he;have he:confirmE g.site (Jh g p t).cuts (flP g (Jh g p t)) (Jh g p t).rest a t=0:=Decidable.not_not.1 he;have h1:Inv g { Jh g p t with rest:=confirmR g.site (Jh g p t).cuts (flP g (Jh g p t)) (Jh g p t).rest a t }:=by refine { hs with rest:=?_ };rw [confirmR,if_pos he];exact ⟨by have:=h.time;have:=V3 hl;dsimp only;omega,hs.rest.2⟩
  exact h1.note _ _ _
def Inv.close (h:Inv g p) (t:Int):Inv g (Vfa g p t).1:=by
 rw [Vfa];split;·exact h
 rename_i hl;have hs:=h.settle (V3 hl).1 (V3 hl).2;dsimp only;generalize hq:Jh g p t=q at hs ⊢;have ht:q.time=t:=by rw [← hq];exact Yn ..
 split;·exact hs.note _ _ _
 ·
  rename_i he;have he:V0 g.site q.cuts (flP g q) q.rest (mkF g q) t=0:=Decidable.not_not.1 he;have k:SwKeep q.sw (Yx g.site q.cuts (flP g q) q.rest (mkF g q) t) q.time:=by rw [Yx,if_neg (by rw [he];decide),Vyc];exact (SwKeep.refl hs.fe q.time).set rfl (.inr ht.symm) (by show (-1:Int)≤0∧(0:Int)≤1;decide) zo
  have hc:(Z0 g.site q.cuts (flP g q) q.rest (mkF g q) t).length=q.cuts.length:=by rw [Z0,if_neg (by rw [he];decide)];split <;> simp
  have hr:0≤(Y6 g.site q.cuts (flP g q) q.rest (mkF g q) t).time∧((Y6 g.site q.cuts (flP g q) q.rest (mkF g q) t).zone= -1∨(0≤(Y6 g.site q.cuts (flP g q) q.rest (mkF g q) t).zone∧(Y6 g.site q.cuts (flP g q) q.rest (mkF g q) t).zone < (Z0 g.site q.cuts (flP g q) q.rest (mkF g q) t).length)):=by
   rw [hc,Y6,if_neg (by rw [he];decide)];split;·exact ⟨by decide,.inl rfl⟩
   ·exact ⟨by have:=h.time;have:=V3 hl;dsimp only;omega,hs.rest.2⟩
  exact Inv.note (p:={ q with rest:=Y6 g.site q.cuts (flP g q) q.rest (mkF g q) t,cuts:=Z0 g.site q.cuts (flP g q) q.rest (mkF g q) t,sw:=Yx g.site q.cuts (flP g q) q.rest (mkF g q) t }) { (hs.sws k) with clen:=hc.trans hs.clen,rest:=hr } _ _ _
end
end
section
structure XSta where
 site:XSite
 time:Int
 held:Arr Int
 dropped:Int
 meas:Arr XMeas
 watches:Arr XWatch
 cuts:Arr XCut
 feeder:XFeeder
 rest:XRest
 log:Arr XEntry
def XSta.cells (x:XSta):List Value:=[x.site.air.mine.places.val,x.site.air.mine.roads.val,x.site.air.fans.val,x.site.air.doors.val,x.site.sensors.val,x.site.conds.val,x.site.zones.val,x.site.persons.val,.int .i64 x.time,x.held.val,.int .i64 x.dropped,x.meas.val,x.watches.val,x.cuts.val,x.feeder.switches.val,x.feeder.zones.val,.int .i64 x.feeder.reply,.int .i64 x.rest.zone,.int .i64 x.rest.first,.int .i64 x.rest.second,.int .i64 x.rest.step,.int .i64 x.rest.time,x.log.val]
abbrev XSta.val (x:XSta):Value:=.agg #[x.site.air.mine.places.val,x.site.air.mine.roads.val,x.site.air.fans.val,x.site.air.doors.val,x.site.sensors.val,x.site.conds.val,x.site.zones.val,x.site.persons.val,.int .i64 x.time,x.held.val,.int .i64 x.dropped,x.meas.val,x.watches.val,x.cuts.val,x.feeder.switches.val,x.feeder.zones.val,.int .i64 x.feeder.reply,.int .i64 x.rest.zone,.int .i64 x.rest.first,.int .i64 x.rest.second,.int .i64 x.rest.step,.int .i64 x.rest.time,x.log.val]
structure StaR (x:XSta) (R:LS):Prop where
 site:SiteR x.site R
 held:InR (bsl x.held) R
 meas:InR (Yf x.meas) R
 watches:InR (Jze x.watches) R
 cuts:InR (Joc x.cuts) R
 feeder:FeederR x.feeder R
 log:InR (Z5 x.log) R
def StaR.mono {x:XSta} {R U:LS} (h:StaR x R) (k:∀r∈R,InR r U):StaR x U:=⟨h.site.mono k,h.held.mono k,h.meas.mono k,h.watches.mono k,h.cuts.mono k,h.feeder.mono k,h.log.mono k⟩
structure StaIs (g:PSite) (p:PSta) (x:XSta):Prop where
 site:SiteE x.site g.site
 time:x.time=p.time
 held:x.held.l=p.held
 dropped:x.dropped=p.dropped
 meas:x.meas.l=p.meas
 watches:x.watches.l=p.watches
 cuts:x.cuts.l=p.cuts
 sw:x.feeder.switches.l=p.sw
 zn:x.feeder.zones.l=g.zn
 rp:x.feeder.reply=g.rp
 rest:x.rest=p.rest
 log:x.log.l=p.log
end
end Go.Proofs.YtchfclmokpbldaaGreat
