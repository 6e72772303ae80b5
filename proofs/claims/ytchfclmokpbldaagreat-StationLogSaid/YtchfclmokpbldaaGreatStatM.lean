/-
  Texts of one chapter, merged. By an AI agent; no person has read it.
-/
import Derived.Test.YtchfclmokpbldaaGreatData
import Derived.Test.YtchfclmokpbldaaGreatFeedT
import Derived.Test.YtchfclmokpbldaaGreatWinR
set_option linter.unusedVariables false
set_option linter.unusedSimpArgs false
set_option maxRecDepth 20000
namespace Go.Proofs.YtchfclmokpbldaaGreat
open Go.Aw Go
section
def V3f (x:Int) (k:Nat):Int:=x / 2 ^ k % 2
def V2f (a b:Int):Int:=((a.toNat ^^^ b.toNat:Nat):Int)
def Kgb (r b:Int):Int:=if r / 32768=b then 2 * r % 65536 else V2f (2 * r % 65536) 4129
def Yrb (r x : Int) : Nat → Int
  | 0=>r
  | k + 1=>Kgb (Yrb r x k) (V3f x (7 - k))
def Yxc (r x:Int):Int:=Yrb r x 8
def Jtb (l:List Int):Int:=l.foldl Yxc 65535
def Crc (r:Int):Prop:=0≤r∧r < 65536
theorem Vod {r:Int} (b:Int) (h:Crc r):Crc (Kgb r b):=by
  obtain ⟨h1,h2⟩:=h
  have hm:0≤2 * r % 65536∧2 * r % 65536 < 65536:=by omega
  rw [Kgb]
  split
  · exact hm
  · refine ⟨Int.natCast_nonneg _, ?_⟩
    have:(2 * r % 65536).toNat ^^^ (4129:Int).toNat < 2 ^ 16:=Nat.xor_lt_two_pow za zc
    rw [V2f];omega
theorem Uob {r : Int} (x : Int) (h : Crc r) : ∀ k, Crc (Yrb r x k)
  | 0=>h
  | k + 1=>Vod _ (Uob x h k)
theorem Zvb : ∀ (l : List Int) {r : Int}, Crc r → Crc (l.foldl Yxc r)
  | [],_,h=>h
  | x :: l,_,h=>Zvb l (Uob x h 8)
theorem Khc (l:List Int):Crc (Jtb l):=Zvb l ⟨by decide,by decide⟩
theorem V2c {l:List Int} {k:Nat} {x:Int} (h:l[k]?=some x):Jtb (l.take (k + 1))=Yxc (Jtb (l.take k)) x:=by
  rw [List.take_add_one,h,Jtb,List.foldl_append];rfl
structure XTele where
  address:Int
  kind:Int
  data:List Int
  deriving DecidableEq,Inhabited
def Jja (l:List Int):Prop:=l.getD 0 0≠126∨(1 < l.length∧64 < l.getD 1 0)
instance (l:List Int):Decidable (Jja l):=by unfold Jja;exact inferInstance
def U5 (l:List Int):Prop:=(l.length:Int) < 2∨(l.length:Int) < l.getD 1 0 + 6
instance (l:List Int):Decidable (U5 l):=by unfold U5;exact inferInstance
def lenT (l:List Int):Nat:=(l.getD 1 0).toNat
def Ypb (l:List Int):Int:=l.getD (4 + lenT l) 0 * 256 + l.getD (5 + lenT l) 0
def K9b (l:List Int):List Int:=(l.take (4 + lenT l)).drop 1
def J7d (l:List Int):XTele:=⟨l.getD 2 0,l.getD 3 0,(l.take (4 + lenT l)).drop 4⟩
structure XFed where
  held:List Int
  dropped:Int
  out:List XTele
  deriving DecidableEq,Inhabited
def Uz (l:List Int) (d:Int):XFed:=
  if hl:l=[] then ⟨[],d,[]⟩
  else if Jja l then Uz l.tail (d + 1)
  else if U5 l then ⟨l,d,[]⟩
  else if Jtb (K9b l)≠Ypb l then Uz l.tail (d + 1)
  else ⟨(Uz (l.drop (lenT l + 6)) d).held,(Uz (l.drop (lenT l + 6)) d).dropped,J7d l :: (Uz (l.drop (lenT l + 6)) d).out⟩
termination_by l.length
decreasing_by
  all_goals have:=List.length_pos_iff.2 hl
  all_goals simp only [List.length_tail,List.length_drop];omega
theorem Jhb (d:Int):Uz [] d=⟨[],d,[]⟩:=by rw [Uz,dif_pos rfl]
theorem Z1 {l:List Int} {d:Int} (h:l≠[]) (h1:Jja l∨(¬ U5 l∧Jtb (K9b l)≠Ypb l)):Uz l d=Uz l.tail (d + 1):=by
  rw [Uz,dif_neg h]
  split
  · rfl
  · rename_i h2
    rcases h1 with h1 | ⟨h3,h4⟩
    · exact absurd h1 h2
    · rw [if_neg h3,if_pos h4]
theorem Yna {l:List Int} {d:Int} (h:l≠[]) (h1:¬ Jja l) (h2:U5 l):Uz l d=⟨l,d,[]⟩:=by rw [Uz,dif_neg h,if_neg h1,if_pos h2]
theorem Yga {l:List Int} {d:Int} (h:l≠[]) (h1:¬ Jja l) (h2:¬ U5 l) (h3:Jtb (K9b l)=Ypb l):Uz l d=⟨(Uz (l.drop (lenT l + 6)) d).held,(Uz (l.drop (lenT l + 6)) d).dropped,J7d l :: (Uz (l.drop (lenT l + 6)) d).out⟩:=by
  rw [Uz,dif_neg h,if_neg h1,if_neg h2,if_neg (by rw [h3];exact fun h=>h rfl)]
def BytesOk (l:List Int):Prop:=∀x∈l,0≤x∧x≤255
theorem BytesOk.at {l:List Int} (h:BytesOk l) (i:Nat):0≤l.getD i 0∧l.getD i 0≤255:=by
  rcases Nat.lt_or_ge i l.length with hi | hi
  · exact h _ (List.mem_of_getElem? (Jw (l:=l) (k:=i) 0 hi))
  · rw [List.getD_eq_getElem?_getD,List.getElem?_eq_none hi];decide
theorem Uuc {l:List Int} (h:BytesOk l) (h2:¬ U5 l):lenT l + 6≤l.length∧((lenT l:Nat):Int)=l.getD 1 0:=by
  have:=h.at 1
  rw [U5] at h2
  rw [lenT];omega
def Vaa (f:XTele):List Int:=126 :: (f.data.length:Int) :: f.address :: f.kind :: f.data
def Y8b (f:XTele):List Int:=Vaa f ++ [Jtb (Vaa f).tail / 256,Jtb (Vaa f).tail % 256]
theorem Vtd (f:XTele):(Y8b f).length=f.data.length + 6:=by simp [Y8b,Vaa]
end
section
structure XEntry where
  time:Int
  kind:Int
  target:Int
  value:Int
  deriving DecidableEq,Inhabited
def XEntry.cells (x:XEntry):List Value:=[.int .i64 x.time,.int .i64 x.kind,.int .i64 x.target,.int .i64 x.value]
abbrev Yw (x:Arr XEntry):Sl:=x.sl 4 XEntry.cells []
structure PSta where
  time:Int
  held:List Int
  dropped:Int
  meas:List XMeas
  watches:List XWatch
  cuts:List XCut
  sw:List XSwitch
  rest:XRest
  log:List XEntry
structure PSite where
  site:XSite
  zn:List Int
  rp:Int
  air:List Bool
def Ubc (S:List XSens) (kind target:Int):Option Nat:=(List.range S.length).find? fun i=>decide ((S.getD i default).kind=kind∧(S.getD i default).target=target)
def Jva (S:List XSens) (m:List XMeas) (t kind target n:Int):Int:=
  match Ubc S kind target with
  | none=>-1
  | some i=>if (Y6 S m (i:Int) t).low=(Y6 S m (i:Int) t).high∧0≤(Y6 S m (i:Int) t).low∧(Y6 S m (i:Int) t).low < n then (Y6 S m (i:Int) t).low else -1
theorem Zcb (S:List XSens) (m:List XMeas) (t kind target n:Int) (hn:0≤n):-1≤Jva S m t kind target n∧(Jva S m t kind target n < n∨Jva S m t kind target n= -1):=by
  rw [Jva]
  split
  · omega
  · split <;> omega
def Zia (s:XSite) (m:List XMeas) (t:Int) (k:Nat):List Int:=(List.range k).map fun (i:Nat)=>Jva s.sensors.l m t 5 (i:Int) 3
def K4a (s:XSite) (m:List XMeas) (t:Int) (k:Nat):List Int:=(List.range k).map fun (i:Nat)=>Jva s.sensors.l m t 6 (i:Int) ((s.air.doors.l.getD i default).rests.l.length:Int)
def Kce (s:XSite) (m:List XMeas) (t:Int):Sts:=(Zia s m t s.air.fans.l.length,K4a s m t s.air.doors.l.length)
def Vca (s:XSite) (A:List Bool) (m:List XMeas) (t:Int):List XSpan:=(Kwe (flS s.air A (Kce s m t)) nothingS 3 s.sensors.l m t).out
theorem Ukd (s:XSite) (m:List XMeas) (t:Int) (k:Nat):Zia s m t (k + 1)=Zia s m t k ++ [Jva s.sensors.l m t 5 (k:Int) 3]:=by rw [Zia,List.range_succ,List.map_append];rfl
theorem Zgc (s:XSite) (m:List XMeas) (t:Int) (k:Nat):K4a s m t (k + 1)=K4a s m t k ++ [Jva s.sensors.l m t 6 (k:Int) ((s.air.doors.l.getD k default).rests.l.length:Int)]:=by rw [K4a,List.range_succ,List.map_append];rfl
theorem U0b (s:XSite) (m:List XMeas) (t:Int) (k:Nat):(Zia s m t k).length=k:=by simp [Zia]
theorem Jrb (s:XSite) (m:List XMeas) (t:Int) (k:Nat):(K4a s m t k).length=k:=by simp [K4a]
theorem Jsd {s:XSite} (m:List XMeas) (t:Int):Vja s.air (mkS (Kce s m t))=true:=by
  refine V1d ⟨U0b .., Jrb .., fun i x hx=>?_,fun i x d hx hd=>?_⟩
  · have hx : (Zia s m t s.air.fans.l.length)[i]? = some x := hx
    rw [Zia,List.getElem?_map] at hx
    obtain ⟨hi,-⟩:=List.getElem?_eq_some_iff.1 (show (Zia s m t s.air.fans.l.length)[i]?=some x from by rw [Zia,List.getElem?_map];exact hx)
    rw [U0b] at hi
    rw [List.getElem?_range hi] at hx
    have e:=Option.some.inj hx
    have:=Zcb s.sensors.l m t 5 (i:Int) 3 zc
    dsimp only at e
    rw [← e];omega
  · have hx : (K4a s m t s.air.doors.l.length)[i]? = some x := hx
    obtain ⟨hi,-⟩:=List.getElem?_eq_some_iff.1 hx
    rw [Jrb] at hi
    rw [K4a,List.getElem?_map,List.getElem?_range hi] at hx
    have e:=Option.some.inj hx
    have hg:=getD_some (d:=default) hd
    have:=Zcb s.sensors.l m t 6 (i:Int) ((s.air.doors.l.getD i default).rests.l.length:Int) za
    rw [hg] at this
    dsimp only at e
    rw [← e,hg];omega
def Vta (l:List XEntry) (e:XEntry):List XEntry:=(l ++ [e]).drop (l.length + 1 - 400)
theorem Upd {l:List XEntry} (e:XEntry):(Vta l e).length≤400:=by rw [Vta,List.length_drop,List.length_append];simp;omega
def Yi (p:PSta) (kind target value:Int):PSta:={ p with log:=Vta p.log ⟨p.time,kind,target,value⟩ }
def K3b (g:PSite) (p:PSta) (z:Int):PSta:=
  let p1:=Yi p 1 z (p.cuts.getD z.toNat default).reason
  let s:=g.zn.getD z.toNat 0
  let p2:PSta:={ p1 with sw:=Vl p.sw s p.time }
  if (p.sw.getD s.toNat default).closed=true then Yi p2 2 s 0 else p2
def Vga (g:PSite) (p:PSta) (l:List Int):PSta:=l.foldl (K3b g) p
def Yr (kind:Int) (p:PSta) (l:List Int):PSta:=l.foldl (fun p x=>Yi p kind x 0) p
def Zse (g:PSite) (sw:List XSwitch) (z:Nat):Bool:=(V1a sw g.zn g.rp (g.zn.getD z 0)).any fun k=>!(sw.getD k.toNat default).closed || decide ((sw.getD k.toNat default).shown= -1)
def Kta (g:PSite) (vals:List Int) (p:PSta) (z:Nat):PSta:=
  if (p.cuts.getD z default).off=true∨Zse g p.sw z=false then p
  else K3b g { p with cuts:=p.cuts.set z ⟨true,(p.cuts.getD z default).clear,J1a (g.site.zones.l.getD z default).rule.l vals⟩ } (z:Int)
def darkTo (g : PSite) (vals : List Int) (p : PSta) : Nat → PSta
  | 0=>p
  | k + 1=>Kta g vals (darkTo g vals p k) k
def Zmb (c:List XCut) (r:XRest):Prop:=r.zone= -1∨((0≤r.zone∧r.zone < c.length)∧(c.getD r.zone.toNat default).off=true∧(c.getD r.zone.toNat default).clear≠-1)
instance (c:List XCut) (r:XRest):Decidable (Zmb c r):=by unfold Zmb;infer_instance
def Zt (c:List XCut) (r:XRest):XRest:=if Zmb c r then r else noRest
def flP (g:PSite) (p:PSta):List XSpan:=Vca g.site g.air p.meas p.time
def Kja (g:PSite) (p:PSta):List Int:=valuesV g.site p.meas p.watches (flP g p) p.time
def settleA (g:PSite) (p:PSta):PSta:=
  Vga g { p with watches:=valuesW g.site p.meas p.watches (flP g p) p.time,cuts:=cutsC g.site (Kja g p) p.cuts p.time } (cutsN g.site (Kja g p) p.cuts p.time)
def settleB (g:PSite) (p:PSta):PSta:=
  Yr 2 (Yr 3 { p with rest:=Zt p.cuts p.rest,sw:=(Yg p.sw g.rp p.time).sw } (Yg p.sw g.rp p.time).late) (Yg p.sw g.rp p.time).opened
def Jd (g:PSite) (p0:PSta) (t:Int):PSta:=
  let p:={ p0 with time:=t }
  let q:=settleB g (settleA g p)
  darkTo g (Kja g p) q q.cuts.length
def Jia (p:PSta) (t:Int):Prop:=t < p.time∨2147483648 < t
instance (p:PSta) (t:Int):Decidable (Jia p t):=by unfold Jia;infer_instance
def Jna (S:List XSens) (ad:Int):Int:=(((List.range S.length).find? fun i=>decide ((S.getD i default).address=ad)).map Int.ofNat).getD (-1)
end
section
structure Inv (g:PSite) (p:PSta):Prop where
  site:K2 g.site=0
  airy:AiryIs g.site.air.mine g.air
  time:0≤p.time∧p.time≤2147483648
  meas:p.meas.length=g.site.sensors.l.length
  mok:∀x∈p.meas,Kna x
  wlen:p.watches.length=g.site.conds.l.length
  wok:∀w∈p.watches,Kxa w∧w.last≤p.time
  clen:p.cuts.length=g.site.zones.l.length
  fe:feedE p.sw g.zn g.rp=0
  since:∀x∈p.sw,x.since≤p.time
  zlen:g.zn.length=g.site.zones.l.length
  rest:0≤p.rest.time∧(p.rest.zone= -1∨(0≤p.rest.zone∧p.rest.zone < p.cuts.length))
  log:p.log.length≤400
  held:BytesOk p.held∧p.held.length≤70
section
variable {g:PSite} {p:PSta}
theorem Inv.sok (h:Inv g p):SiteOk g.site:=Za h.site
theorem Inv.fok (h:Inv g p):FeedOk p.sw g.zn g.rp:=Vy h.fe
theorem Inv.air (h:Inv g p):Ky g.site.air=0:=h.sok.air
theorem Inv.tok (h:Inv g p):Vba p.sw p.time:=⟨h.time,h.since⟩
theorem Inv.at (h:Inv g p) {t:Int} (h1:p.time≤t) (h2:t≤2147483648):Inv g { p with time:=t }:=
  { h with time:=⟨by have:=h.time;dsimp only;omega,h2⟩,wok:=fun w hw=>⟨(h.wok w hw).1,by have:=(h.wok w hw).2;dsimp only;omega⟩,since:=fun x hx=>by have:=h.since x hx;dsimp only;omega }
theorem Inv.note (h:Inv g p) (kind target value:Int):Inv g (Yi p kind target value):={ h with log:=by show (Vta p.log _).length≤400;exact Upd _ }
theorem Inv.sws (h:Inv g p) {sw:List XSwitch} (k:SwKeep p.sw sw p.time):Inv g { p with sw:=sw }:=
  { h with fe:=k.feedE h.fe h.time,since:=(k.time h.tok).2 }
theorem Inv.cut (h:Inv g p) (z:Int):Inv g (K3b g p z):=by
  have h1:=h.note 1 z (p.cuts.getD z.toNat default).reason
  have h2:=h1.sws (sw:=Vl p.sw (g.zn.getD z.toNat 0) p.time) ((SwKeep.refl h.fe p.time).openS _)
  rw [K3b]
  split
  · exact h2.note _ _ _
  · exact h2
theorem Jse : ∀ (l : List Int) {p : PSta}, Inv g p → Inv g (Vga g p l)
  | [],_,h=>h
  | z :: l,_,h=>Jse l (h.cut z)
theorem Inv.cuts (h:Inv g p) (l:List Int):Inv g (Vga g p l):=Jse l h
theorem Jvd (kind : Int) : ∀ (l : List Int) {p : PSta}, Inv g p → Inv g (Yr kind p l)
  | [],_,h=>h
  | z :: l,_,h=>Jvd kind l (h.note kind z 0)
theorem Inv.notes (kind:Int) (h:Inv g p) (l:List Int):Inv g (Yr kind p l):=Jvd kind l h
theorem Z4a (z:Int):(K3b g p z).cuts=p.cuts:=by
  rw [K3b]
  split <;> rfl
theorem Inv.flLen (h:Inv g p):(flP g p).length=g.site.air.mine.roads.l.length:=by
  rw [flP,Vca,Kwe,(K7c ..).1,flS]
  exact V5d h.air (Jsd _ _) h.airy
theorem K5e {S:List XSens} {n:Nat} {c:XCond} (h:Ko S n c=0) (hk:c.kind=1):Z0 c.level:=by
  rw [Ko] at h
  split at h
  · omega
  split at h
  · omega
  rw [Jga] at h
  split at h
  · assumption
  · omega
theorem Inv.valErr (h:Inv g p):valuesErr g.site p.meas p.watches (flP g p) p.time=0:=by
  have ht:=h.time
  rw [valuesErr,if_neg (by rw [h.site];decide),if_neg (by rw [h.meas,h.wlen,h.flLen];simp),if_neg za]
  have:(List.range p.watches.length).findSome? (fun i=>nzO (Z9b (g.site.conds.l.getD i default) (p.watches.getD i default) p.time))=none:=by
    rw [List.findSome?_eq_none_iff]
    intro i hi
    rw [List.mem_range] at hi
    have hw:=h.wok _ (List.mem_of_getElem? (Jw (l:=p.watches) (k:=i) default hi))
    have hc:=h.sok.cond _ (List.mem_of_getElem? (Jw (l:=g.site.conds.l) (k:=i) default (by rw [← h.wlen];exact hi)))
    rw [nzO,if_pos]
    rw [Z9b]
    split
    · rename_i hk
      exact Jac (K5e hc hk) za hw.1
    · rfl
  rw [this];rfl
theorem Z9d (l:XLevel) {w:XWatch} (x:XSpan) {t:Int} (ht:0≤t) (h:Kxa w) (hl:w.last≤t):Kxa (Y5 l w x t)∧(Y5 l w x t).last≤t:=by
  obtain ⟨h1,h2,h3,h4⟩:=h
  rw [Y5]
  repeat' split
  all_goals refine ⟨⟨ht,?_,?_,?_⟩,Int.le_refl _⟩
  all_goals dsimp only
  all_goals first | omega | exact .inl rfl | exact .inr rfl | (rcases h4 with h4 | h4;exact .inl h4;simp_all)
theorem Inv.valLen (h:Inv g p):(Kja g p).length=g.site.conds.l.length:=by
  rw [Kja,valuesV,if_neg (by rw [h.valErr];decide),List.length_map,List.length_range,h.wlen]
theorem Inv.cutErr (h:Inv g p):cutsErr g.site (Kja g p) p.cuts p.time=0:=by
  have ht:=h.time
  rw [cutsErr,if_neg (by rw [h.site];decide),if_neg (by rw [h.valLen,h.clen];simp),if_neg za]
theorem Inv.sA (h:Inv g p):Inv g { p with watches:=valuesW g.site p.meas p.watches (flP g p) p.time,cuts:=cutsC g.site (Kja g p) p.cuts p.time }:=by
  have hw:(valuesW g.site p.meas p.watches (flP g p) p.time).length=p.watches.length:=by
    rw [valuesW,if_neg (by rw [h.valErr];decide),List.length_map,List.length_range]
  have hc:(cutsC g.site (Kja g p) p.cuts p.time).length=p.cuts.length:=by
    rw [cutsC,if_neg (by rw [h.cutErr];decide),List.length_map,List.length_range]
  refine { h with wlen:=hw.trans h.wlen,wok:=fun w hm=>?_,clen:=hc.trans h.clen,rest:=by rw [hc];exact h.rest }
  have hm:w∈valuesW g.site p.meas p.watches (flP g p) p.time:=hm
  rw [valuesW,if_neg (by rw [h.valErr];decide),List.mem_map] at hm
  obtain ⟨i,hi,rfl⟩:=hm
  rw [List.mem_range] at hi
  have hw:=h.wok _ (List.mem_of_getElem? (Jw (l:=p.watches) (k:=i) default hi))
  show Kxa (U9a _ _ _ _ _)∧(U9a _ _ _ _ _).last≤p.time
  rw [U9a]
  split
  · exact Z9d _ _ h.time.1 hw.1 hw.2
  · exact hw
theorem Inv.settleA (h:Inv g p):Inv g (settleA g p):=h.sA.cuts _
theorem J2d (c:List XCut) (r:XRest) (h:0≤r.time):0≤(Zt c r).time∧((Zt c r).zone= -1∨(0≤(Zt c r).zone∧(Zt c r).zone < c.length)):=by
  rw [Zt]
  split
  · rename_i hk
    rw [Zmb] at hk
    exact ⟨h,hk.imp_right fun h=>h.1⟩
  · exact ⟨by decide,.inl rfl⟩
theorem Inv.settleB (h:Inv g p):Inv g (settleB g p):=by
  have h1:Inv g { p with rest:=Zt p.cuts p.rest }:={ h with rest:=J2d _ _ h.rest.1 }
  have h2:=h1.sws (sw:=(Yg p.sw g.rp p.time).sw) (Uha h.fe _ (Nat.le_refl _))
  exact (h2.notes 3 _).notes 2 _
theorem Inv.dark (h:Inv g p) (vals:List Int) (z:Nat):Inv g (Kta g vals p z):=by
  rw [Kta]
  split
  · exact h
  · refine Inv.cut (p := { p with cuts := p.cuts.set z ⟨true, (p.cuts.getD z default).clear, J1a (g.site.zones.l.getD z default).rule.l vals⟩ }) ?_ _
    exact { h with clen:=by show (p.cuts.set _ _).length=_;rw [List.length_set];exact h.clen,rest:=by show _∧(_∨(_∧_ < ((p.cuts.set _ _).length:Int)));rw [List.length_set];exact h.rest }
theorem Inv.darkTo (h : Inv g p) (vals : List Int) : ∀ k, Inv g (darkTo g vals p k)
  | 0=>h
  | k + 1=>(Inv.darkTo h vals k).dark vals k
theorem Inv.settle (h:Inv g p) {t:Int} (h1:p.time≤t) (h2:t≤2147483648):Inv g (Jd g p t):=((h.at h1 h2).settleA.settleB).darkTo _ _
theorem V4b (z:Int):(K3b g p z).time=p.time:=by
  rw [K3b]
  split <;> rfl
end
end
section
attribute [local irreducible] CJ LJ DJ Tri YV Gives Ui J0 Ke Uh RV J2 OwL.L
def Umd (k:Int):Int:=if k=6 then 5 else if k=5 then 2 else 1
def Yme (s:XSens) (r:Int):XSpan:=⟨s.offset + s.scale * r / 1000 - s.error,s.offset + -((-(s.scale * r)) / 1000) + s.error⟩
def Uca (s:XSens) (r:Int):XSpan:=
  if Uy s≠0∨¬ (0≤r∧r≤65535) then nothingS
  else if 4≤s.kind then if Umd s.kind < r then nothingS else ⟨r,r⟩
  else if s.kind=1∨s.kind=2 then ⟨max (Yme s r).low 0,max (Yme s r).high 0⟩ else Yme s r
theorem Vlb {s:XSens} (h:Uy s=0):Zb s:=by
  rw [Uy] at h
  split at h
  · omega
  split at h
  · assumption
  · omega
theorem V7d {s:XSens} {r:Int} (h:Uy s=0) (hr:0≤r∧r≤65535):-65535000000≤s.scale * r∧s.scale * r≤65535000000:=by
  have hs:=Vlb h
  rw [Zb] at hs
  have h1:s.scale * r≤1000000 * r:=Int.mul_le_mul_of_nonneg_right za hr.1
  have h2:-1000000 * r≤s.scale * r:=Int.mul_le_mul_of_nonneg_right za hr.1
  omega
end
section
def U7 (S:List XSens) (f:XTele) (t:Int):Int:=
  if t < 0∨2147483648 < t then 8
  else if Jna S f.address < 0∨Uy (S.getD (Jna S f.address).toNat default)≠0 then 9
  else if f.kind≠1∧f.kind≠2 then 5
  else if f.kind=1∧f.data.length≠2∨f.kind=2∧f.data.length≠0 then 6 else 0
def Vob (S:List XSens) (f:XTele) (t:Int):XMeas:=
  ⟨Jna S f.address,t,if f.kind=1 then Uca (S.getD (Jna S f.address).toNat default) (f.data.getD 0 0 * 256 + f.data.getD 1 0) else nothingS⟩
def Jub (S:List XSens) (t:Int) (m:List XMeas) (f:XTele):List XMeas:=if U7 S f t=0 then m.set (Jna S f.address).toNat (Vob S f t) else m
def feedR (g:PSite) (p:PSta) (b:List Int) (t:Int):PSta:=
  { p with held:=(Uz (p.held ++ b) p.dropped).held,dropped:=(Uz (p.held ++ b) p.dropped).dropped,meas:=(Uz (p.held ++ b) p.dropped).out.foldl (Jub g.site.sensors.l t) p.meas }
def K8b (g:PSite) (p:PSta) (b:List Int) (t:Int):PSta×Int:=if Jia p t then (p,8) else (Jd g (feedR g p b t) t,0)
def Uab (g:PSite) (p:PSta) (t:Int):PSta×Int:=if Jia p t then (p,8) else (Jd g p t,0)
def Zr (g:PSite) (p:PSta) (s sh t:Int):PSta×Int:=
  if Jia p t then (p,8) else if V2 p.sw g.zn g.rp s sh≠0 then (p,V2 p.sw g.zn g.rp s sh) else (Jd g { p with sw:=Zl p.sw s sh } t,0)
def Yjc (g:PSite) (p:PSta) (person zone t:Int):PSta×Int:=
  if Jia p t then (p,8)
  else
    let q:=Jd g p t
    let e:=askE g.site q.cuts (flP g q) q.rest person zone t
    if e≠0 then (Yi q 7 zone e,e) else (Yi { q with rest:=askR g.site q.cuts (flP g q) q.rest person zone t } 4 zone person,0)
def V7 (g:PSite) (p:PSta) (person t:Int):PSta×Int:=
  if Jia p t then (p,8)
  else
    let q:=Jd g p t
    let e:=confirmE g.site q.cuts (flP g q) q.rest person t
    if e≠0 then (Yi q 7 q.rest.zone e,e) else (Yi { q with rest:=confirmR g.site q.cuts (flP g q) q.rest person t } 5 q.rest.zone person,0)
def mkF (g:PSite) (p:PSta):XFeeder:=⟨⟨none,0,p.sw⟩,⟨none,0,g.zn⟩,g.rp⟩
def Kma (g:PSite) (p:PSta) (t:Int):PSta×Int:=
  if Jia p t then (p,8)
  else
    let q:=Jd g p t
    let e:=Vg g.site q.cuts (flP g q) q.rest (mkF g q) t
    if e≠0 then (Yi q 7 q.rest.zone e,e)
    else (Yi { q with rest:=Yf g.site q.cuts (flP g q) q.rest (mkF g q) t,cuts:=Vw g.site q.cuts (flP g q) q.rest (mkF g q) t,sw:=Vj g.site q.cuts (flP g q) q.rest (mkF g q) t } 6 (atR (mkF g q) q.rest.zone) 0,0)
theorem Uod {S:List XSens} {ad:Int} (h:¬ Jna S ad < 0):(Jna S ad).toNat < S.length∧0≤Jna S ad:=by
  rw [Jna] at h ⊢
  cases hf:(List.range S.length).find? (fun i=>decide ((S.getD i default).address=ad)) with
  | none=>rw [hf] at h;exact absurd zc h
  | some i=>
    have:=List.mem_of_find?_eq_some hf
    rw [List.mem_range] at this
    exact ⟨this,Int.natCast_nonneg i⟩
theorem Zmd (S:List XSens) (t:Int) (m:List XMeas) (f:XTele):(Jub S t m f).length=m.length:=by
  rw [Jub];split <;> simp
theorem Ued {a t:Int} (ht:0≤t∧t≤2147483648):Kna ⟨a,t,nothingS⟩:=⟨ht,by show (-1125899906842624:Int)≤ -1125899906842624∧(-1125899906842624:Int)≤1125899906842624;decide,by show (-1125899906842624:Int)≤1125899906842624∧(1125899906842624:Int)≤1125899906842624;decide⟩
theorem Z7b (s:XSens) (r:Int):(-1125899906842624≤(Uca s r).low∧(Uca s r).low≤1125899906842624)∧(-1125899906842624≤(Uca s r).high∧(Uca s r).high≤1125899906842624):=by
  rw [Uca]
  split
  · exact ⟨by decide,by decide⟩
  rename_i h
  have hm:=V7d (s:=s) (r:=r) za za
  have hs:=Vlb (s:=s) za
  rw [Zb] at hs
  split
  · split
    · exact ⟨by decide,by decide⟩
    · dsimp only;omega
  split
  · simp only [Yme];omega
  · simp only [Yme];omega
theorem Vge {S:List XSens} {t:Int} {m:List XMeas} (f:XTele) (h:∀x∈m,Kna x):∀x∈Jub S t m f,Kna x:=by
  rw [Jub]
  split
  · rename_i he
    intro x hx
    rcases List.mem_or_eq_of_mem_set hx with hx | rfl
    · exact h x hx
    · have ht:0≤t∧t≤2147483648:=by
        rw [U7] at he
        split at he
        · cases he
        · omega
      rw [Vob]
      split
      · exact ⟨ht,(Z7b _ _).1,(Z7b _ _).2⟩
      · exact Ued ht
  · exact h
theorem J8c {S : List XSens} {t : Int} : ∀ (l : List XTele) {m : List XMeas}, (∀ x ∈ m, Kna x) → (∀ x ∈ l.foldl (Jub S t) m, Kna x) ∧ (l.foldl (Jub S t) m).length = m.length
  | [],m,h=>⟨h,rfl⟩
  | f :: l,m,h=>by
    have:=J8c (S:=S) (t:=t) l (Vge (S:=S) (t:=t) f h)
    exact ⟨this.1,this.2.trans (Zmd ..)⟩
theorem Zeb:∀(n:Nat) {l:List Int} (d:Int),l.length=n→BytesOk l→(BytesOk (Uz l d).held∧(Uz l d).held.length≤70)∧d≤(Uz l d).dropped∧(Uz l d).dropped≤d + n:=by
  intro n
  induction n using Nat.strongRecOn with
  | ind n ih=>
    intro l d hn hb
    rcases Classical.em (l=[]) with h | h
    · subst h
      rw [Jhb]
      exact ⟨⟨fun x hx=>(by cases hx),Nat.zero_le _⟩,Int.le_refl _,(by show d≤d + (n:Int);omega)⟩
    · have hpos := List.length_pos_iff.2 h
      have hbt:BytesOk l.tail:=fun x hx=>hb x (List.mem_of_mem_tail hx)
      have hskip:=ih l.tail.length (by rw [List.length_tail];omega) (d + 1) rfl hbt
      have hskip2:((l.tail.length:Nat):Int) + 1=n:=by rw [List.length_tail];omega
      rcases Classical.em (Jja l) with h1 | h1
      · rw [Z1 h (.inl h1)]
        exact ⟨hskip.1,by omega,by omega⟩
      · rcases Classical.em (U5 l) with h2 | h2
        · rw [Yna h h1 h2]
          refine ⟨⟨hb,?_⟩,Int.le_refl _,by dsimp only;omega⟩
          have hx:=hb.at 1
          rw [U5] at h2
          rw [Jja] at h1
          have:¬ (1 < l.length∧64 < l.getD 1 0):=fun h=>h1 (.inr h)
          dsimp only
          omega
        · rcases Classical.em (Jtb (K9b l) = Ypb l) with h3 | h3
          · rw [Yga h h1 h2 h3]
            have:=ih (l.drop (lenT l + 6)).length (by rw [List.length_drop];omega) d rfl (fun x hx=>hb x (List.mem_of_mem_drop hx))
            refine ⟨this.1,this.2.1,?_⟩
            have h4:=this.2.2
            rw [List.length_drop] at h4
            dsimp only
            omega
          · rw [Z1 h (.inr ⟨h2, h3⟩)]
            exact ⟨hskip.1,by omega,by omega⟩
section
variable {g:PSite} {p:PSta}
theorem Inv.feedR (h:Inv g p) {b:List Int} (hb:BytesOk b) (t:Int):Inv g (feedR g p b t):=by
  have h1:=J8c (S:=g.site.sensors.l) (t:=t) (Uz (p.held ++ b) p.dropped).out h.mok
  have h2:=Zeb _ (l:=p.held ++ b) p.dropped rfl (fun x hx=>by
    rcases List.mem_append.1 hx with hx | hx
    · exact h.held.1 x hx
    · exact hb x hx)
  exact { h with meas:=h1.2.trans h.meas,mok:=h1.1,held:=h2.1 }
theorem Vnc (l:List Int):(Vga g p l).time=p.time:=by
  induction l generalizing p with
  | nil=>rfl
  | cons z l ih=>exact ih.trans (V4b z)
theorem Uaa (kind:Int) (l:List Int):(Yr kind p l).time=p.time:=by
  induction l generalizing p with
  | nil=>rfl
  | cons z l ih=>exact ih
theorem V5b (vals : List Int) : ∀ k, (darkTo g vals p k).time = p.time
  | 0=>rfl
  | k + 1=>by
    rw [darkTo,Kta]
    split
    · exact V5b vals k
    · rw [V4b];exact V5b vals k
theorem Yc (t:Int):(Jd g p t).time=t:=by
  rw [Jd]
  rw [V5b,settleB,Uaa,Uaa]
  dsimp only
  rw [settleA,Vnc]
theorem K9 {t:Int} (h:¬ Jia p t):p.time≤t∧t≤2147483648:=by
  rw [Jia] at h;omega
theorem Inv.feed (h:Inv g p) {b:List Int} (hb:BytesOk b) (t:Int):Inv g (K8b g p b t).1:=by
  rw [K8b]
  split
  · exact h
  · rename_i hl
    exact (h.feedR hb t).settle (K9 hl).1 (K9 hl).2
theorem Inv.tick (h:Inv g p) (t:Int):Inv g (Uab g p t).1:=by
  rw [Uab]
  split
  · exact h
  · rename_i hl
    exact h.settle (K9 hl).1 (K9 hl).2
theorem Inv.ansSw (h:Inv g p) {s sh:Int} (he:V2 p.sw g.zn g.rp s sh=0):Inv g { p with sw:=Zl p.sw s sh }:=by
  rw [V2,if_neg (by rw [h.fe];decide)] at he
  split at he
  · cases he
  rename_i h1
  split at he
  · cases he
  rename_i h2
  have hg:=Zqd h.fe s.toNat za
  have k:SwKeep p.sw (Zl p.sw s sh) p.time:=(SwKeep.refl h.fe p.time).set rfl (.inl rfl) zx (fun h3=>by
    dsimp only at h3
    split at h3
    · exact absurd h3.1 zc
    · rename_i h4
      rcases h3.2 with h5 | h5
      · exact hg.2 ⟨h3.1,.inl h5⟩
      · exact h4 h5)
  exact h.sws k
theorem Inv.answer (h:Inv g p) (s sh t:Int):Inv g (Zr g p s sh t).1:=by
  rw [Zr]
  split
  · exact h
  rename_i hl
  split
  · exact h
  rename_i he
  exact (h.ansSw (Decidable.not_not.1 he)).settle (K9 hl).1 (K9 hl).2
theorem Inv.ask (h:Inv g p) (a z t:Int):Inv g (Yjc g p a z t).1:=by
  rw [Yjc]
  split
  · exact h
  rename_i hl
  have hs:=h.settle (K9 hl).1 (K9 hl).2
  dsimp only
  split
  · exact hs.note _ _ _
  · rename_i he
    have he:askE g.site (Jd g p t).cuts (flP g (Jd g p t)) (Jd g p t).rest a z t=0:=Decidable.not_not.1 he
    have e:askR g.site (Jd g p t).cuts (flP g (Jd g p t)) (Jd g p t).rest a z t=⟨z,a,-1,1,t⟩:=by rw [askR,if_pos he]
    have h1:Inv g { Jd g p t with rest:=askR g.site (Jd g p t).cuts (flP g (Jd g p t)) (Jd g p t).rest a z t }:=by
      refine { hs with rest:=?_ }
      rw [e]
      refine ⟨by have:=h.time;have:=K9 hl;dsimp only;omega,.inr ?_⟩
      rw [askE] at he
      split at he
      · omega
      split at he
      · cases he
      split at he
      · cases he
      exact J9b he
    exact h1.note _ _ _
theorem Inv.confirm (h:Inv g p) (a t:Int):Inv g (V7 g p a t).1:=by
  rw [V7]
  split
  · exact h
  rename_i hl
  have hs:=h.settle (K9 hl).1 (K9 hl).2
  dsimp only
  split
  · exact hs.note _ _ _
  · rename_i he
    have he:confirmE g.site (Jd g p t).cuts (flP g (Jd g p t)) (Jd g p t).rest a t=0:=Decidable.not_not.1 he
    have h1:Inv g { Jd g p t with rest:=confirmR g.site (Jd g p t).cuts (flP g (Jd g p t)) (Jd g p t).rest a t }:=by
      refine { hs with rest:=?_ }
      rw [confirmR,if_pos he]
      exact ⟨by have:=h.time;have:=K9 hl;dsimp only;omega,hs.rest.2⟩
    exact h1.note _ _ _
theorem Inv.close (h:Inv g p) (t:Int):Inv g (Kma g p t).1:=by
  rw [Kma]
  split
  · exact h
  rename_i hl
  have hs:=h.settle (K9 hl).1 (K9 hl).2
  dsimp only
  generalize hq:Jd g p t=q at hs ⊢
  have ht:q.time=t:=by
    rw [← hq];exact Yc ..
  split
  · exact hs.note _ _ _
  · rename_i he
    have he:Vg g.site q.cuts (flP g q) q.rest (mkF g q) t=0:=Decidable.not_not.1 he
    have k:SwKeep q.sw (Vj g.site q.cuts (flP g q) q.rest (mkF g q) t) q.time:=by
      rw [Vj,if_neg (by rw [he];decide),Uxb]
      exact (SwKeep.refl hs.fe q.time).set rfl (.inr ht.symm) (by show (-1:Int)≤0∧(0:Int)≤1;decide) zo
    have hc:(Vw g.site q.cuts (flP g q) q.rest (mkF g q) t).length=q.cuts.length:=by
      rw [Vw,if_neg (by rw [he];decide)]
      split <;> simp
    have hr:0≤(Yf g.site q.cuts (flP g q) q.rest (mkF g q) t).time∧((Yf g.site q.cuts (flP g q) q.rest (mkF g q) t).zone= -1∨(0≤(Yf g.site q.cuts (flP g q) q.rest (mkF g q) t).zone∧(Yf g.site q.cuts (flP g q) q.rest (mkF g q) t).zone < (Vw g.site q.cuts (flP g q) q.rest (mkF g q) t).length)):=by
      rw [hc,Yf,if_neg (by rw [he];decide)]
      split
      · exact ⟨by decide,.inl rfl⟩
      · exact ⟨by have:=h.time;have:=K9 hl;dsimp only;omega,hs.rest.2⟩
    exact Inv.note (p:={ q with rest:=Yf g.site q.cuts (flP g q) q.rest (mkF g q) t,cuts:=Vw g.site q.cuts (flP g q) q.rest (mkF g q) t,sw:=Vj g.site q.cuts (flP g q) q.rest (mkF g q) t }) { (hs.sws k) with clen:=hc.trans hs.clen,rest:=hr } _ _ _
end
end
section
structure XSta where
  site:XSite
  time:Int
  held:Arr Int
  dropped:Int
  meas:Arr XMeas
  watches:Arr XWatch
  cuts:Arr XCut
  feeder:XFeeder
  rest:XRest
  log:Arr XEntry
def XSta.cells (x:XSta):List Value:=[x.site.air.mine.places.val,x.site.air.mine.roads.val,x.site.air.fans.val,x.site.air.doors.val,x.site.sensors.val,x.site.conds.val,x.site.zones.val,x.site.persons.val,.int .i64 x.time,x.held.val,.int .i64 x.dropped,x.meas.val,x.watches.val,x.cuts.val,x.feeder.switches.val,x.feeder.zones.val,.int .i64 x.feeder.reply,.int .i64 x.rest.zone,.int .i64 x.rest.first,.int .i64 x.rest.second,.int .i64 x.rest.step,.int .i64 x.rest.time,x.log.val]
abbrev XSta.val (x:XSta):Value:=.agg #[x.site.air.mine.places.val,x.site.air.mine.roads.val,x.site.air.fans.val,x.site.air.doors.val,x.site.sensors.val,x.site.conds.val,x.site.zones.val,x.site.persons.val,.int .i64 x.time,x.held.val,.int .i64 x.dropped,x.meas.val,x.watches.val,x.cuts.val,x.feeder.switches.val,x.feeder.zones.val,.int .i64 x.feeder.reply,.int .i64 x.rest.zone,.int .i64 x.rest.first,.int .i64 x.rest.second,.int .i64 x.rest.step,.int .i64 x.rest.time,x.log.val]
structure StaR (x:XSta) (R:List Sl):Prop where
  site:SiteR x.site R
  held:InR (bsl x.held) R
  meas:InR (Vn x.meas) R
  watches:InR (U1d x.watches) R
  cuts:InR (Kwc x.cuts) R
  feeder:FeederR x.feeder R
  log:InR (Yw x.log) R
theorem StaR.mono {x:XSta} {R R':List Sl} (h:StaR x R) (k:∀r∈R,InR r R'):StaR x R':=⟨h.site.mono k,h.held.mono k,h.meas.mono k,h.watches.mono k,h.cuts.mono k,h.feeder.mono k,h.log.mono k⟩
structure StaIs (g:PSite) (p:PSta) (x:XSta):Prop where
  site:SiteE x.site g.site
  time:x.time=p.time
  held:x.held.l=p.held
  dropped:x.dropped=p.dropped
  meas:x.meas.l=p.meas
  watches:x.watches.l=p.watches
  cuts:x.cuts.l=p.cuts
  sw:x.feeder.switches.l=p.sw
  zn:x.feeder.zones.l=g.zn
  rp:x.feeder.reply=g.rp
  rest:x.rest=p.rest
  log:x.log.l=p.log
end
end Go.Proofs.YtchfclmokpbldaaGreat
