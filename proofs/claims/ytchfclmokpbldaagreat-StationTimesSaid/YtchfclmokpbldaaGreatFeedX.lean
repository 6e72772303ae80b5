import Derived.Test.YtchfclmokpbldaaGreatData
import Derived.Test.YtchfclmokpbldaaGreatFeedT
import Derived.Test.YtchfclmokpbldaaGreatWinR
set_option linter.unusedVariables false
set_option linter.unusedSimpArgs false
section
/-
  Telegrams as bytes. Plain. By an AI agent; no person has read it.
-/
namespace Go.Proofs.YtchfclmokpbldaaGreat
open Go.Aw Go
def Kc3 (x:Int) (k:Nat):Int:=x / 2 ^ k % 2
def Kc4 (a b:Int):Int:=((a.toNat ^^^ b.toNat:Nat):Int)
def Jml (r b:Int):Int:=if r / 32768=b then 2 * r % 65536 else Kc4 (2 * r % 65536) 4129
def Jue (r x : Int) : Nat → Int
  | 0=>r
  | k + 1=>Jml (Jue r x k) (Kc3 x (7 - k))
def Jxg (r x:Int):Int:=Jue r x 8
def Jss (l:List Int):Int:=l.foldl Jxg 65535
def Crc (r:Int):Prop:=0≤r∧r < 65536
theorem J0y {r:Int} (b:Int) (h:Crc r):Crc (Jml r b):=by
  obtain ⟨h1,h2⟩:=h
  have hm:0≤2 * r % 65536∧2 * r % 65536 < 65536:=by omega
  rw [Jml]
  split
  · exact hm
  · refine ⟨Int.natCast_nonneg _, ?_⟩
    have:(2 * r % 65536).toNat ^^^ (4129:Int).toNat < 2 ^ 16:=Nat.xor_lt_two_pow za ze
    rw [Kc4];omega
theorem Js9 {r : Int} (x : Int) (h : Crc r) : ∀ k, Crc (Jue r x k)
  | 0=>h
  | k + 1=>J0y _ (Js9 x h k)
theorem Jrf : ∀ (l : List Int) {r : Int}, Crc r → Crc (l.foldl Jxg r)
  | [],_,h=>h
  | x :: l,_,h=>Jrf l (Js9 x h 8)
theorem J9g (l:List Int):Crc (Jss l):=Jrf l ⟨by decide,by decide⟩
theorem J1c {l:List Int} {k:Nat} {x:Int} (h:l[k]?=some x):Jss (l.take (k + 1))=Jxg (Jss (l.take k)) x:=by
  rw [List.take_add_one,h,Jss,List.foldl_append];rfl
structure XTele where
  address:Int
  kind:Int
  data:List Int
  deriving DecidableEq,Inhabited
def Jf7 (l:List Int):Prop:=l.getD 0 0≠126∨(1 < l.length∧64 < l.getD 1 0)
instance (l:List Int):Decidable (Jf7 l):=by unfold Jf7;exact inferInstance
def Jc4 (l:List Int):Prop:=(l.length:Int) < 2∨(l.length:Int) < l.getD 1 0 + 6
instance (l:List Int):Decidable (Jc4 l):=by unfold Jc4;exact inferInstance
def lenT (l:List Int):Nat:=(l.getD 1 0).toNat
def Jqe (l:List Int):Int:=l.getD (4 + lenT l) 0 * 256 + l.getD (5 + lenT l) 0
def Jnl (l:List Int):List Int:=(l.take (4 + lenT l)).drop 1
def Jy2 (l:List Int):XTele:=⟨l.getD 2 0,l.getD 3 0,(l.take (4 + lenT l)).drop 4⟩
structure XFed where
  held:List Int
  dropped:Int
  out:List XTele
  deriving DecidableEq,Inhabited
def Jc6 (l:List Int) (d:Int):XFed:=
  if hl:l=[] then ⟨[],d,[]⟩
  else if Jf7 l then Jc6 l.tail (d + 1)
  else if Jc4 l then ⟨l,d,[]⟩
  else if Jss (Jnl l)≠Jqe l then Jc6 l.tail (d + 1)
  else ⟨(Jc6 (l.drop (lenT l + 6)) d).held,(Jc6 (l.drop (lenT l + 6)) d).dropped,Jy2 l :: (Jc6 (l.drop (lenT l + 6)) d).out⟩
termination_by l.length
decreasing_by
  all_goals have:=List.length_pos_iff.2 hl
  all_goals simp only [List.length_tail,List.length_drop];omega
theorem Jl0 (d:Int):Jc6 [] d=⟨[],d,[]⟩:=by rw [Jc6,dif_pos rfl]
theorem Jft {l:List Int} {d:Int} (h:l≠[]) (h1:Jf7 l∨(¬ Jc4 l∧Jss (Jnl l)≠Jqe l)):Jc6 l d=Jc6 l.tail (d + 1):=by
  rw [Jc6,dif_neg h]
  split
  · rfl
  · rename_i h2
    rcases h1 with h1 | ⟨h3,h4⟩
    · exact absurd h1 h2
    · rw [if_neg h3,if_pos h4]
theorem Jj7 {l:List Int} {d:Int} (h:l≠[]) (h1:¬ Jf7 l) (h2:Jc4 l):Jc6 l d=⟨l,d,[]⟩:=by rw [Jc6,dif_neg h,if_neg h1,if_pos h2]
theorem Jj4 {l:List Int} {d:Int} (h:l≠[]) (h1:¬ Jf7 l) (h2:¬ Jc4 l) (h3:Jss (Jnl l)=Jqe l):Jc6 l d=⟨(Jc6 (l.drop (lenT l + 6)) d).held,(Jc6 (l.drop (lenT l + 6)) d).dropped,Jy2 l :: (Jc6 (l.drop (lenT l + 6)) d).out⟩:=by
  rw [Jc6,dif_neg h,if_neg h1,if_neg h2,if_neg (by rw [h3];exact fun h=>h rfl)]
def BytesOk (l:List Int):Prop:=∀x∈l,0≤x∧x≤255
theorem BytesOk.at {l:List Int} (h:BytesOk l) (i:Nat):0≤l.getD i 0∧l.getD i 0≤255:=by
  rcases Nat.lt_or_ge i l.length with hi | hi
  · exact h _ (List.mem_of_getElem? (Jau (l:=l) (k:=i) 0 hi))
  · rw [List.getD_eq_getElem?_getD,List.getElem?_eq_none hi];decide
theorem Jve {l:List Int} (h:BytesOk l) (h2:¬ Jc4 l):lenT l + 6≤l.length∧((lenT l:Nat):Int)=l.getD 1 0:=by
  have:=h.at 1
  rw [Jc4] at h2
  rw [lenT];omega
end Go.Proofs.YtchfclmokpbldaaGreat
end
section
/-
  Stations. Plain. By an AI agent; no person has read it.
-/
namespace Go.Proofs.YtchfclmokpbldaaGreat
open Go.Aw Go
structure XEntry where
  time:Int
  kind:Int
  target:Int
  value:Int
  deriving DecidableEq,Inhabited
def XEntry.cells (x:XEntry):List Value:=[.int .i64 x.time,.int .i64 x.kind,.int .i64 x.target,.int .i64 x.value]
abbrev Jey (x:Arr XEntry):Sl:=x.sl 4 XEntry.cells []
structure PSta where
  time:Int
  held:List Int
  dropped:Int
  meas:List XMeas
  watches:List XWatch
  cuts:List XCut
  sw:List XSwitch
  rest:XRest
  log:List XEntry
structure PSite where
  site:XSite
  zn:List Int
  rp:Int
  air:List Bool
def Juj (S:List XSens) (kind target:Int):Option Nat:=(List.range S.length).find? fun i=>decide ((S.getD i default).kind=kind∧(S.getD i default).target=target)
def Jgk (S:List XSens) (m:List XMeas) (t kind target n:Int):Int:=
  match Juj S kind target with
  | none=>-1
  | some i=>if (Jew S m (i:Int) t).low=(Jew S m (i:Int) t).high∧0≤(Jew S m (i:Int) t).low∧(Jew S m (i:Int) t).low < n then (Jew S m (i:Int) t).low else -1
theorem Jrk (S:List XSens) (m:List XMeas) (t kind target n:Int) (hn:0≤n):-1≤Jgk S m t kind target n∧(Jgk S m t kind target n < n∨Jgk S m t kind target n= -1):=by
  rw [Jgk]
  split
  · omega
  · split <;> omega
def Jlc (s:XSite) (m:List XMeas) (t:Int) (k:Nat):List Int:=(List.range k).map fun (i:Nat)=>Jgk s.sensors.l m t 5 (i:Int) 3
def Jh0 (s:XSite) (m:List XMeas) (t:Int) (k:Nat):List Int:=(List.range k).map fun (i:Nat)=>Jgk s.sensors.l m t 6 (i:Int) ((s.air.doors.l.getD i default).rests.l.length:Int)
def J6b (s:XSite) (m:List XMeas) (t:Int):Sts:=(Jlc s m t s.air.fans.l.length,Jh0 s m t s.air.doors.l.length)
def Jiz (s:XSite) (A:List Bool) (m:List XMeas) (t:Int):List XSpan:=(J34 (flS s.air A (J6b s m t)) nothingS 3 s.sensors.l m t).out
theorem Jz9 (s:XSite) (m:List XMeas) (t:Int) (k:Nat):Jlc s m t (k + 1)=Jlc s m t k ++ [Jgk s.sensors.l m t 5 (k:Int) 3]:=by rw [Jlc,List.range_succ,List.map_append];rfl
theorem Jwg (s:XSite) (m:List XMeas) (t:Int) (k:Nat):Jh0 s m t (k + 1)=Jh0 s m t k ++ [Jgk s.sensors.l m t 6 (k:Int) ((s.air.doors.l.getD k default).rests.l.length:Int)]:=by rw [Jh0,List.range_succ,List.map_append];rfl
theorem Jot (s:XSite) (m:List XMeas) (t:Int) (k:Nat):(Jlc s m t k).length=k:=by simp [Jlc]
theorem Jl9 (s:XSite) (m:List XMeas) (t:Int) (k:Nat):(Jh0 s m t k).length=k:=by simp [Jh0]
theorem Jy6 {s:XSite} (m:List XMeas) (t:Int):Jjb s.air (mkS (J6b s m t))=true:=by
  refine J3s ⟨Jot .., Jl9 .., fun i x hx=>?_,fun i x d hx hd=>?_⟩
  · have hx : (Jlc s m t s.air.fans.l.length)[i]? = some x := hx
    rw [Jlc,List.getElem?_map] at hx
    obtain ⟨hi,-⟩:=List.getElem?_eq_some_iff.1 (show (Jlc s m t s.air.fans.l.length)[i]?=some x from by rw [Jlc,List.getElem?_map];exact hx)
    rw [Jot] at hi
    rw [List.getElem?_range hi] at hx
    have e:=Option.some.inj hx
    have:=Jrk s.sensors.l m t 5 (i:Int) 3 ze
    dsimp only at e
    rw [← e];omega
  · have hx : (Jh0 s m t s.air.doors.l.length)[i]? = some x := hx
    obtain ⟨hi,-⟩:=List.getElem?_eq_some_iff.1 hx
    rw [Jl9] at hi
    rw [Jh0,List.getElem?_map,List.getElem?_range hi] at hx
    have e:=Option.some.inj hx
    have hg:=getD_some (d:=default) hd
    have:=Jrk s.sensors.l m t 6 (i:Int) ((s.air.doors.l.getD i default).rests.l.length:Int) za
    rw [hg] at this
    dsimp only at e
    rw [← e,hg];omega
def Jl5 (l:List XEntry) (e:XEntry):List XEntry:=(l ++ [e]).drop (l.length + 1 - 400)
theorem J02 {l:List XEntry} (e:XEntry):(Jl5 l e).length≤400:=by rw [Jl5,List.length_drop,List.length_append];simp;omega
def Jf9 (p:PSta) (kind target value:Int):PSta:={ p with log:=Jl5 p.log ⟨p.time,kind,target,value⟩ }
def Jt0 (g:PSite) (p:PSta) (z:Int):PSta:=
  let p1:=Jf9 p 1 z (p.cuts.getD z.toNat default).reason
  let s:=g.zn.getD z.toNat 0
  let p2:PSta:={ p1 with sw:=Jdn p.sw s p.time }
  if (p.sw.getD s.toNat default).closed=true then Jf9 p2 2 s 0 else p2
def Jll (g:PSite) (p:PSta) (l:List Int):PSta:=l.foldl (Jt0 g) p
def Jff (kind:Int) (p:PSta) (l:List Int):PSta:=l.foldl (fun p x=>Jf9 p kind x 0) p
def J9n (g:PSite) (sw:List XSwitch) (z:Nat):Bool:=(Jjh sw g.zn g.rp (g.zn.getD z 0)).any fun k=>!(sw.getD k.toNat default).closed || decide ((sw.getD k.toNat default).shown= -1)
def Ji7 (g:PSite) (vals:List Int) (p:PSta) (z:Nat):PSta:=
  if (p.cuts.getD z default).off=true∨J9n g p.sw z=false then p
  else Jt0 g { p with cuts:=p.cuts.set z ⟨true,(p.cuts.getD z default).clear,Jh9 (g.site.zones.l.getD z default).rule.l vals⟩ } (z:Int)
def darkTo (g : PSite) (vals : List Int) (p : PSta) : Nat → PSta
  | 0=>p
  | k + 1=>Ji7 g vals (darkTo g vals p k) k
def Jqq (c:List XCut) (r:XRest):Prop:=r.zone= -1∨((0≤r.zone∧r.zone < c.length)∧(c.getD r.zone.toNat default).off=true∧(c.getD r.zone.toNat default).clear≠-1)
instance (c:List XCut) (r:XRest):Decidable (Jqq c r):=by unfold Jqq;infer_instance
def Jga (c:List XCut) (r:XRest):XRest:=if Jqq c r then r else noRest
def flP (g:PSite) (p:PSta):List XSpan:=Jiz g.site g.air p.meas p.time
def Jny (g:PSite) (p:PSta):List Int:=valuesV g.site p.meas p.watches (flP g p) p.time
def settleA (g:PSite) (p:PSta):PSta:=
  Jll g { p with watches:=valuesW g.site p.meas p.watches (flP g p) p.time,cuts:=cutsC g.site (Jny g p) p.cuts p.time } (cutsN g.site (Jny g p) p.cuts p.time)
def settleB (g:PSite) (p:PSta):PSta:=
  Jff 2 (Jff 3 { p with rest:=Jga p.cuts p.rest,sw:=(Jgd p.sw g.rp p.time).sw } (Jgd p.sw g.rp p.time).late) (Jgd p.sw g.rp p.time).opened
def Jaj (g:PSite) (p0:PSta) (t:Int):PSta:=
  let p:={ p0 with time:=t }
  let q:=settleB g (settleA g p)
  darkTo g (Jny g p) q q.cuts.length
def Jfl (p:PSta) (t:Int):Prop:=t < p.time∨2147483648 < t
instance (p:PSta) (t:Int):Decidable (Jfl p t):=by unfold Jfl;infer_instance
def Jf8 (S:List XSens) (ad:Int):Int:=(((List.range S.length).find? fun i=>decide ((S.getD i default).address=ad)).map Int.ofNat).getD (-1)
end Go.Proofs.YtchfclmokpbldaaGreat
end
section
/-
  Stations: what stays right. Plain. By an AI agent; no person has read it.
-/
namespace Go.Proofs.YtchfclmokpbldaaGreat
set_option maxRecDepth 20000
open Go.Aw Go
structure Inv (g:PSite) (p:PSta):Prop where
  site:Jb1 g.site=0
  airy:AiryIs g.site.air.mine g.air
  time:0≤p.time∧p.time≤2147483648
  meas:p.meas.length=g.site.sensors.l.length
  mok:∀x∈p.meas,Jhj x
  wlen:p.watches.length=g.site.conds.l.length
  wok:∀w∈p.watches,Jho w∧w.last≤p.time
  clen:p.cuts.length=g.site.zones.l.length
  fe:feedE p.sw g.zn g.rp=0
  since:∀x∈p.sw,x.since≤p.time
  zlen:g.zn.length=g.site.zones.l.length
  rest:0≤p.rest.time∧(p.rest.zone= -1∨(0≤p.rest.zone∧p.rest.zone < p.cuts.length))
  log:p.log.length≤400
  held:BytesOk p.held∧p.held.length≤70
section
variable {g:PSite} {p:PSta}
theorem Inv.sok (h:Inv g p):SiteOk g.site:=Jez h.site
theorem Inv.fok (h:Inv g p):FeedOk p.sw g.zn g.rp:=Jdt h.fe
theorem Inv.air (h:Inv g p):Jbx g.site.air=0:=h.sok.air
theorem Inv.tok (h:Inv g p):Jix p.sw p.time:=⟨h.time,h.since⟩
theorem Inv.at (h:Inv g p) {t:Int} (h1:p.time≤t) (h2:t≤2147483648):Inv g { p with time:=t }:=
  { h with time:=⟨by have:=h.time;dsimp only;omega,h2⟩,wok:=fun w hw=>⟨(h.wok w hw).1,by have:=(h.wok w hw).2;dsimp only;omega⟩,since:=fun x hx=>by have:=h.since x hx;dsimp only;omega }
theorem Inv.note (h:Inv g p) (kind target value:Int):Inv g (Jf9 p kind target value):={ h with log:=by show (Jl5 p.log _).length≤400;exact J02 _ }
theorem Inv.sws (h:Inv g p) {sw:List XSwitch} (k:SwKeep p.sw sw p.time):Inv g { p with sw:=sw }:=
  { h with fe:=k.feedE h.fe h.time,since:=(k.time h.tok).2 }
theorem Inv.cut (h:Inv g p) (z:Int):Inv g (Jt0 g p z):=by
  have h1:=h.note 1 z (p.cuts.getD z.toNat default).reason
  have h2:=h1.sws (sw:=Jdn p.sw (g.zn.getD z.toNat 0) p.time) ((SwKeep.refl h.fe p.time).openS _)
  rw [Jt0]
  split
  · exact h2.note _ _ _
  · exact h2
theorem J2z : ∀ (l : List Int) {p : PSta}, Inv g p → Inv g (Jll g p l)
  | [],_,h=>h
  | z :: l,_,h=>J2z l (h.cut z)
theorem Inv.cuts (h:Inv g p) (l:List Int):Inv g (Jll g p l):=J2z l h
theorem Jzp (kind : Int) : ∀ (l : List Int) {p : PSta}, Inv g p → Inv g (Jff kind p l)
  | [],_,h=>h
  | z :: l,_,h=>Jzp kind l (h.note kind z 0)
theorem Inv.notes (kind:Int) (h:Inv g p) (l:List Int):Inv g (Jff kind p l):=Jzp kind l h
theorem Jur (z:Int):(Jt0 g p z).cuts=p.cuts:=by
  rw [Jt0]
  split <;> rfl
theorem Inv.flLen (h:Inv g p):(flP g p).length=g.site.air.mine.roads.l.length:=by
  rw [flP,Jiz,J34,(Juv ..).1,flS]
  exact J18 h.air (Jy6 _ _) h.airy
theorem J4b {S:List XSens} {n:Nat} {c:XCond} (h:Jbn S n c=0) (hk:c.kind=1):Jfo c.level:=by
  rw [Jbn] at h
  split at h
  · omega
  split at h
  · omega
  rw [Jf1] at h
  split at h
  · assumption
  · omega
theorem Inv.valErr (h:Inv g p):valuesErr g.site p.meas p.watches (flP g p) p.time=0:=by
  have ht:=h.time
  rw [valuesErr,if_neg (by rw [h.site];decide),if_neg (by rw [h.meas,h.wlen,h.flLen];simp),if_neg za]
  have:(List.range p.watches.length).findSome? (fun i=>nzO (Jq8 (g.site.conds.l.getD i default) (p.watches.getD i default) p.time))=none:=by
    rw [List.findSome?_eq_none_iff]
    intro i hi
    rw [List.mem_range] at hi
    have hw:=h.wok _ (List.mem_of_getElem? (Jau (l:=p.watches) (k:=i) default hi))
    have hc:=h.sok.cond _ (List.mem_of_getElem? (Jau (l:=g.site.conds.l) (k:=i) default (by rw [← h.wlen];exact hi)))
    rw [nzO,if_pos]
    rw [Jq8]
    split
    · rename_i hk
      exact Jq1 (J4b hc hk) za hw.1
    · rfl
  rw [this];rfl
theorem J2g (l:XLevel) {w:XWatch} (x:XSpan) {t:Int} (ht:0≤t) (h:Jho w) (hl:w.last≤t):Jho (Jex l w x t)∧(Jex l w x t).last≤t:=by
  obtain ⟨h1,h2,h3,h4⟩:=h
  rw [Jex]
  repeat' split
  all_goals refine ⟨⟨ht,?_,?_,?_⟩,Int.le_refl _⟩
  all_goals dsimp only
  all_goals first | omega | exact .inl rfl | exact .inr rfl | (rcases h4 with h4 | h4;exact .inl h4;simp_all)
theorem Inv.valLen (h:Inv g p):(Jny g p).length=g.site.conds.l.length:=by
  rw [Jny,valuesV,if_neg (by rw [h.valErr];decide),List.length_map,List.length_range,h.wlen]
theorem Inv.cutErr (h:Inv g p):cutsErr g.site (Jny g p) p.cuts p.time=0:=by
  have ht:=h.time
  rw [cutsErr,if_neg (by rw [h.site];decide),if_neg (by rw [h.valLen,h.clen];simp),if_neg za]
theorem Inv.sA (h:Inv g p):Inv g { p with watches:=valuesW g.site p.meas p.watches (flP g p) p.time,cuts:=cutsC g.site (Jny g p) p.cuts p.time }:=by
  have hw:(valuesW g.site p.meas p.watches (flP g p) p.time).length=p.watches.length:=by
    rw [valuesW,if_neg (by rw [h.valErr];decide),List.length_map,List.length_range]
  have hc:(cutsC g.site (Jny g p) p.cuts p.time).length=p.cuts.length:=by
    rw [cutsC,if_neg (by rw [h.cutErr];decide),List.length_map,List.length_range]
  refine { h with wlen:=hw.trans h.wlen,wok:=fun w hm=>?_,clen:=hc.trans h.clen,rest:=by rw [hc];exact h.rest }
  have hm:w∈valuesW g.site p.meas p.watches (flP g p) p.time:=hm
  rw [valuesW,if_neg (by rw [h.valErr];decide),List.mem_map] at hm
  obtain ⟨i,hi,rfl⟩:=hm
  rw [List.mem_range] at hi
  have hw:=h.wok _ (List.mem_of_getElem? (Jau (l:=p.watches) (k:=i) default hi))
  show Jho (Ji0 _ _ _ _ _)∧(Ji0 _ _ _ _ _).last≤p.time
  rw [Ji0]
  split
  · exact J2g _ _ h.time.1 hw.1 hw.2
  · exact hw
theorem Inv.settleA (h:Inv g p):Inv g (settleA g p):=h.sA.cuts _
theorem Jzd (c:List XCut) (r:XRest) (h:0≤r.time):0≤(Jga c r).time∧((Jga c r).zone= -1∨(0≤(Jga c r).zone∧(Jga c r).zone < c.length)):=by
  rw [Jga]
  split
  · rename_i hk
    rw [Jqq] at hk
    exact ⟨h,hk.imp_right fun h=>h.1⟩
  · exact ⟨by decide,.inl rfl⟩
theorem Inv.settleB (h:Inv g p):Inv g (settleB g p):=by
  have h1:Inv g { p with rest:=Jga p.cuts p.rest }:={ h with rest:=Jzd _ _ h.rest.1 }
  have h2:=h1.sws (sw:=(Jgd p.sw g.rp p.time).sw) (Jit h.fe _ (Nat.le_refl _))
  exact (h2.notes 3 _).notes 2 _
theorem Inv.dark (h:Inv g p) (vals:List Int) (z:Nat):Inv g (Ji7 g vals p z):=by
  rw [Ji7]
  split
  · exact h
  · refine Inv.cut (p := { p with cuts := p.cuts.set z ⟨true, (p.cuts.getD z default).clear, Jh9 (g.site.zones.l.getD z default).rule.l vals⟩ }) ?_ _
    exact { h with clen:=by show (p.cuts.set _ _).length=_;rw [List.length_set];exact h.clen,rest:=by show _∧(_∨(_∧_ < ((p.cuts.set _ _).length:Int)));rw [List.length_set];exact h.rest }
theorem Inv.darkTo (h : Inv g p) (vals : List Int) : ∀ k, Inv g (darkTo g vals p k)
  | 0=>h
  | k + 1=>(Inv.darkTo h vals k).dark vals k
theorem Inv.settle (h:Inv g p) {t:Int} (h1:p.time≤t) (h2:t≤2147483648):Inv g (Jaj g p t):=((h.at h1 h2).settleA.settleB).darkTo _ _
theorem Jt8 (z:Int):(Jt0 g p z).time=p.time:=by
  rw [Jt0]
  split <;> rfl
end
end Go.Proofs.YtchfclmokpbldaaGreat
end
section
/-
  What a raw number says, the reference's: ref05.Value. By an AI agent; no person has read it.
-/
namespace Go.Proofs.YtchfclmokpbldaaGreat
open Go.Aw Go
set_option maxRecDepth 20000
attribute [local irreducible] CJ LJ DJ Tri YV Gives Jcj Ja1 Jbg Jci RV Ja2 OwL.L
def Jz0 (k:Int):Int:=if k=6 then 5 else if k=5 then 2 else 1
def J9c (s:XSens) (r:Int):XSpan:=⟨s.offset + s.scale * r / 1000 - s.error,s.offset + -((-(s.scale * r)) / 1000) + s.error⟩
def Jhu (s:XSens) (r:Int):XSpan:=
  if Jcx s≠0∨¬ (0≤r∧r≤65535) then nothingS
  else if 4≤s.kind then if Jz0 s.kind < r then nothingS else ⟨r,r⟩
  else if s.kind=1∨s.kind=2 then ⟨max (J9c s r).low 0,max (J9c s r).high 0⟩ else J9c s r
theorem Jo4 {s:XSens} (h:Jcx s=0):Je0 s:=by
  rw [Jcx] at h
  split at h
  · omega
  split at h
  · assumption
  · omega
theorem J2p {s:XSens} {r:Int} (h:Jcx s=0) (hr:0≤r∧r≤65535):-65535000000≤s.scale * r∧s.scale * r≤65535000000:=by
  have hs:=Jo4 h
  rw [Je0] at hs
  have h1:s.scale * r≤1000000 * r:=Int.mul_le_mul_of_nonneg_right za hr.1
  have h2:-1000000 * r≤s.scale * r:=Int.mul_le_mul_of_nonneg_right za hr.1
  omega
end Go.Proofs.YtchfclmokpbldaaGreat
end
section
/-
  Stations: what happens to them. Plain. By an AI agent; no person has read it.
-/
namespace Go.Proofs.YtchfclmokpbldaaGreat
set_option maxRecDepth 20000
open Go.Aw Go
def Jc7 (S:List XSens) (f:XTele) (t:Int):Int:=
  if t < 0∨2147483648 < t then 8
  else if Jf8 S f.address < 0∨Jcx (S.getD (Jf8 S f.address).toNat default)≠0 then 9
  else if f.kind≠1∧f.kind≠2 then 5
  else if f.kind=1∧f.data.length≠2∨f.kind=2∧f.data.length≠0 then 6 else 0
def Jpi (S:List XSens) (f:XTele) (t:Int):XMeas:=
  ⟨Jf8 S f.address,t,if f.kind=1 then Jhu (S.getD (Jf8 S f.address).toNat default) (f.data.getD 0 0 * 256 + f.data.getD 1 0) else nothingS⟩
def Jmo (S:List XSens) (t:Int) (m:List XMeas) (f:XTele):List XMeas:=if Jc7 S f t=0 then m.set (Jf8 S f.address).toNat (Jpi S f t) else m
def feedR (g:PSite) (p:PSta) (b:List Int) (t:Int):PSta:=
  { p with held:=(Jc6 (p.held ++ b) p.dropped).held,dropped:=(Jc6 (p.held ++ b) p.dropped).dropped,meas:=(Jc6 (p.held ++ b) p.dropped).out.foldl (Jmo g.site.sensors.l t) p.meas }
def Ju0 (g:PSite) (p:PSta) (b:List Int) (t:Int):PSta×Int:=if Jfl p t then (p,8) else (Jaj g (feedR g p b t) t,0)
def Jnm (g:PSite) (p:PSta) (t:Int):PSta×Int:=if Jfl p t then (p,8) else (Jaj g p t,0)
def Jhp (g:PSite) (p:PSta) (s sh t:Int):PSta×Int:=
  if Jfl p t then (p,8) else if Jd0 p.sw g.zn g.rp s sh≠0 then (p,Jd0 p.sw g.zn g.rp s sh) else (Jaj g { p with sw:=Jgs p.sw s sh } t,0)
def J04 (g:PSite) (p:PSta) (person zone t:Int):PSta×Int:=
  if Jfl p t then (p,8)
  else
    let q:=Jaj g p t
    let e:=askE g.site q.cuts (flP g q) q.rest person zone t
    if e≠0 then (Jf9 q 7 zone e,e) else (Jf9 { q with rest:=askR g.site q.cuts (flP g q) q.rest person zone t } 4 zone person,0)
def Jfy (g:PSite) (p:PSta) (person t:Int):PSta×Int:=
  if Jfl p t then (p,8)
  else
    let q:=Jaj g p t
    let e:=confirmE g.site q.cuts (flP g q) q.rest person t
    if e≠0 then (Jf9 q 7 q.rest.zone e,e) else (Jf9 { q with rest:=confirmR g.site q.cuts (flP g q) q.rest person t } 5 q.rest.zone person,0)
def mkF (g:PSite) (p:PSta):XFeeder:=⟨⟨none,0,p.sw⟩,⟨none,0,g.zn⟩,g.rp⟩
def Jkm (g:PSite) (p:PSta) (t:Int):PSta×Int:=
  if Jfl p t then (p,8)
  else
    let q:=Jaj g p t
    let e:=Jdj g.site q.cuts (flP g q) q.rest (mkF g q) t
    if e≠0 then (Jf9 q 7 q.rest.zone e,e)
    else (Jf9 { q with rest:=Jg1 g.site q.cuts (flP g q) q.rest (mkF g q) t,cuts:=Jg5 g.site q.cuts (flP g q) q.rest (mkF g q) t,sw:=Je1 g.site q.cuts (flP g q) q.rest (mkF g q) t } 6 (atR (mkF g q) q.rest.zone) 0,0)
theorem J0g {S:List XSens} {ad:Int} (h:¬ Jf8 S ad < 0):(Jf8 S ad).toNat < S.length∧0≤Jf8 S ad:=by
  rw [Jf8] at h ⊢
  cases hf:(List.range S.length).find? (fun i=>decide ((S.getD i default).address=ad)) with
  | none=>rw [hf] at h;exact absurd ze h
  | some i=>
    have:=List.mem_of_find?_eq_some hf
    rw [List.mem_range] at this
    exact ⟨this,Int.natCast_nonneg i⟩
theorem J2m (S:List XSens) (t:Int) (m:List XMeas) (f:XTele):(Jmo S t m f).length=m.length:=by
  rw [Jmo];split <;> simp
theorem Jz6 {a t:Int} (ht:0≤t∧t≤2147483648):Jhj ⟨a,t,nothingS⟩:=⟨ht,by show (-1125899906842624:Int)≤ -1125899906842624∧(-1125899906842624:Int)≤1125899906842624;decide,by show (-1125899906842624:Int)≤1125899906842624∧(1125899906842624:Int)≤1125899906842624;decide⟩
theorem Jrj (s:XSens) (r:Int):(-1125899906842624≤(Jhu s r).low∧(Jhu s r).low≤1125899906842624)∧(-1125899906842624≤(Jhu s r).high∧(Jhu s r).high≤1125899906842624):=by
  rw [Jhu]
  split
  · exact ⟨by decide,by decide⟩
  rename_i h
  have hm:=J2p (s:=s) (r:=r) za za
  have hs:=Jo4 (s:=s) za
  rw [Je0] at hs
  split
  · split
    · exact ⟨by decide,by decide⟩
    · dsimp only;omega
  split
  · simp only [J9c];omega
  · simp only [J9c];omega
theorem J4n {S:List XSens} {t:Int} {m:List XMeas} (f:XTele) (h:∀x∈m,Jhj x):∀x∈Jmo S t m f,Jhj x:=by
  rw [Jmo]
  split
  · rename_i he
    intro x hx
    rcases List.mem_or_eq_of_mem_set hx with hx | rfl
    · exact h x hx
    · have ht:0≤t∧t≤2147483648:=by
        rw [Jc7] at he
        split at he
        · cases he
        · omega
      rw [Jpi]
      split
      · exact ⟨ht,(Jrj _ _).1,(Jrj _ _).2⟩
      · exact Jz6 ht
  · exact h
theorem Js3 {S : List XSens} {t : Int} : ∀ (l : List XTele) {m : List XMeas}, (∀ x ∈ m, Jhj x) → (∀ x ∈ l.foldl (Jmo S t) m, Jhj x) ∧ (l.foldl (Jmo S t) m).length = m.length
  | [],m,h=>⟨h,rfl⟩
  | f :: l,m,h=>by
    have:=Js3 (S:=S) (t:=t) l (J4n (S:=S) (t:=t) f h)
    exact ⟨this.1,this.2.trans (J2m ..)⟩
theorem J0f:∀(n:Nat) {l:List Int} (d:Int),l.length=n→BytesOk l→(BytesOk (Jc6 l d).held∧(Jc6 l d).held.length≤70)∧d≤(Jc6 l d).dropped∧(Jc6 l d).dropped≤d + n:=by
  intro n
  induction n using Nat.strongRecOn with
  | ind n ih=>
    intro l d hn hb
    rcases Classical.em (l=[]) with h | h
    · subst h
      rw [Jl0]
      exact ⟨⟨fun x hx=>(by cases hx),Nat.zero_le _⟩,Int.le_refl _,(by show d≤d + (n:Int);omega)⟩
    · have hpos := List.length_pos_iff.2 h
      have hbt:BytesOk l.tail:=fun x hx=>hb x (List.mem_of_mem_tail hx)
      have hskip:=ih l.tail.length (by rw [List.length_tail];omega) (d + 1) rfl hbt
      have hskip2:((l.tail.length:Nat):Int) + 1=n:=by rw [List.length_tail];omega
      rcases Classical.em (Jf7 l) with h1 | h1
      · rw [Jft h (.inl h1)]
        exact ⟨hskip.1,by omega,by omega⟩
      · rcases Classical.em (Jc4 l) with h2 | h2
        · rw [Jj7 h h1 h2]
          refine ⟨⟨hb,?_⟩,Int.le_refl _,by dsimp only;omega⟩
          have hx:=hb.at 1
          rw [Jc4] at h2
          rw [Jf7] at h1
          have:¬ (1 < l.length∧64 < l.getD 1 0):=fun h=>h1 (.inr h)
          dsimp only
          omega
        · rcases Classical.em (Jss (Jnl l) = Jqe l) with h3 | h3
          · rw [Jj4 h h1 h2 h3]
            have:=ih (l.drop (lenT l + 6)).length (by rw [List.length_drop];omega) d rfl (fun x hx=>hb x (List.mem_of_mem_drop hx))
            refine ⟨this.1,this.2.1,?_⟩
            have h4:=this.2.2
            rw [List.length_drop] at h4
            dsimp only
            omega
          · rw [Jft h (.inr ⟨h2, h3⟩)]
            exact ⟨hskip.1,by omega,by omega⟩
section
variable {g:PSite} {p:PSta}
theorem Inv.feedR (h:Inv g p) {b:List Int} (hb:BytesOk b) (t:Int):Inv g (feedR g p b t):=by
  have h1:=Js3 (S:=g.site.sensors.l) (t:=t) (Jc6 (p.held ++ b) p.dropped).out h.mok
  have h2:=J0f _ (l:=p.held ++ b) p.dropped rfl (fun x hx=>by
    rcases List.mem_append.1 hx with hx | hx
    · exact h.held.1 x hx
    · exact hb x hx)
  exact { h with meas:=h1.2.trans h.meas,mok:=h1.1,held:=h2.1 }
theorem J2r (l:List Int):(Jll g p l).time=p.time:=by
  induction l generalizing p with
  | nil=>rfl
  | cons z l ih=>exact ih.trans (Jt8 z)
theorem Jrn (kind:Int) (l:List Int):(Jff kind p l).time=p.time:=by
  induction l generalizing p with
  | nil=>rfl
  | cons z l ih=>exact ih
theorem Jpn (vals : List Int) : ∀ k, (darkTo g vals p k).time = p.time
  | 0=>rfl
  | k + 1=>by
    rw [darkTo,Ji7]
    split
    · exact Jpn vals k
    · rw [Jt8];exact Jpn vals k
theorem Jxo (t:Int):(Jaj g p t).time=t:=by
  rw [Jaj]
  rw [Jpn,settleB,Jrn,Jrn]
  dsimp only
  rw [settleA,J2r]
theorem Jja {t:Int} (h:¬ Jfl p t):p.time≤t∧t≤2147483648:=by
  rw [Jfl] at h;omega
theorem Inv.tick (h:Inv g p) (t:Int):Inv g (Jnm g p t).1:=by
  rw [Jnm]
  split
  · exact h
  · rename_i hl
    exact h.settle (Jja hl).1 (Jja hl).2
theorem Inv.ansSw (h:Inv g p) {s sh:Int} (he:Jd0 p.sw g.zn g.rp s sh=0):Inv g { p with sw:=Jgs p.sw s sh }:=by
  rw [Jd0,if_neg (by rw [h.fe];decide)] at he
  split at he
  · cases he
  rename_i h1
  split at he
  · cases he
  rename_i h2
  have hg:=J2n h.fe s.toNat za
  have k:SwKeep p.sw (Jgs p.sw s sh) p.time:=(SwKeep.refl h.fe p.time).set rfl (.inl rfl) zy (fun h3=>by
    dsimp only at h3
    split at h3
    · exact absurd h3.1 ze
    · rename_i h4
      rcases h3.2 with h5 | h5
      · exact hg.2 ⟨h3.1,.inl h5⟩
      · exact h4 h5)
  exact h.sws k
end
end Go.Proofs.YtchfclmokpbldaaGreat
end
section
/-
  Stations in memory. By an AI agent; no person has read it.
-/
namespace Go.Proofs.YtchfclmokpbldaaGreat
open Go.Aw Go
structure XSta where
  site:XSite
  time:Int
  held:Arr Int
  dropped:Int
  meas:Arr XMeas
  watches:Arr XWatch
  cuts:Arr XCut
  feeder:XFeeder
  rest:XRest
  log:Arr XEntry
def XSta.cells (x:XSta):List Value:=[x.site.air.mine.places.val,x.site.air.mine.roads.val,x.site.air.fans.val,x.site.air.doors.val,x.site.sensors.val,x.site.conds.val,x.site.zones.val,x.site.persons.val,.int .i64 x.time,x.held.val,.int .i64 x.dropped,x.meas.val,x.watches.val,x.cuts.val,x.feeder.switches.val,x.feeder.zones.val,.int .i64 x.feeder.reply,.int .i64 x.rest.zone,.int .i64 x.rest.first,.int .i64 x.rest.second,.int .i64 x.rest.step,.int .i64 x.rest.time,x.log.val]
abbrev XSta.val (x:XSta):Value:=.agg #[x.site.air.mine.places.val,x.site.air.mine.roads.val,x.site.air.fans.val,x.site.air.doors.val,x.site.sensors.val,x.site.conds.val,x.site.zones.val,x.site.persons.val,.int .i64 x.time,x.held.val,.int .i64 x.dropped,x.meas.val,x.watches.val,x.cuts.val,x.feeder.switches.val,x.feeder.zones.val,.int .i64 x.feeder.reply,.int .i64 x.rest.zone,.int .i64 x.rest.first,.int .i64 x.rest.second,.int .i64 x.rest.step,.int .i64 x.rest.time,x.log.val]
structure StaR (x:XSta) (R:List Sl):Prop where
  site:SiteR x.site R
  held:InR (bsl x.held) R
  meas:InR (Jde x.meas) R
  watches:InR (Jwm x.watches) R
  cuts:InR (Jp3 x.cuts) R
  feeder:FeederR x.feeder R
  log:InR (Jey x.log) R
theorem StaR.mono {x:XSta} {R R':List Sl} (h:StaR x R) (k:∀r∈R,InR r R'):StaR x R':=⟨h.site.mono k,h.held.mono k,h.meas.mono k,h.watches.mono k,h.cuts.mono k,h.feeder.mono k,h.log.mono k⟩
structure StaIs (g:PSite) (p:PSta) (x:XSta):Prop where
  site:SiteE x.site g.site
  time:x.time=p.time
  held:x.held.l=p.held
  dropped:x.dropped=p.dropped
  meas:x.meas.l=p.meas
  watches:x.watches.l=p.watches
  cuts:x.cuts.l=p.cuts
  sw:x.feeder.switches.l=p.sw
  zn:x.feeder.zones.l=g.zn
  rp:x.feeder.reply=g.rp
  rest:x.rest=p.rest
  log:x.log.l=p.log
end Go.Proofs.YtchfclmokpbldaaGreat
end
section
/-
  Power networks: orders to open, answers, ticks, and when one is due. By an AI agent; no person has read it.
-/
namespace Go.Proofs.YtchfclmokpbldaaGreat
open Go.Aw Go
set_option maxRecDepth 20000
attribute [local irreducible] CJ LJ DJ Tri YV Gives Jcj Ja1 Jbg Jci RV Ja2 OwL.L
section
variable {A9 B9:Prop}
theorem J4z (a:A9) (h:A9→B9:=by exact Jax (Jal (row:=[_,_,_]) tb rfl rfl rfl zf zb zb) rfl):B9:=h a
end
theorem Kan {sw:List XSwitch} {zn:List Int} {rp s t:Int} (h:Jrt sw zn rp s t=0):feedE sw zn rp=0∧(0≤s∧s < sw.length)∧Jix sw t:=by
  rw [Jrt] at h
  split at h
  · omega
  split at h
  · omega
  split at h
  · exact ⟨by omega,by omega,by assumption⟩
  · omega
theorem Jng (p:OwL XSwitch) (zv:Value) (rp s t:Int) (R:List Sl) (hpk:p.ok 5 XSwitch.cells) (hs:0≤s∧s < p.l.length):
    Tri Tryz.prog 152 [.agg #[p.val,zv,.int .i64 rp],.int .i64 s,.int .i64 t].toArray (p.L 76 XSwitch.cells) R (fun v L' R'=>v=.bool (p.l.getD s.toNat default).closed∧(⟨p.o,Jdn p.l s t⟩:OwL XSwitch).ok 5 XSwitch.cells∧(⟨p.o,Jdn p.l s t⟩:OwL XSwitch).L 76 XSwitch.cells=L'∧R=R'):=by
  have hg:=Jau (l:=p.l) (k:=s.toNat) default za
  obtain ⟨x,hx⟩:∃x,x=p.l.getD s.toNat default:=⟨_,rfl⟩
  rw [← hx] at hg
  refine Jad 30 Tryz.call152 Tryz.func152 rfl rfl rfl ?_
  refine Xaf ?_
  intro b3
  refine qaz ?_
  refine qam ?_
  refine Xal ?_
  refine Jax (Jat tb (p) _ rfl rfl rfl rfl zg (i:=s.toNat) zj zu) rfl ?_
  refine qc1 ?_
  refine qaw ?_
  refine qa6 ?_
  refine Jax (Jay rfl) rfl ?_
  refine qb0 ?_
  refine Jax (Jbj tb (p) rfl rfl rfl zk zg (fun _=>rfl) zg zb) rfl ?_
  refine Xbd ?_
  refine q_c (fun hc0=>?_) (fun hc0=>?_)
  ·
   refine Xch ?_
   refine q_b (L':=p.L 76 XSwitch.cells) (R':=R) ?_
   have h0:x.closed=false:=by simpa using hc0
   have h1:Jdn p.l s t=p.l:=by rw [Jdn,← hx,h0,if_neg ze]
   exact ⟨by rw [← hx,h0],by rw [h1];exact hpk,by rw [h1],rfl⟩
  refine qcl ?_
  have h0:x.closed=true:=by simpa using hc0
  have hk1:=OwL.set_ok (f:=XSwitch.cells) (wd:=5) (p:=p) (i:=s.toNat) (x:=⟨x.above,x.since,x.shown,false,x.late⟩) (fun _=>rfl) hpk
  have hg1:(p.l.set s.toNat ⟨x.above,x.since,x.shown,false,x.late⟩)[s.toNat]?=some ⟨x.above,x.since,x.shown,false,x.late⟩:=List.getElem?_set_self za
  have hk2:=OwL.set_ok (f:=XSwitch.cells) (wd:=5) (p:=⟨p.o,(p.l.set s.toNat ⟨x.above,x.since,x.shown,false,x.late⟩)⟩) (i:=s.toNat) (x:=⟨x.above,t,x.shown,false,x.late⟩) (fun _=>rfl) hk1
  have hg2:((p.l.set s.toNat ⟨x.above,x.since,x.shown,false,x.late⟩).set s.toNat ⟨x.above,t,x.shown,false,x.late⟩)[s.toNat]?=some ⟨x.above,t,x.shown,false,x.late⟩:=List.getElem?_set_self (by rw [List.length_set];omega)
  have hk3:=OwL.set_ok (f:=XSwitch.cells) (wd:=5) (p:=⟨p.o,((p.l.set s.toNat ⟨x.above,x.since,x.shown,false,x.late⟩).set s.toNat ⟨x.above,t,x.shown,false,x.late⟩)⟩) (i:=s.toNat) (x:=⟨x.above,t,0,false,x.late⟩) (fun _=>rfl) hk2
  have hg3:(((p.l.set s.toNat ⟨x.above,x.since,x.shown,false,x.late⟩).set s.toNat ⟨x.above,t,x.shown,false,x.late⟩).set s.toNat ⟨x.above,t,0,false,x.late⟩)[s.toNat]?=some ⟨x.above,t,0,false,x.late⟩:=List.getElem?_set_self (by rw [List.length_set,List.length_set];omega)
  have hk4:=OwL.set_ok (f:=XSwitch.cells) (wd:=5) (p:=⟨p.o,(((p.l.set s.toNat ⟨x.above,x.since,x.shown,false,x.late⟩).set s.toNat ⟨x.above,t,x.shown,false,x.late⟩).set s.toNat ⟨x.above,t,0,false,x.late⟩)⟩) (i:=s.toNat) (x:=⟨x.above,t,0,false,false⟩) (fun _=>rfl) hk3
  refine qay ?_
  iterate 4 refine qa6 ?_
  refine qaa ?_
  refine Jax (Jay rfl) rfl ?_
  refine qb0 ?_
  refine Jd9 (Jar tb (p) (⟨x.above,x.since,x.shown,false,x.late⟩) rfl rfl rfl rfl zk zg (fun _=>rfl) zg ze zb zb) ?_
  rintro v L' R' ⟨rfl,rfl⟩
  refine Jax (Jay rfl) rfl ?_
  refine qb0 ?_
  refine Jd9 (Jar tb ((⟨p.o,(p.l.set s.toNat ⟨x.above,x.since,x.shown,false,x.late⟩)⟩:OwL XSwitch)) (⟨x.above,t,x.shown,false,x.late⟩) rfl rfl rfl rfl zk zg (fun _=>rfl) zg ze zb zb) ?_
  rintro v L' R' ⟨rfl,rfl⟩
  refine Jax (Jay rfl) rfl ?_
  refine qb0 ?_
  refine Jd9 (Jar tb ((⟨p.o,((p.l.set s.toNat ⟨x.above,x.since,x.shown,false,x.late⟩).set s.toNat ⟨x.above,t,x.shown,false,x.late⟩)⟩:OwL XSwitch)) (⟨x.above,t,0,false,x.late⟩) rfl rfl rfl rfl zk zg (fun _=>rfl) zg ze zb zb) ?_
  rintro v L' R' ⟨rfl,rfl⟩
  refine Jax (Jay rfl) rfl ?_
  refine qb0 ?_
  refine Jd9 (Jar tb ((⟨p.o,(((p.l.set s.toNat ⟨x.above,x.since,x.shown,false,x.late⟩).set s.toNat ⟨x.above,t,x.shown,false,x.late⟩).set s.toNat ⟨x.above,t,0,false,x.late⟩)⟩:OwL XSwitch)) (⟨x.above,t,0,false,false⟩) rfl rfl rfl rfl zk zg (fun _=>rfl) zg ze zb zb) ?_
  rintro v L' R' ⟨rfl,rfl⟩
  refine qam ?_
  refine Xa3 ?_
  refine q_b (L':=(⟨p.o,(((p.l.set s.toNat ⟨x.above,x.since,x.shown,false,x.late⟩).set s.toNat ⟨x.above,t,x.shown,false,x.late⟩).set s.toNat ⟨x.above,t,0,false,x.late⟩).set s.toNat ⟨x.above,t,0,false,false⟩⟩:OwL XSwitch).L 76 XSwitch.cells) (R':=R) ?_
  have h1:Jdn p.l s t=(((p.l.set s.toNat ⟨x.above,x.since,x.shown,false,x.late⟩).set s.toNat ⟨x.above,t,x.shown,false,x.late⟩).set s.toNat ⟨x.above,t,0,false,x.late⟩).set s.toNat ⟨x.above,t,0,false,false⟩:=by rw [Jdn,← hx,h0,if_pos rfl,List.set_set,List.set_set,List.set_set];rfl
  exact ⟨by rw [← hx,h0],by rw [h1];exact hk4,by rw [h1],rfl⟩
theorem Jm8 (f:XFeeder) (s t:Int) (L:List Blk) (R:List Sl) (hf:FeederR f R):
    Tri Tryz.prog 78 [f.val,.int .i64 s,.int .i64 t].toArray L R (fun v L' R'=>∃(p:OwL XSwitch) (q:OwL Int) (r:Int),v=.tuple #[.agg #[p.val,q.val,.int .i64 r],.int .i64 (Jrt f.switches.l f.zones.l f.reply s t)]∧(p.ok 5 XSwitch.cells∧q.ok 1 Jap)∧(Jrt f.switches.l f.zones.l f.reply s t=0→p.l=Jdn f.switches.l s t∧q.l=f.zones.l∧r=f.reply)∧q.L 3 Jap ++ (p.L 76 XSwitch.cells ++ L)=L'∧R=R'):=by
  refine Jad 25 Tryz.call78 Tryz.func78 rfl rfl rfl ?_
  refine Xaf ?_
  intro b3
  refine qaq ?_
  intro b6
  refine Xas ?_
  refine J4z ?_
  refine Xbw ?_
  refine q_l rfl (Jpd f s t _ _ hf) ?_
  refine Xa9 ?_
  refine q_c (fun hc0=>?_) (fun hc0=>?_)
  ·
   refine qae ?_
   refine Jax (Jbc (qs:=[]) (out:=[_,_,_]) tb rfl rfl rfl rfl) rfl ?_
   refine Xbz ?_
   refine q_r (L':=L) (R':=R) (Jcf rfl (Jao (row:=[_,_,_]) tb rfl rfl rfl zf zb zb) (Jaf (show _=Value.int _ _ from rfl))) ?_
   exact ⟨.nil,.nil,0,rfl,⟨OwL.nil_ok,OwL.nil_ok⟩,fun h=>absurd h hc0,by rw [Jbi,Jbi];rfl,rfl⟩
  have hcan:=Kan (Decidable.not_not.1 hc0)
  have hok:=Jdt hcan.1
  have hsn:=hok.sn
  have hzl:=hok.zl
  refine qbv ?_
  refine J4z ?_
  refine Jaw rfl (Jlw f _ _ hf za) rfl ?_
  rintro v L' R' ⟨p,q,rfl,⟨hpk,hqk⟩,hpl,hql,rfl,rfl⟩
  refine qaq ?_
  intro b9
  refine Xa2 ?_
  refine J4z ?_
  refine Xbw ?_
  refine Jaw rfl (Tri.at (.cons (.app .here)) (Jng p q.val f.reply s t _ hpk (by rw [hpl];exact hcan.2.1))) rfl ?_
  rintro v L' R' ⟨_,rfl,rfl,hpk2,rfl,rfl⟩
  refine qam ?_
  refine J4z ?_
  refine Xbl ?_
  refine q_r (L':=q.L 3 Jap ++ ((⟨p.o,Jdn p.l s t⟩:OwL XSwitch).L 76 XSwitch.cells ++ L)) (R':=R) (Jcf rfl (Jao (row:=[_,_,_]) tb rfl rfl rfl zf zb zb) (Jaf (show _=Value.int _ _ from rfl))) ?_
  exact ⟨⟨p.o,Jdn p.l s t⟩,q,f.reply,by rw [Decidable.not_not.1 hc0];simp only [OwL.val,J0e],⟨hpk2,hqk⟩,fun _=>⟨by rw [hpl],hql,rfl⟩,rfl,rfl⟩
theorem J2j (x:XSwitch) (L:List Blk) (R:List Sl):
    Tri Tryz.prog 104 [x.val].toArray L R (fun v L' R'=>v=.bool (Jyl x)∧L=L'∧R=R'):=by
  refine Jad 16 Tryz.call104 Tryz.func104 rfl rfl rfl ?_
  refine Xaf ?_
  intro b1
  refine qaz ?_
  refine Xck ?_
  refine Xcl ?_
  apply Jb7 (G:=[_,_,_]) (j:=3) (cj:=6) rfl rfl zb rfl (show _=Value.bool _ from rfl) rfl
  ·
   intro hg4
   replace hg4:=qb hg4
   refine Xaa ?_
   refine qbq ?_
   exact qai
  intro junk4
  refine qah ?_
  apply Jb7 (G:=[_,_,_]) (j:=8) (cj:=11) rfl rfl zb rfl (show _=Value.bool _ from rfl) rfl
  ·
   intro hg9
   replace hg9:=qb hg9
   refine Xaa ?_
   refine qb4 ?_
   exact qai
  intro junk9
  refine Xa3 ?_
  refine q_b (L':=L) (R':=R) ?_
  exact ⟨by rw [Jyl];try simp [Bool.and_assoc],rfl,rfl⟩
end Go.Proofs.YtchfclmokpbldaaGreat
end
