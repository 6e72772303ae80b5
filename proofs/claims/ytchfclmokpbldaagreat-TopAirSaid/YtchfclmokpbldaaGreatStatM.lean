/-
  Merged texts. By an AI agent.
-/
import Derived.Test.YtchfclmokpbldaaGreatData
import Derived.Test.YtchfclmokpbldaaGreatFeedT
import Derived.Test.YtchfclmokpbldaaGreatWinR
set_option linter.all false
set_option maxHeartbeats 4000000
set_option maxRecDepth 20000
namespace Go.Proofs.YtchfclmokpbldaaGreat
open Go.Aw Go
section
def Vvg (x:Int) (k:Nat):Int:=x / 2 ^ k % 2
def Vug (a b:Int):Int:=((a.toNat ^^^ b.toNat:Nat):Int)
def Ukb (r b:Int):Int:=if r / 32768=b then 2 * r % 65536 else Vug (2 * r % 65536) 4129
def Kjc (r x : Int) : Nat → Int
 | 0=>r
 | k + 1=>Ukb (Kjc r x k) (Vvg x (7 - k))
def Krd (r x:Int):Int:=Kjc r x 8
def Z7a (l:List Int):Int:=l.foldl Krd 65535
def Crc (r:Int):Prop:=0≤r∧r < 65536
def Kfe {r:Int} (b:Int) (h:Crc r):Crc (Ukb r b):=by
 obtain ⟨h1,h2⟩:=h;have hm:0≤2 * r % 65536∧2 * r % 65536 < 65536:=by omega
 rw [Ukb];split;·exact hm
 ·refine ⟨Int.natCast_nonneg _, ?_⟩;have:(2 * r % 65536).toNat ^^^ (4129:Int).toNat < 2 ^ 16:=Nat.xor_lt_two_pow za ze;rw [Vug];omega
def Yqb {r : Int} (x : Int) (h : Crc r) : ∀ k, Crc (Kjc r x k)
 | 0=>h
 | k + 1=>Kfe _ (Yqb x h k)
def Ujc : ∀ (l : List Int) {r : Int}, Crc r → Crc (l.foldl Krd r)
 | [],_,h=>h
 | x :: l,_,h=>Ujc l (Yqb x h 8)
def Uxb (l:List Int):Crc (Z7a l):=Ujc l ⟨by decide,by decide⟩
def Jqd {l:List Int} {k:Nat} {x:Int} (h:l[k]?=some x):Z7a (l.take (k + 1))=Krd (Z7a (l.take k)) x:=by rw [yha,h,Z7a,yCa];rfl
structure XTele where
 address:Int
 kind:Int
 data:List Int
 deriving DecidableEq,Inhabited
def Jca (l:List Int):Prop:=l.getD 0 0≠126∨(1 < l.length∧64 < l.getD 1 0)
instance (l:List Int):Decidable (Jca l):=by unfold Jca;exact inferInstance
def Vg (l:List Int):Prop:=(l.length:Int) < 2∨(l.length:Int) < l.getD 1 0 + 6
instance (l:List Int):Decidable (Vg l):=by unfold Vg;exact inferInstance
def lenT (l:List Int):Nat:=(l.getD 1 0).toNat
def V7b (l:List Int):Int:=l.getD (4 + lenT l) 0 * 256 + l.getD (5 + lenT l) 0
def K2b (l:List Int):List Int:=(l.take (4 + lenT l)).drop 1
def Ugc (l:List Int):XTele:=⟨l.getD 2 0,l.getD 3 0,(l.take (4 + lenT l)).drop 4⟩
structure XFed where
 held:List Int
 dropped:Int
 out:List XTele
 deriving DecidableEq,Inhabited
def U2 (l:List Int) (d:Int):XFed:=
 if hl:l=[] then ⟨[],d,[]⟩
 else if Jca l then U2 l.tail (d + 1)
 else if Vg l then ⟨l,d,[]⟩
 else if Z7a (K2b l)≠V7b l then U2 l.tail (d + 1)
 else ⟨(U2 (l.drop (lenT l + 6)) d).held,(U2 (l.drop (lenT l + 6)) d).dropped,Ugc l :: (U2 (l.drop (lenT l + 6)) d).out⟩
termination_by l.length
decreasing_by
 all_goals have:=List.length_pos_iff.2 hl
 all_goals simp only [yfb,yY];omega
def Vaa (d:Int):U2 [] d=⟨[],d,[]⟩:=by rw [U2,dif_pos rfl]
def J2a {l:List Int} {d:Int} (h:l≠[]) (h1:Jca l∨(¬ Vg l∧Z7a (K2b l)≠V7b l)):U2 l d=U2 l.tail (d + 1):=by
 rw [U2,dif_neg h];split;·rfl
 ·
  rename_i h2;rcases h1 with h1 | ⟨h3,h4⟩;·exact absurd h1 h2
  ·rw [if_neg h3,if_pos h4]
def Zya {l:List Int} {d:Int} (h:l≠[]) (h1:¬ Jca l) (h2:Vg l):U2 l d=⟨l,d,[]⟩:=by rw [U2,dif_neg h,if_neg h1,if_pos h2]
def Vha {l:List Int} {d:Int} (h:l≠[]) (h1:¬ Jca l) (h2:¬ Vg l) (h3:Z7a (K2b l)=V7b l):U2 l d=⟨(U2 (l.drop (lenT l + 6)) d).held,(U2 (l.drop (lenT l + 6)) d).dropped,Ugc l :: (U2 (l.drop (lenT l + 6)) d).out⟩:=by rw [U2,dif_neg h,if_neg h1,if_neg h2,if_neg (by rw [h3];exact fun h=>h rfl)]
def BytesOk (l:List Int):Prop:=∀x∈l,0≤x∧x≤255
def BytesOk.at {l:List Int} (h:BytesOk l) (i:Nat):0≤l.getD i 0∧l.getD i 0≤255:=by
 rcases yk i l.length with hi | hi;·exact h _ (yi (Jn (l:=l) (k:=i) 0 hi))
 ·rw [yh,yu hi];decide
def J3d {l:List Int} (h:BytesOk l) (h2:¬ Vg l):lenT l + 6≤l.length∧((lenT l:Nat):Int)=l.getD 1 0:=by have:=h.at 1;rw [Vg] at h2;rw [lenT];omega
def V8 (f:XTele):List Int:=126 :: (f.data.length:Int) :: f.address :: f.kind :: f.data
def V0 (f:XTele):List Int:=V8 f ++ [Z7a (V8 f).tail / 256,Z7a (V8 f).tail % 256]
def U7a (f:XTele):(V0 f).length=f.data.length + 6:=by simp [V0,V8]
def Uic {f:XTele} (h:f.data.length≤64) (r:List Int) (d:Int):U2 (V0 f ++ r) d=⟨(U2 r d).held,(U2 r d).dropped,f :: (U2 r d).out⟩:=by
 have e:V0 f ++ r=126 :: (f.data.length:Int) :: f.address :: f.kind :: (f.data ++ (Z7a (V8 f).tail / 256 :: Z7a (V8 f).tail % 256 :: r)):=by simp [V0,V8]
 have hlen:(V0 f ++ r).length=f.data.length + 6 + r.length:=by rw [yl,U7a]
 have g1:(V0 f ++ r).getD 1 0=(f.data.length:Int):=by rw [e];rfl
 have eT:lenT (V0 f ++ r)=f.data.length:=by rw [lenT,g1];rfl
 have hne:V0 f ++ r≠[]:=by rw [e];simp
 have h1:¬ Jca (V0 f ++ r):=by
  rw [Jca,g1];have:(V0 f ++ r).getD 0 0=126:=by rw [e];rfl
  omega
 have h2:¬ Vg (V0 f ++ r):=by rw [Vg,g1,hlen];omega
 have hb:K2b (V0 f ++ r)=(V8 f).tail:=by rw [K2b,eT,e,yXb 4];show ((126 :: (f.data.length:Int) :: f.address :: f.kind :: List.take f.data.length (f.data ++ _)):List Int).drop 1=_;rw [yLa (ym _),yKa];rfl
 have hd:Ugc (V0 f ++ r)=f:=by rw [Ugc,eT,e,yXb 4];show (⟨f.address,f.kind,List.take f.data.length (f.data ++ _)⟩:XTele)=f;rw [yLa (ym _),yKa]
 have hc:V7b (V0 f ++ r)=Z7a (V8 f).tail:=by
  have a1:(V0 f ++ r).getD (4 + f.data.length) 0=Z7a (V8 f).tail / 256:=by rw [e,yXb 4];show (f.data ++ _).getD f.data.length 0=_;rw [yh,yJ (ym _),yub];rfl
  have a2:(V0 f ++ r).getD (5 + f.data.length) 0=Z7a (V8 f).tail % 256:=by rw [e,show 5 + f.data.length=f.data.length + 1 + 4 by omega];show (f.data ++ _).getD (f.data.length + 1) 0=_;rw [yh,yJ za,Nat.add_sub_cancel_left];rfl
  rw [V7b,eT,a1,a2];omega
 have hr:(V0 f ++ r).drop (f.data.length + 6)=r:=by rw [← U7a f,List.drop_left]
 rw [Vha hne h1 h2 (by rw [hb,hc]),eT,hr,hd]
end
section
structure XEntry where
 time:Int
 kind:Int
 target:Int
 value:Int
 deriving DecidableEq,Inhabited
def XEntry.cells (x:XEntry):List Value:=[.int .i64 x.time,.int .i64 x.kind,.int .i64 x.target,.int .i64 x.value]
abbrev Kia (x:Arr XEntry):Sl:=x.sl 4 XEntry.cells []
structure PSta where
 time:Int
 held:List Int
 dropped:Int
 meas:List XMeas
 watches:List XWatch
 cuts:List XCut
 sw:List XSwitch
 rest:XRest
 log:List XEntry
structure PSite where
 site:XSite
 zn:List Int
 rp:Int
 air:List Bool
def Jhd (S:List XSens) (kind target:Int):Option Nat:=(List.range S.length).find? fun i=>decide ((S.getD i default).kind=kind∧(S.getD i default).target=target)
def Koa (S:List XSens) (m:List XMeas) (t kind target n:Int):Int:=
 match Jhd S kind target with
 | none=>-1
 | some i=>if (Uca S m (i:Int) t).low=(Uca S m (i:Int) t).high∧0≤(Uca S m (i:Int) t).low∧(Uca S m (i:Int) t).low < n then (Uca S m (i:Int) t).low else -1
def K0c (S:List XSens) (m:List XMeas) (t kind target n:Int) (hn:0≤n):-1≤Koa S m t kind target n∧(Koa S m t kind target n < n∨Koa S m t kind target n= -1):=by
 rw [Koa];split;·omega
 ·split <;> omega
def Jqb (s:XSite) (m:List XMeas) (t:Int) (k:Nat):List Int:=(List.range k).map fun (i:Nat)=>Koa s.sensors.l m t 5 (i:Int) 3
def Vfa (s:XSite) (m:List XMeas) (t:Int) (k:Nat):List Int:=(List.range k).map fun (i:Nat)=>Koa s.sensors.l m t 6 (i:Int) ((s.air.doors.l.getD i default).rests.l.length:Int)
def Zde (s:XSite) (m:List XMeas) (t:Int):Sts:=(Jqb s m t s.air.fans.l.length,Vfa s m t s.air.doors.l.length)
def Yza (s:XSite) (A:List Bool) (m:List XMeas) (t:Int):List XSpan:=(Zce (flS s.air A (Zde s m t)) nothingS 3 s.sensors.l m t).out
def Z3d (s:XSite) (m:List XMeas) (t:Int) (k:Nat):Jqb s m t (k + 1)=Jqb s m t k ++ [Koa s.sensors.l m t 5 (k:Int) 3]:=by rw [Jqb,yxb,yU];rfl
def U8d (s:XSite) (m:List XMeas) (t:Int) (k:Nat):Vfa s m t (k + 1)=Vfa s m t k ++ [Koa s.sensors.l m t 6 (k:Int) ((s.air.doors.l.getD k default).rests.l.length:Int)]:=by rw [Vfa,yxb,yU];rfl
def Y0b (s:XSite) (m:List XMeas) (t:Int) (k:Nat):(Jqb s m t k).length=k:=by simp [Jqb]
def Ulb (s:XSite) (m:List XMeas) (t:Int) (k:Nat):(Vfa s m t k).length=k:=by simp [Vfa]
def Zkd {s:XSite} (m:List XMeas) (t:Int):Una s.air (mkS (Zde s m t))=true:=by
 refine Ked ⟨Y0b .., Ulb .., fun i x hx=>?_,fun i x d hx hd=>?_⟩;·have hx : (Jqb s m t s.air.fans.l.length)[i]? = some x := hx;rw [Jqb,yr] at hx;obtain ⟨hi,-⟩:=List.getElem?_eq_some_iff.1 (show (Jqb s m t s.air.fans.l.length)[i]?=some x from by rw [Jqb,yr];exact hx);rw [Y0b] at hi;rw [yV hi] at hx;have e:=yD hx;have:=K0c s.sensors.l m t 5 (i:Int) 3 ze;dsimp only at e;rw [← e];omega
 ·have hx : (Vfa s m t s.air.doors.l.length)[i]? = some x := hx;obtain ⟨hi,-⟩:=List.getElem?_eq_some_iff.1 hx;rw [Ulb] at hi;rw [Vfa,yr,yV hi] at hx;have e:=yD hx;have hg:=getD_some (d:=default) hd;have:=K0c s.sensors.l m t 6 (i:Int) ((s.air.doors.l.getD i default).rests.l.length:Int) za;rw [hg] at this;dsimp only at e;rw [← e,hg];omega
def Ugb (l:List XEntry) (e:XEntry):List XEntry:=(l ++ [e]).drop (l.length + 1 - 400)
def Jze {l:List XEntry} (e:XEntry):(Ugb l e).length≤400:=by rw [Ugb,yY,yl];simp;omega
def Jua (p:PSta) (kind target value:Int):PSta:={ p with log:=Ugb p.log ⟨p.time,kind,target,value⟩ }
def Zhc (g:PSite) (p:PSta) (z:Int):PSta:=
 let p1:=Jua p 1 z (p.cuts.getD z.toNat default).reason
 let s:=g.zn.getD z.toNat 0
 let p2:PSta:={ p1 with sw:=Yj p.sw s p.time }
 if (p.sw.getD s.toNat default).closed=true then Jua p2 2 s 0 else p2
def K1b (g:PSite) (p:PSta) (l:List Int):PSta:=l.foldl (Zhc g) p
def Kna (kind:Int) (p:PSta) (l:List Int):PSta:=l.foldl (fun p x=>Jua p kind x 0) p
def Zbf (g:PSite) (sw:List XSwitch) (z:Nat):Bool:=(Zba sw g.zn g.rp (g.zn.getD z 0)).any fun k=>!(sw.getD k.toNat default).closed || decide ((sw.getD k.toNat default).shown= -1)
def Jib (g:PSite) (vals:List Int) (p:PSta) (z:Nat):PSta:=
 if (p.cuts.getD z default).off=true∨Zbf g p.sw z=false then p
 else Zhc g { p with cuts:=p.cuts.set z ⟨true,(p.cuts.getD z default).clear,Z6a (g.site.zones.l.getD z default).rule.l vals⟩ } (z:Int)
def darkTo (g : PSite) (vals : List Int) (p : PSta) : Nat → PSta
 | 0=>p
 | k + 1=>Jib g vals (darkTo g vals p k) k
def K7c (c:List XCut) (r:XRest):Prop:=r.zone= -1∨((0≤r.zone∧r.zone < c.length)∧(c.getD r.zone.toNat default).off=true∧(c.getD r.zone.toNat default).clear≠-1)
instance (c:List XCut) (r:XRest):Decidable (K7c c r):=by unfold K7c;infer_instance
def K0a (c:List XCut) (r:XRest):XRest:=if K7c c r then r else noRest
def flP (g:PSite) (p:PSta):List XSpan:=Yza g.site g.air p.meas p.time
def Z2b (g:PSite) (p:PSta):List Int:=valuesV g.site p.meas p.watches (flP g p) p.time
def settleA (g:PSite) (p:PSta):PSta:=
 K1b g { p with watches:=valuesW g.site p.meas p.watches (flP g p) p.time,cuts:=cutsC g.site (Z2b g p) p.cuts p.time } (cutsN g.site (Z2b g p) p.cuts p.time)
def settleB (g:PSite) (p:PSta):PSta:=
 Kna 2 (Kna 3 { p with rest:=K0a p.cuts p.rest,sw:=(Uoa p.sw g.rp p.time).sw } (Uoa p.sw g.rp p.time).late) (Uoa p.sw g.rp p.time).opened
def Jj (g:PSite) (p0:PSta) (t:Int):PSta:=
 let p:={ p0 with time:=t }
 let q:=settleB g (settleA g p)
 darkTo g (Z2b g p) q q.cuts.length
def Jya (p:PSta) (t:Int):Prop:=t < p.time∨2147483648 < t
instance (p:PSta) (t:Int):Decidable (Jya p t):=by unfold Jya;infer_instance
def Jla (S:List XSens) (ad:Int):Int:=(((List.range S.length).find? fun i=>decide ((S.getD i default).address=ad)).map Int.ofNat).getD (-1)
end
section
structure Inv (g:PSite) (p:PSta):Prop where
 site:Ue g.site=0
 airy:AiryIs g.site.air.mine g.air
 time:0≤p.time∧p.time≤2147483648
 meas:p.meas.length=g.site.sensors.l.length
 mok:∀x∈p.meas,K9a x
 wlen:p.watches.length=g.site.conds.l.length
 wok:∀w∈p.watches,U3a w∧w.last≤p.time
 clen:p.cuts.length=g.site.zones.l.length
 fe:feedE p.sw g.zn g.rp=0
 since:∀x∈p.sw,x.since≤p.time
 zlen:g.zn.length=g.site.zones.l.length
 rest:0≤p.rest.time∧(p.rest.zone= -1∨(0≤p.rest.zone∧p.rest.zone < p.cuts.length))
 log:p.log.length≤400
 held:BytesOk p.held∧p.held.length≤70
section
variable {g:PSite} {p:PSta}
def Inv.sok (h:Inv g p):SiteOk g.site:=Z2 h.site
def Inv.fok (h:Inv g p):FeedOk p.sw g.zn g.rp:=Ys h.fe
def Inv.air (h:Inv g p):Ky g.site.air=0:=h.sok.air
def Inv.tok (h:Inv g p):Yya p.sw p.time:=⟨h.time,h.since⟩
def Inv.at (h:Inv g p) {t:Int} (h1:p.time≤t) (h2:t≤2147483648):Inv g { p with time:=t }:=
 { h with time:=⟨by have:=h.time;dsimp only;omega,h2⟩,wok:=fun w hw=>⟨(h.wok w hw).1,by have:=(h.wok w hw).2;dsimp only;omega⟩,since:=fun x hx=>by have:=h.since x hx;dsimp only;omega }
def Inv.note (h:Inv g p) (kind target value:Int):Inv g (Jua p kind target value):={ h with log:=by show (Ugb p.log _).length≤400;exact Jze _ }
def Inv.sws (h:Inv g p) {sw:List XSwitch} (k:SwKeep p.sw sw p.time):Inv g { p with sw:=sw }:=
 { h with fe:=k.feedE h.fe h.time,since:=(k.time h.tok).2 }
def Inv.cut (h:Inv g p) (z:Int):Inv g (Zhc g p z):=by
 have h1:=h.note 1 z (p.cuts.getD z.toNat default).reason;have h2:=h1.sws (sw:=Yj p.sw (g.zn.getD z.toNat 0) p.time) ((SwKeep.refl h.fe p.time).openS _);rw [Zhc];split;·exact h2.note _ _ _
 ·exact h2
def Kwe : ∀ (l : List Int) {p : PSta}, Inv g p → Inv g (K1b g p l)
 | [],_,h=>h
 | z :: l,_,h=>Kwe l (h.cut z)
def Inv.cuts (h:Inv g p) (l:List Int):Inv g (K1b g p l):=Kwe l h
def Yod (kind : Int) : ∀ (l : List Int) {p : PSta}, Inv g p → Inv g (Kna kind p l)
 | [],_,h=>h
 | z :: l,_,h=>Yod kind l (h.note kind z 0)
def Inv.notes (kind:Int) (h:Inv g p) (l:List Int):Inv g (Kna kind p l):=Yod kind l h
def Z3c (z:Int):(Zhc g p z).cuts=p.cuts:=by rw [Zhc];split <;> rfl
def Inv.flLen (h:Inv g p):(flP g p).length=g.site.air.mine.roads.l.length:=by rw [flP,Yza,Zce,(Znc ..).1,flS];exact Vnd h.air (Zkd _ _) h.airy
def Zge {S:List XSens} {n:Nat} {c:XCond} (h:Kv S n c=0) (hk:c.kind=1):Jpa c.level:=by
 rw [Kv] at h;split at h;·omega
 split at h;·omega
 rw [J5a] at h;split at h;·assumption
 ·omega
def Inv.valErr (h:Inv g p):valuesErr g.site p.meas p.watches (flP g p) p.time=0:=by
 have ht:=h.time;rw [valuesErr,if_neg (by rw [h.site];decide),if_neg (by rw [h.meas,h.wlen,h.flLen];simp),if_neg za];have:(List.range p.watches.length).findSome? (fun i=>nzO (K3c (g.site.conds.l.getD i default) (p.watches.getD i default) p.time))=none:=by
  rw [yK];intro i hi;rw [yQa] at hi;have hw:=h.wok _ (yi (Jn (l:=p.watches) (k:=i) default hi));have hc:=h.sok.cond _ (yi (Jn (l:=g.site.conds.l) (k:=i) default (by rw [← h.wlen];exact hi)));rw [nzO,if_pos];rw [K3c];split;·rename_i hk;exact Vbc (Zge hc hk) za hw.1
  ·rfl
 rw [this];rfl
def Uee (l:XLevel) {w:XWatch} (x:XSpan) {t:Int} (ht:0≤t) (h:U3a w) (hl:w.last≤t):U3a (Kga l w x t)∧(Kga l w x t).last≤t:=by
 obtain ⟨h1,h2,h3,h4⟩:=h;rw [Kga];repeat' split
 all_goals refine ⟨⟨ht,?_,?_,?_⟩,yz _⟩
 all_goals dsimp only
 all_goals first | omega | exact .inl rfl | exact .inr rfl | (rcases h4 with h4 | h4;exact .inl h4;simp_all)
def Inv.valLen (h:Inv g p):(Z2b g p).length=g.site.conds.l.length:=by rw [Z2b,valuesV,if_neg (by rw [h.valErr];decide),yE,ycc,h.wlen]
def Inv.cutErr (h:Inv g p):cutsErr g.site (Z2b g p) p.cuts p.time=0:=by have ht:=h.time;rw [cutsErr,if_neg (by rw [h.site];decide),if_neg (by rw [h.valLen,h.clen];simp),if_neg za]
def Inv.sA (h:Inv g p):Inv g { p with watches:=valuesW g.site p.meas p.watches (flP g p) p.time,cuts:=cutsC g.site (Z2b g p) p.cuts p.time }:=by
 have hw:(valuesW g.site p.meas p.watches (flP g p) p.time).length=p.watches.length:=by rw [valuesW,if_neg (by rw [h.valErr];decide),yE,ycc]
 have hc:(cutsC g.site (Z2b g p) p.cuts p.time).length=p.cuts.length:=by rw [cutsC,if_neg (by rw [h.cutErr];decide),yE,ycc]
 refine { h with wlen:=hw.trans h.wlen,wok:=fun w hm=>?_,clen:=hc.trans h.clen,rest:=by rw [hc];exact h.rest };have hm:w∈valuesW g.site p.meas p.watches (flP g p) p.time:=hm;rw [valuesW,if_neg (by rw [h.valErr];decide),List.mem_map] at hm;obtain ⟨i,hi,rfl⟩:=hm;rw [yQa] at hi;have hw:=h.wok _ (yi (Jn (l:=p.watches) (k:=i) default hi));show U3a (Kqb _ _ _ _ _)∧(Kqb _ _ _ _ _).last≤p.time;rw [Kqb];split;·exact Uee _ _ h.time.1 hw.1 hw.2
 ·exact hw
def Inv.settleA (h:Inv g p):Inv g (settleA g p):=h.sA.cuts _
def Yqd (c:List XCut) (r:XRest) (h:0≤r.time):0≤(K0a c r).time∧((K0a c r).zone= -1∨(0≤(K0a c r).zone∧(K0a c r).zone < c.length)):=by
 rw [K0a];split;·rename_i hk;rw [K7c] at hk;exact ⟨h,hk.imp_right fun h=>h.1⟩
 ·exact ⟨by decide,.inl rfl⟩
def Inv.settleB (h:Inv g p):Inv g (settleB g p):=by have h1:Inv g { p with rest:=K0a p.cuts p.rest }:={ h with rest:=Yqd _ _ h.rest.1 };have h2:=h1.sws (sw:=(Uoa p.sw g.rp p.time).sw) (Yla h.fe _ (ym _));exact (h2.notes 3 _).notes 2 _
def Inv.dark (h:Inv g p) (vals:List Int) (z:Nat):Inv g (Jib g vals p z):=by
 rw [Jib];split;·exact h
 ·refine Inv.cut (p := { p with cuts := p.cuts.set z ⟨true, (p.cuts.getD z default).clear, Z6a (g.site.zones.l.getD z default).rule.l vals⟩ }) ?_ _;exact { h with clen:=by show (p.cuts.set _ _).length=_;rw [yL];exact h.clen,rest:=by show _∧(_∨(_∧_ < ((p.cuts.set _ _).length:Int)));rw [yL];exact h.rest }
def Inv.darkTo (h : Inv g p) (vals : List Int) : ∀ k, Inv g (darkTo g vals p k)
 | 0=>h
 | k + 1=>(Inv.darkTo h vals k).dark vals k
def Inv.settle (h:Inv g p) {t:Int} (h1:p.time≤t) (h2:t≤2147483648):Inv g (Jj g p t):=((h.at h1 h2).settleA.settleB).darkTo _ _
def Zjc (z:Int):(Zhc g p z).time=p.time:=by rw [Zhc];split <;> rfl
end
end
section
attribute [local irreducible] CJ LJ DJ Tri YV Gives U5 J2 Kn U6 RV J4 OwL.L
def Kee (k:Int):Int:=if k=6 then 5 else if k=5 then 2 else 1
def Vqf (s:XSens) (r:Int):XSpan:=⟨s.offset + s.scale * r / 1000 - s.error,s.offset + -((-(s.scale * r)) / 1000) + s.error⟩
def Yk (s:XSens) (r:Int):XSpan:=
 if Uv s≠0∨¬ (0≤r∧r≤65535) then nothingS
 else if 4≤s.kind then if Kee s.kind < r then nothingS else ⟨r,r⟩
 else if s.kind=1∨s.kind=2 then ⟨max (Vqf s r).low 0,max (Vqf s r).high 0⟩ else Vqf s r
def Zcb {s:XSens} (h:Uv s=0):Jba s:=by
 rw [Uv] at h;split at h;·omega
 split at h;·assumption
 ·omega
def U1e {s:XSens} {r:Int} (h:Uv s=0) (hr:0≤r∧r≤65535):-65535000000≤s.scale * r∧s.scale * r≤65535000000:=by have hs:=Zcb h;rw [Jba] at hs;have h1:s.scale * r≤1000000 * r:=yGa za hr.1;have h2:-1000000 * r≤s.scale * r:=yGa za hr.1;omega
end
section
def Vm (S:List XSens) (f:XTele) (t:Int):Int:=
 if t < 0∨2147483648 < t then 8
 else if Jla S f.address < 0∨Uv (S.getD (Jla S f.address).toNat default)≠0 then 9
 else if f.kind≠1∧f.kind≠2 then 5
 else if f.kind=1∧f.data.length≠2∨f.kind=2∧f.data.length≠0 then 6 else 0
def J1b (S:List XSens) (f:XTele) (t:Int):XMeas:=
 ⟨Jla S f.address,t,if f.kind=1 then Yk (S.getD (Jla S f.address).toNat default) (f.data.getD 0 0 * 256 + f.data.getD 1 0) else nothingS⟩
def Y1a (S:List XSens) (t:Int) (m:List XMeas) (f:XTele):List XMeas:=if Vm S f t=0 then m.set (Jla S f.address).toNat (J1b S f t) else m
def feedR (g:PSite) (p:PSta) (b:List Int) (t:Int):PSta:=
 { p with held:=(U2 (p.held ++ b) p.dropped).held,dropped:=(U2 (p.held ++ b) p.dropped).dropped,meas:=(U2 (p.held ++ b) p.dropped).out.foldl (Y1a g.site.sensors.l t) p.meas }
def Kdc (g:PSite) (p:PSta) (b:List Int) (t:Int):PSta×Int:=if Jya p t then (p,8) else (Jj g (feedR g p b t) t,0)
def Uea (g:PSite) (p:PSta) (s sh t:Int):PSta×Int:=
 if Jya p t then (p,8) else if Yf p.sw g.zn g.rp s sh≠0 then (p,Yf p.sw g.zn g.rp s sh) else (Jj g { p with sw:=J8a p.sw s sh } t,0)
def K8e (g:PSite) (p:PSta) (person zone t:Int):PSta×Int:=
 if Jya p t then (p,8)
 else
  let q:=Jj g p t
  let e:=askE g.site q.cuts (flP g q) q.rest person zone t
  if e≠0 then (Jua q 7 zone e,e) else (Jua { q with rest:=askR g.site q.cuts (flP g q) q.rest person zone t } 4 zone person,0)
def Z5 (g:PSite) (p:PSta) (person t:Int):PSta×Int:=
 if Jya p t then (p,8)
 else
  let q:=Jj g p t
  let e:=confirmE g.site q.cuts (flP g q) q.rest person t
  if e≠0 then (Jua q 7 q.rest.zone e,e) else (Jua { q with rest:=confirmR g.site q.cuts (flP g q) q.rest person t } 5 q.rest.zone person,0)
def mkF (g:PSite) (p:PSta):XFeeder:=⟨⟨none,0,p.sw⟩,⟨none,0,g.zn⟩,g.rp⟩
def Zka (g:PSite) (p:PSta) (t:Int):PSta×Int:=
 if Jya p t then (p,8)
 else
  let q:=Jj g p t
  let e:=Vw g.site q.cuts (flP g q) q.rest (mkF g q) t
  if e≠0 then (Jua q 7 q.rest.zone e,e)
  else (Jua { q with rest:=K7a g.site q.cuts (flP g q) q.rest (mkF g q) t,cuts:=Kla g.site q.cuts (flP g q) q.rest (mkF g q) t,sw:=Zt g.site q.cuts (flP g q) q.rest (mkF g q) t } 6 (atR (mkF g q) q.rest.zone) 0,0)
def J6e {S:List XSens} {ad:Int} (h:¬ Jla S ad < 0):(Jla S ad).toNat < S.length∧0≤Jla S ad:=by
 rw [Jla] at h ⊢;cases hf:(List.range S.length).find? (fun i=>decide ((S.getD i default).address=ad)) with
 | none=>rw [hf] at h;exact absurd ze h
 | some i=>have:=List.mem_of_find?_eq_some hf;rw [yQa] at this;exact ⟨this,Int.natCast_nonneg i⟩
def Ule (S:List XSens) (t:Int) (m:List XMeas) (f:XTele):(Y1a S t m f).length=m.length:=by rw [Y1a];split <;> simp
def J0e {a t:Int} (ht:0≤t∧t≤2147483648):K9a ⟨a,t,nothingS⟩:=⟨ht,by show (-1125899906842624:Int)≤ -1125899906842624∧(-1125899906842624:Int)≤1125899906842624;decide,by show (-1125899906842624:Int)≤1125899906842624∧(1125899906842624:Int)≤1125899906842624;decide⟩
def Urb (s:XSens) (r:Int):(-1125899906842624≤(Yk s r).low∧(Yk s r).low≤1125899906842624)∧(-1125899906842624≤(Yk s r).high∧(Yk s r).high≤1125899906842624):=by
 rw [Yk];split;·exact ⟨by decide,by decide⟩
 rename_i h;have hm:=U1e (s:=s) (r:=r) za za;have hs:=Zcb (s:=s) za;rw [Jba] at hs;split;·
  split;·exact ⟨by decide,by decide⟩
  ·dsimp only;omega
 split;·simp only [Vqf];omega
 ·simp only [Vqf];omega
def Zxe {S:List XSens} {t:Int} {m:List XMeas} (f:XTele) (h:∀x∈m,K9a x):∀x∈Y1a S t m f,K9a x:=by
 rw [Y1a];split;·
  rename_i he;intro x hx;rcases List.mem_or_eq_of_mem_set hx with hx | rfl;·exact h x hx
  ·
   have ht:0≤t∧t≤2147483648:=by
    rw [Vm] at he;split at he;·cases he
    ·omega
   rw [J1b];split;·exact ⟨ht,(Urb _ _).1,(Urb _ _).2⟩
   ·exact J0e ht
 ·exact h
def Vsc {S : List XSens} {t : Int} : ∀ (l : List XTele) {m : List XMeas}, (∀ x ∈ m, K9a x) → (∀ x ∈ l.foldl (Y1a S t) m, K9a x) ∧ (l.foldl (Y1a S t) m).length = m.length
 | [],m,h=>⟨h,rfl⟩
 | f :: l,m,h=>by
  have:=Vsc (S:=S) (t:=t) l (Zxe (S:=S) (t:=t) f h)
  exact ⟨this.1,this.2.trans (Ule ..)⟩
def Kde:∀(n:Nat) {l:List Int} (d:Int),l.length=n→BytesOk l→(BytesOk (U2 l d).held∧(U2 l d).held.length≤70)∧d≤(U2 l d).dropped∧(U2 l d).dropped≤d + n:=by
 intro n;induction n using Nat.strongRecOn with
 | ind n ih=>
  intro l d hn hb;rcases yia (l=[]) with h | h;·subst h;rw [Vaa];exact ⟨⟨fun x hx=>(by cases hx),yea _⟩,yz _,(by show d≤d + (n:Int);omega)⟩
  ·
   have hpos := List.length_pos_iff.2 h;have hbt:BytesOk l.tail:=fun x hx=>hb x (yOb hx);have hskip:=ih l.tail.length (by rw [yfb];omega) (d + 1) rfl hbt;(have hskip2:((l.tail.length:Nat):Int) + 1=n:=by rw [yfb];omega);rcases yia (Jca l) with h1 | h1;·rw [J2a h (.inl h1)];exact ⟨hskip.1,by omega,by omega⟩
   ·
    rcases yia (Vg l) with h2 | h2;·rw [Zya h h1 h2];refine ⟨⟨hb,?_⟩,yz _,by dsimp only;omega⟩;have hx:=hb.at 1;rw [Vg] at h2;rw [Jca] at h1;have:¬ (1 < l.length∧64 < l.getD 1 0):=fun h=>h1 (.inr h);dsimp only;omega
    ·
     rcases yia (Z7a (K2b l) = V7b l) with h3 | h3;·rw [Vha h h1 h2 h3];have:=ih (l.drop (lenT l + 6)).length (by rw [yY];omega) d rfl (fun x hx=>hb x (yqa hx));refine ⟨this.1,this.2.1,?_⟩;have h4:=this.2.2;rw [yY] at h4;dsimp only;omega
     ·rw [J2a h (.inr ⟨h2, h3⟩)];exact ⟨hskip.1,by omega,by omega⟩
section
variable {g:PSite} {p:PSta}
def Inv.feedR (h:Inv g p) {b:List Int} (hb:BytesOk b) (t:Int):Inv g (feedR g p b t):=by
 have h1:=Vsc (S:=g.site.sensors.l) (t:=t) (U2 (p.held ++ b) p.dropped).out h.mok;have h2:=Kde _ (l:=p.held ++ b) p.dropped rfl (fun x hx=>by
  rcases List.mem_append.1 hx with hx | hx;·exact h.held.1 x hx
  ·exact hb x hx)
 exact { h with meas:=h1.2.trans h.meas,mok:=h1.1,held:=h2.1 }
def Vqe (l:List Int):(K1b g p l).time=p.time:=by
 induction l generalizing p with
 | nil=>rfl
 | cons z l ih=>exact ih.trans (Zjc z)
def Uoc (kind:Int) (l:List Int):(Kna kind p l).time=p.time:=by
 induction l generalizing p with
 | nil=>rfl
 | cons z l ih=>exact ih
def Zub (vals : List Int) : ∀ k, (darkTo g vals p k).time = p.time
 | 0=>rfl
 | k + 1=>by
  rw [darkTo,Jib]
  split
  ·exact Zub vals k
  ·rw [Zjc];exact Zub vals k
def Yma (t:Int):(Jj g p t).time=t:=by rw [Jj];rw [Zub,settleB,Uoc,Uoc];dsimp only;rw [settleA,Vqe]
def Zy {t:Int} (h:¬ Jya p t):p.time≤t∧t≤2147483648:=by rw [Jya] at h;omega
def Inv.feed (h:Inv g p) {b:List Int} (hb:BytesOk b) (t:Int):Inv g (Kdc g p b t).1:=by
 rw [Kdc];split;·exact h
 ·rename_i hl;exact (h.feedR hb t).settle (Zy hl).1 (Zy hl).2
def Inv.ansSw (h:Inv g p) {s sh:Int} (he:Yf p.sw g.zn g.rp s sh=0):Inv g { p with sw:=J8a p.sw s sh }:=by
 rw [Yf,if_neg (by rw [h.fe];decide)] at he;split at he;·cases he
 rename_i h1;split at he;·cases he
 rename_i h2;have hg:=Yoe h.fe s.toNat za;have k:SwKeep p.sw (J8a p.sw s sh) p.time:=(SwKeep.refl h.fe p.time).set rfl (.inl rfl) zx (fun h3=>by
  dsimp only at h3;split at h3;·exact absurd h3.1 ze
  ·
   rename_i h4;rcases h3.2 with h5 | h5;·exact hg.2 ⟨h3.1,.inl h5⟩
   ·exact h4 h5)
 exact h.sws k
def Inv.answer (h:Inv g p) (s sh t:Int):Inv g (Uea g p s sh t).1:=by
 rw [Uea];split;·exact h
 rename_i hl;split;·exact h
 rename_i he;exact (h.ansSw (Decidable.not_not.1 he)).settle (Zy hl).1 (Zy hl).2
def Inv.ask (h:Inv g p) (a z t:Int):Inv g (K8e g p a z t).1:=by
 rw [K8e];split;·exact h
 rename_i hl;have hs:=h.settle (Zy hl).1 (Zy hl).2;dsimp only;split;·exact hs.note _ _ _
 ·
  rename_i he;have he:askE g.site (Jj g p t).cuts (flP g (Jj g p t)) (Jj g p t).rest a z t=0:=Decidable.not_not.1 he;have e:askR g.site (Jj g p t).cuts (flP g (Jj g p t)) (Jj g p t).rest a z t=⟨z,a,-1,1,t⟩:=by rw [askR,if_pos he]
  have h1:Inv g { Jj g p t with rest:=askR g.site (Jj g p t).cuts (flP g (Jj g p t)) (Jj g p t).rest a z t }:=by
   refine { hs with rest:=?_ };rw [e];refine ⟨by have:=h.time;have:=Zy hl;dsimp only;omega,.inr ?_⟩;rw [askE] at he;split at he;·omega
   split at he;·cases he
   split at he;·cases he
   exact Umb he
  exact h1.note _ _ _
def Inv.confirm (h:Inv g p) (a t:Int):Inv g (Z5 g p a t).1:=by
 rw [Z5];split;·exact h
 rename_i hl;have hs:=h.settle (Zy hl).1 (Zy hl).2;dsimp only;split;·exact hs.note _ _ _
 ·
  rename_i he;have he:confirmE g.site (Jj g p t).cuts (flP g (Jj g p t)) (Jj g p t).rest a t=0:=Decidable.not_not.1 he;have h1:Inv g { Jj g p t with rest:=confirmR g.site (Jj g p t).cuts (flP g (Jj g p t)) (Jj g p t).rest a t }:=by refine { hs with rest:=?_ };rw [confirmR,if_pos he];exact ⟨by have:=h.time;have:=Zy hl;dsimp only;omega,hs.rest.2⟩
  exact h1.note _ _ _
end
end
section
structure XSta where
 site:XSite
 time:Int
 held:Arr Int
 dropped:Int
 meas:Arr XMeas
 watches:Arr XWatch
 cuts:Arr XCut
 feeder:XFeeder
 rest:XRest
 log:Arr XEntry
def XSta.cells (x:XSta):List Value:=[x.site.air.mine.places.val,x.site.air.mine.roads.val,x.site.air.fans.val,x.site.air.doors.val,x.site.sensors.val,x.site.conds.val,x.site.zones.val,x.site.persons.val,.int .i64 x.time,x.held.val,.int .i64 x.dropped,x.meas.val,x.watches.val,x.cuts.val,x.feeder.switches.val,x.feeder.zones.val,.int .i64 x.feeder.reply,.int .i64 x.rest.zone,.int .i64 x.rest.first,.int .i64 x.rest.second,.int .i64 x.rest.step,.int .i64 x.rest.time,x.log.val]
abbrev XSta.val (x:XSta):Value:=.agg #[x.site.air.mine.places.val,x.site.air.mine.roads.val,x.site.air.fans.val,x.site.air.doors.val,x.site.sensors.val,x.site.conds.val,x.site.zones.val,x.site.persons.val,.int .i64 x.time,x.held.val,.int .i64 x.dropped,x.meas.val,x.watches.val,x.cuts.val,x.feeder.switches.val,x.feeder.zones.val,.int .i64 x.feeder.reply,.int .i64 x.rest.zone,.int .i64 x.rest.first,.int .i64 x.rest.second,.int .i64 x.rest.step,.int .i64 x.rest.time,x.log.val]
structure StaR (x:XSta) (R:LS):Prop where
 site:SiteR x.site R
 held:InR (bsl x.held) R
 meas:InR (Yy x.meas) R
 watches:InR (Jqe x.watches) R
 cuts:InR (Vic x.cuts) R
 feeder:FeederR x.feeder R
 log:InR (Kia x.log) R
def StaR.mono {x:XSta} {R J:LS} (h:StaR x R) (k:∀r∈R,InR r J):StaR x J:=⟨h.site.mono k,h.held.mono k,h.meas.mono k,h.watches.mono k,h.cuts.mono k,h.feeder.mono k,h.log.mono k⟩
structure StaIs (g:PSite) (p:PSta) (x:XSta):Prop where
 site:SiteE x.site g.site
 time:x.time=p.time
 held:x.held.l=p.held
 dropped:x.dropped=p.dropped
 meas:x.meas.l=p.meas
 watches:x.watches.l=p.watches
 cuts:x.cuts.l=p.cuts
 sw:x.feeder.switches.l=p.sw
 zn:x.feeder.zones.l=g.zn
 rp:x.feeder.reply=g.rp
 rest:x.rest=p.rest
 log:x.log.l=p.log
end
end Go.Proofs.YtchfclmokpbldaaGreat
