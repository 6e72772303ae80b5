/-
  Merged texts. By an AI agent.
-/
import Derived.Test.YtchfclmokpbldaaGreatData
import Derived.Test.YtchfclmokpbldaaGreatFeedT
import Derived.Test.YtchfclmokpbldaaGreatWinR
set_option linter.all false
set_option maxHeartbeats 4000000
set_option maxRecDepth 20000
namespace Go.Proofs.YtchfclmokpbldaaGreat
open Go.Aw Go
section
def Kdg (x:Int) (k:Nat):Int:=x / 2 ^ k % 2
def Kag (a b:Int):Int:=((a.toNat ^^^ b.toNat:Nat):Int)
def K3b (r b:Int):Int:=if r / 32768=b then 2 * r % 65536 else Kag (2 * r % 65536) 4129
def Jgc (r x : Int) : Nat → Int
 | 0=>r
 | k + 1=>K3b (Jgc r x k) (Kdg x (7 - k))
def Ksd (r x:Int):Int:=Jgc r x 8
def Zxa (l:List Int):Int:=l.foldl Ksd 65535
def Crc (r:Int):Prop:=0≤r∧r < 65536
def Zmd {r:Int} (b:Int) (h:Crc r):Crc (K3b r b):=by
 obtain ⟨h1,h2⟩:=h;have hm:0≤2 * r % 65536∧2 * r % 65536 < 65536:=by omega
 rw [K3b];split;·exact hm
 ·refine ⟨Int.natCast_nonneg _, ?_⟩;have:(2 * r % 65536).toNat ^^^ (4129:Int).toNat < 2 ^ 16:=Nat.xor_lt_two_pow za ze;rw [Kag];omega
def Vqb {r : Int} (x : Int) (h : Crc r) : ∀ k, Crc (Jgc r x k)
 | 0=>h
 | k + 1=>Zmd _ (Vqb x h k)
def Koc : ∀ (l : List Int) {r : Int}, Crc r → Crc (l.foldl Ksd r)
 | [],_,h=>h
 | x :: l,_,h=>Koc l (Vqb x h 8)
def Urc (l:List Int):Crc (Zxa l):=Koc l ⟨by decide,by decide⟩
def Zzc {l:List Int} {k:Nat} {x:Int} (h:l[k]?=some x):Zxa (l.take (k + 1))=Ksd (Zxa (l.take k)) x:=by rw [yfa,h,Zxa,ywa];rfl
structure XTele where
 address:Int
 kind:Int
 data:List Int
 deriving DecidableEq,Inhabited
def Z9 (l:List Int):Prop:=l.getD 0 0≠126∨(1 < l.length∧64 < l.getD 1 0)
instance (l:List Int):Decidable (Z9 l):=by unfold Z9;exact inferInstance
def U6 (l:List Int):Prop:=(l.length:Int) < 2∨(l.length:Int) < l.getD 1 0 + 6
instance (l:List Int):Decidable (U6 l):=by unfold U6;exact inferInstance
def lenT (l:List Int):Nat:=(l.getD 1 0).toNat
def Vgb (l:List Int):Int:=l.getD (4 + lenT l) 0 * 256 + l.getD (5 + lenT l) 0
def Kkb (l:List Int):List Int:=(l.take (4 + lenT l)).drop 1
def Knc (l:List Int):XTele:=⟨l.getD 2 0,l.getD 3 0,(l.take (4 + lenT l)).drop 4⟩
structure XFed where
 held:List Int
 dropped:Int
 out:List XTele
 deriving DecidableEq,Inhabited
def U3 (l:List Int) (d:Int):XFed:=
 if hl:l=[] then ⟨[],d,[]⟩
 else if Z9 l then U3 l.tail (d + 1)
 else if U6 l then ⟨l,d,[]⟩
 else if Zxa (Kkb l)≠Vgb l then U3 l.tail (d + 1)
 else ⟨(U3 (l.drop (lenT l + 6)) d).held,(U3 (l.drop (lenT l + 6)) d).dropped,Knc l :: (U3 (l.drop (lenT l + 6)) d).out⟩
termination_by l.length
decreasing_by
 all_goals have:=List.length_pos_iff.2 hl
 all_goals simp only [ybb,yP];omega
def Y0a (d:Int):U3 [] d=⟨[],d,[]⟩:=by rw [U3,dif_pos rfl]
def Jsa {l:List Int} {d:Int} (h:l≠[]) (h1:Z9 l∨(¬ U6 l∧Zxa (Kkb l)≠Vgb l)):U3 l d=U3 l.tail (d + 1):=by
 rw [U3,dif_neg h];split;·rfl
 ·
  rename_i h2;rcases h1 with h1 | ⟨h3,h4⟩;·exact absurd h1 h2
  ·rw [if_neg h3,if_pos h4]
def Zla {l:List Int} {d:Int} (h:l≠[]) (h1:¬ Z9 l) (h2:U6 l):U3 l d=⟨l,d,[]⟩:=by rw [U3,dif_neg h,if_neg h1,if_pos h2]
def U1a {l:List Int} {d:Int} (h:l≠[]) (h1:¬ Z9 l) (h2:¬ U6 l) (h3:Zxa (Kkb l)=Vgb l):U3 l d=⟨(U3 (l.drop (lenT l + 6)) d).held,(U3 (l.drop (lenT l + 6)) d).dropped,Knc l :: (U3 (l.drop (lenT l + 6)) d).out⟩:=by rw [U3,dif_neg h,if_neg h1,if_neg h2,if_neg (by rw [h3];exact fun h=>h rfl)]
def BytesOk (l:List Int):Prop:=∀x∈l,0≤x∧x≤255
def BytesOk.at {l:List Int} (h:BytesOk l) (i:Nat):0≤l.getD i 0∧l.getD i 0≤255:=by
 rcases yk i l.length with hi | hi;·exact h _ (yj (Jw (l:=l) (k:=i) 0 hi))
 ·rw [yh,yr hi];decide
def Yrc {l:List Int} (h:BytesOk l) (h2:¬ U6 l):lenT l + 6≤l.length∧((lenT l:Nat):Int)=l.getD 1 0:=by have:=h.at 1;rw [U6] at h2;rw [lenT];omega
def Zv (f:XTele):List Int:=126 :: (f.data.length:Int) :: f.address :: f.kind :: f.data
def Za (f:XTele):List Int:=Zv f ++ [Zxa (Zv f).tail / 256,Zxa (Zv f).tail % 256]
def Uta (f:XTele):(Za f).length=f.data.length + 6:=by simp [Za,Zv]
def Ytd {f:XTele} (h:f.data.length≤64) (r:List Int) (d:Int):U3 (Za f ++ r) d=⟨(U3 r d).held,(U3 r d).dropped,f :: (U3 r d).out⟩:=by
 have e:Za f ++ r=126 :: (f.data.length:Int) :: f.address :: f.kind :: (f.data ++ (Zxa (Zv f).tail / 256 :: Zxa (Zv f).tail % 256 :: r)):=by simp [Za,Zv]
 have hlen:(Za f ++ r).length=f.data.length + 6 + r.length:=by rw [yo,Uta]
 have g1:(Za f ++ r).getD 1 0=(f.data.length:Int):=by rw [e];rfl
 have eT:lenT (Za f ++ r)=f.data.length:=by rw [lenT,g1];rfl
 have hne:Za f ++ r≠[]:=by rw [e];simp
 have h1:¬ Z9 (Za f ++ r):=by
  rw [Z9,g1];have:(Za f ++ r).getD 0 0=126:=by rw [e];rfl
  omega
 have h2:¬ U6 (Za f ++ r):=by rw [U6,g1,hlen];omega
 have hb:Kkb (Za f ++ r)=(Zv f).tail:=by rw [Kkb,eT,e,yRb 4];show ((126 :: (f.data.length:Int) :: f.address :: f.kind :: List.take f.data.length (f.data ++ _)):List Int).drop 1=_;rw [yEa (yl _),yab];rfl
 have hd:Knc (Za f ++ r)=f:=by rw [Knc,eT,e,yRb 4];show (⟨f.address,f.kind,List.take f.data.length (f.data ++ _)⟩:XTele)=f;rw [yEa (yl _),yab]
 have hc:Vgb (Za f ++ r)=Zxa (Zv f).tail:=by
  have a1:(Za f ++ r).getD (4 + f.data.length) 0=Zxa (Zv f).tail / 256:=by rw [e,yRb 4];show (f.data ++ _).getD f.data.length 0=_;rw [yh,yX (yl _),yec];rfl
  have a2:(Za f ++ r).getD (5 + f.data.length) 0=Zxa (Zv f).tail % 256:=by rw [e,show 5 + f.data.length=f.data.length + 1 + 4 by omega];show (f.data ++ _).getD (f.data.length + 1) 0=_;rw [yh,yX za,Nat.add_sub_cancel_left];rfl
  rw [Vgb,eT,a1,a2];omega
 have hr:(Za f ++ r).drop (f.data.length + 6)=r:=by rw [← Uta f,List.drop_left]
 rw [U1a hne h1 h2 (by rw [hb,hc]),eT,hr,hd]
end
section
structure XEntry where
 time:Int
 kind:Int
 target:Int
 value:Int
 deriving DecidableEq,Inhabited
def XEntry.cells (x:XEntry):List Value:=[.int .i64 x.time,.int .i64 x.kind,.int .i64 x.target,.int .i64 x.value]
abbrev Zw (x:Arr XEntry):Sl:=x.sl 4 XEntry.cells []
structure PSta where
 time:Int
 held:List Int
 dropped:Int
 meas:List XMeas
 watches:List XWatch
 cuts:List XCut
 sw:List XSwitch
 rest:XRest
 log:List XEntry
structure PSite where
 site:XSite
 zn:List Int
 rp:Int
 air:List Bool
def V7c (S:List XSens) (kind target:Int):Option Nat:=(List.range S.length).find? fun i=>decide ((S.getD i default).kind=kind∧(S.getD i default).target=target)
def Kfa (S:List XSens) (m:List XMeas) (t kind target n:Int):Int:=
 match V7c S kind target with
 | none=>-1
 | some i=>if (J5a S m (i:Int) t).low=(J5a S m (i:Int) t).high∧0≤(J5a S m (i:Int) t).low∧(J5a S m (i:Int) t).low < n then (J5a S m (i:Int) t).low else -1
def Jyc (S:List XSens) (m:List XMeas) (t kind target n:Int) (hn:0≤n):-1≤Kfa S m t kind target n∧(Kfa S m t kind target n < n∨Kfa S m t kind target n= -1):=by
 rw [Kfa];split;·omega
 ·split <;> omega
def Jjb (s:XSite) (m:List XMeas) (t:Int) (k:Nat):List Int:=(List.range k).map fun (i:Nat)=>Kfa s.sensors.l m t 5 (i:Int) 3
def U5a (s:XSite) (m:List XMeas) (t:Int) (k:Nat):List Int:=(List.range k).map fun (i:Nat)=>Kfa s.sensors.l m t 6 (i:Int) ((s.air.doors.l.getD i default).rests.l.length:Int)
def V3e (s:XSite) (m:List XMeas) (t:Int):Sts:=(Jjb s m t s.air.fans.l.length,U5a s m t s.air.doors.l.length)
def V9a (s:XSite) (A:List Bool) (m:List XMeas) (t:Int):List XSpan:=(V4e (flS s.air A (V3e s m t)) nothingS 3 s.sensors.l m t).out
def Zud (s:XSite) (m:List XMeas) (t:Int) (k:Nat):Jjb s m t (k + 1)=Jjb s m t k ++ [Kfa s.sensors.l m t 5 (k:Int) 3]:=by rw [Jjb,yKb,yO];rfl
def Kud (s:XSite) (m:List XMeas) (t:Int) (k:Nat):U5a s m t (k + 1)=U5a s m t k ++ [Kfa s.sensors.l m t 6 (k:Int) ((s.air.doors.l.getD k default).rests.l.length:Int)]:=by rw [U5a,yKb,yO];rfl
def Zyb (s:XSite) (m:List XMeas) (t:Int) (k:Nat):(Jjb s m t k).length=k:=by simp [Jjb]
def K2b (s:XSite) (m:List XMeas) (t:Int) (k:Nat):(U5a s m t k).length=k:=by simp [U5a]
def Vmd {s:XSite} (m:List XMeas) (t:Int):Yfa s.air (mkS (V3e s m t))=true:=by
 refine Kve ⟨Zyb .., K2b .., fun i x hx=>?_,fun i x d hx hd=>?_⟩;·have hx : (Jjb s m t s.air.fans.l.length)[i]? = some x := hx;rw [Jjb,yt] at hx;obtain ⟨hi,-⟩:=List.getElem?_eq_some_iff.1 (show (Jjb s m t s.air.fans.l.length)[i]?=some x from by rw [Jjb,yt];exact hx);rw [Zyb] at hi;rw [yN hi] at hx;have e:=yL hx;have:=Jyc s.sensors.l m t 5 (i:Int) 3 ze;dsimp only at e;rw [← e];omega
 ·have hx : (U5a s m t s.air.doors.l.length)[i]? = some x := hx;obtain ⟨hi,-⟩:=List.getElem?_eq_some_iff.1 hx;rw [K2b] at hi;rw [U5a,yt,yN hi] at hx;have e:=yL hx;have hg:=getD_some (d:=default) hd;have:=Jyc s.sensors.l m t 6 (i:Int) ((s.air.doors.l.getD i default).rests.l.length:Int) za;rw [hg] at this;dsimp only at e;rw [← e,hg];omega
def Jxb (l:List XEntry) (e:XEntry):List XEntry:=(l ++ [e]).drop (l.length + 1 - 400)
def Zod {l:List XEntry} (e:XEntry):(Jxb l e).length≤400:=by rw [Jxb,yP,yo];simp;omega
def Zg (p:PSta) (kind target value:Int):PSta:={ p with log:=Jxb p.log ⟨p.time,kind,target,value⟩ }
def Vfb (g:PSite) (p:PSta) (z:Int):PSta:=
 let p1:=Zg p 1 z (p.cuts.getD z.toNat default).reason
 let s:=g.zn.getD z.toNat 0
 let p2:PSta:={ p1 with sw:=U5 p.sw s p.time }
 if (p.sw.getD s.toNat default).closed=true then Zg p2 2 s 0 else p2
def Vda (g:PSite) (p:PSta) (l:List Int):PSta:=l.foldl (Vfb g) p
def Zu (kind:Int) (p:PSta) (l:List Int):PSta:=l.foldl (fun p x=>Zg p kind x 0) p
def Zdd (g:PSite) (sw:List XSwitch) (z:Nat):Bool:=(Kma sw g.zn g.rp (g.zn.getD z 0)).any fun k=>!(sw.getD k.toNat default).closed || decide ((sw.getD k.toNat default).shown= -1)
def Y9 (g:PSite) (vals:List Int) (p:PSta) (z:Nat):PSta:=
 if (p.cuts.getD z default).off=true∨Zdd g p.sw z=false then p
 else Vfb g { p with cuts:=p.cuts.set z ⟨true,(p.cuts.getD z default).clear,Kia (g.site.zones.l.getD z default).rule.l vals⟩ } (z:Int)
def darkTo (g : PSite) (vals : List Int) (p : PSta) : Nat → PSta
 | 0=>p
 | k + 1=>Y9 g vals (darkTo g vals p k) k
def Kqc (c:List XCut) (r:XRest):Prop:=r.zone= -1∨((0≤r.zone∧r.zone < c.length)∧(c.getD r.zone.toNat default).off=true∧(c.getD r.zone.toNat default).clear≠-1)
instance (c:List XCut) (r:XRest):Decidable (Kqc c r):=by unfold Kqc;infer_instance
def Zd (c:List XCut) (r:XRest):XRest:=if Kqc c r then r else noRest
def flP (g:PSite) (p:PSta):List XSpan:=V9a g.site g.air p.meas p.time
def Uwa (g:PSite) (p:PSta):List Int:=valuesV g.site p.meas p.watches (flP g p) p.time
def settleA (g:PSite) (p:PSta):PSta:=
 Vda g { p with watches:=valuesW g.site p.meas p.watches (flP g p) p.time,cuts:=cutsC g.site (Uwa g p) p.cuts p.time } (cutsN g.site (Uwa g p) p.cuts p.time)
def settleB (g:PSite) (p:PSta):PSta:=
 Zu 2 (Zu 3 { p with rest:=Zd p.cuts p.rest,sw:=(Jda p.sw g.rp p.time).sw } (Jda p.sw g.rp p.time).late) (Jda p.sw g.rp p.time).opened
def Je (g:PSite) (p0:PSta) (t:Int):PSta:=
 let p:={ p0 with time:=t }
 let q:=settleB g (settleA g p)
 darkTo g (Uwa g p) q q.cuts.length
def V7 (p:PSta) (t:Int):Prop:=t < p.time∨2147483648 < t
instance (p:PSta) (t:Int):Decidable (V7 p t):=by unfold V7;infer_instance
def J3a (S:List XSens) (ad:Int):Int:=(((List.range S.length).find? fun i=>decide ((S.getD i default).address=ad)).map Int.ofNat).getD (-1)
end
section
structure Inv (g:PSite) (p:PSta):Prop where
 site:K6 g.site=0
 airy:AiryIs g.site.air.mine g.air
 time:0≤p.time∧p.time≤2147483648
 meas:p.meas.length=g.site.sensors.l.length
 mok:∀x∈p.meas,Uca x
 wlen:p.watches.length=g.site.conds.l.length
 wok:∀w∈p.watches,Uma w∧w.last≤p.time
 clen:p.cuts.length=g.site.zones.l.length
 fe:feedE p.sw g.zn g.rp=0
 since:∀x∈p.sw,x.since≤p.time
 zlen:g.zn.length=g.site.zones.l.length
 rest:0≤p.rest.time∧(p.rest.zone= -1∨(0≤p.rest.zone∧p.rest.zone < p.cuts.length))
 log:p.log.length≤400
 held:BytesOk p.held∧p.held.length≤70
section
variable {g:PSite} {p:PSta}
def Inv.sok (h:Inv g p):SiteOk g.site:=Zz h.site
def Inv.fok (h:Inv g p):FeedOk p.sw g.zn g.rp:=Vq h.fe
def Inv.air (h:Inv g p):K1 g.site.air=0:=h.sok.air
def Inv.tok (h:Inv g p):V7a p.sw p.time:=⟨h.time,h.since⟩
def Inv.at (h:Inv g p) {t:Int} (h1:p.time≤t) (h2:t≤2147483648):Inv g { p with time:=t }:=
 { h with time:=⟨by have:=h.time;dsimp only;omega,h2⟩,wok:=fun w hw=>⟨(h.wok w hw).1,by have:=(h.wok w hw).2;dsimp only;omega⟩,since:=fun x hx=>by have:=h.since x hx;dsimp only;omega }
def Inv.note (h:Inv g p) (kind target value:Int):Inv g (Zg p kind target value):={ h with log:=by show (Jxb p.log _).length≤400;exact Zod _ }
def Inv.sws (h:Inv g p) {sw:List XSwitch} (k:SwKeep p.sw sw p.time):Inv g { p with sw:=sw }:=
 { h with fe:=k.feedE h.fe h.time,since:=(k.time h.tok).2 }
def Inv.cut (h:Inv g p) (z:Int):Inv g (Vfb g p z):=by
 have h1:=h.note 1 z (p.cuts.getD z.toNat default).reason;have h2:=h1.sws (sw:=U5 p.sw (g.zn.getD z.toNat 0) p.time) ((SwKeep.refl h.fe p.time).openS _);rw [Vfb];split;·exact h2.note _ _ _
 ·exact h2
def Ute : ∀ (l : List Int) {p : PSta}, Inv g p → Inv g (Vda g p l)
 | [],_,h=>h
 | z :: l,_,h=>Ute l (h.cut z)
def Inv.cuts (h:Inv g p) (l:List Int):Inv g (Vda g p l):=Ute l h
def Ygd (kind : Int) : ∀ (l : List Int) {p : PSta}, Inv g p → Inv g (Zu kind p l)
 | [],_,h=>h
 | z :: l,_,h=>Ygd kind l (h.note kind z 0)
def Inv.notes (kind:Int) (h:Inv g p) (l:List Int):Inv g (Zu kind p l):=Ygd kind l h
def Y4a (z:Int):(Vfb g p z).cuts=p.cuts:=by rw [Vfb];split <;> rfl
def Inv.flLen (h:Inv g p):(flP g p).length=g.site.air.mine.roads.l.length:=by rw [flP,V9a,V4e,(Y3c ..).1,flS];exact Kue h.air (Vmd _ _) h.airy
def Ybd {S:List XSens} {n:Nat} {c:XCond} (h:Ks S n c=0) (hk:c.kind=1):Jba c.level:=by
 rw [Ks] at h;split at h;·omega
 split at h;·omega
 rw [Jya] at h;split at h;·assumption
 ·omega
def Inv.valErr (h:Inv g p):valuesErr g.site p.meas p.watches (flP g p) p.time=0:=by
 have ht:=h.time;rw [valuesErr,if_neg (by rw [h.site];decide),if_neg (by rw [h.meas,h.wlen,h.flLen];simp),if_neg za];have:(List.range p.watches.length).findSome? (fun i=>nzO (Jvc (g.site.conds.l.getD i default) (p.watches.getD i default) p.time))=none:=by
  rw [yF];intro i hi;rw [yya] at hi;have hw:=h.wok _ (yj (Jw (l:=p.watches) (k:=i) default hi));have hc:=h.sok.cond _ (yj (Jw (l:=g.site.conds.l) (k:=i) default (by rw [← h.wlen];exact hi)));rw [nzO,if_pos];rw [Jvc];split;·rename_i hk;exact Kac (Ybd hc hk) za hw.1
  ·rfl
 rw [this];rfl
def Vbe (l:XLevel) {w:XWatch} (x:XSpan) {t:Int} (ht:0≤t) (h:Uma w) (hl:w.last≤t):Uma (Vk l w x t)∧(Vk l w x t).last≤t:=by
 obtain ⟨h1,h2,h3,h4⟩:=h;rw [Vk];repeat' split
 all_goals refine ⟨⟨ht,?_,?_,?_⟩,yD _⟩
 all_goals dsimp only
 all_goals first | omega | exact .inl rfl | exact .inr rfl | (rcases h4 with h4 | h4;exact .inl h4;simp_all)
def Inv.valLen (h:Inv g p):(Uwa g p).length=g.site.conds.l.length:=by rw [Uwa,valuesV,if_neg (by rw [h.valErr];decide),yz,yyb,h.wlen]
def Inv.cutErr (h:Inv g p):cutsErr g.site (Uwa g p) p.cuts p.time=0:=by have ht:=h.time;rw [cutsErr,if_neg (by rw [h.site];decide),if_neg (by rw [h.valLen,h.clen];simp),if_neg za]
def Inv.sA (h:Inv g p):Inv g { p with watches:=valuesW g.site p.meas p.watches (flP g p) p.time,cuts:=cutsC g.site (Uwa g p) p.cuts p.time }:=by
 have hw:(valuesW g.site p.meas p.watches (flP g p) p.time).length=p.watches.length:=by rw [valuesW,if_neg (by rw [h.valErr];decide),yz,yyb]
 have hc:(cutsC g.site (Uwa g p) p.cuts p.time).length=p.cuts.length:=by rw [cutsC,if_neg (by rw [h.cutErr];decide),yz,yyb]
 refine { h with wlen:=hw.trans h.wlen,wok:=fun w hm=>?_,clen:=hc.trans h.clen,rest:=by rw [hc];exact h.rest };have hm:w∈valuesW g.site p.meas p.watches (flP g p) p.time:=hm;rw [valuesW,if_neg (by rw [h.valErr];decide),List.mem_map] at hm;obtain ⟨i,hi,rfl⟩:=hm;rw [yya] at hi;have hw:=h.wok _ (yj (Jw (l:=p.watches) (k:=i) default hi));show Uma (Zx _ _ _ _ _)∧(Zx _ _ _ _ _).last≤p.time;rw [Zx];split;·exact Vbe _ _ h.time.1 hw.1 hw.2
 ·exact hw
def Inv.settleA (h:Inv g p):Inv g (settleA g p):=h.sA.cuts _
def Uud (c:List XCut) (r:XRest) (h:0≤r.time):0≤(Zd c r).time∧((Zd c r).zone= -1∨(0≤(Zd c r).zone∧(Zd c r).zone < c.length)):=by
 rw [Zd];split;·rename_i hk;rw [Kqc] at hk;exact ⟨h,hk.imp_right fun h=>h.1⟩
 ·exact ⟨by decide,.inl rfl⟩
def Inv.settleB (h:Inv g p):Inv g (settleB g p):=by have h1:Inv g { p with rest:=Zd p.cuts p.rest }:={ h with rest:=Uud _ _ h.rest.1 };have h2:=h1.sws (sw:=(Jda p.sw g.rp p.time).sw) (Vma h.fe _ (yl _));exact (h2.notes 3 _).notes 2 _
def Inv.dark (h:Inv g p) (vals:List Int) (z:Nat):Inv g (Y9 g vals p z):=by
 rw [Y9];split;·exact h
 ·refine Inv.cut (p := { p with cuts := p.cuts.set z ⟨true, (p.cuts.getD z default).clear, Kia (g.site.zones.l.getD z default).rule.l vals⟩ }) ?_ _;exact { h with clen:=by show (p.cuts.set _ _).length=_;rw [yy];exact h.clen,rest:=by show _∧(_∨(_∧_ < ((p.cuts.set _ _).length:Int)));rw [yy];exact h.rest }
def Inv.darkTo (h : Inv g p) (vals : List Int) : ∀ k, Inv g (darkTo g vals p k)
 | 0=>h
 | k + 1=>(Inv.darkTo h vals k).dark vals k
def Inv.settle (h:Inv g p) {t:Int} (h1:p.time≤t) (h2:t≤2147483648):Inv g (Je g p t):=((h.at h1 h2).settleA.settleB).darkTo _ _
def Yzb (z:Int):(Vfb g p z).time=p.time:=by rw [Vfb];split <;> rfl
end
end
section
attribute [local irreducible] CJ LJ DJ Tri YV Gives U0 J3 Kj Uz RV J5 OwL.L
def Jce (k:Int):Int:=if k=6 then 5 else if k=5 then 2 else 1
def K0f (s:XSens) (r:Int):XSpan:=⟨s.offset + s.scale * r / 1000 - s.error,s.offset + -((-(s.scale * r)) / 1000) + s.error⟩
def Uza (s:XSens) (r:Int):XSpan:=
 if Vc s≠0∨¬ (0≤r∧r≤65535) then nothingS
 else if 4≤s.kind then if Jce s.kind < r then nothingS else ⟨r,r⟩
 else if s.kind=1∨s.kind=2 then ⟨max (K0f s r).low 0,max (K0f s r).high 0⟩ else K0f s r
def V0b {s:XSens} (h:Vc s=0):Z7 s:=by
 rw [Vc] at h;split at h;·omega
 split at h;·assumption
 ·omega
def Uye {s:XSens} {r:Int} (h:Vc s=0) (hr:0≤r∧r≤65535):-65535000000≤s.scale * r∧s.scale * r≤65535000000:=by have hs:=V0b h;rw [Z7] at hs;have h1:s.scale * r≤1000000 * r:=yXa za hr.1;have h2:-1000000 * r≤s.scale * r:=yXa za hr.1;omega
end
section
def Vp (S:List XSens) (f:XTele) (t:Int):Int:=
 if t < 0∨2147483648 < t then 8
 else if J3a S f.address < 0∨Vc (S.getD (J3a S f.address).toNat default)≠0 then 9
 else if f.kind≠1∧f.kind≠2 then 5
 else if f.kind=1∧f.data.length≠2∨f.kind=2∧f.data.length≠0 then 6 else 0
def Ysb (S:List XSens) (f:XTele) (t:Int):XMeas:=
 ⟨J3a S f.address,t,if f.kind=1 then Uza (S.getD (J3a S f.address).toNat default) (f.data.getD 0 0 * 256 + f.data.getD 1 0) else nothingS⟩
def Una (S:List XSens) (t:Int) (m:List XMeas) (f:XTele):List XMeas:=if Vp S f t=0 then m.set (J3a S f.address).toNat (Ysb S f t) else m
def feedR (g:PSite) (p:PSta) (b:List Int) (t:Int):PSta:=
 { p with held:=(U3 (p.held ++ b) p.dropped).held,dropped:=(U3 (p.held ++ b) p.dropped).dropped,meas:=(U3 (p.held ++ b) p.dropped).out.foldl (Una g.site.sensors.l t) p.meas }
def Yda (g:PSite) (p:PSta) (b:List Int) (t:Int):PSta×Int:=if V7 p t then (p,8) else (Je g (feedR g p b t) t,0)
def Ufc (g:PSite) (p:PSta) (t:Int):PSta×Int:=if V7 p t then (p,8) else (Je g p t,0)
def Jpa (g:PSite) (p:PSta) (s sh t:Int):PSta×Int:=
 if V7 p t then (p,8) else if Us p.sw g.zn g.rp s sh≠0 then (p,Us p.sw g.zn g.rp s sh) else (Je g { p with sw:=Ud p.sw s sh } t,0)
def U0c (g:PSite) (p:PSta) (person zone t:Int):PSta×Int:=
 if V7 p t then (p,8)
 else
  let q:=Je g p t
  let e:=askE g.site q.cuts (flP g q) q.rest person zone t
  if e≠0 then (Zg q 7 zone e,e) else (Zg { q with rest:=askR g.site q.cuts (flP g q) q.rest person zone t } 4 zone person,0)
def Vb (g:PSite) (p:PSta) (person t:Int):PSta×Int:=
 if V7 p t then (p,8)
 else
  let q:=Je g p t
  let e:=confirmE g.site q.cuts (flP g q) q.rest person t
  if e≠0 then (Zg q 7 q.rest.zone e,e) else (Zg { q with rest:=confirmR g.site q.cuts (flP g q) q.rest person t } 5 q.rest.zone person,0)
def mkF (g:PSite) (p:PSta):XFeeder:=⟨⟨none,0,p.sw⟩,⟨none,0,g.zn⟩,g.rp⟩
def Ye (g:PSite) (p:PSta) (t:Int):PSta×Int:=
 if V7 p t then (p,8)
 else
  let q:=Je g p t
  let e:=Uk g.site q.cuts (flP g q) q.rest (mkF g q) t
  if e≠0 then (Zg q 7 q.rest.zone e,e)
  else (Zg { q with rest:=Vz g.site q.cuts (flP g q) q.rest (mkF g q) t,cuts:=V4 g.site q.cuts (flP g q) q.rest (mkF g q) t,sw:=Ve g.site q.cuts (flP g q) q.rest (mkF g q) t } 6 (atR (mkF g q) q.rest.zone) 0,0)
def Ztd {S:List XSens} {ad:Int} (h:¬ J3a S ad < 0):(J3a S ad).toNat < S.length∧0≤J3a S ad:=by
 rw [J3a] at h ⊢;cases hf:(List.range S.length).find? (fun i=>decide ((S.getD i default).address=ad)) with
 | none=>rw [hf] at h;exact absurd ze h
 | some i=>have:=List.mem_of_find?_eq_some hf;rw [yya] at this;exact ⟨this,Int.natCast_nonneg i⟩
def Jye (S:List XSens) (t:Int) (m:List XMeas) (f:XTele):(Una S t m f).length=m.length:=by rw [Una];split <;> simp
def Jhe {a t:Int} (ht:0≤t∧t≤2147483648):Uca ⟨a,t,nothingS⟩:=⟨ht,by show (-1125899906842624:Int)≤ -1125899906842624∧(-1125899906842624:Int)≤1125899906842624;decide,by show (-1125899906842624:Int)≤1125899906842624∧(1125899906842624:Int)≤1125899906842624;decide⟩
def Kwc (s:XSens) (r:Int):(-1125899906842624≤(Uza s r).low∧(Uza s r).low≤1125899906842624)∧(-1125899906842624≤(Uza s r).high∧(Uza s r).high≤1125899906842624):=by
 rw [Uza];split;·exact ⟨by decide,by decide⟩
 rename_i h;have hm:=Uye (s:=s) (r:=r) za za;have hs:=V0b (s:=s) za;rw [Z7] at hs;split;·
  split;·exact ⟨by decide,by decide⟩
  ·dsimp only;omega
 split;·simp only [K0f];omega
 ·simp only [K0f];omega
def Zoe {S:List XSens} {t:Int} {m:List XMeas} (f:XTele) (h:∀x∈m,Uca x):∀x∈Una S t m f,Uca x:=by
 rw [Una];split;·
  rename_i he;intro x hx;rcases ykb hx with hx | rfl;·exact h x hx
  ·
   have ht:0≤t∧t≤2147483648:=by
    rw [Vp] at he;split at he;·cases he
    ·omega
   rw [Ysb];split;·exact ⟨ht,(Kwc _ _).1,(Kwc _ _).2⟩
   ·exact Jhe ht
 ·exact h
def Uvc {S : List XSens} {t : Int} : ∀ (l : List XTele) {m : List XMeas}, (∀ x ∈ m, Uca x) → (∀ x ∈ l.foldl (Una S t) m, Uca x) ∧ (l.foldl (Una S t) m).length = m.length
 | [],m,h=>⟨h,rfl⟩
 | f :: l,m,h=>by
  have:=Uvc (S:=S) (t:=t) l (Zoe (S:=S) (t:=t) f h)
  exact ⟨this.1,this.2.trans (Jye ..)⟩
def K0c:∀(n:Nat) {l:List Int} (d:Int),l.length=n→BytesOk l→(BytesOk (U3 l d).held∧(U3 l d).held.length≤70)∧d≤(U3 l d).dropped∧(U3 l d).dropped≤d + n:=by
 intro n;induction n using Nat.strongRecOn with
 | ind n ih=>
  intro l d hn hb;rcases yca (l=[]) with h | h;·subst h;rw [Y0a];exact ⟨⟨fun x hx=>(by cases hx),yT _⟩,yD _,(by show d≤d + (n:Int);omega)⟩
  ·
   have hpos := List.length_pos_iff.2 h;have hbt:BytesOk l.tail:=fun x hx=>hb x (yGb hx);have hskip:=ih l.tail.length (by rw [ybb];omega) (d + 1) rfl hbt;(have hskip2:((l.tail.length:Nat):Int) + 1=n:=by rw [ybb];omega);rcases yca (Z9 l) with h1 | h1;·rw [Jsa h (.inl h1)];exact ⟨hskip.1,by omega,by omega⟩
   ·
    rcases yca (U6 l) with h2 | h2;·rw [Zla h h1 h2];refine ⟨⟨hb,?_⟩,yD _,by dsimp only;omega⟩;have hx:=hb.at 1;rw [U6] at h2;rw [Z9] at h1;have:¬ (1 < l.length∧64 < l.getD 1 0):=fun h=>h1 (.inr h);dsimp only;omega
    ·
     rcases yca (Zxa (Kkb l) = Vgb l) with h3 | h3;·rw [U1a h h1 h2 h3];have:=ih (l.drop (lenT l + 6)).length (by rw [yP];omega) d rfl (fun x hx=>hb x (yta hx));refine ⟨this.1,this.2.1,?_⟩;have h4:=this.2.2;rw [yP] at h4;dsimp only;omega
     ·rw [Jsa h (.inr ⟨h2, h3⟩)];exact ⟨hskip.1,by omega,by omega⟩
section
variable {g:PSite} {p:PSta}
def Inv.feedR (h:Inv g p) {b:List Int} (hb:BytesOk b) (t:Int):Inv g (feedR g p b t):=by
 have h1:=Uvc (S:=g.site.sensors.l) (t:=t) (U3 (p.held ++ b) p.dropped).out h.mok;have h2:=K0c _ (l:=p.held ++ b) p.dropped rfl (fun x hx=>by
  rcases List.mem_append.1 hx with hx | hx;·exact h.held.1 x hx
  ·exact hb x hx)
 exact { h with meas:=h1.2.trans h.meas,mok:=h1.1,held:=h2.1 }
def V4c (l:List Int):(Vda g p l).time=p.time:=by
 induction l generalizing p with
 | nil=>rfl
 | cons z l ih=>exact ih.trans (Yzb z)
def Zea (kind:Int) (l:List Int):(Zu kind p l).time=p.time:=by
 induction l generalizing p with
 | nil=>rfl
 | cons z l ih=>exact ih
def Kdb (vals : List Int) : ∀ k, (darkTo g vals p k).time = p.time
 | 0=>rfl
 | k + 1=>by
  rw [darkTo,Y9]
  split
  ·exact Kdb vals k
  ·rw [Yzb];exact Kdb vals k
def Vy (t:Int):(Je g p t).time=t:=by rw [Je];rw [Kdb,settleB,Zea,Zea];dsimp only;rw [settleA,V4c]
def Ya {t:Int} (h:¬ V7 p t):p.time≤t∧t≤2147483648:=by rw [V7] at h;omega
def Inv.feed (h:Inv g p) {b:List Int} (hb:BytesOk b) (t:Int):Inv g (Yda g p b t).1:=by
 rw [Yda];split;·exact h
 ·rename_i hl;exact (h.feedR hb t).settle (Ya hl).1 (Ya hl).2
def Inv.ansSw (h:Inv g p) {s sh:Int} (he:Us p.sw g.zn g.rp s sh=0):Inv g { p with sw:=Ud p.sw s sh }:=by
 rw [Us,if_neg (by rw [h.fe];decide)] at he;split at he;·cases he
 rename_i h1;split at he;·cases he
 rename_i h2;have hg:=Ymb h.fe s.toNat za;have k:SwKeep p.sw (Ud p.sw s sh) p.time:=(SwKeep.refl h.fe p.time).set rfl (.inl rfl) zx (fun h3=>by
  dsimp only at h3;split at h3;·exact absurd h3.1 ze
  ·
   rename_i h4;rcases h3.2 with h5 | h5;·exact hg.2 ⟨h3.1,.inl h5⟩
   ·exact h4 h5)
 exact h.sws k
def Inv.answer (h:Inv g p) (s sh t:Int):Inv g (Jpa g p s sh t).1:=by
 rw [Jpa];split;·exact h
 rename_i hl;split;·exact h
 rename_i he;exact (h.ansSw (Decidable.not_not.1 he)).settle (Ya hl).1 (Ya hl).2
def Inv.ask (h:Inv g p) (a z t:Int):Inv g (U0c g p a z t).1:=by
 rw [U0c];split;·exact h
 rename_i hl;have hs:=h.settle (Ya hl).1 (Ya hl).2;dsimp only;split;·exact hs.note _ _ _
 ·
  rename_i he;have he:askE g.site (Je g p t).cuts (flP g (Je g p t)) (Je g p t).rest a z t=0:=Decidable.not_not.1 he;have e:askR g.site (Je g p t).cuts (flP g (Je g p t)) (Je g p t).rest a z t=⟨z,a,-1,1,t⟩:=by rw [askR,if_pos he]
  have h1:Inv g { Je g p t with rest:=askR g.site (Je g p t).cuts (flP g (Je g p t)) (Je g p t).rest a z t }:=by
   refine { hs with rest:=?_ };rw [e];refine ⟨by have:=h.time;have:=Ya hl;dsimp only;omega,.inr ?_⟩;rw [askE] at he;split at he;·omega
   split at he;·cases he
   split at he;·cases he
   exact Kyb he
  exact h1.note _ _ _
def Inv.confirm (h:Inv g p) (a t:Int):Inv g (Vb g p a t).1:=by
 rw [Vb];split;·exact h
 rename_i hl;have hs:=h.settle (Ya hl).1 (Ya hl).2;dsimp only;split;·exact hs.note _ _ _
 ·
  rename_i he;have he:confirmE g.site (Je g p t).cuts (flP g (Je g p t)) (Je g p t).rest a t=0:=Decidable.not_not.1 he;have h1:Inv g { Je g p t with rest:=confirmR g.site (Je g p t).cuts (flP g (Je g p t)) (Je g p t).rest a t }:=by refine { hs with rest:=?_ };rw [confirmR,if_pos he];exact ⟨by have:=h.time;have:=Ya hl;dsimp only;omega,hs.rest.2⟩
  exact h1.note _ _ _
def Inv.close (h:Inv g p) (t:Int):Inv g (Ye g p t).1:=by
 rw [Ye];split;·exact h
 rename_i hl;have hs:=h.settle (Ya hl).1 (Ya hl).2;dsimp only;generalize hq:Je g p t=q at hs ⊢;have ht:q.time=t:=by rw [← hq];exact Vy ..
 split;·exact hs.note _ _ _
 ·
  rename_i he;have he:Uk g.site q.cuts (flP g q) q.rest (mkF g q) t=0:=Decidable.not_not.1 he;have k:SwKeep q.sw (Ve g.site q.cuts (flP g q) q.rest (mkF g q) t) q.time:=by rw [Ve,if_neg (by rw [he];decide),K4b];exact (SwKeep.refl hs.fe q.time).set rfl (.inr ht.symm) (by show (-1:Int)≤0∧(0:Int)≤1;decide) zo
  have hc:(V4 g.site q.cuts (flP g q) q.rest (mkF g q) t).length=q.cuts.length:=by rw [V4,if_neg (by rw [he];decide)];split <;> simp
  have hr:0≤(Vz g.site q.cuts (flP g q) q.rest (mkF g q) t).time∧((Vz g.site q.cuts (flP g q) q.rest (mkF g q) t).zone= -1∨(0≤(Vz g.site q.cuts (flP g q) q.rest (mkF g q) t).zone∧(Vz g.site q.cuts (flP g q) q.rest (mkF g q) t).zone < (V4 g.site q.cuts (flP g q) q.rest (mkF g q) t).length)):=by
   rw [hc,Vz,if_neg (by rw [he];decide)];split;·exact ⟨by decide,.inl rfl⟩
   ·exact ⟨by have:=h.time;have:=Ya hl;dsimp only;omega,hs.rest.2⟩
  exact Inv.note (p:={ q with rest:=Vz g.site q.cuts (flP g q) q.rest (mkF g q) t,cuts:=V4 g.site q.cuts (flP g q) q.rest (mkF g q) t,sw:=Ve g.site q.cuts (flP g q) q.rest (mkF g q) t }) { (hs.sws k) with clen:=hc.trans hs.clen,rest:=hr } _ _ _
end
end
section
structure XSta where
 site:XSite
 time:Int
 held:Arr Int
 dropped:Int
 meas:Arr XMeas
 watches:Arr XWatch
 cuts:Arr XCut
 feeder:XFeeder
 rest:XRest
 log:Arr XEntry
def XSta.cells (x:XSta):List Value:=[x.site.air.mine.places.val,x.site.air.mine.roads.val,x.site.air.fans.val,x.site.air.doors.val,x.site.sensors.val,x.site.conds.val,x.site.zones.val,x.site.persons.val,.int .i64 x.time,x.held.val,.int .i64 x.dropped,x.meas.val,x.watches.val,x.cuts.val,x.feeder.switches.val,x.feeder.zones.val,.int .i64 x.feeder.reply,.int .i64 x.rest.zone,.int .i64 x.rest.first,.int .i64 x.rest.second,.int .i64 x.rest.step,.int .i64 x.rest.time,x.log.val]
abbrev XSta.val (x:XSta):Value:=.agg #[x.site.air.mine.places.val,x.site.air.mine.roads.val,x.site.air.fans.val,x.site.air.doors.val,x.site.sensors.val,x.site.conds.val,x.site.zones.val,x.site.persons.val,.int .i64 x.time,x.held.val,.int .i64 x.dropped,x.meas.val,x.watches.val,x.cuts.val,x.feeder.switches.val,x.feeder.zones.val,.int .i64 x.feeder.reply,.int .i64 x.rest.zone,.int .i64 x.rest.first,.int .i64 x.rest.second,.int .i64 x.rest.step,.int .i64 x.rest.time,x.log.val]
structure StaR (x:XSta) (R:LS):Prop where
 site:SiteR x.site R
 held:InR (bsl x.held) R
 meas:InR (V5 x.meas) R
 watches:InR (Jge x.watches) R
 cuts:InR (Unc x.cuts) R
 feeder:FeederR x.feeder R
 log:InR (Zw x.log) R
def StaR.mono {x:XSta} {R U:LS} (h:StaR x R) (k:∀r∈R,InR r U):StaR x U:=⟨h.site.mono k,h.held.mono k,h.meas.mono k,h.watches.mono k,h.cuts.mono k,h.feeder.mono k,h.log.mono k⟩
structure StaIs (g:PSite) (p:PSta) (x:XSta):Prop where
 site:SiteE x.site g.site
 time:x.time=p.time
 held:x.held.l=p.held
 dropped:x.dropped=p.dropped
 meas:x.meas.l=p.meas
 watches:x.watches.l=p.watches
 cuts:x.cuts.l=p.cuts
 sw:x.feeder.switches.l=p.sw
 zn:x.feeder.zones.l=g.zn
 rp:x.feeder.reply=g.rp
 rest:x.rest=p.rest
 log:x.log.l=p.log
end
end Go.Proofs.YtchfclmokpbldaaGreat
