/-
  Merged texts. By an AI agent.
-/
import Derived.Test.YtchfclmokpbldaaGreatWinR
import Derived.Test.YtchfclmokpbldaaGreatStatI
import Derived.Test.YtchfclmokpbldaaGreatFits
set_option linter.all false
set_option maxHeartbeats 4000000
set_option maxRecDepth 20000
namespace Go.Proofs.YtchfclmokpbldaaGreat
open Go.Aw Go
section
attribute [local irreducible] CJ LJ DJ Tri YV Gives Uo J0 Kj Un RV J2 OwL.L
def Ykd (k:Int):Int:=if k=6 then 5 else if k=5 then 2 else 1
def Ucf (s:XSens) (r:Int):XSpan:=⟨s.offset + s.scale * r / 1000 - s.error,s.offset + -((-(s.scale * r)) / 1000) + s.error⟩
def K7a (s:XSens) (r:Int):XSpan:=
 if U1 s≠0∨¬ (0≤r∧r≤65535) then nothingS
 else if 4≤s.kind then if Ykd s.kind < r then nothingS else ⟨r,r⟩
 else if s.kind=1∨s.kind=2 then ⟨max (Ucf s r).low 0,max (Ucf s r).high 0⟩ else Ucf s r
def V7b {s:XSens} (h:U1 s=0):Zi s:=by
 rw [U1] at h;split at h;·omega
 split at h;·assumption
 ·omega
def Z8d {s:XSens} {r:Int} (h:U1 s=0) (hr:0≤r∧r≤65535):-65535000000≤s.scale * r∧s.scale * r≤65535000000:=by have hs:=V7b h;rw [Zi] at hs;have h1:s.scale * r≤1000000 * r:=yDa za hr.1;have h2:-1000000 * r≤s.scale * r:=yDa za hr.1;omega
end
section
def Vg (S:List XSens) (f:XTele) (t:Int):Int:=
 if t < 0∨2147483648 < t then 8
 else if Jpa S f.address < 0∨U1 (S.getD (Jpa S f.address).toNat default)≠0 then 9
 else if f.kind≠1∧f.kind≠2 then 5
 else if f.kind=1∧f.data.length≠2∨f.kind=2∧f.data.length≠0 then 6 else 0
def Vqb (S:List XSens) (f:XTele) (t:Int):XMeas:=
 ⟨Jpa S f.address,t,if f.kind=1 then K7a (S.getD (Jpa S f.address).toNat default) (f.data.getD 0 0 * 256 + f.data.getD 1 0) else nothingS⟩
def Knb (S:List XSens) (t:Int) (m:List XMeas) (f:XTele):List XMeas:=if Vg S f t=0 then m.set (Jpa S f.address).toNat (Vqb S f t) else m
def feedR (g:PSite) (p:PSta) (b:List Int) (t:Int):PSta:=
 { p with held:=(Ul (p.held ++ b) p.dropped).held,dropped:=(Ul (p.held ++ b) p.dropped).dropped,meas:=(Ul (p.held ++ b) p.dropped).out.foldl (Knb g.site.sensors.l t) p.meas }
def Y2 (g:PSite) (p:PSta) (b:List Int) (t:Int):PSta×Int:=if Jxa p t then (p,8) else (Ka g (feedR g p b t) t,0)
def Yrf (g:PSite) (p:PSta) (t:Int):PSta×Int:=if Jxa p t then (p,8) else (Ka g p t,0)
def J3e (g:PSite) (p:PSta) (s sh t:Int):PSta×Int:=
 if Jxa p t then (p,8) else if Kte p.sw g.zn g.rp s sh≠0 then (p,Kte p.sw g.zn g.rp s sh) else (Ka g { p with sw:=Vte p.sw s sh } t,0)
def Y3d (g:PSite) (p:PSta) (person zone t:Int):PSta×Int:=
 if Jxa p t then (p,8)
 else
  let q:=Ka g p t
  let e:=askE g.site q.cuts (flP g q) q.rest person zone t
  if e≠0 then (Jua q 7 zone e,e) else (Jua { q with rest:=askR g.site q.cuts (flP g q) q.rest person zone t } 4 zone person,0)
def K9d (g:PSite) (p:PSta) (person t:Int):PSta×Int:=
 if Jxa p t then (p,8)
 else
  let q:=Ka g p t
  let e:=K7d g.site q.cuts (flP g q) q.rest person t
  if e≠0 then (Jua q 7 q.rest.zone e,e) else (Jua { q with rest:=U7e g.site q.cuts (flP g q) q.rest person t } 5 q.rest.zone person,0)
def mkF (g:PSite) (p:PSta):XFeeder:=⟨⟨none,0,p.sw⟩,⟨none,0,g.zn⟩,g.rp⟩
def Zre (g:PSite) (p:PSta) (t:Int):PSta×Int:=
 if Jxa p t then (p,8)
 else
  let q:=Ka g p t
  let e:=J9c g.site q.cuts (flP g q) q.rest (mkF g q) t
  if e≠0 then (Jua q 7 q.rest.zone e,e)
  else (Jua { q with rest:=Z3e g.site q.cuts (flP g q) q.rest (mkF g q) t,cuts:=Jyf g.site q.cuts (flP g q) q.rest (mkF g q) t,sw:=Vfe g.site q.cuts (flP g q) q.rest (mkF g q) t } 6 (atR (mkF g q) q.rest.zone) 0,0)
def V9d {S:List XSens} {ad:Int} (h:¬ Jpa S ad < 0):(Jpa S ad).toNat < S.length∧0≤Jpa S ad:=by
 rw [Jpa] at h ⊢;cases hf:(List.range S.length).find? (fun i=>decide ((S.getD i default).address=ad)) with
 | none=>rw [hf] at h;exact absurd ze h
 | some i=>have:=List.mem_of_find?_eq_some hf;rw [ysa] at this;exact ⟨this,Int.natCast_nonneg i⟩
def J6e (S:List XSens) (t:Int) (m:List XMeas) (f:XTele):(Knb S t m f).length=m.length:=by rw [Knb];split <;> simp
def Vud {a t:Int} (ht:0≤t∧t≤2147483648):Kza ⟨a,t,nothingS⟩:=⟨ht,by show (-1125899906842624:Int)≤ -1125899906842624∧(-1125899906842624:Int)≤1125899906842624;decide,by show (-1125899906842624:Int)≤1125899906842624∧(1125899906842624:Int)≤1125899906842624;decide⟩
def Joc (s:XSens) (r:Int):(-1125899906842624≤(K7a s r).low∧(K7a s r).low≤1125899906842624)∧(-1125899906842624≤(K7a s r).high∧(K7a s r).high≤1125899906842624):=by
 rw [K7a];split;·exact ⟨by decide,by decide⟩
 rename_i h;have hm:=Z8d (s:=s) (r:=r) za za;have hs:=V7b (s:=s) za;rw [Zi] at hs;split;·
  split;·exact ⟨by decide,by decide⟩
  ·dsimp only;omega
 split;·simp only [Ucf];omega
 ·simp only [Ucf];omega
def Uve {S:List XSens} {t:Int} {m:List XMeas} (f:XTele) (h:∀x∈m,Kza x):∀x∈Knb S t m f,Kza x:=by
 rw [Knb];split;·
  rename_i he;intro x hx;rcases yqb hx with hx | rfl;·exact h x hx
  ·
   have ht:0≤t∧t≤2147483648:=by
    rw [Vg] at he;split at he;·cases he
    ·omega
   rw [Vqb];split;·exact ⟨ht,(Joc _ _).1,(Joc _ _).2⟩
   ·exact Vud ht
 ·exact h
def Kgc {S : List XSens} {t : Int} : ∀ (l : List XTele) {m : List XMeas}, (∀ x ∈ m, Kza x) → (∀ x ∈ l.foldl (Knb S t) m, Kza x) ∧ (l.foldl (Knb S t) m).length = m.length
 | [],m,h=>⟨h,rfl⟩
 | f :: l,m,h=>by
  have:=Kgc (S:=S) (t:=t) l (Uve (S:=S) (t:=t) f h)
  exact ⟨this.1,this.2.trans (J6e ..)⟩
def Zlb:∀(n:Nat) {l:List Int} (d:Int),l.length=n→BytesOk l→(BytesOk (Ul l d).held∧(Ul l d).held.length≤70)∧d≤(Ul l d).dropped∧(Ul l d).dropped≤d + n:=by
 intro n;induction n using Nat.strongRecOn with
 | ind n ih=>
  intro l d hn hb;rcases yba (l=[]) with h | h;·subst h;rw [Yga];exact ⟨⟨fun x hx=>(by cases hx),yga _⟩,yG _,(by show d≤d + (n:Int);omega)⟩
  ·
   have hpos := List.length_pos_iff.2 h;have hbt:BytesOk l.tail:=fun x hx=>hb x (yob hx);have hskip:=ih l.tail.length zda (d + 1) rfl hbt;(have hskip2:((l.tail.length:Nat):Int) + 1=n:=by rw [yIb];omega);rcases yba (Y0 l) with h1 | h1;·rw [Vu h (.inl h1)];exact ⟨hskip.1,by omega,by omega⟩
   ·
    rcases yba (Uv l) with h2 | h2;·rw [K5a h h1 h2];refine ⟨⟨hb,?_⟩,yG _,by dsimp only;omega⟩;have hx:=hb.at 1;rw [Uv] at h2;rw [Y0] at h1;have:¬ (1 < l.length∧64 < l.getD 1 0):=fun h=>h1 (.inr h);dsimp only;omega
    ·
     rcases yba (Jvb (Vza l) = Zka l) with h3 | h3;·rw [Kba h h1 h2 h3];have:=ih (l.drop (lenT l + 6)).length zoa d rfl (fun x hx=>hb x (yqa hx));refine ⟨this.1,this.2.1,?_⟩;have h4:=this.2.2;rw [yca] at h4;dsimp only;omega
     ·rw [Vu h (.inr ⟨h2, h3⟩)];exact ⟨hskip.1,by omega,by omega⟩
section
variable {g:PSite} {p:PSta}
def Inv.feedR (h:Inv g p) {b:List Int} (hb:BytesOk b) (t:Int):Inv g (feedR g p b t):=by
 have h1:=Kgc (S:=g.site.sensors.l) (t:=t) (Ul (p.held ++ b) p.dropped).out h.mok;have h2:=Zlb _ (l:=p.held ++ b) p.dropped rfl (fun x hx=>by
  rcases List.mem_append.1 hx with hx | hx;·exact h.held.1 x hx
  ·exact hb x hx)
 exact { h with meas:=h1.2.trans h.meas,mok:=h1.1,held:=h2.1 }
def Jwe (l:List Int):(Zpa g p l).time=p.time:=by
 induction l generalizing p with
 | nil=>rfl
 | cons z l ih=>exact ih.trans (Vmc z)
def Jjc (kind:Int) (l:List Int):(Zp kind p l).time=p.time:=by
 induction l generalizing p with
 | nil=>rfl
 | cons z l ih=>exact ih
def Uyb (vals : List Int) : ∀ k, (darkTo g vals p k).time = p.time
 | 0=>rfl
 | k + 1=>by
  rw [darkTo,V7a]
  split
  ·exact Uyb vals k
  ·rw [Vmc];exact Uyb vals k
def Ysb (t:Int):(Ka g p t).time=t:=by rw [Ka];rw [Uyb,settleB,Jjc,Jjc];dsimp only;rw [settleA,Jwe]
def Jsc {t:Int} (h:¬ Jxa p t):p.time≤t∧t≤2147483648:=by rw [Jxa] at h;omega
def Inv.feed (h:Inv g p) {b:List Int} (hb:BytesOk b) (t:Int):Inv g (Y2 g p b t).1:=by
 rw [Y2];split;·exact h
 ·rename_i hl;exact (h.feedR hb t).settle (Jsc hl).1 (Jsc hl).2
end
end
section
structure XSta where
 site:XSite
 time:Int
 held:Arr Int
 dropped:Int
 meas:Arr XMeas
 watches:Arr XWatch
 cuts:Arr XCut
 feeder:XFeeder
 rest:XRest
 log:Arr XEntry
def XSta.cells (x:XSta):List Value:=[x.site.air.mine.places.val,x.site.air.mine.roads.val,x.site.air.fans.val,x.site.air.doors.val,x.site.sensors.val,x.site.conds.val,x.site.zones.val,x.site.persons.val,.int .i64 x.time,x.held.val,.int .i64 x.dropped,x.meas.val,x.watches.val,x.cuts.val,x.feeder.switches.val,x.feeder.zones.val,.int .i64 x.feeder.reply,.int .i64 x.rest.zone,.int .i64 x.rest.first,.int .i64 x.rest.second,.int .i64 x.rest.step,.int .i64 x.rest.time,x.log.val]
abbrev XSta.val (x:XSta):Value:=.agg #[x.site.air.mine.places.val,x.site.air.mine.roads.val,x.site.air.fans.val,x.site.air.doors.val,x.site.sensors.val,x.site.conds.val,x.site.zones.val,x.site.persons.val,.int .i64 x.time,x.held.val,.int .i64 x.dropped,x.meas.val,x.watches.val,x.cuts.val,x.feeder.switches.val,x.feeder.zones.val,.int .i64 x.feeder.reply,.int .i64 x.rest.zone,.int .i64 x.rest.first,.int .i64 x.rest.second,.int .i64 x.rest.step,.int .i64 x.rest.time,x.log.val]
structure StaR (x:XSta) (R:LS):Prop where
 site:SiteR x.site R
 held:InR (bsl x.held) R
 meas:InR (Vsa x.meas) R
 watches:InR (Vfd x.watches) R
 cuts:InR (Y5c x.cuts) R
 feeder:FeederR x.feeder R
 log:InR (Umb x.log) R
def StaR.mono {x:XSta} {R U:LS} (h:StaR x R) (k:∀r∈R,InR r U):StaR x U:=⟨h.site.mono k,h.held.mono k,h.meas.mono k,h.watches.mono k,h.cuts.mono k,h.feeder.mono k,h.log.mono k⟩
structure StaIs (g:PSite) (p:PSta) (x:XSta):Prop where
 site:SiteE x.site g.site
 time:x.time=p.time
 held:x.held.l=p.held
 dropped:x.dropped=p.dropped
 meas:x.meas.l=p.meas
 watches:x.watches.l=p.watches
 cuts:x.cuts.l=p.cuts
 sw:x.feeder.switches.l=p.sw
 zn:x.feeder.zones.l=g.zn
 rp:x.feeder.reply=g.rp
 rest:x.rest=p.rest
 log:x.log.l=p.log
end
section
attribute [local irreducible] CJ LJ DJ Tri YV Gives Uo J0 Kj Un RV J2 OwL.L
section
variable {A B:Prop}
def Ype(h:A→B:=by exact Jx zjb rfl):=h
end
def Vkf {sw:List XSwitch} {zn:List Int} {rp s t:Int} (h:Jvd sw zn rp s t=0):feedE sw zn rp=0∧(0≤s∧s < sw.length)∧Vka sw t:=by
 rw [Jvd] at h;split at h;·omega
 split at h;·omega
 split at h;·exact ⟨by omega,by omega,by assumption⟩
 ·omega
def Kzb (p:OwL XSwitch) (zv:Value) (rp s t:Int) (R:LS) (hpk:p.ok 5 XSwitch.cells) (hs:0≤s∧s < p.l.length):
 Tri Tryz.prog 152 [.agg #[p.val,zv,.int .i64 rp],.int .i64 s,.int .i64 t].toArray (p.L 76 XSwitch.cells) R (fun v M U=>v=.bool (p.l.getD s.toNat default).closed∧(⟨p.o,V1 p.l s t⟩:OwL XSwitch).ok 5 XSwitch.cells∧(⟨p.o,V1 p.l s t⟩:OwL XSwitch).L 76 XSwitch.cells=M∧R=U):=by
 have hg:=Ju (l:=p.l) (k:=s.toNat) default za;obtain ⟨x,hx⟩:∃x,x=p.l.getD s.toNat default:=⟨_,rfl⟩;rw [← hx] at hg;refine Je 30 Tryz.call152 Tryz.func152 rfl rfl rfl ?_;apply (Xag);intro b3;apply qaz∘qam∘Xaj;refine Jx (Jv tb (p) _ rfl rfl rfl rfl zg (i:=s.toNat) zk zu) rfl ?_;apply qc1∘qaw∘qa6;refine Jx zJb rfl ?_;apply (qb0);refine Jx zAb rfl ?_;apply (Xbg);refine q_c ?_ ?_<;>intro hc0;·
  apply Xbm∘qbh;refine q_b (p.L 76 XSwitch.cells) R ?_;have h0:x.closed=false:=by simpa using hc0
  have h1:V1 p.l s t=p.l:=by rw [V1,← hx,h0,if_neg ze]
  exact ⟨by rw [← hx,h0],by rw [h1];exact hpk,by rw [h1],rfl⟩
 apply (qcl);have h0:x.closed=true:=by simpa using hc0
 have hk1:=OwL.set_ok (f:=XSwitch.cells) (wd:=5) (p:=p) (i:=s.toNat) (x:=⟨x.above,x.since,x.shown,false,x.late⟩) yf hpk;have hg1:(p.l.set s.toNat ⟨x.above,x.since,x.shown,false,x.late⟩)[s.toNat]?=some ⟨x.above,x.since,x.shown,false,x.late⟩:=yO za;have hk2:=OwL.set_ok (f:=XSwitch.cells) (wd:=5) (p:=⟨p.o,(p.l.set s.toNat ⟨x.above,x.since,x.shown,false,x.late⟩)⟩) (i:=s.toNat) (x:=⟨x.above,t,x.shown,false,x.late⟩) yf hk1;have hg2:((p.l.set s.toNat ⟨x.above,x.since,x.shown,false,x.late⟩).set s.toNat ⟨x.above,t,x.shown,false,x.late⟩)[s.toNat]?=some ⟨x.above,t,x.shown,false,x.late⟩:=yO zpa;have hk3:=OwL.set_ok (f:=XSwitch.cells) (wd:=5) (p:=⟨p.o,((p.l.set s.toNat ⟨x.above,x.since,x.shown,false,x.late⟩).set s.toNat ⟨x.above,t,x.shown,false,x.late⟩)⟩) (i:=s.toNat) (x:=⟨x.above,t,0,false,x.late⟩) yf hk2;have hg3:(((p.l.set s.toNat ⟨x.above,x.since,x.shown,false,x.late⟩).set s.toNat ⟨x.above,t,x.shown,false,x.late⟩).set s.toNat ⟨x.above,t,0,false,x.late⟩)[s.toNat]?=some ⟨x.above,t,0,false,x.late⟩:=yO (by rw [yP,yP];omega);have hk4:=OwL.set_ok (f:=XSwitch.cells) (wd:=5) (p:=⟨p.o,(((p.l.set s.toNat ⟨x.above,x.since,x.shown,false,x.late⟩).set s.toNat ⟨x.above,t,x.shown,false,x.late⟩).set s.toNat ⟨x.above,t,0,false,x.late⟩)⟩) (i:=s.toNat) (x:=⟨x.above,t,0,false,false⟩) yf hk3;apply (qay);iterate 4 apply (qa6)
 apply (qaa);refine Jx zJb rfl ?_;apply (qb0);refine Yc (Js tb (p) (⟨x.above,x.since,x.shown,false,x.late⟩) rfl rfl rfl rfl zj zg yf zg ze zb zb) ?_;rintro v M U ⟨rfl,rfl⟩;refine Jx zJb rfl ?_;apply (qb0);refine Yc (Js tb ((⟨p.o,(p.l.set s.toNat ⟨x.above,x.since,x.shown,false,x.late⟩)⟩:OwL XSwitch)) (⟨x.above,t,x.shown,false,x.late⟩) rfl rfl rfl rfl zj zg yf zg ze zb zb) ?_;rintro v M U ⟨rfl,rfl⟩;refine Jx zJb rfl ?_;apply (qb0);refine Yc (Js tb ((⟨p.o,((p.l.set s.toNat ⟨x.above,x.since,x.shown,false,x.late⟩).set s.toNat ⟨x.above,t,x.shown,false,x.late⟩)⟩:OwL XSwitch)) (⟨x.above,t,0,false,x.late⟩) rfl rfl rfl rfl zj zg yf zg ze zb zb) ?_;rintro v M U ⟨rfl,rfl⟩;refine Jx zJb rfl ?_;apply (qb0);refine Yc (Js tb ((⟨p.o,(((p.l.set s.toNat ⟨x.above,x.since,x.shown,false,x.late⟩).set s.toNat ⟨x.above,t,x.shown,false,x.late⟩).set s.toNat ⟨x.above,t,0,false,x.late⟩)⟩:OwL XSwitch)) (⟨x.above,t,0,false,false⟩) rfl rfl rfl rfl zj zg yf zg ze zb zb) ?_;rintro v M U ⟨rfl,rfl⟩;apply qam∘Xbl;refine q_b ((⟨p.o,(((p.l.set s.toNat ⟨x.above,x.since,x.shown,false,x.late⟩).set s.toNat ⟨x.above,t,x.shown,false,x.late⟩).set s.toNat ⟨x.above,t,0,false,x.late⟩).set s.toNat ⟨x.above,t,0,false,false⟩⟩:OwL XSwitch).L 76 XSwitch.cells) R ?_;have h1:V1 p.l s t=(((p.l.set s.toNat ⟨x.above,x.since,x.shown,false,x.late⟩).set s.toNat ⟨x.above,t,x.shown,false,x.late⟩).set s.toNat ⟨x.above,t,0,false,x.late⟩).set s.toNat ⟨x.above,t,0,false,false⟩:=by rw [V1,← hx,h0,if_pos rfl,yJa,yJa,yJa];rfl
 exact ⟨by rw [← hx,h0],by rw [h1];exact hk4,by rw [h1],rfl⟩
def K9b (f:XFeeder) (s t:Int) (L:LB) (R:LS) (hf:FeederR f R):
 Tri Tryz.prog 78 [f.val,.int .i64 s,.int .i64 t].toArray L R (fun v M U=>∃(p:OwL XSwitch) (q:OwL Int) (r:Int),v=.tuple #[.agg #[p.val,q.val,.int .i64 r],.int .i64 (Jvd f.switches.l f.zones.l f.reply s t)]∧(p.ok 5 XSwitch.cells∧q.ok 1 Ji)∧(Jvd f.switches.l f.zones.l f.reply s t=0→p.l=V1 f.switches.l s t∧q.l=f.zones.l∧r=f.reply)∧q.L 3 Ji ++ (p.L 76 XSwitch.cells ++ L)=M∧R=U):=by
 refine Je 25 Tryz.call78 Tryz.func78 rfl rfl rfl ?_;apply (Xag);intro b3;apply (qaq);intro b6;apply Xaq∘Ype∘qaa∘qaa;refine q_l rfl (Jod f s t _ _ hf) ?_;apply (Xbp);refine q_c ?_ ?_<;>intro hc0;·apply (qae);refine Jx zWb rfl ?_;apply (Xdm);refine q_r L R zSc ?_;exact ⟨.nil,.nil,0,rfl,⟨OwL.nil_ok,OwL.nil_ok⟩,fun h=>absurd h hc0,by rw [Ku,Ku];rfl,rfl⟩
 have hcan:=Vkf (Decidable.not_not.1 hc0);have hok:=Z1 hcan.1;have hsn:=hok.sn;have hzl:=hok.zl;apply qbv∘Ype;refine Jq rfl (Upc f _ _ hf za) rfl ?_;rintro v M U ⟨p,q,rfl,⟨hpk,hqk⟩,hpl,hql,rfl,rfl⟩;apply (qaq);intro b9;apply Xa1∘Ype∘qaa∘qaa;refine Jq rfl (Tri.at (.cons (.app .here)) (Kzb p q.val f.reply s t _ hpk (by rw [hpl];exact hcan.2.1))) rfl ?_;rintro v M U ⟨_,rfl,rfl,hpk2,rfl,rfl⟩;apply qam∘Ype∘Xcf;refine q_r (q.L 3 Ji ++ ((⟨p.o,V1 p.l s t⟩:OwL XSwitch).L 76 XSwitch.cells ++ L)) R zSc ?_;exact ⟨⟨p.o,V1 p.l s t⟩,q,f.reply,by rw [Decidable.not_not.1 hc0];simp only [OwL.val,V6d],⟨hpk2,hqk⟩,fun _=>⟨by rw [hpl],hql,rfl⟩,rfl,rfl⟩
def Jte (x:XSwitch) (L:LB) (R:LS):
 Tri Tryz.prog 104 [x.val].toArray L R (fun v M U=>v=.bool (Knd x)∧L=M∧R=U):=by
 refine Je 16 Tryz.call104 Tryz.func104 rfl rfl rfl ?_;apply (Xag);intro b1;apply qaz∘Xcr∘Xcv;apply Vp (G:=[_,_,_]) (j:=3) (cj:=6) rfl rfl zb rfl zfb rfl;·intro hg4;replace hg4:=qb hg4;exact (Xaa) zfd
 intro junk4;apply (qah);apply Vp (G:=[_,_,_]) (j:=8) (cj:=11) rfl rfl zb rfl zfb rfl;·intro hg9;replace hg9:=qb hg9;exact (Xaa∘qb4) qai
 intro junk9;apply (Xbl);refine q_b L R ?_;exact ⟨by rw [Knd];try simp [Bool.and_assoc],rfl,rfl⟩
end
section
attribute [local irreducible] CJ LJ DJ Tri YV Gives Uo J0 Kj Un RV J2 OwL.L
section
variable {A B:Prop}
def Y5e(h:A→B:=by exact Jx zjb rfl):=h
def Utf(h:B:=by exact ⟨.nil,.nil,0,.nil,.nil,by rw [he];rfl,⟨OwL.nil_ok,OwL.nil_ok,OwL.nil_ok,OwL.nil_ok⟩,fun h=>by omega,by rw [Ku,Ku];rfl,rfl⟩):=h
def Zff(h:A→B:=by exact Kn (Kd tb ((⟨p.o,(sw.set z.toNat ⟨x.above,x.since,x.shown,x.closed,true⟩)⟩:OwL XSwitch)) rfl rfl rfl zj zg yf zg zb) rfl rfl rfl rfl):=h
end
def Y1b (sw:List XSwitch) (zn:List Int) (rp t:Int):Int:=if feedE sw zn rp≠0 then feedE sw zn rp else if Vka sw t then 0 else 8
def J8d {sw:List XSwitch} {rp t z:Int} {y:XTick} (hz:0≤z∧z < sw.length) (h:Vla sw rp t (sw.length - 1 - z).toNat=y):Vla sw rp t (sw.length - 1 - (z - 1)).toNat=K1b rp t y z.toNat:=by
 have e:((sw.length:Int) - 1 - (z - 1)).toNat=((sw.length:Int) - 1 - z).toNat + 1:=by omega
 have e2:sw.length - 1 - ((sw.length:Int) - 1 - z).toNat=z.toNat:=by omega
 rw [e,Vla,h,e2]
def Vme {sw sw':List XSwitch} {zn:List Int} {rp t:Int} (h:feedE sw zn rp=0) (k:SwKeep sw sw' t) {i:Nat} (hi:i < sw.length):-1≤(sw'.getD i default).above∧(sw'.getD i default).above < i:=by rw [(k.at_ i hi).1];exact (Z1 h).up i hi
def Zvd {sw:List XSwitch} {a t:Int} {i:Nat} (h:a.toNat≠i):(V1 sw a t)[i]?=sw[i]?:=by
 rw [V1];split;·rw [yaa h]
 ·rfl
def Ulc (f:XFeeder) (t:Int) (L:LB) (R:LS) (hf:FeederR f R):
 Tri Tryz.prog 158 [f.val,.int .i64 t].toArray L R (fun v M U=>∃(p:OwL XSwitch) (q:OwL Int) (r:Int) (la op:OwL Int),v=.tuple #[.agg #[p.val,q.val,.int .i64 r],la.val,op.val,.int .i64 (Y1b f.switches.l f.zones.l f.reply t)]∧(p.ok 5 XSwitch.cells∧q.ok 1 Ji∧la.ok 1 Ji∧op.ok 1 Ji)∧(Y1b f.switches.l f.zones.l f.reply t=0→p.l=(Jra f.switches.l f.reply t).sw∧q.l=f.zones.l∧r=f.reply∧la.l=(Jra f.switches.l f.reply t).late∧op.l=(Jra f.switches.l f.reply t).opened)∧op.L 3 Ji ++ (la.L 3 Ji ++ (q.L 3 Ji ++ (p.L 76 XSwitch.cells ++ L)))=M∧R=U):=by
 refine Je 86 Tryz.call158 Tryz.func158 rfl rfl rfl ?_;apply (Xag);intro b2;apply (qaq);intro b4;apply Xbw∘Xaq∘Y5e;refine q_l rfl (Zu f _ _ hf) ?_;apply (Xbp);refine q_c ?_ ?_<;>intro hc0;·
  apply (qae);refine Jx zWb rfl ?_;apply qaa∘qak∘Xbw∘Xav;refine q_r L R (Z8f rfl zkb zGc zGc zEc) ?_;have he:Y1b f.switches.l f.zones.l f.reply t=feedE f.switches.l f.zones.l f.reply:=by rw [Y1b,if_pos hc0]
  exact Utf
 apply qbo∘Y5e∘qaa;refine q_l rfl (Zzb f t _ _ hf) ?_;apply (Xbg);refine q_c ?_ ?_<;>intro hc1;·
  apply (qae);refine Jx zWb rfl ?_;apply qak∘Xbw∘Xav;refine q_r L R (Z8f rfl zkb zGc zGc zEc) ?_;have he:Y1b f.switches.l f.zones.l f.reply t=8:=by rw [Y1b,if_neg hc0,if_neg zJ]
  exact Utf
 have hfe:feedE f.switches.l f.zones.l f.reply=0:=by omega
 have htm:Vka f.switches.l t:=by simpa using hc1
 have he:Y1b f.switches.l f.zones.l f.reply t=0:=by rw [Y1b,if_neg hc0,if_pos htm]
 have hok:=Z1 hfe;have hsn:=hok.sn;have hzl:=hok.zl;have hrp:=hok.rp;apply qbv∘Y5e;refine Jq rfl (Upc f _ _ hf za) rfl ?_;rintro v M U ⟨p,q,rfl,⟨hpk,hqk⟩,hpl,hql,rfl,rfl⟩;apply (qaq);intro b9;apply Xa1∘Xbw∘qco;have hpn:p.l.length=f.switches.l.length:=by rw [hpl]
 apply qay∘Xab∘qa9∘Xa4;refine Jk [(1,.int _ _),(2,.pointer _),(4,.pointer _),(9,.pointer _),(10,.slice _ _ _),(11,.slice _ _ _),(12,.int _ _)] zh fun tq0=>?_;refine K7 ([10,11,12,13]++rg 31 52) ((⟨fun g=>[(12,.int .i64 g.1.1),(10,g.1.2.1.1.val),(11,g.1.2.1.2.val)],fun g=>g.1.2.1.2.L 3 Ji ++ (g.1.2.1.1.L 3 Ji ++ (⟨b9,[p.val,q.val,.int .i64 f.reply],42⟩ :: (q.L 3 Ji ++ ((⟨p.o,g.1.2.2⟩:OwL XSwitch).L 76 XSwitch.cells ++ (⟨b4,[.slice none 0 0,.slice none 0 0,.int .i64 0],42⟩ :: ⟨b2,f.cells,42⟩ :: L))))),fun _=>R,fun g=>(g.1.1 + 1).toNat⟩:Head {g:Int×(OwL Int×OwL Int)×List XSwitch // (-1≤g.1∧g.1 < f.switches.l.length)∧Vla f.switches.l f.reply t (f.switches.l.length - 1 - g.1).toNat=⟨g.2.2,g.2.1.1.l,g.2.1.2.l⟩∧(g.2.1.1.ok 1 Ji∧g.2.1.2.ok 1 Ji)})) (⟨((p.l.length:Int) - 1,(OwL.nil,OwL.nil),p.l),by dsimp only;omega,by dsimp only;rw [show ((f.switches.l.length:Int) - 1 - ((p.l.length:Int) - 1)).toNat=0 by omega,Vla,hpl],OwL.nil_ok,OwL.nil_ok⟩) zh (by simp only [Ku,yw];exact zi) zxb ?_;rintro ⟨⟨z,⟨la,op⟩,sw⟩,hz,hT,hlk,hok2⟩ junk;try dsimp only
 dsimp only at hz hT hlk hok2;have hkeep:SwKeep f.switches.l sw t:=by have:=Via (rp:=f.reply) (t:=t) hfe (f.switches.l.length - 1 - z).toNat za;rw [hT] at this;exact this
 have hsl:=hkeep.len;have htln:=J3b (sw:=f.switches.l) (rp:=f.reply) (t:=t) (f.switches.l.length - 1 - z).toNat;rw [hT] at htln;dsimp only at htln;have hkS:(⟨p.o,sw⟩:OwL XSwitch).ok 5 XSwitch.cells:=OwL.len_ok yf hpk (hsl.trans hpn.symm);apply Xaw∘Xcj;refine q_c ?_ ?_<;>intro hc2;·
  have hsu:=J8d (rp:=f.reply) (t:=t) (z:=z) za hT;have hg:=Ju (l:=sw) (k:=z.toNat) default za;have hab:=Vme hfe hkeep (i:=z.toNat) za;have hsi:=hkeep.at_ z.toNat za;have hsi0:=hok.since z.toNat za;have htm0:=htm.1;rw [K1b] at hsu;dsimp only at hsu;obtain ⟨x,hx⟩:∃x,x=sw.getD z.toNat default:=⟨_,rfl⟩;rw [← hx] at hg hab hsi hsu;rw [show Z0d x=⟨x.above,x.since,x.shown,x.closed,true⟩ from rfl] at hsu;have hsi1:=hsi.2.1;apply qbb∘Xaj;refine Jx (Jv tb ((⟨p.o,sw⟩:OwL XSwitch)) _ rfl rfl ((show _=Value.slice _ _ _ from rfl).trans (by simp only [OwL.val,hsl,hpn])) rfl zg (i:=z.toNat) zk zu) rfl ?_;apply qc1∘qco;refine Kk tb [0,1,2,3,4,5,6,7,8,9,10,11,12,13,14,15] _ Kr zc ye ?_;apply (Xbe);refine K3 (Zqa (row:=[_,_,_,_,_]) tb ((⟨p.o,sw⟩:OwL XSwitch)) rfl rfl rfl zj zg yf zg zb zb) rfl rfl rfl ?_;refine q_d rfl (Jte x _ _) ?_;refine K3 (Kpb rfl) rfl rfl rfl ?_;apply (qb2);refine Z9 (k:=44) zfb (fun hg5=>?_) (fun hg5=>?_);·replace hg5:=qb hg5;(iterate 9 apply (qap));apply (Xc1);refine U9 rfl ?_;exact zyd
  replace hg5:=qb hg5;apply qao∘Xbe∘qce;refine K3 (Kd tb ((⟨p.o,sw⟩:OwL XSwitch)) rfl rfl rfl zj zg yf zg zb) rfl rfl rfl ?_;apply qb7∘Xal;refine K3 (Zhb rfl rfl) rfl rfl rfl ?_;apply (Xc1);refine q_c ?_ ?_<;>intro hc3;·exact zyd
  rw [if_pos ⟨by simpa using hg5,by omega⟩] at hsu;apply qbv∘qa6;refine Jx zJb rfl ?_;apply (qb0);refine Yc (Js tb ((⟨p.o,sw⟩:OwL XSwitch)) (⟨x.above,x.since,x.shown,x.closed,true⟩) rfl rfl rfl rfl zj zg yf zg ze zb zb) ?_;rintro v M U ⟨rfl,rfl⟩;apply (qa4);have hk1:(⟨p.o,(sw.set z.toNat ⟨x.above,x.since,x.shown,x.closed,true⟩)⟩:OwL XSwitch).ok 5 XSwitch.cells:=OwL.set_ok (f:=XSwitch.cells) (wd:=5) (p:=(⟨p.o,sw⟩:OwL XSwitch)) (i:=z.toNat) (x:=⟨x.above,x.since,x.shown,x.closed,true⟩) yf hkS;have hg1:(sw.set z.toNat ⟨x.above,x.since,x.shown,x.closed,true⟩)[z.toNat]?=some ⟨x.above,x.since,x.shown,x.closed,true⟩:=yO za;have hl1:(sw.set z.toNat ⟨x.above,x.since,x.shown,x.closed,true⟩).length=f.switches.l.length:=by rw [yP];exact hsl
  obtain ⟨S2,hS2⟩:∃S2,S2=if 0≤x.above then V1 (sw.set z.toNat ⟨x.above,x.since,x.shown,x.closed,true⟩) x.above t else (sw.set z.toNat ⟨x.above,x.since,x.shown,x.closed,true⟩):=⟨_,rfl⟩;apply Xcd∘qcx;rintro v M U ⟨b60,rfl,rfl,hR60⟩;replace hR60:=hR60.symm;subst hR60;refine Yl (Jr (f:=Ji) (p:=la) (a:=z) tb rfl rfl rfl rfl (hlk) zj zob rfl zA) rfl ?_;rintro v M U ⟨o61,rfl,hok61,rfl,rfl⟩;apply (Xda);refine J6 tb [] [0,1,2,3,4,5,6,7,8,9,10,11] [12,13] (_) _ Kr zc zi yd ?_;apply (qb3);refine Kn zJb rfl rfl rfl rfl ?_;apply qcv∘Zff;refine Kn (Uod rfl rfl) rfl rfl rfl rfl ?_;refine Kn (Jz zfb) rfl rfl rfl rfl ?_;refine Yje (k:=67) zfb (fun hg5=>?_) (fun hg5=>?_);·
   replace hg5:=qb hg5;(have eS:V1 (sw.set z.toNat ⟨x.above,x.since,x.shown,x.closed,true⟩) x.above t=S2:=by rw [hS2,if_pos hg5]);have hop:=Kzb (⟨p.o,(sw.set z.toNat ⟨x.above,x.since,x.shown,x.closed,true⟩)⟩:OwL XSwitch) q.val f.reply x.above t R hk1 zw;(have hpv:(⟨p.o,(sw.set z.toNat ⟨x.above,x.since,x.shown,x.closed,true⟩)⟩:OwL XSwitch).val=p.val:=by simp only [OwL.val,hl1,hpn]);rw [hpv] at hop;dsimp only at hop;rw [eS] at hop;refine Kn zjb rfl rfl rfl rfl ?_;apply (qb3);refine Kn zJb rfl rfl rfl rfl ?_;apply qcv∘Zff∘qbf∘qba;refine Yp rfl (Tri.at (by repeat (first | apply Seg.here | apply Seg.cons | apply Seg.app)) hop) rfl rfl ?_;rintro v M U ⟨_,rfl,rfl,hk2,rfl,rfl⟩;refine ⟨zi,zq,?_⟩;apply (Xc1);refine q_c ?_ ?_<;>intro hc4;·(have hg2:S2[z.toNat]?=some ⟨x.above,x.since,x.shown,x.closed,true⟩:=by rw [← eS,Zvd za];exact hg1);apply Xc0∘qa6;refine Jx zJb rfl ?_;apply (qb0);refine Jx (Kd tb ((⟨p.o,S2⟩:OwL XSwitch)) rfl rfl rfl zj zg yf zg zb) rfl ?_;apply (qcx);rintro v M U ⟨b81,rfl,rfl,hR81⟩;replace hR81:=hR81.symm;subst hR81;refine Yl (Jr (f:=Ji) (p:=op) (a:=x.above) tb rfl rfl rfl rfl (hok2) zj zob rfl zA) rfl ?_;rintro v M U ⟨o82,rfl,hok82,rfl,rfl⟩;apply qc4∘qcs∘Xbu;exact q_k ⟨(z - 1,(⟨o61,la.l ++ [z]⟩,⟨o82,op.l ++ [x.above]⟩),S2),by dsimp only;omega,by dsimp only;rw [hsu,if_pos ⟨hg5,hc4⟩,← eS,yma za],hok61,hok82⟩
   exact ual
  replace hg5:=qb hg5;have eS:(sw.set z.toNat ⟨x.above,x.since,x.shown,x.closed,true⟩)=S2:=by rw [hS2,if_neg hg5]
  have hk2:(⟨p.o,S2⟩:OwL XSwitch).ok 5 XSwitch.cells:=by rw [← eS];exact hk1
  rw [eS];iterate 6 refine Vge rfl rfl rfl ?_
  apply qba∘qap∘Xc1;refine Zn rfl ?_;exact ual
 obtain rfl:z= -1:=by omega
 have hTS:Jra f.switches.l f.reply t=⟨sw,la.l,op.l⟩:=by rw [Jra,← hT];congr 1;omega
 apply qbk∘Y5e∘qbm∘qbm∘qak∘Xbw∘Xai;refine q_r (op.L 3 Ji ++ (la.L 3 Ji ++ (q.L 3 Ji ++ ((⟨p.o,sw⟩:OwL XSwitch).L 76 XSwitch.cells ++ L)))) R (Z8f rfl zkb zGc zGc zEc) ?_;exact ⟨(⟨p.o,sw⟩:OwL XSwitch),q,f.reply,la,op,by rw [he];simp only [OwL.val,hsl,hpn],⟨hkS,hqk,hlk,hok2⟩,fun _=>⟨by rw [hTS],hql,rfl,by rw [hTS],by rw [hTS]⟩,rfl,rfl⟩
end
end Go.Proofs.YtchfclmokpbldaaGreat
section
/-
  What an append to a full read-only slice gives. By an AI agent; no person has read it.
-/
namespace Go.Aw
open Go
section
variable {P:Program} {ρ:Operand→Value} {L:LB} {R:LS} {dst:Option Tmp} {ty:TypeId} {pos:String} {after:Array Edge} {guard:Option (Nat×Bool)} (tb:Tabs P) {T:TypeId} {x y:Operand}
def Uhd {n : Nat} : ∀ {rows : List (List Value)}, (∀ r ∈ rows, r.length = n) → rows.flatten.length = rows.length * n
 | [],_=>by simp
 | r :: rows,h=>by rw [ycc,yj,Uhd fun r hr=>h r zF,h r zo,yv,yza];omega
end
end Go.Aw
end
namespace Go.Proofs.YtchfclmokpbldaaGreat
open Go.Aw Go
end Go.Proofs.YtchfclmokpbldaaGreat
