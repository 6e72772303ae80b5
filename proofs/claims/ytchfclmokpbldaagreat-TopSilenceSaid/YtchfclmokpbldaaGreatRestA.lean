/-
  Merged texts. By an AI agent.
-/
import Derived.Test.YtchfclmokpbldaaGreatSiteP
set_option linter.all false
set_option maxHeartbeats 4000000
set_option maxRecDepth 20000
namespace Go.Proofs.YtchfclmokpbldaaGreat
open Go.Aw Go
section
attribute [local irreducible] CJ LJ DJ Tri YV Gives Uq J2 Km Ur RV J4 OwL.L
section
variable {A B:Prop}
def Udg(h:A→B:=by exact K0 (by first | exact Je tb rfl rfl rfl rfl zy (i:=k.toNat) zk za | exact Jn tb rfl rfl rfl rfl (i:=k.toNat) zk za) rfl rfl rfl):=h
def Uxg(h:A→B:=by exact K0 (by first | exact Je tb rfl rfl rfl rfl zy (i:=(z.roads.l.getD j 0).toNat) zk za | exact Jn tb rfl rfl rfl rfl (i:=(z.roads.l.getD j 0).toNat) zk za) rfl rfl rfl):=h
end
def Jsf {s:XSite} (h:SiteOk s) {r:XRoad} (hr:r∈s.air.mine.roads.l):(1≤r.len∧r.len≤100000)∧(1≤r.area∧r.area≤1000):=by
 have h1:Un s.air.mine=0:=by
  have:=h.air;rw [Kx] at this;split at this;·exact this
  ·rename_i h2;exact Decidable.not_not.1 h2
 unfold Un at h1;split at h1;·cases h1
 split at h1;·rename_i e he;subst h1;obtain ⟨x,_,hx⟩:=yy he;unfold Jia at hx;split at hx <;> cases hx
 have hall:=Vy (f:=V3 s.air.mine.places.l.length) (fun x e hx he=>by
  subst he;unfold V3 at hx;split at hx;·cases hx
  ·split at hx <;> cases hx) h1
 have:=hall r hr;unfold V3 at this;split at this;·cases this
 split at this;·cases this
 rename_i h2;omega
def Jqf {s:XSite} (h:SiteOk s) {z:XZone} (hz:z∈s.zones.l):(0≤z.hold∧z.hold≤100000)∧(0≤z.fresh∧z.fresh≤100)∧∀i:Nat,i < z.roads.l.length→0≤z.roads.l.getD i 0∧z.roads.l.getD i 0 < s.air.mine.roads.l.length:=by
 have:=h.zone z hz;rw [V4] at this;split at this;·omega
 split at this;·cases this
 rename_i h1;split at this;·cases this
 rename_i h2;refine ⟨by omega,by omega,fun i hi=>?_⟩;have:¬ V8 s.air.mine.roads.l.length z.roads.l i:=fun hb=>h2 ⟨i,hi,hb⟩;rw [V8] at this;omega
def Zfe {s:XSite} (h:SiteOk s) {z:XZone} (hz:z∈s.zones.l):z.roads.l.length≤128:=by
 have:=h.zone z hz;rw [V4] at this;split at this;·omega
 split at this;·cases this
 split at this;·cases this
 rename_i h2;have hb:∀i:Nat,i < z.roads.l.length→¬ V8 s.air.mine.roads.l.length z.roads.l i:=fun i hi hb=>h2 ⟨i,hi,hb⟩;have up:∀i:Nat,i < z.roads.l.length→(i:Int)≤z.roads.l.getD i 0:=by
  intro i;induction i with
  | zero=>intro hi;have:=hb 0 hi;rw [V8] at this;omega
  | succ i ih=>intro hi;have h1:=ih za;have h2:=hb (i + 1) hi;rw [V8,Nat.add_sub_cancel] at h2;omega
 have hn:=(Y0 h.air).mine.roads;rcases yl 128 z.roads.l.length with h3 | h3;·have h4 := up 128 h3;have h5:=hb 128 h3;rw [V8] at h5;omega
 ·exact h3
def Uwa (s:XSite) (fl:List XSpan) (z:XZone) (sec r:Int):Prop:=¬ U3c (s.air.mine.roads.l.getD r.toNat default) (fl.getD r.toNat default) z.fresh sec
instance (s:XSite) (fl:List XSpan) (z:XZone) (sec r:Int):Decidable (Uwa s fl z sec r):=by unfold Uwa;infer_instance
def U0b (s:XSite) (fl:List XSpan) (c:XCut) (z:XZone) (t:Int):Int:=
 if c.off=false then 10
 else if (c.clear < 0∨t < c.clear)∨t - c.clear < z.hold then 20
 else if∃r∈z.roads.l,Uwa s fl z (t - c.clear) r then 20 else 0
def readyE (s:XSite) (c:List XCut) (fl:List XSpan) (k t:Int):Int:=
 if k < 0∨(c.length:Int)≤k then 17 else U0b s fl (c.getD k.toNat default) (s.zones.l.getD k.toNat default) t
def J8f {s:XSite} {fl:List XSpan} {c:XCut} {z:XZone} {t:Int} (h1:c.off=true) (h2:¬ ((c.clear < 0∨t < c.clear)∨t - c.clear < z.hold)) (h3:∀j:Nat,j < z.roads.l.length→¬ Uwa s fl z (t - c.clear) (z.roads.l.getD j 0)):U0b s fl c z t=0:=by rw [U0b,if_neg (by rw [h1];decide),if_neg h2,if_neg];rintro ⟨r,hr,hw⟩;obtain ⟨j,hj,rfl⟩:=yAa hr;have:=h3 j hj;rw [yh,yC hj] at this;exact this hw
def Vbe {s:XSite} {fl:List XSpan} {c:XCut} {z:XZone} {t r:Int} (h1:c.off=true) (h2:¬ ((c.clear < 0∨t < c.clear)∨t - c.clear < z.hold)) (hr:r∈z.roads.l) (h3:Uwa s fl z (t - c.clear) r):U0b s fl c z t=20:=by rw [U0b,if_neg (by rw [h1];decide),if_neg h2,if_pos ⟨r,hr,h3⟩]
structure RestA (s:XSite) (c:Arr XCut) (fl:Arr XSpan) (R:LS):Prop where
 site:SiteR s R
 cuts:InR (Uyc c) R
 flows:InR (Kpe fl) R
def Y2b (s:XSite) (c:Arr XCut) (fl:Arr XSpan) (k t:Int) (L:LB) (R:LS) (h:RestA s c fl R) (hok:SiteOk s) (hlen:c.l.length=s.zones.l.length∧fl.l.length=s.air.mine.roads.l.length) (ht:0≤t∧t≤2147483648):
 Tri Tryz.prog 163 [s.val,c.val,fl.val,.int .i64 k,.int .i64 t].toArray L R (fun v M U=>v=.int .i64 (readyE s c.l fl.l k t)∧L=M∧R=U):=by
 have hcR:=h.cuts;have hfR:=h.flows;have hzR:=h.site.zones;have hrR:=h.site.air.roads;have hsl:=hok.len;refine Jd 80 Tryz.call163 Tryz.func163 rfl rfl rfl ?_;apply (Xaf);intro b5;apply Xby∘Xau;apply Kd (G:=[_,_,_,_]) (j:=2) (cj:=17) rfl rfl zb rfl zmb rfl;·exact zue
 intro junk3;apply (qaf);refine q_c ?_ ?_<;>intro hc0;·apply (Xa7);refine q_i L R ?_;exact ⟨by rw [readyE,if_pos za],rfl,rfl⟩
 have hcg:=Jt (l:=c.l) (k:=k.toNat) default za;have hzg:=Jt (l:=s.zones.l) (k:=k.toNat) default za;have he:readyE s c.l fl.l k t=U0b s fl.l (c.l.getD k.toNat default) (s.zones.l.getD k.toNat default) t:=by rw [readyE,if_neg za]
 obtain ⟨z,hz⟩:∃z,z=s.zones.l.getD k.toNat default:=⟨_,rfl⟩;obtain ⟨x,hx⟩:∃x,x=c.l.getD k.toNat default:=⟨_,rfl⟩;rw [← hz] at hzg he;rw [← hx] at hcg he;have hzr:=Jqf hok (yi hzg);have hzl:=Zfe hok (yi hzg);have hzroR:InR (isl z.roads) R:=InR.zroads hzR hzg;apply (qcl);refine Kh tb [0,1,2,3,4,5,6,7,8,9,10,11,12] _ Kr zc ye ?_;refine K0 zdd rfl rfl rfl ?_;apply qao∘Udg∘qdv∘Xbv∘Udg∘qdp∘qbr;intro b11;apply (qbr);intro b12;apply qbg∘qbg∘qc6∘Xaa∘Xbl;refine q_c ?_ ?_<;>intro hc1;·apply (Xa7);refine q_i L R ?_;exact ⟨by rw [he,U0b,if_pos zL],rfl,rfl⟩
 have hoff:x.off=true:=by simpa using hc1
 apply qbo∘Xbt;apply Kd (G:=[_,_,_,_]) (j:=3) (cj:=38) rfl rfl zb rfl zmb rfl;·intro hg4;replace hg4:=qb hg4;exact (Xah∘qa5) qai
 intro junk4;apply (qah);apply Kd (G:=[_,_,_,_,_,_,_]) (j:=9) (cj:=44) rfl rfl zb rfl zmb rfl;·intro hg10;replace hg10:=qb hg10;exact (qaa∘Xaa∘qa9) zHd
 intro junk10;apply (qaf);refine q_c ?_ ?_<;>intro hc2;·apply (Xa7);refine q_i L R ?_;exact ⟨by rw [he,U0b,if_neg (by rw [hoff];decide),if_pos za],rfl,rfl⟩
 apply (Xc4);refine Jl [(2,.slice _ _ _),(4,.int _ _),(5,.pointer _),(11,.pointer _),(12,.pointer _),(54,.slice _ _ _),(55,.int _ _),(56,.int _ _)] zh fun tq0=>?_;refine q_s ([10,14]++rg 56 24) (fun g:{j:Nat // j≤z.roads.l.length∧∀m:Nat,m < j→¬ Uwa s fl.l z (t - x.clear) (z.roads.l.getD m 0)}=>[(56,.int .i64 ((g.1:Nat):Int))]) (fun g=>z.roads.l.length - g.1) (⟨0,by omega,fun m hm=>by omega⟩) ?_;rintro ⟨j,hj,hal⟩ junk;try dsimp only
 apply (Xan);refine q_c ?_ ?_<;>intro hc3;·
  have hjg:=Jt (l:=z.roads.l) (k:=j) 0 za;have hjr:=hzr.2.2 j za;have hrg:=Jt (l:=s.air.mine.roads.l) (k:=(z.roads.l.getD j 0).toNat) default za;have hfg:=Jt (l:=fl.l) (k:=(z.roads.l.getD j 0).toNat) default za;have hrr:=Jsf hok (yi hrg);apply (qbb);refine Jy zwa rfl ?_;apply qa7∘Xcb;refine Kh tb [0,1,2,3,4,5,6,7,8,9,10,11,12,13,14,15,16,17,18] _ Kr zc ye ?_;iterate 3 apply (qal)
  apply qat∘qao∘Uxg;refine K0 zab rfl rfl rfl ?_;refine K0 zdd rfl rfl rfl ?_;apply qao∘Uxg∘qdo∘Xbv∘Xak∘qb7;refine q_d rfl (Vwd (s.air.mine.roads.l.getD (z.roads.l.getD j 0).toNat default) (fl.l.getD (z.roads.l.getD j 0).toNat default) z.fresh (t - x.clear) _ _ hrr.1 hrr.2 hzr.2.1 za) ?_;refine K0 (Kab rfl) rfl rfl rfl ?_;apply (qbu);refine q_c ?_ ?_<;>intro hc4;·apply (Xch);refine q_i L R ?_;exact ⟨by rw [he,Vbe hoff za (yi hjg) (by rw [Uwa];simpa using hc4)],rfl,rfl⟩
  apply (Xay);exact Ki (⟨j + 1,by omega,fun m hm=>by
  rcases yl m j with h | h;·exact hal m h
  ·(obtain rfl : m = j := by omega);rw [Uwa];simpa using hc4⟩) zm zh zg zBb zu
 apply (Xcx);refine q_i L R ?_;exact ⟨by rw [he,J8f hoff za (fun m hm=>hal m za)],rfl,rfl⟩
end
section
attribute [local irreducible] CJ LJ DJ Tri YV Gives Uq J2 Km Ur RV J4 OwL.L
section
variable {A B:Prop}
def Y8a(h:A→B:=by exact Jy zzb rfl):=h
def Yee(h:A→B:=by exact Jy zvb rfl):=h
end
structure XRest where
 zone:Int
 first:Int
 second:Int
 step:Int
 time:Int
 deriving DecidableEq
def XRest.cells (x:XRest):List Value:=[.int .i64 x.zone,.int .i64 x.first,.int .i64 x.second,.int .i64 x.step,.int .i64 x.time]
abbrev XRest.val (x:XRest):Value:=.agg #[.int .i64 x.zone,.int .i64 x.first,.int .i64 x.second,.int .i64 x.step,.int .i64 x.time]
def noRest:XRest:=⟨-1,-1,-1,0,0⟩
def sharedE (s:XSite) (nc nf:Nat) (t:Int):Int:=if K8 s≠0 then K8 s else if ¬ (nc=s.zones.l.length∧nf=s.air.mine.roads.l.length) then 11 else if t < 0∨2147483648 < t then 8 else 0
def Yaa (s:XSite) (c:Arr XCut) (fl:Arr XSpan) (t:Int) (L:LB) (R:LS) (h:RestA s c fl R):
 Tri Tryz.prog 162 [s.val,c.val,fl.val,.int .i64 t].toArray L R (fun v M U=>v=.int .i64 (sharedE s c.l.length fl.l.length t)∧L=M∧R=U):=by
 refine Jd 37 Tryz.call162 Tryz.func162 rfl rfl rfl ?_;apply (Xaf);intro b4;apply Xap∘Yee;refine q_l rfl (Kza s _ _ h.site) ?_;apply (Xbi);refine q_c ?_ ?_<;>intro hc0;·apply (Xd6);refine q_i L R ?_;exact ⟨by rw [sharedE,if_pos hc0],rfl,rfl⟩
 apply qbo∘Xaq∘Xab∘Xb3;apply Kd (G:=[_,_,_,_,_,_,_,_]) (j:=6) (cj:=21) rfl rfl zb rfl zmb rfl;·
  intro hg7;replace hg7:=qb hg7;apply (Xaq);iterate 3 apply (qab)
  exact (Xdb) zzd
 intro junk7;apply (qaf);refine q_c ?_ ?_<;>intro hc1;·apply (Xa7);refine q_i L R ?_;exact ⟨by rw [sharedE,if_neg za,if_pos za],rfl,rfl⟩
 apply qbo∘Xcv;apply Kd (G:=[_,_]) (j:=2) (cj:=33) rfl rfl zb rfl zmb rfl;·exact zwd
 intro junk3;apply (qaf);refine q_c ?_ ?_<;>intro hc2;·apply (Xa7);refine q_i L R ?_;exact ⟨by rw [sharedE,if_neg za,if_neg za,if_pos za],rfl,rfl⟩
 apply (Xc3);refine q_i L R ?_;exact ⟨by rw [sharedE,if_neg za,if_neg za,if_neg za],rfl,rfl⟩
def Ksb {s:XSite} {nc nf:Nat} {t:Int} (h:sharedE s nc nf t=0):SiteOk s∧(nc=s.zones.l.length∧nf=s.air.mine.roads.l.length)∧0≤t∧t≤2147483648:=by
 rw [sharedE] at h;split at h;·omega
 rename_i h1;split at h;·omega
 split at h;·omega
 exact ⟨Jka (Decidable.not_not.1 h1),by omega,by omega⟩
def Ybc (L:LB) (R:LS):Tri Tryz.prog 77 ([]:List Value).toArray L R (fun v M U=>v=noRest.val∧L=M∧R=U):=by refine Jd 2 Tryz.call77 Tryz.func77 rfl rfl rfl ?_;apply (Xco);intro b0;apply (qam);refine Jy (J8 (qs:=[(0,(Value.int _ _).cells.toList),(1,(Value.int _ _).cells.toList),(2,(Value.int _ _).cells.toList)]) (out:=[_,_,_,_,_]) tb rfl rfl rfl rfl) rfl ?_;apply (Xbd);refine q_r L R (Va rfl zub) ?_;exact zDd
def askE (s:XSite) (c:List XCut) (fl:List XSpan) (r:XRest) (p k t:Int):Int:=
 if sharedE s c.length fl.length t≠0 then sharedE s c.length fl.length t
 else if r.zone≠-1 then 10
 else if p < 0∨(s.persons.l.length:Int)≤p∨s.persons.l.getD p.toNat 0≠1 then 19
 else readyE s c fl k t
def askR (s:XSite) (c:List XCut) (fl:List XSpan) (r:XRest) (p k t:Int):XRest:=if askE s c fl r p k t=0 then ⟨k,p,-1,1,t⟩ else r
def Vjc {s:XSite} {c:List XCut} {fl:List XSpan} {r:XRest} {p k t e:Int} (h:askE s c fl r p k t=e) (he:e≠0):askR s c fl r p k t=r:=by rw [askR,if_neg za]
def V3f (s:XSite) (c:Arr XCut) (fl:Arr XSpan) (r:XRest) (p k t:Int) (L:LB) (R:LS) (h:RestA s c fl R):
 Tri Tryz.prog 84 [s.val,c.val,fl.val,r.val,.int .i64 p,.int .i64 k,.int .i64 t].toArray L R (fun v M U=>v=.tuple #[(askR s c.l fl.l r p k t).val,.int .i64 (askE s c.l fl.l r p k t)]∧L=M∧R=U):=by
 have hpR:=h.site.persons;refine Jd 64 Tryz.call84 Tryz.func84 rfl rfl rfl ?_;apply (Xaf);intro b7;apply (qax);intro b10;apply (qaq);intro b14;apply Xap∘Yee∘qbm∘Xas;refine q_l rfl (Yaa s c fl t _ _ h) ?_;apply (Xbi);refine q_c ?_ ?_<;>intro hc0;·
  apply qae∘Y8a∘Xci;refine q_r L R zid ?_;have he:askE s c.l fl.l r p k t=sharedE s c.l.length fl.l.length t:=by rw [askE,if_pos hc0]
  exact ⟨by rw [Vjc he hc0,he],rfl,rfl⟩
 obtain ⟨hok,hln,ht⟩:=Ksb (s:=s) (nc:=c.l.length) (nf:=fl.l.length) (t:=t) za;apply Xc2∘Xat;refine q_c ?_ ?_<;>intro hc1;·
  apply qae∘Y8a∘Xa3;refine q_r L R zid ?_;have he:askE s c.l fl.l r p k t=10:=by rw [askE,if_neg hc0,if_pos hc1]
  exact ⟨by rw [Vjc he za,he],rfl,rfl⟩
 apply qbo∘Xcv;apply Kd (G:=[_,_,_,_,_]) (j:=2) (cj:=33) rfl rfl zb rfl zmb rfl;·exact zse
 intro junk3;apply (qah);apply Kd (G:=[_,_,_,_,_,_,_]) (j:=9) (cj:=40) rfl rfl zb rfl zmb rfl;·intro hg10;replace hg10:=qb hg10;have hpg:=Jt (l:=s.persons.l) (k:=p.toNat) 0 za;apply (Xah);refine Jy zhb rfl ?_;exact (Xbx) zzd
 intro junk10;apply (qaf);refine q_c ?_ ?_<;>intro hc2;·
  apply qae∘Y8a∘Xa3;refine q_r L R zid ?_;have he:askE s c.l fl.l r p k t=19:=by rw [askE,if_neg hc0,if_neg hc1,if_pos za]
  exact ⟨by rw [Vjc he za,he],rfl,rfl⟩
 have he:askE s c.l fl.l r p k t=readyE s c.l fl.l k t:=by rw [askE,if_neg hc0,if_neg hc1,if_neg za]
 apply qbo∘Yee∘qbm∘Xas∘qaa;refine q_l rfl (Y2b s c fl k t _ _ h hok hln ht) ?_;apply (Xbi);refine q_c ?_ ?_<;>intro hc3;·apply qae∘Y8a∘Xci;refine q_r L R zid ?_;exact ⟨by rw [Vjc he hc3,he],rfl,rfl⟩
 apply (qbv);iterate 3 apply (qaa)
 refine Jy (J8 (qs:=[(0,(Value.int _ _).cells.toList),(1,(Value.int _ _).cells.toList),(2,(Value.int _ _).cells.toList),(3,(Value.int _ _).cells.toList),(4,(Value.int _ _).cells.toList)]) (out:=[_,_,_,_,_]) tb rfl rfl rfl rfl) rfl ?_;apply (Xb0);refine q_r L R zid ?_;exact ⟨by rw [askR,if_pos za,he,show readyE s c.l fl.l k t=0 by omega],rfl,rfl⟩
def Y7c (r:XRest) (t:Int):Prop:=t < r.time∨r.time < t - 600
instance (r:XRest) (t:Int):Decidable (Y7c r t):=by unfold Y7c;infer_instance
def Yad (r:XRest) (t:Int) (L:LB) (R:LS) (ht:0≤t∧t≤2147483648):
 Tri Tryz.prog 164 [r.val,.int .i64 t].toArray L R (fun v M U=>v=.bool (decide (Y7c r t))∧L=M∧R=U):=by
 refine Jd 16 Tryz.call164 Tryz.func164 rfl rfl rfl ?_;apply (Xaf);intro b2;apply qaz∘Xc9∘Xbt;apply Kd (G:=[_,_,_,_,_]) (j:=4) (cj:=9) rfl rfl zb rfl zmb rfl;·intro hg5;replace hg5:=qb hg5;exact (Xct) zJd
 intro junk5;apply (Xbk);refine q_b L R ?_;exact ⟨by refine congrArg Value.bool ?_;rw [yjb,decide_eq_true_iff (p:=Y7c r t),Y7c];simp,rfl,rfl⟩
def Jba (s:XSite) (r:XRest) (p:Int):Prop:=
 p < 0∨(s.persons.l.length:Int)≤p∨p=r.first∨r.first < 0∨(s.persons.l.length:Int)≤r.first∨s.persons.l.getD p.toNat 0=s.persons.l.getD r.first.toNat 0
instance (s:XSite) (r:XRest) (p:Int):Decidable (Jba s r p):=by unfold Jba;infer_instance
def confirmE (s:XSite) (c:List XCut) (fl:List XSpan) (r:XRest) (p t:Int):Int:=
 if sharedE s c.length fl.length t≠0 then sharedE s c.length fl.length t
 else if r.zone= -1∨r.step≠1 then 10
 else if Jba s r p then 19
 else if Y7c r t then 8
 else readyE s c fl r.zone t
def confirmR (s:XSite) (c:List XCut) (fl:List XSpan) (r:XRest) (p t:Int):XRest:=if confirmE s c fl r p t=0 then ⟨r.zone,r.first,p,2,t⟩ else r
def V2 {s:XSite} {c:List XCut} {fl:List XSpan} {r:XRest} {p t e:Int} (h:confirmE s c fl r p t=e) (he:e≠0):confirmR s c fl r p t=r:=by rw [confirmR,if_neg za]
def Uid (s:XSite) (c:Arr XCut) (fl:Arr XSpan) (r:XRest) (p t:Int) (L:LB) (R:LS) (h:RestA s c fl R):
 Tri Tryz.prog 86 [s.val,c.val,fl.val,r.val,.int .i64 p,.int .i64 t].toArray L R (fun v M U=>v=.tuple #[(confirmR s c.l fl.l r p t).val,.int .i64 (confirmE s c.l fl.l r p t)]∧L=M∧R=U):=by
 have hpR:=h.site.persons;refine Jd 102 Tryz.call86 Tryz.func86 rfl rfl rfl ?_;apply (Xaf);intro b6;apply (qax);intro b9;apply (qaq);intro b12;apply Xap∘Yee∘qbm∘Xas;refine q_l rfl (Yaa s c fl t _ _ h) ?_;apply (Xbi);refine q_c ?_ ?_<;>intro hc0;·
  apply qae∘Y8a∘Xci;refine q_r L R zid ?_;have he:confirmE s c.l fl.l r p t=sharedE s c.l.length fl.l.length t:=by rw [confirmE,if_pos hc0]
  exact ⟨by rw [V2 he hc0,he],rfl,rfl⟩
 obtain ⟨hok,hln,ht⟩:=Ksb (s:=s) (nc:=c.l.length) (nf:=fl.l.length) (t:=t) za;apply Xc2∘Xcc;apply Kd (G:=[_,_,_]) (j:=3) (cj:=30) rfl rfl zb rfl zmb rfl;·exact zqe
 intro junk4;apply (qaf);refine q_c ?_ ?_<;>intro hc1;·
  apply qae∘Y8a∘Xa3;refine q_r L R zid ?_;have he:confirmE s c.l fl.l r p t=10:=by rw [confirmE,if_neg hc0,if_pos za]
  exact ⟨by rw [V2 he za,he],rfl,rfl⟩
 apply qbv∘Xab∘qad∘qco;refine Kh tb [0,1,2,3,4,5,6,7,8,9,10,11,12,13,14,15,16,17,18,19,20,21,22,23,24,25,26,27,28,29,30,31,32,33,34,35,36,37,38,39] _ Kr zc ye ?_;apply (qao);refine K0 zPc rfl rfl rfl ?_;apply (qb2);refine Vj (k:=41) zmb (fun hg2=>?_) (fun hg2=>?_);·
  replace hg2:=qb hg2;iterate 3 apply (qap)
  apply (Xbs);iterate 4 apply (qap)
  exact (Xbs) zne
 replace hg2:=qb hg2;apply qao∘qao;refine K0 (Kxc rfl rfl) rfl rfl rfl ?_;apply (Xbs);refine Vj (k:=46) zmb (fun hg7=>?_) (fun hg7=>?_);·
  replace hg7:=qb hg7;iterate 4 apply (qap)
  exact (Xbs) zne
 replace hg7:=qb hg7;apply qao∘Xak;refine K0 zyc rfl rfl rfl ?_;apply (Xbs);refine Vj (k:=52) zmb (fun hg13=>?_) (fun hg13=>?_);·replace hg13:=qb hg13;exact zne
 replace hg13:=qb hg13;apply (Xak);refine K0 zPc rfl rfl rfl ?_;apply (Xbs);refine Vj (k:=57) zmb (fun hg18=>?_) (fun hg18=>?_);·
  replace hg18:=qb hg18;iterate 4 apply (qap)
  exact (Xbs) zrd
 replace hg18:=qb hg18;apply (Xbv);refine K0 (Kxc rfl rfl) rfl rfl rfl ?_;apply (Xbs);refine Vj (k:=63) zmb (fun hg24=>?_) (fun hg24=>?_);·replace hg24:=qb hg24;exact zrd
 replace hg24:=qb hg24;have hpg:=Jt (l:=s.persons.l) (k:=p.toNat) 0 za;have hqg:=Jt (l:=s.persons.l) (k:=r.first.toNat) 0 za;apply (Xbv);refine K0 zhb rfl rfl rfl ?_;apply qce∘qbl∘Xak∘Xak;refine K0 (by first | exact Je tb rfl rfl rfl rfl zy (i:=r.first.toNat) zk za | exact Jn tb rfl rfl rfl rfl (i:=r.first.toNat) zk za) rfl rfl rfl ?_;apply qce∘qbl;refine K0 zyc rfl rfl rfl ?_;apply (Xb7);refine q_c ?_ ?_<;>intro hc2;·
  apply qae∘Y8a∘Xa3;refine q_r L R zid ?_;have he:confirmE s c.l fl.l r p t=19:=by rw [confirmE,if_neg hc0,if_neg za,if_pos zX]
  exact ⟨by rw [V2 he za,he],rfl,rfl⟩
 have hbp:¬ Jba s r p:=by rw [Jba];omega
 apply qbo∘Y8a∘qaa;refine q_l rfl (Yad r t _ _ ht) ?_;apply (qaf);refine q_c ?_ ?_<;>intro hc3;·
  apply qae∘Y8a∘Xa3;refine q_r L R zid ?_;have he:confirmE s c.l fl.l r p t=8:=by rw [confirmE,if_neg hc0,if_neg za,if_neg hbp,if_pos zga]
  exact ⟨by rw [V2 he za,he],rfl,rfl⟩
 have he:confirmE s c.l fl.l r p t=readyE s c.l fl.l r.zone t:=by rw [confirmE,if_neg hc0,if_neg za,if_neg hbp,if_neg zga]
 apply qbo∘Yee∘qbm∘qbm∘Xah;refine q_l rfl (Y2b s c fl r.zone t _ _ h hok hln ht) ?_;apply (Xbi);refine q_c ?_ ?_<;>intro hc4;·apply qae∘Y8a∘Xci;refine q_r L R zid ?_;exact ⟨by rw [V2 he hc4,he],rfl,rfl⟩
 apply qbv∘Y8a∘qaq;intro b17;apply Xa0∘Xcd∘Xa5∘Xa5∘Xd7∘Y8a∘Xb0;refine q_r L R zid ?_;exact ⟨by rw [confirmR,if_pos za,he,show readyE s c.l fl.l r.zone t=0 by omega],rfl,rfl⟩
end
end Go.Proofs.YtchfclmokpbldaaGreat
