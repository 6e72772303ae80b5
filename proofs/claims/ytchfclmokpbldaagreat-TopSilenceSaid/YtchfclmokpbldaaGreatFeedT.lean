/-
  Merged texts. By an AI agent.
-/
import Derived.Test.YtchfclmokpbldaaGreatRestN
import Derived.Test.YtchfclmokpbldaaGreatCongrS
import Derived.Test.YtchfclmokpbldaaGreatFeedD
set_option linter.all false
set_option maxHeartbeats 4000000
set_option maxRecDepth 20000
namespace Go.Proofs.YtchfclmokpbldaaGreat
open Go.Aw Go
section
section
variable {A B:Prop}
def Y6e(h:A→B:=by exact Jy zrb rfl):=h
def Yze(h:A→B:=by exact Kw rfl (Go.Proofs.YtchfclmokpbldaaGreat.YV.gives2 zRb) rfl rfl):=h
def Kof(h:A→B:=by exact Vf zdd rfl rfl rfl rfl):=h
def K8f(h:A→B:=by exact Vf zrb rfl rfl rfl rfl):=h
def K4f(h:A→B:=by exact K0 (Ud zob) rfl rfl rfl):=h
def U1f(h:A→B:=by exact Jy zvb rfl):=h
def Ycf(h:A→B:=by exact Jy zzb rfl):=h
def Zkf(h:A→B:=by exact Kw rfl zvc rfl rfl):=h
def Zgf(h:A→B:=by exact Yta 6 hT3 yd zc rfl rfl rfl rfl rfl zFb):=h
def Y6f(h:A→B:=by exact Kw rfl zKc rfl rfl):=h
def Vgf(h:A→B:=by exact Kp zzb rfl rfl rfl rfl):=h
end
def Zmf {P:Program} {fn:Func} {t:Nat→Value} {L:LB} {R:LS} {r s q z:ResultVar} {v u x y:Value} (hr:fn.results=#[r,s,q,z]) (h:RV P t L R r v) (k:RV P t L R s u) (m:RV P t L R q x) (m2:RV P t L R z y):∀c n a w,Fr n t a→St c L R w→(results fn a.tmps).run P w=.ok (.tuple #[v,u,x,y]) w:=by intro c n a w hf hs;have h1:=Z6a h hf hs;have h2:=Z6a k hf hs;have h3:=Z6a m hf hs;have h4:=Z6a m2 hf hs;rw [U6a,hr];simp [h1,h2,h3,h4]
attribute [local irreducible] CJ LJ DJ Tri YV Gives Uq J2 Km Ur RV J4 OwL.L
def atR (f:XFeeder) (k:Int):Int:=Jhf f.switches.l (Zaa f.switches.l f.zones.l f.reply (f.zones.l.getD k.toNat 0))
def Jva (s:XSite) (c:List XCut) (fl:List XSpan) (r:XRest) (f:XFeeder) (t:Int):Int:=
 if sharedE s c.length fl.length t≠0 then sharedE s c.length fl.length t
 else if r.zone= -1∨r.step≠2 then 10
 else if Y7c r t then 8
 else if readyE s c fl r.zone t≠0 then readyE s c fl r.zone t
 else if feedE f.switches.l f.zones.l f.reply≠0 then feedE f.switches.l f.zones.l f.reply
 else if f.zones.l.length≠s.zones.l.length then 17
 else if Udc c f.switches.l f.zones.l f.reply r.zone (atR f r.zone) then 20 else 0
def Uvb {s:XSite} {c:List XCut} {fl:List XSpan} {k t:Int} (h:readyE s c fl k t=0):0≤k∧k < c.length:=by
 rw [readyE] at h;split at h;·cases h
 ·omega
def Z3e (s:XSite) (c:Arr XCut) (fl:Arr XSpan) (r:XRest) (f:XFeeder) (t:Int) (L:LB) (R:LS) (h:RestA s c fl R) (hf:FeederR f R):
 Tri Tryz.prog 165 [s.val,c.val,fl.val,r.val,f.val,.int .i64 t].toArray L R (fun v M U=>∃a:Int,v=.tuple #[.int .i64 a,.int .i64 (Jva s c.l fl.l r f t)]∧(Jva s c.l fl.l r f t=0→a=atR f r.zone)∧L=M∧∀r∈R,InR r U):=by
 refine Jd 70 Tryz.call165 Tryz.func165 rfl rfl rfl ?_;apply (Xaf);intro b6;apply (qax);intro b9;apply (qax);intro b10;apply qad∘Xap∘U1f∘qbm∘Xas;refine q_l rfl (Yaa s c fl t _ _ h) ?_;apply (Xbi);refine q_c ?_ ?_<;>intro hc0;·
  apply Xd4∘Xal;refine q_r L R zed ?_;have he:Jva s c.l fl.l r f t=sharedE s c.l.length fl.l.length t:=by rw [Jva,if_pos hc0]
  exact zGd
 obtain ⟨hok,hln,ht⟩:=Ksb (s:=s) (nc:=c.l.length) (nf:=fl.l.length) (t:=t) za;apply Xc2∘Xcc;apply Kd (G:=[_,_,_]) (j:=3) (cj:=30) rfl rfl zb rfl zmb rfl;·exact zqe
 intro junk4;apply (qaf);refine q_c ?_ ?_<;>intro hc1;·
  apply Xac∘Xal;refine q_r L R zed ?_;have he:Jva s c.l fl.l r f t=10:=by rw [Jva,if_neg hc0,if_pos za]
  exact zGd
 apply qbo∘Ycf∘qaa;refine q_l rfl (Yad r t _ _ ht) ?_;apply (qaf);refine q_c ?_ ?_<;>intro hc2;·
  apply Xac∘Xal;refine q_r L R zed ?_;have he:Jva s c.l fl.l r f t=8:=by rw [Jva,if_neg hc0,if_neg za,if_pos zO]
  exact zGd
 have hlt:¬ Y7c r t:=by simpa using hc2
 apply qbo∘U1f∘qbm∘qbm∘Xah;refine q_l rfl (Y2b s c fl r.zone t _ _ h hok hln ht) ?_;apply (Xbi);refine q_c ?_ ?_<;>intro hc3;·
  apply Xd4∘Xal;refine q_r L R zed ?_;have he:Jva s c.l fl.l r f t=readyE s c.l fl.l r.zone t:=by rw [Jva,if_neg hc0,if_neg za,if_neg hlt,if_pos hc3]
  exact zGd
 apply qbo∘Y6e;refine q_l rfl (Vz f _ _ hf) ?_;apply (Xbi);refine q_c ?_ ?_<;>intro hc4;·
  apply Xd4∘Xal;refine q_r L R zed ?_;have he:Jva s c.l fl.l r f t=feedE f.switches.l f.zones.l f.reply:=by rw [Jva,if_neg hc0,if_neg za,if_neg hlt,if_neg hc3,if_pos hc4]
  exact zGd
 apply qbo∘Xab∘Xab∘Xat;refine q_c ?_ ?_<;>intro hc5;·
  apply Xac∘Xal;refine q_r L R zed ?_;have he:Jva s c.l fl.l r f t=17:=by rw [Jva,if_neg hc0,if_neg za,if_neg hlt,if_neg hc3,if_neg hc4,if_pos za]
  exact zGd
 have hrz:=Uvb (s:=s) (c:=c.l) (fl:=fl.l) (k:=r.zone) (t:=t) za;apply Xdy∘Y6e∘Xaa;refine Jo rfl (Ytd c f r.zone _ _ h.cuts hf za za za) rfl ?_;rintro v M U ⟨rfl,rfl,hR2⟩;refine Jy zPb rfl ?_;apply Xa6∘Xbw∘qaw∘qah∘qaf;refine q_c ?_ ?_<;>intro hc6;·
  apply Xac∘Xal;refine q_r L _ zed ?_;have he:Jva s c.l fl.l r f t=20:=by rw [Jva,if_neg hc0,if_neg za,if_neg hlt,if_neg hc3,if_neg hc4,if_neg za,if_pos (by simpa [atR] using hc6)]
  exact ⟨0,by rw [he],fun h=>by omega,rfl,hR2⟩
 apply Xc6∘qad∘Xai;refine q_r L _ zed ?_;have he:Jva s c.l fl.l r f t=0:=by rw [Jva,if_neg hc0,if_neg za,if_neg hlt,if_neg hc3,if_neg hc4,if_neg za,if_neg (by simpa [atR] using hc6)]
 exact ⟨atR f r.zone,by rw [he];rfl,fun _=>rfl,rfl,hR2⟩
def V1d {s:XSite} {c:List XCut} {fl:List XSpan} {r:XRest} {f:XFeeder} {t:Int} (h:Jva s c fl r f t=0):(0≤r.zone∧r.zone < c.length)∧c.length=f.zones.l.length∧feedE f.switches.l f.zones.l f.reply=0:=by
 rw [Jva] at h;split at h;·omega
 rename_i h0;obtain ⟨_,hln,_⟩:=Ksb (Decidable.not_not.1 h0);split at h;·cases h
 split at h;·cases h
 split at h;·omega
 rename_i h3;have:=Uvb (Decidable.not_not.1 h3);split at h;·omega
 split at h;·cases h
 omega
def Vs (s:XSite) (c:List XCut) (fl:List XSpan) (r:XRest) (f:XFeeder) (t:Int):Int:=
 if Jva s c fl r f t≠0 then Jva s c fl r f t else Y9a f.switches.l f.zones.l f.reply (atR f r.zone) t
def Zde (f:XFeeder) (r:XRest):Prop:=atR f r.zone=f.zones.l.getD r.zone.toNat 0
instance (f:XFeeder) (r:XRest):Decidable (Zde f r):=by unfold Zde;infer_instance
def Uia (s:XSite) (c:List XCut) (fl:List XSpan) (r:XRest) (f:XFeeder) (t:Int):XRest:=
 if Vs s c fl r f t≠0 then r else if Zde f r then noRest else ⟨r.zone,r.first,r.second,r.step,t⟩
def Kna (s:XSite) (c:List XCut) (fl:List XSpan) (r:XRest) (f:XFeeder) (t:Int):List XCut:=
 if Vs s c fl r f t≠0 then c else if Zde f r then c.set r.zone.toNat ⟨false,(c.getD r.zone.toNat default).clear,(c.getD r.zone.toNat default).reason⟩ else c
def Zz (s:XSite) (c:List XCut) (fl:List XSpan) (r:XRest) (f:XFeeder) (t:Int):List XSwitch:=
 if Vs s c fl r f t≠0 then f.switches.l else U6d f.switches.l (atR f r.zone) t
structure CloseIs (s:XSite) (c:List XCut) (fl:List XSpan) (r:XRest) (f:XFeeder) (t:Int) (q:XRest) (c2:List XCut) (sw:List XSwitch) (zn:List Int) (rp:Int):Prop where
 rest:q=Uia s c fl r f t
 cuts:c2=Kna s c fl r f t
 sw:sw=Zz s c fl r f t
 zn:zn=f.zones.l
 rp:rp=f.reply
def Zeb {s:XSite} {c:List XCut} {fl:List XSpan} {r:XRest} {f:XFeeder} {t e:Int} (h:Vs s c fl r f t=e) (he:e≠0):CloseIs s c fl r f t r c f.switches.l f.zones.l f.reply:=by
 have h0:Vs s c fl r f t≠0:=by omega
 exact ⟨by rw [Uia,if_pos h0],by rw [Kna,if_pos h0],by rw [Zz,if_pos h0],rfl,rfl⟩
def Vye (s:XSite) (c:Arr XCut) (fl:Arr XSpan) (r:XRest) (f:XFeeder) (t:Int) (L:LB) (R:LS) (h:RestA s c fl R) (hf:FeederR f R) (hn:c.l.length≤1000∧f.switches.l.length≤1000∧f.zones.l.length≤1000):
 Tri Tryz.prog 87 [s.val,c.val,fl.val,r.val,f.val,.int .i64 t].toArray L R (fun v M U=>∃(q:XRest) (pc:OwL XCut) (psw:OwL XSwitch) (pz:OwL Int) (rp:Int),v=.tuple #[q.val,pc.val,.agg #[psw.val,pz.val,.int .i64 rp],.int .i64 (Vs s c.l fl.l r f t)]∧
  (pc.ok 3 XCut.cells∧psw.ok 5 XSwitch.cells∧pz.ok 1 Jk)∧CloseIs s c.l fl.l r f t q pc.l psw.l pz.l rp∧pz.L 3 Jk ++ (psw.L 76 XSwitch.cells ++ (pc.L 71 XCut.cells ++ L))=M∧∀r∈R,InR r U):=by
 have hcR:=h.cuts;have hsR:=hf.sw;have hzR:=hf.zn;refine Jd 84 Tryz.call87 Tryz.func87 rfl rfl rfl ?_;apply (Xaf);intro b6;apply (qax);intro b9;apply (qax);intro b10;apply (qaq);intro b12;apply qc4∘qaq;intro b14;apply Xag∘qbm;refine Y3 (Ku (f:=XCut.cells) (xs:=c) tb rfl rfl rfl ze rfl rfl (hcR) yf za) rfl ?_;rintro v M U ⟨o23,rfl,hok23,rfl,rfl⟩;apply qc4∘qam∘Y6e∘qaq;intro b17;apply (Xc1);refine Ydb (rg 25 8) ((⟨fun _=>[],fun g=>(⟨g.1.2,f.zones.l⟩:OwL Int).L 3 Jk ++ ((⟨g.1.1,f.switches.l⟩:OwL XSwitch).L 76 XSwitch.cells ++ (⟨b17,[(⟨g.1.1,f.switches.l⟩:OwL XSwitch).val,(⟨g.1.2,f.zones.l⟩:OwL Int).val,.int .i64 f.reply],42⟩ :: ((⟨o23,c.l⟩:OwL XCut).L 71 XCut.cells ++ (⟨b14,[.slice none 0 0,.slice none 0 0,.int .i64 0],42⟩ :: ⟨b12,[.int .i64 0,.int .i64 0,.int .i64 0,.int .i64 0,.int .i64 0],51⟩ :: ⟨b10,f.cells,42⟩ :: ⟨b9,r.cells,51⟩ :: ⟨b6,s.cells,38⟩ :: L)))),fun _=>R,fun _=>0⟩:Head {g:Ow×Ow // (⟨g.1,f.switches.l⟩:OwL XSwitch).ok 5 XSwitch.cells∧(⟨g.2,f.zones.l⟩:OwL Int).ok 1 Jk})) ?_ ?_;·
  skip
  refine Jnc tb [] [0,1,3,4,2,6,5] [7,8,9] (_) [] 7 Kr zc rfl rfl zg fun hT3=>?_;refine Yta 0 hT3 yd zc rfl rfl rfl rfl rfl zFb ?_;refine Yta 3 hT3 yd zc rfl rfl rfl rfl rfl zFb ?_;refine Jj [1,4] hT3 yd zc ?_;refine Js ?_ ?_;·
   skip
   apply (Yze);rintro v M U ⟨rfl,rfl,rfl⟩;apply (qa1);refine Jj [2,4] hT3 yd zc ?_;refine Js ?_ ?_;·
    skip
    apply (Zkf);rintro v M U ⟨o27,rfl,hok27,rfl,rfl⟩;apply qa1∘Zgf;refine Jj [4] hT3 yd zc ?_;apply qca∘Yze;rintro v M U ⟨rfl,rfl,rfl⟩;apply (qa1);exact uan
   exact uaM
  apply qca∘Yze;rintro v M U ⟨rfl,rfl,rfl⟩;apply (qa1);refine Jj [1] hT3 yd zc ?_;exact uaM
 rintro ⟨⟨oS,oZ⟩,hkS,hkZ⟩ junk;try dsimp only
 dsimp only at hkS hkZ;apply qae∘U1f∘qbm∘qbm∘Ycf∘Y6e∘qaa;refine Jo rfl (Z3e s c fl r f t _ _ h hf) rfl ?_;rintro v M U ⟨a,rfl,ha,rfl,hR2⟩;have hf2:=hf.mono hR2;have hzR2:=hf2.zn;refine Jy zPb rfl ?_;apply Xdc∘Xby∘Xat;refine q_c ?_ ?_<;>intro hc0;·
  refine Jp ?_;refine J5 tb [46,47,48] [0,1,2,3] [4,5,6,7] ([Blk.mk b17 _ _,Blk.mk b14 _ _,Blk.mk b12 _ _,Blk.mk b9 _ _]) _ Kr zc zg zka ?_;apply Vgf∘Kof∘K8f;refine Vf (Jx znb) rfl rfl rfl rfl ?_;apply Xcm∘K4f∘Xdp;refine J1 (Jb (K6 (J6 ?_)));refine q_r ((⟨oZ,f.zones.l⟩:OwL Int).L 3 Jk ++ ((⟨oS,f.switches.l⟩:OwL XSwitch).L 76 XSwitch.cells ++ ((⟨o23,c.l⟩:OwL XCut).L 71 XCut.cells ++ L))) _ zpd ?_;have he:Vs s c.l fl.l r f t=Jva s c.l fl.l r f t:=by rw [Vs,if_pos hc0]
  exact ⟨r,⟨o23,c.l⟩,⟨oS,f.switches.l⟩,⟨oZ,f.zones.l⟩,f.reply,by rw [he];rfl,⟨hok23,hkS,hkZ⟩,Zeb he hc0,rfl,hR2⟩
 obtain rfl:a=atR f r.zone:=ha za;obtain ⟨hrz,hcz,hfe⟩:=V1d (s:=s) (c:=c.l) (fl:=fl.l) (r:=r) (f:=f) (t:=t) za;have he:Vs s c.l fl.l r f t=Y9a f.switches.l f.zones.l f.reply (atR f r.zone) t:=by rw [Vs,if_neg hc0]
 have hzg:=Jt (l:=f.zones.l) (k:=r.zone.toNat) 0 za;have hxg:=Jt (l:=c.l) (k:=r.zone.toNat) default za;obtain ⟨x,hx⟩:∃x,x=c.l.getD r.zone.toNat default:=⟨_,rfl⟩;rw [← hx] at hxg;apply qbv∘Y6e∘Xcd;refine Jo rfl (Vec f (atR f r.zone) t _ _ hf2) rfl ?_;rintro v M U ⟨p,q,rp,rfl,⟨hpk,hqk⟩,hcl,rfl,rfl⟩;refine Jy zPb rfl ?_;apply Xa6∘qaq;intro b20;apply qak∘Xby∘Xat;refine q_c ?_ ?_<;>intro hc1;·refine Jp ?_;refine J5 tb [59,60,61] [0,1,2,3] [4,5,6,7] ([Blk.mk b17 _ _,Blk.mk b14 _ _,Blk.mk b12 _ _,Blk.mk b9 _ _]) _ Kr zc zg zka ?_;apply Vgf∘Kof∘K8f;refine Vf (Jx znb) rfl rfl rfl rfl ?_;apply Xcm∘K4f∘Xdp;refine J1 (Jb (K6 (J6 ?_)));refine q_r ((⟨oZ,f.zones.l⟩:OwL Int).L 3 Jk ++ ((⟨oS,f.switches.l⟩:OwL XSwitch).L 76 XSwitch.cells ++ ((⟨o23,c.l⟩:OwL XCut).L 71 XCut.cells ++ L))) _ zpd ?_;exact ⟨r,⟨o23,c.l⟩,⟨oS,f.switches.l⟩,⟨oZ,f.zones.l⟩,f.reply,by rw [he];rfl,⟨hok23,hkS,hkZ⟩,Zeb he hc1,rfl,hR2⟩
 obtain ⟨hpl,hql,rfl⟩:=hcl za;have hce:Y9a f.switches.l f.zones.l f.reply (atR f r.zone) t=0:=by omega
 have he0:¬ Vs s c.l fl.l r f t≠0:=by omega
 apply qbo∘qaa∘Xbe;refine Jy zdb rfl ?_;apply qa7∘Xat;refine q_c ?_ ?_<;>intro hc2;·apply qae∘Ycf∘qaq;intro b21;apply Xa0∘qaa∘Xa5∘qa4;refine J5 tb [74,75] [0,1,2] [3,4,5,6] ([Blk.mk b21 _ _,Blk.mk b20 _ _,Blk.mk b14 _ _,Blk.mk b12 _ _]) _ Kr zc zg zka ?_;apply Vgf∘Kof∘K8f∘Xcm∘K4f∘Xdp;refine J1 (Jb (K6 (J6 ?_)));refine q_r (q.L 3 Jk ++ (p.L 76 XSwitch.cells ++ ((⟨o23,c.l⟩:OwL XCut).L 71 XCut.cells ++ L))) _ zpd ?_;exact ⟨⟨r.zone,r.first,r.second,r.step,t⟩,⟨o23,c.l⟩,p,q,f.reply,by rw [he,hce];rfl,⟨hok23,hpk,hqk⟩,⟨by rw [Uia,if_neg he0,if_neg (by rw [Zde];omega)],by rw [Kna,if_neg he0,if_neg (by rw [Zde];omega)],by rw [Zz,if_neg he0,hpl],hql,rfl⟩,rfl,hR2⟩
 apply qbv∘Xb8;refine Jy (Jw tb ((⟨o23,c.l⟩:OwL XCut)) _ rfl rfl rfl rfl zi (i:=r.zone.toNat) zk zw) rfl ?_;apply (qb0);refine Ye (Ju tb ((⟨o23,c.l⟩:OwL XCut)) (⟨false,x.clear,x.reason⟩) rfl rfl rfl rfl zj zi yf zi ze zb zb) ?_;rintro v M U ⟨rfl,rfl⟩;apply (qa4);have hpc2:=OwL.set_ok (f:=XCut.cells) (wd:=3) (p:=⟨o23,c.l⟩) (i:=r.zone.toNat) (x:=⟨false,x.clear,x.reason⟩) yf hok23;refine J5 tb [82,83] [1,2,0] [3,4,5,6] ([Blk.mk b20 _ _,Blk.mk b14 _ _,Blk.mk b12 _ _]) _ Kr zc zg zka ?_;apply Kof∘K8f;refine Ks rfl (Ybc _ _) rfl rfl ?_;rintro v M U ⟨rfl,rfl,rfl⟩;refine ⟨zg,zq,?_⟩;apply Xcm∘K4f∘Xdp;refine J1 (Jb (K6 ?_));refine q_r (q.L 3 Jk ++ (p.L 76 XSwitch.cells ++ ((⟨o23,c.l.set r.zone.toNat ⟨false,x.clear,x.reason⟩⟩:OwL XCut).L 71 XCut.cells ++ L))) _ zpd ?_;exact ⟨noRest,⟨o23,c.l.set r.zone.toNat ⟨false,x.clear,x.reason⟩⟩,p,q,f.reply,by simp only [he,hce,OwL.val,yE],⟨hpc2,hpk,hqk⟩,⟨by rw [Uia,if_neg he0,if_pos (by rw [Zde];omega)],by rw [Kna,if_neg he0,if_pos (by rw [Zde];omega),← hx],by rw [Zz,if_neg he0,hpl],hql,rfl⟩,rfl,hR2⟩
end
section
def K1b (z:XZone):XZone:=⟨⟨none,0,z.rule.l⟩,z.hold,⟨none,0,z.roads.l⟩,z.fresh⟩
def K1 (s:XSite):XSite:=⟨Zr s.air,⟨none,0,s.sensors.l⟩,⟨none,0,s.conds.l⟩,⟨none,0,s.zones.l.map K1b⟩,⟨none,0,s.persons.l⟩⟩
def Y4a (s:XSite) (k:Nat):(K1 s).zones.l.getD k default=K1b (s.zones.l.getD k default):=V8b rfl
def Yza (s:XSite):(K1 s).zones.l.length=s.zones.l.length:=yA _
def Vgd (a:XAir) (x:XSens):Uba (Zr a) x=Uba a x:=by rw [Uba,Uba,show (Zr a).fans.l.length=a.fans.l.length from yA _,show (Zr a).doors.l.length=a.doors.l.length from yA _];rfl
def Yjb (a:XAir) (S:List XSens):Ux (Zr a) S=Ux a S:=by
 have e:Zy (Zr a) S=Zy a S:=by funext i;rw [Zy,Zy,Vgd]
 rw [Ux,Ux,e]
def V0c (s:XSite):Zl (K1 s)=Zl s:=by rw [Zl,Zl,show (K1 s).zones.l=s.zones.l.map K1b from rfl,ybc];rfl
def Kga (s:XSite):K8 (K1 s)=K8 s:=by rw [K8,K8,V0c,Yza,show Kx (K1 s).air=Kx s.air from Y7b _,show Ux (K1 s).air (K1 s).sensors.l=Ux s.air s.sensors.l from Yjb _ _];rfl
def Z4a (s:XSite) (m:List XMeas) (w:List XWatch) (fl:List XSpan) (t:Int):valuesErr (K1 s) m w fl t=valuesErr s m w fl t:=by rw [valuesErr,valuesErr,Kga];rfl
def Vob (s:XSite) (v:List Int) (c:List XCut) (t:Int):cutsErr (K1 s) v c t=cutsErr s v c t:=by rw [cutsErr,cutsErr,Kga,Yza];rfl
def Ulc (s:XSite) (v:List Int) (c:List XCut) (t:Int):cutAt (K1 s) v c t=cutAt s v c t:=by funext i;rw [cutAt,cutAt,Y4a];rfl
def K7b (s : XSite) (v : List Int) (c : List XCut) : ∀ k, Vta (K1 s) v c k = Vta s v c k
 | 0=>rfl
 | k + 1=>by rw [Vta,Vta,K7b s v c k,Y4a];rfl
def Zob (s:XSite) (c:List XCut) (fl:List XSpan) (k t:Int):readyE (K1 s) c fl k t=readyE s c fl k t:=by rw [readyE,readyE,Y4a];rfl
def U1b (s:XSite) (n m:Nat) (t:Int):sharedE (K1 s) n m t=sharedE s n m t:=by rw [sharedE,sharedE,Kga,Yza];rfl
abbrev SiteE (s s':XSite):Prop:=K1 s=K1 s'
section
variable {s s':XSite} (h:SiteE s s')
include h
def SiteE.air:Zr s.air=Zr s'.air:=congrArg XSite.air zlc
def SiteE.sens:s.sensors.l=s'.sensors.l:=by have e:=congrArg (fun x:XSite=>x.sensors.l) zlc;exact e
def SiteE.conds:s.conds.l=s'.conds.l:=by have e:=congrArg (fun x:XSite=>x.conds.l) zlc;exact e
def SiteE.persons:s.persons.l=s'.persons.l:=by have e:=congrArg (fun x:XSite=>x.persons.l) zlc;exact e
def SiteE.nfans:s.air.fans.l.length=s'.air.fans.l.length:=by have:=congrArg (fun x:XSite=>x.air.fans.l.length) zlc;simpa [K1,Zr] using this
def SiteE.ndoors:s.air.doors.l.length=s'.air.doors.l.length:=by have:=congrArg (fun x:XSite=>x.air.doors.l.length) zlc;simpa [K1,Zr] using this
def SiteE.nzones:s.zones.l.length=s'.zones.l.length:=by rw [← Yza s,h,Yza s']
def SiteE.zone (k:Nat):K1b (s.zones.l.getD k default)=K1b (s'.zones.l.getD k default):=by rw [← Y4a s,h,Y4a s']
def SiteE.rule (k:Nat):(s.zones.l.getD k default).rule.l=(s'.zones.l.getD k default).rule.l:=by have e:=congrArg (fun z:XZone=>z.rule.l) (SiteE.zone h k);exact e
def SiteE.door (k:Nat):(s.air.doors.l.getD k default).rests.l=(s'.air.doors.l.getD k default).rests.l:=by
 have e:Zwa (s.air.doors.l.getD k default)=Zwa (s'.air.doors.l.getD k default):=by rw [← Yub s.air,SiteE.air h,Yub s'.air]
 have e2:=congrArg (fun d:XDoor=>d.rests.l) e;exact e2
def SiteE.err:K8 s=K8 s':=by rw [← Kga s,h,Kga s']
def SiteE.valuesErr (m:List XMeas) (w:List XWatch) (fl:List XSpan) (t:Int):valuesErr s m w fl t=valuesErr s' m w fl t:=by rw [← Z4a s,h,Z4a s']
def SiteE.valuesV (m:List XMeas) (w:List XWatch) (fl:List XSpan) (t:Int):valuesV s m w fl t=valuesV s' m w fl t:=by rw [Go.Proofs.YtchfclmokpbldaaGreat.valuesV,Go.Proofs.YtchfclmokpbldaaGreat.valuesV,SiteE.valuesErr h,SiteE.sens h,SiteE.conds h]
def SiteE.valuesW (m:List XMeas) (w:List XWatch) (fl:List XSpan) (t:Int):valuesW s m w fl t=valuesW s' m w fl t:=by rw [Go.Proofs.YtchfclmokpbldaaGreat.valuesW,Go.Proofs.YtchfclmokpbldaaGreat.valuesW,SiteE.valuesErr h,SiteE.sens h,SiteE.conds h]
def SiteE.cutsErr (v:List Int) (c:List XCut) (t:Int):cutsErr s v c t=cutsErr s' v c t:=by rw [← Vob s,h,Vob s']
def SiteE.cutAt (v:List Int) (c:List XCut) (t:Int):cutAt s v c t=cutAt s' v c t:=by rw [← Ulc s,h,Ulc s']
def SiteE.cutsC (v:List Int) (c:List XCut) (t:Int):cutsC s v c t=cutsC s' v c t:=by rw [Go.Proofs.YtchfclmokpbldaaGreat.cutsC,Go.Proofs.YtchfclmokpbldaaGreat.cutsC,SiteE.cutsErr h,SiteE.cutAt h]
def SiteE.cutsN (v:List Int) (c:List XCut) (t:Int):cutsN s v c t=cutsN s' v c t:=by rw [Go.Proofs.YtchfclmokpbldaaGreat.cutsN,Go.Proofs.YtchfclmokpbldaaGreat.cutsN,SiteE.cutsErr h,← K7b s,h,K7b s']
def SiteE.readyE (c:List XCut) (fl:List XSpan) (k t:Int):readyE s c fl k t=readyE s' c fl k t:=by rw [← Zob s,h,Zob s']
def SiteE.sharedE (n m:Nat) (t:Int):sharedE s n m t=sharedE s' n m t:=by rw [← U1b s,h,U1b s']
def SiteE.askE (c:List XCut) (fl:List XSpan) (r:XRest) (p k t:Int):askE s c fl r p k t=askE s' c fl r p k t:=by rw [Go.Proofs.YtchfclmokpbldaaGreat.askE,Go.Proofs.YtchfclmokpbldaaGreat.askE,SiteE.sharedE h,SiteE.readyE h,SiteE.persons h]
def SiteE.askR (c:List XCut) (fl:List XSpan) (r:XRest) (p k t:Int):askR s c fl r p k t=askR s' c fl r p k t:=by rw [Go.Proofs.YtchfclmokpbldaaGreat.askR,Go.Proofs.YtchfclmokpbldaaGreat.askR,SiteE.askE h]
def SiteE.confirmE (c:List XCut) (fl:List XSpan) (r:XRest) (p t:Int):confirmE s c fl r p t=confirmE s' c fl r p t:=by
 have e:Jba s r p↔Jba s' r p:=by unfold Jba;rw [SiteE.persons h]
 simp only [Go.Proofs.YtchfclmokpbldaaGreat.confirmE,SiteE.sharedE h,SiteE.readyE h,e]
def SiteE.confirmR (c:List XCut) (fl:List XSpan) (r:XRest) (p t:Int):confirmR s c fl r p t=confirmR s' c fl r p t:=by rw [Go.Proofs.YtchfclmokpbldaaGreat.confirmR,Go.Proofs.YtchfclmokpbldaaGreat.confirmR,SiteE.confirmE h]
end
end
section
def Z8f (x:XSwitch) (t:Int):XSwitch:=⟨x.above,t,0,false,false⟩
def Yi (sw:List XSwitch) (s t:Int):List XSwitch:=if (sw.getD s.toNat default).closed=true then sw.set s.toNat (Z8f (sw.getD s.toNat default) t) else sw
def Zxd (sw:List XSwitch) (s t:Int):(Yi sw s t).length=sw.length:=by rw [Yi];split <;> simp
structure SwKeep (sw sw':List XSwitch) (t:Int):Prop where
 len:sw'.length=sw.length
 at_:∀i:Nat,i < sw.length→(sw'.getD i default).above=(sw.getD i default).above∧((sw'.getD i default).since=(sw.getD i default).since∨(sw'.getD i default).since=t)∧(-1≤(sw'.getD i default).shown∧(sw'.getD i default).shown≤1)∧¬ ((sw'.getD i default).late=true∧((sw'.getD i default).closed=true∨(sw'.getD i default).shown= -1))
def Yxe {sw:List XSwitch} {zn:List Int} {rp:Int} (h:feedE sw zn rp=0):∀i:Nat,i < sw.length→(-1≤(sw.getD i default).shown∧(sw.getD i default).shown≤1)∧¬ ((sw.getD i default).late=true∧((sw.getD i default).closed=true∨(sw.getD i default).shown= -1)):=fun i hi=>by
 by_cases h0:32 < sw.length∨16 < zn.length
 ·rw [feedE,if_pos h0] at h;omega
 cases h1:(List.range sw.length).findSome? (U2a sw) with
 | some e=>rw [Kub h0 h1] at h;exact absurd h (Uzc (fun _=>Yed) h1)
 | none=>
  have:=Udb h1 hi
  rw [U2a] at this
  split at this
  ·cases this
  split at this
  ·cases this
  split at this
  ·cases this
  rename_i k1 k2 k3
  rw [not_or] at k3
  exact ⟨by omega,k3.2⟩
def SwKeep.refl {sw:List XSwitch} {zn:List Int} {rp:Int} (h:feedE sw zn rp=0) (t:Int):SwKeep sw sw t:=⟨rfl,fun i hi=>⟨rfl,.inl rfl,Yxe h i hi⟩⟩
def SwKeep.feedE {sw sw':List XSwitch} {zn:List Int} {rp t:Int} (k:SwKeep sw sw' t) (h:feedE sw zn rp=0) (ht:0≤t∧t≤2147483648):feedE sw' zn rp=0:=by
 have hl:=k.len;have hok:=Yd h;have h0':¬ (32 < sw'.length∨16 < zn.length):=by have:=hok.sn;have:=hok.zl;omega
 have h1':(List.range sw'.length).findSome? (U2a sw')=none:=by
  rw [yH];intro i hi;rw [yqa,hl] at hi;have h2:=k.at_ i hi;have h3:=hok.up i hi;have h4:=hok.since i hi;exact Kxd rfl za za (fun h=>by
   rcases h with h | h;·omega
   ·exact h2.2.2.2 h)
 have h2':(List.range zn.length).findSome? (Zva sw'.length zn)=none:=by rw [yH];intro i hi;rw [yqa] at hi;have:=hok.zr i hi;exact Ktd za (fun ⟨j,hj,e⟩=>hok.zd i j hj hi e)
 rw [Klb h0' h1' h2',if_neg (by have:=hok.rp;omega)]
def SwKeep.time {sw sw':List XSwitch} {t:Int} (k:SwKeep sw sw' t) (h:Yia sw t):Yia sw' t:=⟨h.1,fun x hx=>by
 obtain ⟨i,hi⟩:=List.mem_iff_getElem?.1 hx
 have hi':=(List.getElem?_eq_some_iff.1 hi).1
 have hl:=k.len
 have e:=getD_some (d:=default) hi
 have h2:=k.at_ i za
 have h3:=h.2 _ (yi (Jt (l:=sw) (k:=i) default za))
 rw [e] at h2
 omega⟩
def SwKeep.set {sw sw':List XSwitch} {t:Int} (k:SwKeep sw sw' t) {i:Nat} {x:XSwitch} (h1:x.above=(sw'.getD i default).above) (h2:x.since=(sw'.getD i default).since∨x.since=t) (h3:-1≤x.shown∧x.shown≤1) (h4:¬ (x.late=true∧(x.closed=true∨x.shown= -1))):SwKeep sw (sw'.set i x) t:=by
 refine ⟨by rw [yE];exact k.len,fun j hj=>?_⟩;have hl:=k.len;have hk:=k.at_ j hj;rw [yh,yG];split;·
  rename_i e;subst e;rw [if_pos za];refine ⟨by rw [← hk.1,← h1];rfl,?_,h3,h4⟩;rcases h2 with h2 | h2;·
   rcases hk.2.1 with h5 | h5;·exact .inl (by rw [← h5,← h2];rfl)
   ·exact .inr (by rw [← h5,← h2];rfl)
  ·exact .inr h2
 ·rw [← yh];exact hk
def SwKeep.openS {sw sw':List XSwitch} {t:Int} (k:SwKeep sw sw' t) (s:Int):SwKeep sw (Yi sw' s t) t:=by
 rw [Yi];split;·exact k.set rfl (.inr rfl) ⟨by show (-1:Int)≤0;decide,by show (0:Int)≤1;decide⟩ (by simp [Z8f])
 ·exact k
def Zjc (x:XSwitch):Bool:=!x.closed && decide (x.shown≠-1) && !x.late
structure XTick where
 sw:List XSwitch
 late:List Int
 opened : List Int
 deriving Inhabited
def V9e (x:XSwitch):XSwitch:=⟨x.above,x.since,x.shown,x.closed,true⟩
def Vkb (rp t:Int) (y:XTick) (i:Nat):XTick:=
 if Zjc (y.sw.getD i default)=true∧rp≤t - (y.sw.getD i default).since then
  if 0≤(y.sw.getD i default).above∧((y.sw.set i (V9e (y.sw.getD i default))).getD (y.sw.getD i default).above.toNat default).closed=true then
   ⟨Yi (y.sw.set i (V9e (y.sw.getD i default))) (y.sw.getD i default).above t,y.late ++ [(i:Int)],y.opened ++ [(y.sw.getD i default).above]⟩
  else ⟨y.sw.set i (V9e (y.sw.getD i default)),y.late ++ [(i:Int)],y.opened⟩
 else y
def Yka (sw : List XSwitch) (rp t : Int) : Nat → XTick
 | 0=>⟨sw,[],[]⟩
 | k + 1=>Vkb rp t (Yka sw rp t k) (sw.length - 1 - k)
def Uma (sw:List XSwitch) (rp t:Int):XTick:=Yka sw rp t sw.length
def Vbd {sw:List XSwitch} {rp t:Int} {y:XTick} (i:Nat) (hi:i < sw.length) (k:SwKeep sw y.sw t):SwKeep sw (Vkb rp t y i).sw t:=by
 have h2:=k.at_ i hi;rw [Vkb];split;·
  rename_i hw;have hw1:=hw.1;rw [Zjc,yq,yq,decide_eq_true_eq] at hw1;have hs:SwKeep sw (y.sw.set i (V9e (y.sw.getD i default))) t:=k.set rfl (.inl rfl) h2.2.2.1 (fun h=>by
   rcases h.2 with h | h;·have : (y.sw.getD i default).closed = true := h;rw [this] at hw1;exact absurd hw1.1.1 ze
   ·exact hw1.1.2 h)
  split;·exact hs.openS _
  ·exact hs
 ·exact k
def Vwa {sw : List XSwitch} {zn : List Int} {rp t : Int} (h : feedE sw zn rp = 0) : ∀ k, k ≤ sw.length → SwKeep sw (Yka sw rp t k).sw t
 | 0,_=>.refl h t
 | k + 1,hk=>Vbd _ za (Vwa h k za)
def Jne {rp t:Int} {y:XTick} {i:Nat}:(Vkb rp t y i).late.length≤y.late.length + 1∧(Vkb rp t y i).opened.length≤y.opened.length + 1:=by
 rw [Vkb];repeat' split
 all_goals (first | (simp only [yj,yw,yM];omega) | omega)
def Urb {sw : List XSwitch} {rp t : Int} : ∀ k, (Yka sw rp t k).late.length ≤ k ∧ (Yka sw rp t k).opened.length ≤ k
 | 0=>⟨ym _,ym _⟩
 | k + 1=>by
  have h1:=Urb (sw:=sw) (rp:=rp) (t:=t) k
  have h2:=Jne (rp:=rp) (t:=t) (y:=Yka sw rp t k) (i:=sw.length - 1 - k)
  rw [Yka];omega
def Kvd (rp:Int) (v:Int) (x:XSwitch):Int:=if Zjc x=true then min v (x.since + rp) else v
def Zxc (sw:List XSwitch) (rp:Int):Int:=sw.foldl (Kvd rp) 1099511627776
end
end Go.Proofs.YtchfclmokpbldaaGreat
