/-
  Merged texts. By an AI agent.
-/
import Derived.Test.YtchfclmokpbldaaGreatRestN
import Derived.Test.YtchfclmokpbldaaGreatCongrS
set_option linter.all false
set_option maxHeartbeats 4000000
set_option maxRecDepth 20000
namespace Go.Proofs.YtchfclmokpbldaaGreat
open Go.Aw Go
section
section
variable {A B:Prop}
def K7e(h:A→B:=by exact Jx zrb rfl):=h
def Uae(h:A→B:=by exact Kv rfl (Go.Proofs.YtchfclmokpbldaaGreat.YV.gives2 zPb) rfl rfl):=h
def Zie(h:A→B:=by exact Vf zed rfl rfl rfl rfl):=h
def Kuf(h:A→B:=by exact Vf zrb rfl rfl rfl rfl):=h
def Z3e(h:A→B:=by exact K1 (Uh zob) rfl rfl rfl):=h
def Vlf(h:A→B:=by exact Jx zvb rfl):=h
def V9f(h:A→B:=by exact Jx zzb rfl):=h
def Uif(h:A→B:=by exact Kv rfl zxc rfl rfl):=h
def Uqf(h:A→B:=by exact Y7a 6 hT3 yd zc rfl rfl rfl rfl rfl zAb):=h
def Yhf(h:A→B:=by exact Kv rfl zKc rfl rfl):=h
def Yef(h:A→B:=by exact Kr zzb rfl rfl rfl rfl):=h
end
def Vsf {P:Program} {fn:Func} {t:Nat→Value} {L:LB} {R:LS} {r s q z:ResultVar} {v u x y:Value} (hr:fn.results=#[r,s,q,z]) (h:RV P t L R r v) (k:RV P t L R s u) (m:RV P t L R q x) (m2:RV P t L R z y):∀c n a w,Fr n t a→St c L R w→(results fn a.tmps).run P w=.ok (.tuple #[v,u,x,y]) w:=by intro c n a w hf hs;have h1:=Z4a h hf hs;have h2:=Z4a k hf hs;have h3:=Z4a m hf hs;have h4:=Z4a m2 hf hs;rw [U5a,hr];simp [h1,h2,h3,h4]
attribute [local irreducible] CJ LJ DJ Tri YV Gives Ur J3 Ko Uq RV J5 OwL.L
def atR (f:XFeeder) (k:Int):Int:=Jvf f.switches.l (Uka f.switches.l f.zones.l f.reply (f.zones.l.getD k.toNat 0))
def Jwa (s:XSite) (c:List XCut) (fl:List XSpan) (r:XRest) (f:XFeeder) (t:Int):Int:=
 if sharedE s c.length fl.length t≠0 then sharedE s c.length fl.length t
 else if r.zone= -1∨r.step≠2 then 10
 else if Zqc r t then 8
 else if readyE s c fl r.zone t≠0 then readyE s c fl r.zone t
 else if feedE f.switches.l f.zones.l f.reply≠0 then feedE f.switches.l f.zones.l f.reply
 else if f.zones.l.length≠s.zones.l.length then 17
 else if Khc c f.switches.l f.zones.l f.reply r.zone (atR f r.zone) then 20 else 0
def K9b {s:XSite} {c:List XCut} {fl:List XSpan} {k t:Int} (h:readyE s c fl k t=0):0≤k∧k < c.length:=by
 rw [readyE] at h;split at h;·cases h
 ·omega
def Ywe (s:XSite) (c:Arr XCut) (fl:Arr XSpan) (r:XRest) (f:XFeeder) (t:Int) (L:LB) (R:LS) (h:RestA s c fl R) (hf:FeederR f R):
 Tri Tryz.prog 165 [s.val,c.val,fl.val,r.val,f.val,.int .i64 t].toArray L R (fun v M U=>∃a:Int,v=.tuple #[.int .i64 a,.int .i64 (Jwa s c.l fl.l r f t)]∧(Jwa s c.l fl.l r f t=0→a=atR f r.zone)∧L=M∧∀r∈R,InR r U):=by
 refine Jd 70 Tryz.call165 Tryz.func165 rfl rfl rfl ?_;apply (Xaf);intro b6;apply (qax);intro b9;apply (qax);intro b10;apply qad∘Xar∘Vlf∘qbm∘Xas;refine q_l rfl (Vta s c fl t _ _ h) ?_;apply (Xbm);refine q_c ?_ ?_<;>intro hc0;·
  apply Xd2∘Xal;refine q_r L R zmd ?_;have he:Jwa s c.l fl.l r f t=sharedE s c.l.length fl.l.length t:=by rw [Jwa,if_pos hc0]
  exact zId
 obtain ⟨hok,hln,ht⟩:=Khb (s:=s) (nc:=c.l.length) (nf:=fl.l.length) (t:=t) za;apply Xcy∘Xcc;apply Kf (G:=[_,_,_]) (j:=3) (cj:=30) rfl rfl zb rfl zmb rfl;·exact ubn
 intro junk4;apply (qaf);refine q_c ?_ ?_<;>intro hc1;·
  apply Xac∘Xal;refine q_r L R zmd ?_;have he:Jwa s c.l fl.l r f t=10:=by rw [Jwa,if_neg hc0,if_pos za]
  exact zId
 apply qbo∘V9f∘qaa;refine q_l rfl (Yxd r t _ _ ht) ?_;apply (qaf);refine q_c ?_ ?_<;>intro hc2;·
  apply Xac∘Xal;refine q_r L R zmd ?_;have he:Jwa s c.l fl.l r f t=8:=by rw [Jwa,if_neg hc0,if_neg za,if_pos zO]
  exact zId
 have hlt:¬ Zqc r t:=by simpa using hc2
 apply qbo∘Vlf∘qbm∘qbm∘Xai;refine q_l rfl (Zjb s c fl r.zone t _ _ h hok hln ht) ?_;apply (Xbm);refine q_c ?_ ?_<;>intro hc3;·
  apply Xd2∘Xal;refine q_r L R zmd ?_;have he:Jwa s c.l fl.l r f t=readyE s c.l fl.l r.zone t:=by rw [Jwa,if_neg hc0,if_neg za,if_neg hlt,if_pos hc3]
  exact zId
 apply qbo∘K7e;refine q_l rfl (Vt f _ _ hf) ?_;apply (Xbm);refine q_c ?_ ?_<;>intro hc4;·
  apply Xd2∘Xal;refine q_r L R zmd ?_;have he:Jwa s c.l fl.l r f t=feedE f.switches.l f.zones.l f.reply:=by rw [Jwa,if_neg hc0,if_neg za,if_neg hlt,if_neg hc3,if_pos hc4]
  exact zId
 apply qbo∘Xab∘Xab∘Xat;refine q_c ?_ ?_<;>intro hc5;·
  apply Xac∘Xal;refine q_r L R zmd ?_;have he:Jwa s c.l fl.l r f t=17:=by rw [Jwa,if_neg hc0,if_neg za,if_neg hlt,if_neg hc3,if_neg hc4,if_pos za]
  exact zId
 have hrz:=K9b (s:=s) (c:=c.l) (fl:=fl.l) (k:=r.zone) (t:=t) za;apply qbv∘qbm∘K7e∘Xaa;refine Jm rfl (Yed c f r.zone _ _ h.cuts hf za za za) rfl ?_;rintro v M U ⟨rfl,rfl,hR2⟩;refine Jx zXb rfl ?_;apply Xbb∘Xbx∘qaw∘qah∘qaf;refine q_c ?_ ?_<;>intro hc6;·
  apply Xac∘Xal;refine q_r L _ zmd ?_;have he:Jwa s c.l fl.l r f t=20:=by rw [Jwa,if_neg hc0,if_neg za,if_neg hlt,if_neg hc3,if_neg hc4,if_neg za,if_pos (by simpa [atR] using hc6)]
  exact ⟨0,by rw [he],fun h=>by omega,rfl,hR2⟩
 apply qbv∘qaa∘qad∘Xaj;refine q_r L _ zmd ?_;have he:Jwa s c.l fl.l r f t=0:=by rw [Jwa,if_neg hc0,if_neg za,if_neg hlt,if_neg hc3,if_neg hc4,if_neg za,if_neg (by simpa [atR] using hc6)]
 exact ⟨atR f r.zone,by rw [he];rfl,fun _=>rfl,rfl,hR2⟩
def Y1d {s:XSite} {c:List XCut} {fl:List XSpan} {r:XRest} {f:XFeeder} {t:Int} (h:Jwa s c fl r f t=0):(0≤r.zone∧r.zone < c.length)∧c.length=f.zones.l.length∧feedE f.switches.l f.zones.l f.reply=0:=by
 rw [Jwa] at h;split at h;·omega
 rename_i h0;obtain ⟨_,hln,_⟩:=Khb (Decidable.not_not.1 h0);split at h;·cases h
 split at h;·cases h
 split at h;·omega
 rename_i h3;have:=K9b (Decidable.not_not.1 h3);split at h;·omega
 split at h;·cases h
 omega
def V0 (s:XSite) (c:List XCut) (fl:List XSpan) (r:XRest) (f:XFeeder) (t:Int):Int:=
 if Jwa s c fl r f t≠0 then Jwa s c fl r f t else Yoa f.switches.l f.zones.l f.reply (atR f r.zone) t
def Yoe (f:XFeeder) (r:XRest):Prop:=atR f r.zone=f.zones.l.getD r.zone.toNat 0
instance (f:XFeeder) (r:XRest):Decidable (Yoe f r):=by unfold Yoe;infer_instance
def Y6 (s:XSite) (c:List XCut) (fl:List XSpan) (r:XRest) (f:XFeeder) (t:Int):XRest:=
 if V0 s c fl r f t≠0 then r else if Yoe f r then noRest else ⟨r.zone,r.first,r.second,r.step,t⟩
def Z0 (s:XSite) (c:List XCut) (fl:List XSpan) (r:XRest) (f:XFeeder) (t:Int):List XCut:=
 if V0 s c fl r f t≠0 then c else if Yoe f r then c.set r.zone.toNat ⟨false,(c.getD r.zone.toNat default).clear,(c.getD r.zone.toNat default).reason⟩ else c
def Yx (s:XSite) (c:List XCut) (fl:List XSpan) (r:XRest) (f:XFeeder) (t:Int):List XSwitch:=
 if V0 s c fl r f t≠0 then f.switches.l else Vyc f.switches.l (atR f r.zone) t
structure CloseIs (s:XSite) (c:List XCut) (fl:List XSpan) (r:XRest) (f:XFeeder) (t:Int) (q:XRest) (c2:List XCut) (sw:List XSwitch) (zn:List Int) (rp:Int):Prop where
 rest:q=Y6 s c fl r f t
 cuts:c2=Z0 s c fl r f t
 sw:sw=Yx s c fl r f t
 zn:zn=f.zones.l
 rp:rp=f.reply
def Yub {s:XSite} {c:List XCut} {fl:List XSpan} {r:XRest} {f:XFeeder} {t e:Int} (h:V0 s c fl r f t=e) (he:e≠0):CloseIs s c fl r f t r c f.switches.l f.zones.l f.reply:=by
 have h0:V0 s c fl r f t≠0:=by omega
 exact ⟨by rw [Y6,if_pos h0],by rw [Z0,if_pos h0],by rw [Yx,if_pos h0],rfl,rfl⟩
def Vme (s:XSite) (c:Arr XCut) (fl:Arr XSpan) (r:XRest) (f:XFeeder) (t:Int) (L:LB) (R:LS) (h:RestA s c fl R) (hf:FeederR f R) (hn:c.l.length≤1000∧f.switches.l.length≤1000∧f.zones.l.length≤1000):
 Tri Tryz.prog 87 [s.val,c.val,fl.val,r.val,f.val,.int .i64 t].toArray L R (fun v M U=>∃(q:XRest) (pc:OwL XCut) (psw:OwL XSwitch) (pz:OwL Int) (rp:Int),v=.tuple #[q.val,pc.val,.agg #[psw.val,pz.val,.int .i64 rp],.int .i64 (V0 s c.l fl.l r f t)]∧
  (pc.ok 3 XCut.cells∧psw.ok 5 XSwitch.cells∧pz.ok 1 Jk)∧CloseIs s c.l fl.l r f t q pc.l psw.l pz.l rp∧pz.L 3 Jk ++ (psw.L 76 XSwitch.cells ++ (pc.L 71 XCut.cells ++ L))=M∧∀r∈R,InR r U):=by
 have hcR:=h.cuts;have hsR:=hf.sw;have hzR:=hf.zn;refine Jd 84 Tryz.call87 Tryz.func87 rfl rfl rfl ?_;apply (Xaf);intro b6;apply (qax);intro b9;apply (qax);intro b10;apply (qaq);intro b12;apply qc4∘qaq;intro b14;apply Xag∘qbm;refine Yu (Kt (f:=XCut.cells) (xs:=c) tb rfl rfl rfl ze rfl rfl (hcR) yf za) rfl ?_;rintro v M U ⟨o23,rfl,hok23,rfl,rfl⟩;apply Xcv∘K7e∘qaq;intro b17;apply (Xcx);refine Vnb (rg 25 8) ((⟨fun _=>[],fun g=>(⟨g.1.2,f.zones.l⟩:OwL Int).L 3 Jk ++ ((⟨g.1.1,f.switches.l⟩:OwL XSwitch).L 76 XSwitch.cells ++ (⟨b17,[(⟨g.1.1,f.switches.l⟩:OwL XSwitch).val,(⟨g.1.2,f.zones.l⟩:OwL Int).val,.int .i64 f.reply],42⟩ :: ((⟨o23,c.l⟩:OwL XCut).L 71 XCut.cells ++ (⟨b14,[.slice none 0 0,.slice none 0 0,.int .i64 0],42⟩ :: ⟨b12,[.int .i64 0,.int .i64 0,.int .i64 0,.int .i64 0,.int .i64 0],51⟩ :: ⟨b10,f.cells,42⟩ :: ⟨b9,r.cells,51⟩ :: ⟨b6,s.cells,38⟩ :: L)))),fun _=>R,fun _=>0⟩:Head {g:Ow×Ow // (⟨g.1,f.switches.l⟩:OwL XSwitch).ok 5 XSwitch.cells∧(⟨g.2,f.zones.l⟩:OwL Int).ok 1 Jk})) ?_ ?_;·
  skip
  refine Z5b tb [] [0,1,3,4,2,6,5] [7,8,9] (_) [] 7 Kq zc rfl rfl zg fun hT3=>?_;refine Y7a 0 hT3 yd zc rfl rfl rfl rfl rfl zAb ?_;refine Y7a 3 hT3 yd zc rfl rfl rfl rfl rfl zAb ?_;refine Ji [1,4] hT3 yd zc ?_;refine Js ?_ ?_;·
   skip
   apply (Uae);rintro v M U ⟨rfl,rfl,rfl⟩;apply (qa1);refine Ji [2,4] hT3 yd zc ?_;refine Js ?_ ?_;·
    skip
    apply (Uif);rintro v M U ⟨o27,rfl,hok27,rfl,rfl⟩;apply qa1∘Uqf;refine Ji [4] hT3 yd zc ?_;apply qca∘Uae;rintro v M U ⟨rfl,rfl,rfl⟩;apply (qa1);exact uam
   exact uaM
  apply qca∘Uae;rintro v M U ⟨rfl,rfl,rfl⟩;apply (qa1);refine Ji [1] hT3 yd zc ?_;exact uaM
 rintro ⟨⟨oS,oZ⟩,hkS,hkZ⟩ junk;try dsimp only
 dsimp only at hkS hkZ;apply qae∘Vlf∘qbm∘qbm∘V9f∘K7e∘qaa;refine Jm rfl (Ywe s c fl r f t _ _ h hf) rfl ?_;rintro v M U ⟨a,rfl,ha,rfl,hR2⟩;have hf2:=hf.mono hR2;have hzR2:=hf2.zn;refine Jx zXb rfl ?_;apply Xbb∘qad∘Xdf∘Xat;refine q_c ?_ ?_<;>intro hc0;·
  refine Jp ?_;refine J6 tb [46,47,48] [0,1,2,3] [4,5,6,7] ([Blk.mk b17 _ _,Blk.mk b14 _ _,Blk.mk b12 _ _,Blk.mk b9 _ _]) _ Kq zc zg zma ?_;apply Yef∘Zie∘Kuf;refine Vf (J0 znb) rfl rfl rfl rfl ?_;apply Xcs∘Z3e∘Xdm;refine J2 (Jb (Ui (Kg ?_)));refine q_r ((⟨oZ,f.zones.l⟩:OwL Int).L 3 Jk ++ ((⟨oS,f.switches.l⟩:OwL XSwitch).L 76 XSwitch.cells ++ ((⟨o23,c.l⟩:OwL XCut).L 71 XCut.cells ++ L))) _ zqd ?_;have he:V0 s c.l fl.l r f t=Jwa s c.l fl.l r f t:=by rw [V0,if_pos hc0]
  exact ⟨r,⟨o23,c.l⟩,⟨oS,f.switches.l⟩,⟨oZ,f.zones.l⟩,f.reply,by rw [he];rfl,⟨hok23,hkS,hkZ⟩,Yub he hc0,rfl,hR2⟩
 obtain rfl:a=atR f r.zone:=ha za;obtain ⟨hrz,hcz,hfe⟩:=Y1d (s:=s) (c:=c.l) (fl:=fl.l) (r:=r) (f:=f) (t:=t) za;have he:V0 s c.l fl.l r f t=Yoa f.switches.l f.zones.l f.reply (atR f r.zone) t:=by rw [V0,if_neg hc0]
 have hzg:=Ju (l:=f.zones.l) (k:=r.zone.toNat) 0 za;have hxg:=Ju (l:=c.l) (k:=r.zone.toNat) default za;obtain ⟨x,hx⟩:∃x,x=c.l.getD r.zone.toNat default:=⟨_,rfl⟩;rw [← hx] at hxg;apply qbv∘K7e∘Xb6;refine Jm rfl (Vhc f (atR f r.zone) t _ _ hf2) rfl ?_;rintro v M U ⟨p,q,rp,rfl,⟨hpk,hqk⟩,hcl,rfl,rfl⟩;refine Jx zXb rfl ?_;apply (Xdv);intro b20;apply qak∘Xdf∘Xat;refine q_c ?_ ?_<;>intro hc1;·refine Jp ?_;refine J6 tb [59,60,61] [0,1,2,3] [4,5,6,7] ([Blk.mk b17 _ _,Blk.mk b14 _ _,Blk.mk b12 _ _,Blk.mk b9 _ _]) _ Kq zc zg zma ?_;apply Yef∘Zie∘Kuf;refine Vf (J0 znb) rfl rfl rfl rfl ?_;apply Xcs∘Z3e∘Xdm;refine J2 (Jb (Ui (Kg ?_)));refine q_r ((⟨oZ,f.zones.l⟩:OwL Int).L 3 Jk ++ ((⟨oS,f.switches.l⟩:OwL XSwitch).L 76 XSwitch.cells ++ ((⟨o23,c.l⟩:OwL XCut).L 71 XCut.cells ++ L))) _ zqd ?_;exact ⟨r,⟨o23,c.l⟩,⟨oS,f.switches.l⟩,⟨oZ,f.zones.l⟩,f.reply,by rw [he];rfl,⟨hok23,hkS,hkZ⟩,Yub he hc1,rfl,hR2⟩
 obtain ⟨hpl,hql,rfl⟩:=hcl za;have hce:Yoa f.switches.l f.zones.l f.reply (atR f r.zone) t=0:=by omega
 have he0:¬ V0 s c.l fl.l r f t≠0:=by omega
 apply qbo∘qaa∘Xa6;refine Jx zeb rfl ?_;apply qa7∘Xat;refine q_c ?_ ?_<;>intro hc2;·apply qae∘V9f∘qaq;intro b21;apply Xa2∘qaa∘Xa8∘qa4;refine J6 tb [74,75] [0,1,2] [3,4,5,6] ([Blk.mk b21 _ _,Blk.mk b20 _ _,Blk.mk b14 _ _,Blk.mk b12 _ _]) _ Kq zc zg zma ?_;apply Yef∘Zie∘Kuf∘Xcs∘Z3e∘Xdm;refine J2 (Jb (Ui (Kg ?_)));refine q_r (q.L 3 Jk ++ (p.L 76 XSwitch.cells ++ ((⟨o23,c.l⟩:OwL XCut).L 71 XCut.cells ++ L))) _ zqd ?_;exact ⟨⟨r.zone,r.first,r.second,r.step,t⟩,⟨o23,c.l⟩,p,q,f.reply,by rw [he,hce];rfl,⟨hok23,hpk,hqk⟩,⟨by rw [Y6,if_neg he0,if_neg (by rw [Yoe];omega)],by rw [Z0,if_neg he0,if_neg (by rw [Yoe];omega)],by rw [Yx,if_neg he0,hpl],hql,rfl⟩,rfl,hR2⟩
 apply qbv∘Xct;refine Jx (Jw tb ((⟨o23,c.l⟩:OwL XCut)) _ rfl rfl rfl rfl zi (i:=r.zone.toNat) zk zw) rfl ?_;apply (qb0);refine V8 (Jt tb ((⟨o23,c.l⟩:OwL XCut)) (⟨false,x.clear,x.reason⟩) rfl rfl rfl rfl zj zi yf zi ze zb zb) ?_;rintro v M U ⟨rfl,rfl⟩;apply (qa4);have hpc2:=OwL.set_ok (f:=XCut.cells) (wd:=3) (p:=⟨o23,c.l⟩) (i:=r.zone.toNat) (x:=⟨false,x.clear,x.reason⟩) yf hok23;refine J6 tb [82,83] [1,2,0] [3,4,5,6] ([Blk.mk b20 _ _,Blk.mk b14 _ _,Blk.mk b12 _ _]) _ Kq zc zg zma ?_;apply Zie∘Kuf;refine Ku rfl (Vdc _ _) rfl rfl ?_;rintro v M U ⟨rfl,rfl,rfl⟩;refine ⟨zg,zq,?_⟩;apply Xcs∘Z3e∘Xdm;refine J2 (Jb (Ui ?_));refine q_r (q.L 3 Jk ++ (p.L 76 XSwitch.cells ++ ((⟨o23,c.l.set r.zone.toNat ⟨false,x.clear,x.reason⟩⟩:OwL XCut).L 71 XCut.cells ++ L))) _ zqd ?_;exact ⟨noRest,⟨o23,c.l.set r.zone.toNat ⟨false,x.clear,x.reason⟩⟩,p,q,f.reply,by simp only [he,hce,OwL.val,yE],⟨hpc2,hpk,hqk⟩,⟨by rw [Y6,if_neg he0,if_pos (by rw [Yoe];omega)],by rw [Z0,if_neg he0,if_pos (by rw [Yoe];omega),← hx],by rw [Yx,if_neg he0,hpl],hql,rfl⟩,rfl,hR2⟩
end
section
def Jrc (z:XZone):XZone:=⟨⟨none,0,z.rule.l⟩,z.hold,⟨none,0,z.roads.l⟩,z.fresh⟩
def K2 (s:XSite):XSite:=⟨Zm s.air,⟨none,0,s.sensors.l⟩,⟨none,0,s.conds.l⟩,⟨none,0,s.zones.l.map Jrc⟩,⟨none,0,s.persons.l⟩⟩
def Yva (s:XSite) (k:Nat):(K2 s).zones.l.getD k default=Jrc (s.zones.l.getD k default):=Vrb rfl
def Zaa (s:XSite):(K2 s).zones.l.length=s.zones.l.length:=yG _
def J9d (a:XAir) (x:XSens):Uca (Zm a) x=Uca a x:=by rw [Uca,Uca,show (Zm a).fans.l.length=a.fans.l.length from yG _,show (Zm a).doors.l.length=a.doors.l.length from yG _];rfl
def Yhb (a:XAir) (S:List XSens):Up (Zm a) S=Up a S:=by
 have e:Jia (Zm a) S=Jia a S:=by funext i;rw [Jia,Jia,J9d]
 rw [Up,Up,e]
def Uoc (s:XSite):Zf (K2 s)=Zf s:=by rw [Zf,Zf,show (K2 s).zones.l=s.zones.l.map Jrc from rfl,ycc];rfl
def Kga (s:XSite):K5 (K2 s)=K5 s:=by rw [K5,K5,Uoc,Zaa,show Kz (K2 s).air=Kz s.air from V8b _,show Up (K2 s).air (K2 s).sensors.l=Up s.air s.sensors.l from Yhb _ _];rfl
def Zya (s:XSite) (m:List XMeas) (w:List XWatch) (fl:List XSpan) (t:Int):valuesErr (K2 s) m w fl t=valuesErr s m w fl t:=by rw [valuesErr,valuesErr,Kga];rfl
def Vdb (s:XSite) (v:List Int) (c:List XCut) (t:Int):cutsErr (K2 s) v c t=cutsErr s v c t:=by rw [cutsErr,cutsErr,Kga,Zaa];rfl
def Kpc (s:XSite) (v:List Int) (c:List XCut) (t:Int):cutAt (K2 s) v c t=cutAt s v c t:=by funext i;rw [cutAt,cutAt,Yva];rfl
def K3b (s : XSite) (v : List Int) (c : List XCut) : ∀ k, Una (K2 s) v c k = Una s v c k
 | 0=>rfl
 | k + 1=>by rw [Una,Una,K3b s v c k,Yva];rfl
def Z2b (s:XSite) (c:List XCut) (fl:List XSpan) (k t:Int):readyE (K2 s) c fl k t=readyE s c fl k t:=by rw [readyE,readyE,Yva];rfl
def Usb (s:XSite) (n m:Nat) (t:Int):sharedE (K2 s) n m t=sharedE s n m t:=by rw [sharedE,sharedE,Kga,Zaa];rfl
abbrev SiteE (s s':XSite):Prop:=K2 s=K2 s'
section
variable {s s':XSite} (h:SiteE s s')
include h
def SiteE.air:Zm s.air=Zm s'.air:=congrArg XSite.air zmc
def SiteE.sens:s.sensors.l=s'.sensors.l:=by have e:=congrArg (fun x:XSite=>x.sensors.l) zmc;exact e
def SiteE.conds:s.conds.l=s'.conds.l:=by have e:=congrArg (fun x:XSite=>x.conds.l) zmc;exact e
def SiteE.persons:s.persons.l=s'.persons.l:=by have e:=congrArg (fun x:XSite=>x.persons.l) zmc;exact e
def SiteE.nfans:s.air.fans.l.length=s'.air.fans.l.length:=by have:=congrArg (fun x:XSite=>x.air.fans.l.length) zmc;simpa [K2,Zm] using this
def SiteE.ndoors:s.air.doors.l.length=s'.air.doors.l.length:=by have:=congrArg (fun x:XSite=>x.air.doors.l.length) zmc;simpa [K2,Zm] using this
def SiteE.nzones:s.zones.l.length=s'.zones.l.length:=by rw [← Zaa s,h,Zaa s']
def SiteE.zone (k:Nat):Jrc (s.zones.l.getD k default)=Jrc (s'.zones.l.getD k default):=by rw [← Yva s,h,Yva s']
def SiteE.rule (k:Nat):(s.zones.l.getD k default).rule.l=(s'.zones.l.getD k default).rule.l:=by have e:=congrArg (fun z:XZone=>z.rule.l) (SiteE.zone h k);exact e
def SiteE.door (k:Nat):(s.air.doors.l.getD k default).rests.l=(s'.air.doors.l.getD k default).rests.l:=by
 have e:Zsa (s.air.doors.l.getD k default)=Zsa (s'.air.doors.l.getD k default):=by rw [← Zhb s.air,SiteE.air h,Zhb s'.air]
 have e2:=congrArg (fun d:XDoor=>d.rests.l) e;exact e2
def SiteE.err:K5 s=K5 s':=by rw [← Kga s,h,Kga s']
def SiteE.valuesErr (m:List XMeas) (w:List XWatch) (fl:List XSpan) (t:Int):valuesErr s m w fl t=valuesErr s' m w fl t:=by rw [← Zya s,h,Zya s']
def SiteE.valuesV (m:List XMeas) (w:List XWatch) (fl:List XSpan) (t:Int):valuesV s m w fl t=valuesV s' m w fl t:=by rw [Go.Proofs.YtchfclmokpbldaaGreat.valuesV,Go.Proofs.YtchfclmokpbldaaGreat.valuesV,SiteE.valuesErr h,SiteE.sens h,SiteE.conds h]
def SiteE.valuesW (m:List XMeas) (w:List XWatch) (fl:List XSpan) (t:Int):valuesW s m w fl t=valuesW s' m w fl t:=by rw [Go.Proofs.YtchfclmokpbldaaGreat.valuesW,Go.Proofs.YtchfclmokpbldaaGreat.valuesW,SiteE.valuesErr h,SiteE.sens h,SiteE.conds h]
def SiteE.cutsErr (v:List Int) (c:List XCut) (t:Int):cutsErr s v c t=cutsErr s' v c t:=by rw [← Vdb s,h,Vdb s']
def SiteE.cutAt (v:List Int) (c:List XCut) (t:Int):cutAt s v c t=cutAt s' v c t:=by rw [← Kpc s,h,Kpc s']
def SiteE.cutsC (v:List Int) (c:List XCut) (t:Int):cutsC s v c t=cutsC s' v c t:=by rw [Go.Proofs.YtchfclmokpbldaaGreat.cutsC,Go.Proofs.YtchfclmokpbldaaGreat.cutsC,SiteE.cutsErr h,SiteE.cutAt h]
def SiteE.cutsN (v:List Int) (c:List XCut) (t:Int):cutsN s v c t=cutsN s' v c t:=by rw [Go.Proofs.YtchfclmokpbldaaGreat.cutsN,Go.Proofs.YtchfclmokpbldaaGreat.cutsN,SiteE.cutsErr h,← K3b s,h,K3b s']
def SiteE.readyE (c:List XCut) (fl:List XSpan) (k t:Int):readyE s c fl k t=readyE s' c fl k t:=by rw [← Z2b s,h,Z2b s']
def SiteE.sharedE (n m:Nat) (t:Int):sharedE s n m t=sharedE s' n m t:=by rw [← Usb s,h,Usb s']
def SiteE.askE (c:List XCut) (fl:List XSpan) (r:XRest) (p k t:Int):askE s c fl r p k t=askE s' c fl r p k t:=by rw [Go.Proofs.YtchfclmokpbldaaGreat.askE,Go.Proofs.YtchfclmokpbldaaGreat.askE,SiteE.sharedE h,SiteE.readyE h,SiteE.persons h]
def SiteE.askR (c:List XCut) (fl:List XSpan) (r:XRest) (p k t:Int):askR s c fl r p k t=askR s' c fl r p k t:=by rw [Go.Proofs.YtchfclmokpbldaaGreat.askR,Go.Proofs.YtchfclmokpbldaaGreat.askR,SiteE.askE h]
def SiteE.confirmE (c:List XCut) (fl:List XSpan) (r:XRest) (p t:Int):confirmE s c fl r p t=confirmE s' c fl r p t:=by
 have e:Z9 s r p↔Z9 s' r p:=by unfold Z9;rw [SiteE.persons h]
 simp only [Go.Proofs.YtchfclmokpbldaaGreat.confirmE,SiteE.sharedE h,SiteE.readyE h,e]
def SiteE.confirmR (c:List XCut) (fl:List XSpan) (r:XRest) (p t:Int):confirmR s c fl r p t=confirmR s' c fl r p t:=by rw [Go.Proofs.YtchfclmokpbldaaGreat.confirmR,Go.Proofs.YtchfclmokpbldaaGreat.confirmR,SiteE.confirmE h]
end
end
section
def Zdf (x:XSwitch) (t:Int):XSwitch:=⟨x.above,t,0,false,false⟩
def Vj (sw:List XSwitch) (s t:Int):List XSwitch:=if (sw.getD s.toNat default).closed=true then sw.set s.toNat (Zdf (sw.getD s.toNat default) t) else sw
def Zkd (sw:List XSwitch) (s t:Int):(Vj sw s t).length=sw.length:=by rw [Vj];split <;> simp
structure SwKeep (sw sw':List XSwitch) (t:Int):Prop where
 len:sw'.length=sw.length
 at_:∀i:Nat,i < sw.length→(sw'.getD i default).above=(sw.getD i default).above∧((sw'.getD i default).since=(sw.getD i default).since∨(sw'.getD i default).since=t)∧(-1≤(sw'.getD i default).shown∧(sw'.getD i default).shown≤1)∧¬ ((sw'.getD i default).late=true∧((sw'.getD i default).closed=true∨(sw'.getD i default).shown= -1))
def Kfe {sw:List XSwitch} {zn:List Int} {rp:Int} (h:feedE sw zn rp=0):∀i:Nat,i < sw.length→(-1≤(sw.getD i default).shown∧(sw.getD i default).shown≤1)∧¬ ((sw.getD i default).late=true∧((sw.getD i default).closed=true∨(sw.getD i default).shown= -1)):=fun i hi=>by
 by_cases h0:32 < sw.length∨16 < zn.length
 ·rw [feedE,if_pos h0] at h;omega
 cases h1:(List.range sw.length).findSome? (Vaa sw) with
 | some e=>rw [J9b h0 h1] at h;exact absurd h (Urc (fun _=>Ydd) h1)
 | none=>
  have:=Uab h1 hi
  rw [Vaa] at this
  split at this
  ·cases this
  split at this
  ·cases this
  split at this
  ·cases this
  rename_i k1 k2 k3
  rw [not_or] at k3
  exact ⟨by omega,k3.2⟩
def SwKeep.refl {sw:List XSwitch} {zn:List Int} {rp:Int} (h:feedE sw zn rp=0) (t:Int):SwKeep sw sw t:=⟨rfl,fun i hi=>⟨rfl,.inl rfl,Kfe h i hi⟩⟩
def SwKeep.feedE {sw sw':List XSwitch} {zn:List Int} {rp t:Int} (k:SwKeep sw sw' t) (h:feedE sw zn rp=0) (ht:0≤t∧t≤2147483648):feedE sw' zn rp=0:=by
 have hl:=k.len;have hok:=Vi h;have h0':¬ (32 < sw'.length∨16 < zn.length):=by have:=hok.sn;have:=hok.zl;omega
 have h1':(List.range sw'.length).findSome? (Vaa sw')=none:=by
  rw [yI];intro i hi;rw [yva,hl] at hi;have h2:=k.at_ i hi;have h3:=hok.up i hi;have h4:=hok.since i hi;exact K9d rfl za za (fun h=>by
   rcases h with h | h;·omega
   ·exact h2.2.2.2 h)
 have h2':(List.range zn.length).findSome? (Zma sw'.length zn)=none:=by rw [yI];intro i hi;rw [yva] at hi;have:=hok.zr i hi;exact Utd za (fun ⟨j,hj,e⟩=>hok.zd i j hj hi e)
 rw [Krb h0' h1' h2',if_neg (by have:=hok.rp;omega)]
def SwKeep.time {sw sw':List XSwitch} {t:Int} (k:SwKeep sw sw' t) (h:Yha sw t):Yha sw' t:=⟨h.1,fun x hx=>by
 obtain ⟨i,hi⟩:=List.mem_iff_getElem?.1 hx
 have hi':=(List.getElem?_eq_some_iff.1 hi).1
 have hl:=k.len
 have e:=getD_some (d:=default) hi
 have h2:=k.at_ i za
 have h3:=h.2 _ (yi (Ju (l:=sw) (k:=i) default za))
 rw [e] at h2
 omega⟩
def SwKeep.set {sw sw':List XSwitch} {t:Int} (k:SwKeep sw sw' t) {i:Nat} {x:XSwitch} (h1:x.above=(sw'.getD i default).above) (h2:x.since=(sw'.getD i default).since∨x.since=t) (h3:-1≤x.shown∧x.shown≤1) (h4:¬ (x.late=true∧(x.closed=true∨x.shown= -1))):SwKeep sw (sw'.set i x) t:=by
 refine ⟨by rw [yE];exact k.len,fun j hj=>?_⟩;have hl:=k.len;have hk:=k.at_ j hj;rw [yh,yD];split;·
  rename_i e;subst e;rw [if_pos za];refine ⟨by rw [← hk.1,← h1];rfl,?_,h3,h4⟩;rcases h2 with h2 | h2;·
   rcases hk.2.1 with h5 | h5;·exact .inl (by rw [← h5,← h2];rfl)
   ·exact .inr (by rw [← h5,← h2];rfl)
  ·exact .inr h2
 ·rw [← yh];exact hk
def SwKeep.openS {sw sw':List XSwitch} {t:Int} (k:SwKeep sw sw' t) (s:Int):SwKeep sw (Vj sw' s t) t:=by
 rw [Vj];split;·exact k.set rfl (.inr rfl) ⟨by show (-1:Int)≤0;decide,by show (0:Int)≤1;decide⟩ (by simp [Zdf])
 ·exact k
def Ynb (x:XSwitch):Bool:=!x.closed && decide (x.shown≠-1) && !x.late
structure XTick where
 sw:List XSwitch
 late:List Int
 opened : List Int
 deriving Inhabited
def Uee (x:XSwitch):XSwitch:=⟨x.above,x.since,x.shown,x.closed,true⟩
def Jzb (rp t:Int) (y:XTick) (i:Nat):XTick:=
 if Ynb (y.sw.getD i default)=true∧rp≤t - (y.sw.getD i default).since then
  if 0≤(y.sw.getD i default).above∧((y.sw.set i (Uee (y.sw.getD i default))).getD (y.sw.getD i default).above.toNat default).closed=true then
   ⟨Vj (y.sw.set i (Uee (y.sw.getD i default))) (y.sw.getD i default).above t,y.late ++ [(i:Int)],y.opened ++ [(y.sw.getD i default).above]⟩
  else ⟨y.sw.set i (Uee (y.sw.getD i default)),y.late ++ [(i:Int)],y.opened⟩
 else y
def Upa (sw : List XSwitch) (rp t : Int) : Nat → XTick
 | 0=>⟨sw,[],[]⟩
 | k + 1=>Jzb rp t (Upa sw rp t k) (sw.length - 1 - k)
def J1a (sw:List XSwitch) (rp t:Int):XTick:=Upa sw rp t sw.length
def U0d {sw:List XSwitch} {rp t:Int} {y:XTick} (i:Nat) (hi:i < sw.length) (k:SwKeep sw y.sw t):SwKeep sw (Jzb rp t y i).sw t:=by
 have h2:=k.at_ i hi;rw [Jzb];split;·
  rename_i hw;have hw1:=hw.1;rw [Ynb,yt,yt,decide_eq_true_eq] at hw1;have hs:SwKeep sw (y.sw.set i (Uee (y.sw.getD i default))) t:=k.set rfl (.inl rfl) h2.2.2.1 (fun h=>by
   rcases h.2 with h | h;·have : (y.sw.getD i default).closed = true := h;rw [this] at hw1;exact absurd hw1.1.1 ze
   ·exact hw1.1.2 h)
  split;·exact hs.openS _
  ·exact hs
 ·exact k
def Vqa {sw : List XSwitch} {zn : List Int} {rp t : Int} (h : feedE sw zn rp = 0) : ∀ k, k ≤ sw.length → SwKeep sw (Upa sw rp t k).sw t
 | 0,_=>.refl h t
 | k + 1,hk=>U0d _ za (Vqa h k za)
def Z2d {rp t:Int} {y:XTick} {i:Nat}:(Jzb rp t y i).late.length≤y.late.length + 1∧(Jzb rp t y i).opened.length≤y.opened.length + 1:=by
 rw [Jzb];repeat' split
 all_goals (first | (simp only [yj,yw,yP];omega) | omega)
def K2b {sw : List XSwitch} {rp t : Int} : ∀ k, (Upa sw rp t k).late.length ≤ k ∧ (Upa sw rp t k).opened.length ≤ k
 | 0=>⟨ym _,ym _⟩
 | k + 1=>by
  have h1:=K2b (sw:=sw) (rp:=rp) (t:=t) k
  have h2:=Z2d (rp:=rp) (t:=t) (y:=Upa sw rp t k) (i:=sw.length - 1 - k)
  rw [Upa];omega
def Jsb (rp:Int) (v:Int) (x:XSwitch):Int:=if Ynb x=true then min v (x.since + rp) else v
def Ycc (sw:List XSwitch) (rp:Int):Int:=sw.foldl (Jsb rp) 1099511627776
end
end Go.Proofs.YtchfclmokpbldaaGreat
