/-
  Merged texts. By an AI agent.
-/
import Derived.Test.YtchfclmokpbldaaGreatRestN
import Derived.Test.YtchfclmokpbldaaGreatCongrS
import Derived.Test.YtchfclmokpbldaaGreatFeedD
set_option linter.all false
set_option maxHeartbeats 4000000
set_option maxRecDepth 20000
namespace Go.Proofs.YtchfclmokpbldaaGreat
open Go.Aw Go
section
section
variable {A B:Prop}
def K7e(h:A→B:=by exact Jw zrb rfl):=h
def Kfe(h:A→B:=by exact Kq rfl (Go.Proofs.YtchfclmokpbldaaGreat.YV.gives2 zHb) rfl rfl):=h
def Zpe(h:A→B:=by exact Vd zZc rfl rfl rfl rfl):=h
def J7f(h:A→B:=by exact Vd zrb rfl rfl rfl rfl):=h
def Kdf(h:A→B:=by exact Ks (K8 zob) rfl rfl rfl):=h
def Utf(h:A→B:=by exact Jw zvb rfl):=h
def Urf(h:A→B:=by exact Jw zCb rfl):=h
def Yqf(h:A→B:=by exact Kq rfl ztc rfl rfl):=h
def Uxf(h:A→B:=by exact J6a 6 hT3 yd zc rfl rfl rfl rfl rfl zzb):=h
def Ytf(h:A→B:=by exact Kq rfl zJc rfl rfl):=h
def Vpf(h:A→B:=by exact Ku zCb rfl rfl rfl rfl):=h
end
def Uyf {P:Program} {fn:Func} {t:Nat→Value} {L:LB} {R:LS} {r s q z:ResultVar} {v u x y:Value} (hr:fn.results=#[r,s,q,z]) (h:RV P t L R r v) (k:RV P t L R s u) (m:RV P t L R q x) (m2:RV P t L R z y):∀c n a w,Fr n t a→St c L R w→(results fn a.tmps).run P w=.ok (.tuple #[v,u,x,y]) w:=by intro c n a w hf hs;have h1:=Z1a h hf hs;have h2:=Z1a k hf hs;have h3:=Z1a m hf hs;have h4:=Z1a m2 hf hs;rw [U7a,hr];simp [h1,h2,h3,h4]
attribute [local irreducible] CJ LJ DJ Tri YV Gives Uq J2 Kj Ut RV J3 OwL.L
def atR (f:XFeeder) (k:Int):Int:=Jff f.switches.l (Y9a f.switches.l f.zones.l f.reply (f.zones.l.getD k.toNat 0))
def Jga (s:XSite) (c:List XCut) (fl:List XSpan) (r:XRest) (f:XFeeder) (t:Int):Int:=
 if sharedE s c.length fl.length t≠0 then sharedE s c.length fl.length t
 else if r.zone= -1∨r.step≠2 then 10
 else if Ygc r t then 8
 else if readyE s c fl r.zone t≠0 then readyE s c fl r.zone t
 else if feedE f.switches.l f.zones.l f.reply≠0 then feedE f.switches.l f.zones.l f.reply
 else if f.zones.l.length≠s.zones.l.length then 17
 else if K5c c f.switches.l f.zones.l f.reply r.zone (atR f r.zone) then 20 else 0
def Usb {s:XSite} {c:List XCut} {fl:List XSpan} {k t:Int} (h:readyE s c fl k t=0):0≤k∧k < c.length:=by
 rw [readyE] at h;split at h;·cases h
 ·omega
def Jpf (s:XSite) (c:Arr XCut) (fl:Arr XSpan) (r:XRest) (f:XFeeder) (t:Int) (L:LB) (R:LS) (h:RestA s c fl R) (hf:FeederR f R):
 Tri Tryz.prog 165 [s.val,c.val,fl.val,r.val,f.val,.int .i64 t].toArray L R (fun v U J=>∃a:Int,v=.tuple #[.int .i64 a,.int .i64 (Jga s c.l fl.l r f t)]∧(Jga s c.l fl.l r f t=0→a=atR f r.zone)∧L=U∧∀r∈R,InR r J):=by
 refine Je 70 Tryz.call165 Tryz.func165 rfl rfl rfl ?_;apply (Xaf);intro b6;apply (qax);intro b9;apply (qax);intro b10;apply qad∘Xar∘Utf∘qbm∘Xaq;refine q_l rfl (Voa s c fl t _ _ h) ?_;apply (Xbb);refine q_c ?_ ?_<;>intro hc0;·
  apply Xdv∘Xao;refine q_r L R zid ?_;have he:Jga s c.l fl.l r f t=sharedE s c.l.length fl.l.length t:=by rw [Jga,if_pos hc0]
  exact zFd
 obtain ⟨hok,hln,ht⟩:=J3b (s:=s) (nc:=c.l.length) (nf:=fl.l.length) (t:=t) za;apply Xcx∘Xcl;apply Kf (G:=[_,_,_]) (j:=3) (cj:=30) rfl rfl zb rfl zmb rfl;·exact ubp
 intro junk4;apply (qaf);refine q_c ?_ ?_<;>intro hc1;·
  apply Xae∘Xao;refine q_r L R zid ?_;have he:Jga s c.l fl.l r f t=10:=by rw [Jga,if_neg hc0,if_pos za]
  exact zFd
 apply qbo∘Urf∘qaa;refine q_l rfl (Vvd r t _ _ ht) ?_;apply (qaf);refine q_c ?_ ?_<;>intro hc2;·
  apply Xae∘Xao;refine q_r L R zid ?_;have he:Jga s c.l fl.l r f t=8:=by rw [Jga,if_neg hc0,if_neg za,if_pos zO]
  exact zFd
 have hlt:¬ Ygc r t:=by simpa using hc2
 apply qbo∘Utf∘qbm∘qbm∘Xah;refine q_l rfl (Ygb s c fl r.zone t _ _ h hok hln ht) ?_;apply (Xbb);refine q_c ?_ ?_<;>intro hc3;·
  apply Xdv∘Xao;refine q_r L R zid ?_;have he:Jga s c.l fl.l r f t=readyE s c.l fl.l r.zone t:=by rw [Jga,if_neg hc0,if_neg za,if_neg hlt,if_pos hc3]
  exact zFd
 apply qbo∘K7e;refine q_l rfl (Yh f _ _ hf) ?_;apply (Xbb);refine q_c ?_ ?_<;>intro hc4;·
  apply Xdv∘Xao;refine q_r L R zid ?_;have he:Jga s c.l fl.l r f t=feedE f.switches.l f.zones.l f.reply:=by rw [Jga,if_neg hc0,if_neg za,if_neg hlt,if_neg hc3,if_pos hc4]
  exact zFd
 apply qbo∘Xab∘Xab∘Xat;refine q_c ?_ ?_<;>intro hc5;·
  apply Xae∘Xao;refine q_r L R zid ?_;have he:Jga s c.l fl.l r f t=17:=by rw [Jga,if_neg hc0,if_neg za,if_neg hlt,if_neg hc3,if_neg hc4,if_pos za]
  exact zFd
 have hrz:=Usb (s:=s) (c:=c.l) (fl:=fl.l) (k:=r.zone) (t:=t) za;apply qbv∘qbm∘K7e∘Xaa;refine Jv rfl (Vyd c f r.zone _ _ h.cuts hf za za za) rfl ?_;rintro v U J ⟨rfl,rfl,hR2⟩;refine Jw zRb rfl ?_;apply Xba∘Xa7∘qaw∘Xds;refine q_c ?_ ?_<;>intro hc6;·
  apply Xae∘Xao;refine q_r L _ zid ?_;have he:Jga s c.l fl.l r f t=20:=by rw [Jga,if_neg hc0,if_neg za,if_neg hlt,if_neg hc3,if_neg hc4,if_neg za,if_pos (by simpa [atR] using hc6)]
  exact ⟨0,by rw [he],fun h=>by omega,rfl,hR2⟩
 apply Xdz∘qad∘Xam;refine q_r L _ zid ?_;have he:Jga s c.l fl.l r f t=0:=by rw [Jga,if_neg hc0,if_neg za,if_neg hlt,if_neg hc3,if_neg hc4,if_neg za,if_neg (by simpa [atR] using hc6)]
 exact ⟨atR f r.zone,by rw [he];rfl,fun _=>rfl,rfl,hR2⟩
def Yjd {s:XSite} {c:List XCut} {fl:List XSpan} {r:XRest} {f:XFeeder} {t:Int} (h:Jga s c fl r f t=0):(0≤r.zone∧r.zone < c.length)∧c.length=f.zones.l.length∧feedE f.switches.l f.zones.l f.reply=0:=by
 rw [Jga] at h;split at h;·omega
 rename_i h0;obtain ⟨_,hln,_⟩:=J3b (Decidable.not_not.1 h0);split at h;·cases h
 split at h;·cases h
 split at h;·omega
 rename_i h3;have:=Usb (Decidable.not_not.1 h3);split at h;·omega
 split at h;·cases h
 omega
def Vt (s:XSite) (c:List XCut) (fl:List XSpan) (r:XRest) (f:XFeeder) (t:Int):Int:=
 if Jga s c fl r f t≠0 then Jga s c fl r f t else Yra f.switches.l f.zones.l f.reply (atR f r.zone) t
def Yoe (f:XFeeder) (r:XRest):Prop:=atR f r.zone=f.zones.l.getD r.zone.toNat 0
instance (f:XFeeder) (r:XRest):Decidable (Yoe f r):=by unfold Yoe;infer_instance
def K4a (s:XSite) (c:List XCut) (fl:List XSpan) (r:XRest) (f:XFeeder) (t:Int):XRest:=
 if Vt s c fl r f t≠0 then r else if Yoe f r then noRest else ⟨r.zone,r.first,r.second,r.step,t⟩
def Kca (s:XSite) (c:List XCut) (fl:List XSpan) (r:XRest) (f:XFeeder) (t:Int):List XCut:=
 if Vt s c fl r f t≠0 then c else if Yoe f r then c.set r.zone.toNat ⟨false,(c.getD r.zone.toNat default).clear,(c.getD r.zone.toNat default).reason⟩ else c
def Zj (s:XSite) (c:List XCut) (fl:List XSpan) (r:XRest) (f:XFeeder) (t:Int):List XSwitch:=
 if Vt s c fl r f t≠0 then f.switches.l else Kyd f.switches.l (atR f r.zone) t
structure CloseIs (s:XSite) (c:List XCut) (fl:List XSpan) (r:XRest) (f:XFeeder) (t:Int) (q:XRest) (c2:List XCut) (sw:List XSwitch) (zn:List Int) (rp:Int):Prop where
 rest:q=K4a s c fl r f t
 cuts:c2=Kca s c fl r f t
 sw:sw=Zj s c fl r f t
 zn:zn=f.zones.l
 rp:rp=f.reply
def Zrb {s:XSite} {c:List XCut} {fl:List XSpan} {r:XRest} {f:XFeeder} {t e:Int} (h:Vt s c fl r f t=e) (he:e≠0):CloseIs s c fl r f t r c f.switches.l f.zones.l f.reply:=by
 have h0:Vt s c fl r f t≠0:=by omega
 exact ⟨by rw [K4a,if_pos h0],by rw [Kca,if_pos h0],by rw [Zj,if_pos h0],rfl,rfl⟩
def Uge (s:XSite) (c:Arr XCut) (fl:Arr XSpan) (r:XRest) (f:XFeeder) (t:Int) (L:LB) (R:LS) (h:RestA s c fl R) (hf:FeederR f R) (hn:c.l.length≤1000∧f.switches.l.length≤1000∧f.zones.l.length≤1000):
 Tri Tryz.prog 87 [s.val,c.val,fl.val,r.val,f.val,.int .i64 t].toArray L R (fun v U J=>∃(q:XRest) (pc:OwL XCut) (psw:OwL XSwitch) (pz:OwL Int) (rp:Int),v=.tuple #[q.val,pc.val,.agg #[psw.val,pz.val,.int .i64 rp],.int .i64 (Vt s c.l fl.l r f t)]∧
  (pc.ok 3 XCut.cells∧psw.ok 5 XSwitch.cells∧pz.ok 1 Jj)∧CloseIs s c.l fl.l r f t q pc.l psw.l pz.l rp∧pz.L 3 Jj ++ (psw.L 76 XSwitch.cells ++ (pc.L 71 XCut.cells ++ L))=U∧∀r∈R,InR r J):=by
 have hcR:=h.cuts;have hsR:=hf.sw;have hzR:=hf.zn;refine Je 84 Tryz.call87 Tryz.func87 rfl rfl rfl ?_;apply (Xaf);intro b6;apply (qax);intro b9;apply (qax);intro b10;apply (qaq);intro b12;apply qc4∘qaq;intro b14;apply Xag∘qbm;refine Za (Kt (f:=XCut.cells) (xs:=c) tb rfl rfl rfl ze rfl rfl (hcR) yf za) rfl ?_;rintro v U J ⟨o23,rfl,hok23,rfl,rfl⟩;apply Xb8∘K7e∘qaq;intro b17;apply (Xcp);refine Vqb (rg 25 8) ((⟨fun _=>[],fun g=>(⟨g.1.2,f.zones.l⟩:OwL Int).L 3 Jj ++ ((⟨g.1.1,f.switches.l⟩:OwL XSwitch).L 76 XSwitch.cells ++ (⟨b17,[(⟨g.1.1,f.switches.l⟩:OwL XSwitch).val,(⟨g.1.2,f.zones.l⟩:OwL Int).val,.int .i64 f.reply],42⟩ :: ((⟨o23,c.l⟩:OwL XCut).L 71 XCut.cells ++ (⟨b14,[.slice none 0 0,.slice none 0 0,.int .i64 0],42⟩ :: ⟨b12,[.int .i64 0,.int .i64 0,.int .i64 0,.int .i64 0,.int .i64 0],51⟩ :: ⟨b10,f.cells,42⟩ :: ⟨b9,r.cells,51⟩ :: ⟨b6,s.cells,38⟩ :: L)))),fun _=>R,fun _=>0⟩:Head {g:Ow×Ow // (⟨g.1,f.switches.l⟩:OwL XSwitch).ok 5 XSwitch.cells∧(⟨g.2,f.zones.l⟩:OwL Int).ok 1 Jj})) ?_ ?_;·
  skip
  refine Job tb [] [0,1,3,4,2,6,5] [7,8,9] (_) [] 7 Ko zc rfl rfl zi fun hT3=>?_;refine J6a 0 hT3 yd zc rfl rfl rfl rfl rfl zzb ?_;refine J6a 3 hT3 yd zc rfl rfl rfl rfl rfl zzb ?_;refine Jf [1,4] hT3 yd zc ?_;refine Jt ?_ ?_;·
   skip
   apply (Kfe);rintro v U J ⟨rfl,rfl,rfl⟩;apply (qa1);refine Jf [2,4] hT3 yd zc ?_;refine Jt ?_ ?_;·
    skip
    apply (Yqf);rintro v U J ⟨o27,rfl,hok27,rfl,rfl⟩;apply qa1∘Uxf;refine Jf [4] hT3 yd zc ?_;apply qca∘Kfe;rintro v U J ⟨rfl,rfl,rfl⟩;apply (qa1);exact uan
   exact uaP
  apply qca∘Kfe;rintro v U J ⟨rfl,rfl,rfl⟩;apply (qa1);refine Jf [1] hT3 yd zc ?_;exact uaP
 rintro ⟨⟨oS,oZ⟩,hkS,hkZ⟩ junk;try dsimp only
 dsimp only at hkS hkZ;apply qae∘Utf∘qbm∘qbm∘Urf∘K7e∘qaa;refine Jv rfl (Jpf s c fl r f t _ _ h hf) rfl ?_;rintro v U J ⟨a,rfl,ha,rfl,hR2⟩;have hf2:=hf.mono hR2;have hzR2:=hf2.zn;refine Jw zRb rfl ?_;apply Xba∘qad∘Xc5∘Xat;refine q_c ?_ ?_<;>intro hc0;·
  refine Jq ?_;refine J7 tb [46,47,48] [0,1,2,3] [4,5,6,7] ([Blk.mk b17 _ _,Blk.mk b14 _ _,Blk.mk b12 _ _,Blk.mk b9 _ _]) _ Ko zc zi zna ?_;apply Vpf∘Zpe∘J7f;refine Vd (Jz znb) rfl rfl rfl rfl ?_;apply Xcs∘Kdf∘Xdf;refine J1 (Jb (Uk (Kh ?_)));refine q_r ((⟨oZ,f.zones.l⟩:OwL Int).L 3 Jj ++ ((⟨oS,f.switches.l⟩:OwL XSwitch).L 76 XSwitch.cells ++ ((⟨o23,c.l⟩:OwL XCut).L 71 XCut.cells ++ L))) _ zld ?_;have he:Vt s c.l fl.l r f t=Jga s c.l fl.l r f t:=by rw [Vt,if_pos hc0]
  exact ⟨r,⟨o23,c.l⟩,⟨oS,f.switches.l⟩,⟨oZ,f.zones.l⟩,f.reply,by rw [he];rfl,⟨hok23,hkS,hkZ⟩,Zrb he hc0,rfl,hR2⟩
 obtain rfl:a=atR f r.zone:=ha za;obtain ⟨hrz,hcz,hfe⟩:=Yjd (s:=s) (c:=c.l) (fl:=fl.l) (r:=r) (f:=f) (t:=t) za;have he:Vt s c.l fl.l r f t=Yra f.switches.l f.zones.l f.reply (atR f r.zone) t:=by rw [Vt,if_neg hc0]
 have hzg:=Jp (l:=f.zones.l) (k:=r.zone.toNat) 0 za;have hxg:=Jp (l:=c.l) (k:=r.zone.toNat) default za;obtain ⟨x,hx⟩:∃x,x=c.l.getD r.zone.toNat default:=⟨_,rfl⟩;rw [← hx] at hxg;apply qbv∘K7e∘Xb4;refine Jv rfl (U1c f (atR f r.zone) t _ _ hf2) rfl ?_;rintro v U J ⟨p,q,rp,rfl,⟨hpk,hqk⟩,hcl,rfl,rfl⟩;refine Jw zRb rfl ?_;apply Xba∘qaq;intro b20;apply qak∘Xc5∘Xat;refine q_c ?_ ?_<;>intro hc1;·refine Jq ?_;refine J7 tb [59,60,61] [0,1,2,3] [4,5,6,7] ([Blk.mk b17 _ _,Blk.mk b14 _ _,Blk.mk b12 _ _,Blk.mk b9 _ _]) _ Ko zc zi zna ?_;apply Vpf∘Zpe∘J7f;refine Vd (Jz znb) rfl rfl rfl rfl ?_;apply Xcs∘Kdf∘Xdf;refine J1 (Jb (Uk (Kh ?_)));refine q_r ((⟨oZ,f.zones.l⟩:OwL Int).L 3 Jj ++ ((⟨oS,f.switches.l⟩:OwL XSwitch).L 76 XSwitch.cells ++ ((⟨o23,c.l⟩:OwL XCut).L 71 XCut.cells ++ L))) _ zld ?_;exact ⟨r,⟨o23,c.l⟩,⟨oS,f.switches.l⟩,⟨oZ,f.zones.l⟩,f.reply,by rw [he];rfl,⟨hok23,hkS,hkZ⟩,Zrb he hc1,rfl,hR2⟩
 obtain ⟨hpl,hql,rfl⟩:=hcl za;have hce:Yra f.switches.l f.zones.l f.reply (atR f r.zone) t=0:=by omega
 have he0:¬ Vt s c.l fl.l r f t≠0:=by omega
 apply qbo∘qaa∘Xa0;refine Jw zeb rfl ?_;apply qa7∘Xat;refine q_c ?_ ?_<;>intro hc2;·apply qae∘Urf∘qaq;intro b21;apply Xaz∘qaa∘Xbk∘qa4;refine J7 tb [74,75] [0,1,2] [3,4,5,6] ([Blk.mk b21 _ _,Blk.mk b20 _ _,Blk.mk b14 _ _,Blk.mk b12 _ _]) _ Ko zc zi zna ?_;apply Vpf∘Zpe∘J7f∘Xcs∘Kdf∘Xdf;refine J1 (Jb (Uk (Kh ?_)));refine q_r (q.L 3 Jj ++ (p.L 76 XSwitch.cells ++ ((⟨o23,c.l⟩:OwL XCut).L 71 XCut.cells ++ L))) _ zld ?_;exact ⟨⟨r.zone,r.first,r.second,r.step,t⟩,⟨o23,c.l⟩,p,q,f.reply,by rw [he,hce];rfl,⟨hok23,hpk,hqk⟩,⟨by rw [K4a,if_neg he0,if_neg (by rw [Yoe];omega)],by rw [Kca,if_neg he0,if_neg (by rw [Yoe];omega)],by rw [Zj,if_neg he0,hpl],hql,rfl⟩,rfl,hR2⟩
 apply qbv∘Xbx;refine Jw (Jo tb ((⟨o23,c.l⟩:OwL XCut)) _ rfl rfl rfl rfl zg (i:=r.zone.toNat) zk zp) rfl ?_;apply (qb0);refine Vk (Jn tb ((⟨o23,c.l⟩:OwL XCut)) (⟨false,x.clear,x.reason⟩) rfl rfl rfl rfl zj zg yf zg ze zb zb) ?_;rintro v U J ⟨rfl,rfl⟩;apply (qa4);have hpc2:=OwL.set_ok (f:=XCut.cells) (wd:=3) (p:=⟨o23,c.l⟩) (i:=r.zone.toNat) (x:=⟨false,x.clear,x.reason⟩) yf hok23;refine J7 tb [82,83] [1,2,0] [3,4,5,6] ([Blk.mk b20 _ _,Blk.mk b14 _ _,Blk.mk b12 _ _]) _ Ko zc zi zna ?_;apply Zpe∘J7f;refine K7 rfl (Uqc _ _) rfl rfl ?_;rintro v U J ⟨rfl,rfl,rfl⟩;refine ⟨zi,zt,?_⟩;apply Xcs∘Kdf∘Xdf;refine J1 (Jb (Uk ?_));refine q_r (q.L 3 Jj ++ (p.L 76 XSwitch.cells ++ ((⟨o23,c.l.set r.zone.toNat ⟨false,x.clear,x.reason⟩⟩:OwL XCut).L 71 XCut.cells ++ L))) _ zld ?_;exact ⟨noRest,⟨o23,c.l.set r.zone.toNat ⟨false,x.clear,x.reason⟩⟩,p,q,f.reply,by simp only [he,hce,OwL.val,yK],⟨hpc2,hpk,hqk⟩,⟨by rw [K4a,if_neg he0,if_pos (by rw [Yoe];omega)],by rw [Kca,if_neg he0,if_pos (by rw [Yoe];omega),← hx],by rw [Zj,if_neg he0,hpl],hql,rfl⟩,rfl,hR2⟩
end
section
def Kob (z:XZone):XZone:=⟨⟨none,0,z.rule.l⟩,z.hold,⟨none,0,z.roads.l⟩,z.fresh⟩
def K1 (s:XSite):XSite:=⟨Zf s.air,⟨none,0,s.sensors.l⟩,⟨none,0,s.conds.l⟩,⟨none,0,s.zones.l.map Kob⟩,⟨none,0,s.persons.l⟩⟩
def Y6a (s:XSite) (k:Nat):(K1 s).zones.l.getD k default=Kob (s.zones.l.getD k default):=Vub rfl
def Y8a (s:XSite):(K1 s).zones.l.length=s.zones.l.length:=yD _
def Vad (a:XAir) (x:XSens):Zda (Zf a) x=Zda a x:=by rw [Zda,Zda,show (Zf a).fans.l.length=a.fans.l.length from yD _,show (Zf a).doors.l.length=a.doors.l.length from yD _];rfl
def Jdc (a:XAir) (S:List XSens):Uz (Zf a) S=Uz a S:=by
 have e:Z6 (Zf a) S=Z6 a S:=by funext i;rw [Z6,Z6,Vad]
 rw [Uz,Uz,e]
def U0c (s:XSite):Zb (K1 s)=Zb s:=by rw [Zb,Zb,show (K1 s).zones.l=s.zones.l.map Kob from rfl,ycc];rfl
def Jya (s:XSite):Uf (K1 s)=Uf s:=by rw [Uf,Uf,U0c,Y8a,show Kx (K1 s).air=Kx s.air from Ydb _,show Uz (K1 s).air (K1 s).sensors.l=Uz s.air s.sensors.l from Jdc _ _];rfl
def Z3a (s:XSite) (m:List XMeas) (w:List XWatch) (fl:List XSpan) (t:Int):valuesErr (K1 s) m w fl t=valuesErr s m w fl t:=by rw [valuesErr,valuesErr,Jya];rfl
def Vkb (s:XSite) (v:List Int) (c:List XCut) (t:Int):cutsErr (K1 s) v c t=cutsErr s v c t:=by rw [cutsErr,cutsErr,Jya,Y8a];rfl
def Kdc (s:XSite) (v:List Int) (c:List XCut) (t:Int):cutAt (K1 s) v c t=cutAt s v c t:=by funext i;rw [cutAt,cutAt,Y6a];rfl
def Ugb (s : XSite) (v : List Int) (c : List XCut) : ∀ k, Vma (K1 s) v c k = Vma s v c k
 | 0=>rfl
 | k + 1=>by rw [Vma,Vma,Ugb s v c k,Y6a];rfl
def Y3b (s:XSite) (c:List XCut) (fl:List XSpan) (k t:Int):readyE (K1 s) c fl k t=readyE s c fl k t:=by rw [readyE,readyE,Y6a];rfl
def U5b (s:XSite) (n m:Nat) (t:Int):sharedE (K1 s) n m t=sharedE s n m t:=by rw [sharedE,sharedE,Jya,Y8a];rfl
abbrev SiteE (s s':XSite):Prop:=K1 s=K1 s'
section
variable {s s':XSite} (h:SiteE s s')
include h
def SiteE.air:Zf s.air=Zf s'.air:=congrArg XSite.air zhc
def SiteE.sens:s.sensors.l=s'.sensors.l:=by have e:=congrArg (fun x:XSite=>x.sensors.l) zhc;exact e
def SiteE.conds:s.conds.l=s'.conds.l:=by have e:=congrArg (fun x:XSite=>x.conds.l) zhc;exact e
def SiteE.persons:s.persons.l=s'.persons.l:=by have e:=congrArg (fun x:XSite=>x.persons.l) zhc;exact e
def SiteE.nfans:s.air.fans.l.length=s'.air.fans.l.length:=by have:=congrArg (fun x:XSite=>x.air.fans.l.length) zhc;simpa [K1,Zf] using this
def SiteE.ndoors:s.air.doors.l.length=s'.air.doors.l.length:=by have:=congrArg (fun x:XSite=>x.air.doors.l.length) zhc;simpa [K1,Zf] using this
def SiteE.nzones:s.zones.l.length=s'.zones.l.length:=by rw [← Y8a s,h,Y8a s']
def SiteE.zone (k:Nat):Kob (s.zones.l.getD k default)=Kob (s'.zones.l.getD k default):=by rw [← Y6a s,h,Y6a s']
def SiteE.rule (k:Nat):(s.zones.l.getD k default).rule.l=(s'.zones.l.getD k default).rule.l:=by have e:=congrArg (fun z:XZone=>z.rule.l) (SiteE.zone h k);exact e
def SiteE.door (k:Nat):(s.air.doors.l.getD k default).rests.l=(s'.air.doors.l.getD k default).rests.l:=by
 have e:Zta (s.air.doors.l.getD k default)=Zta (s'.air.doors.l.getD k default):=by rw [← Jac s.air,SiteE.air h,Jac s'.air]
 have e2:=congrArg (fun d:XDoor=>d.rests.l) e;exact e2
def SiteE.err:Uf s=Uf s':=by rw [← Jya s,h,Jya s']
def SiteE.valuesErr (m:List XMeas) (w:List XWatch) (fl:List XSpan) (t:Int):valuesErr s m w fl t=valuesErr s' m w fl t:=by rw [← Z3a s,h,Z3a s']
def SiteE.valuesV (m:List XMeas) (w:List XWatch) (fl:List XSpan) (t:Int):valuesV s m w fl t=valuesV s' m w fl t:=by rw [Go.Proofs.YtchfclmokpbldaaGreat.valuesV,Go.Proofs.YtchfclmokpbldaaGreat.valuesV,SiteE.valuesErr h,SiteE.sens h,SiteE.conds h]
def SiteE.valuesW (m:List XMeas) (w:List XWatch) (fl:List XSpan) (t:Int):valuesW s m w fl t=valuesW s' m w fl t:=by rw [Go.Proofs.YtchfclmokpbldaaGreat.valuesW,Go.Proofs.YtchfclmokpbldaaGreat.valuesW,SiteE.valuesErr h,SiteE.sens h,SiteE.conds h]
def SiteE.cutsErr (v:List Int) (c:List XCut) (t:Int):cutsErr s v c t=cutsErr s' v c t:=by rw [← Vkb s,h,Vkb s']
def SiteE.cutAt (v:List Int) (c:List XCut) (t:Int):cutAt s v c t=cutAt s' v c t:=by rw [← Kdc s,h,Kdc s']
def SiteE.cutsC (v:List Int) (c:List XCut) (t:Int):cutsC s v c t=cutsC s' v c t:=by rw [Go.Proofs.YtchfclmokpbldaaGreat.cutsC,Go.Proofs.YtchfclmokpbldaaGreat.cutsC,SiteE.cutsErr h,SiteE.cutAt h]
def SiteE.cutsN (v:List Int) (c:List XCut) (t:Int):cutsN s v c t=cutsN s' v c t:=by rw [Go.Proofs.YtchfclmokpbldaaGreat.cutsN,Go.Proofs.YtchfclmokpbldaaGreat.cutsN,SiteE.cutsErr h,← Ugb s,h,Ugb s']
def SiteE.readyE (c:List XCut) (fl:List XSpan) (k t:Int):readyE s c fl k t=readyE s' c fl k t:=by rw [← Y3b s,h,Y3b s']
def SiteE.sharedE (n m:Nat) (t:Int):sharedE s n m t=sharedE s' n m t:=by rw [← U5b s,h,U5b s']
def SiteE.askE (c:List XCut) (fl:List XSpan) (r:XRest) (p k t:Int):askE s c fl r p k t=askE s' c fl r p k t:=by rw [Go.Proofs.YtchfclmokpbldaaGreat.askE,Go.Proofs.YtchfclmokpbldaaGreat.askE,SiteE.sharedE h,SiteE.readyE h,SiteE.persons h]
def SiteE.askR (c:List XCut) (fl:List XSpan) (r:XRest) (p k t:Int):askR s c fl r p k t=askR s' c fl r p k t:=by rw [Go.Proofs.YtchfclmokpbldaaGreat.askR,Go.Proofs.YtchfclmokpbldaaGreat.askR,SiteE.askE h]
def SiteE.confirmE (c:List XCut) (fl:List XSpan) (r:XRest) (p t:Int):confirmE s c fl r p t=confirmE s' c fl r p t:=by
 have e:Z8 s r p↔Z8 s' r p:=by unfold Z8;rw [SiteE.persons h]
 simp only [Go.Proofs.YtchfclmokpbldaaGreat.confirmE,SiteE.sharedE h,SiteE.readyE h,e]
def SiteE.confirmR (c:List XCut) (fl:List XSpan) (r:XRest) (p t:Int):confirmR s c fl r p t=confirmR s' c fl r p t:=by rw [Go.Proofs.YtchfclmokpbldaaGreat.confirmR,Go.Proofs.YtchfclmokpbldaaGreat.confirmR,SiteE.confirmE h]
end
end
section
def Uzg (x:XSwitch) (t:Int):XSwitch:=⟨x.above,t,0,false,false⟩
def Ye (sw:List XSwitch) (s t:Int):List XSwitch:=if (sw.getD s.toNat default).closed=true then sw.set s.toNat (Uzg (sw.getD s.toNat default) t) else sw
def Y7d (sw:List XSwitch) (s t:Int):(Ye sw s t).length=sw.length:=by rw [Ye];split <;> simp
structure SwKeep (sw sw':List XSwitch) (t:Int):Prop where
 len:sw'.length=sw.length
 at_:∀i:Nat,i < sw.length→(sw'.getD i default).above=(sw.getD i default).above∧((sw'.getD i default).since=(sw.getD i default).since∨(sw'.getD i default).since=t)∧(-1≤(sw'.getD i default).shown∧(sw'.getD i default).shown≤1)∧¬ ((sw'.getD i default).late=true∧((sw'.getD i default).closed=true∨(sw'.getD i default).shown= -1))
def Koe {sw:List XSwitch} {zn:List Int} {rp:Int} (h:feedE sw zn rp=0):∀i:Nat,i < sw.length→(-1≤(sw.getD i default).shown∧(sw.getD i default).shown≤1)∧¬ ((sw.getD i default).late=true∧((sw.getD i default).closed=true∨(sw.getD i default).shown= -1)):=fun i hi=>by
 by_cases h0:32 < sw.length∨16 < zn.length
 ·rw [feedE,if_pos h0] at h;omega
 cases h1:(List.range sw.length).findSome? (U8a sw) with
 | some e=>rw [Klb h0 h1] at h;exact absurd h (Vlc (fun _=>Yod) h1)
 | none=>
  have:=Ucb h1 hi
  rw [U8a] at this
  split at this
  ·cases this
  split at this
  ·cases this
  split at this
  ·cases this
  rename_i k1 k2 k3
  rw [not_or] at k3
  exact ⟨by omega,k3.2⟩
def SwKeep.refl {sw:List XSwitch} {zn:List Int} {rp:Int} (h:feedE sw zn rp=0) (t:Int):SwKeep sw sw t:=⟨rfl,fun i hi=>⟨rfl,.inl rfl,Koe h i hi⟩⟩
def SwKeep.feedE {sw sw':List XSwitch} {zn:List Int} {rp t:Int} (k:SwKeep sw sw' t) (h:feedE sw zn rp=0) (ht:0≤t∧t≤2147483648):feedE sw' zn rp=0:=by
 have hl:=k.len;have hok:=Yn h;have h0':¬ (32 < sw'.length∨16 < zn.length):=by have:=hok.sn;have:=hok.zl;omega
 have h1':(List.range sw'.length).findSome? (U8a sw')=none:=by
  rw [yJ];intro i hi;rw [yMa,hl] at hi;have h2:=k.at_ i hi;have h3:=hok.up i hi;have h4:=hok.since i hi;exact Vde rfl za za (fun h=>by
   rcases h with h | h;·omega
   ·exact h2.2.2.2 h)
 have h2':(List.range zn.length).findSome? (Zya sw'.length zn)=none:=by rw [yJ];intro i hi;rw [yMa] at hi;have:=hok.zr i hi;exact Kle za (fun ⟨j,hj,e⟩=>hok.zd i j hj hi e)
 rw [Vpb h0' h1' h2',if_neg (by have:=hok.rp;omega)]
def SwKeep.time {sw sw':List XSwitch} {t:Int} (k:SwKeep sw sw' t) (h:Yba sw t):Yba sw' t:=⟨h.1,fun x hx=>by
 obtain ⟨i,hi⟩:=List.mem_iff_getElem?.1 hx
 have hi':=(List.getElem?_eq_some_iff.1 hi).1
 have hl:=k.len
 have e:=getD_some (d:=default) hi
 have h2:=k.at_ i za
 have h3:=h.2 _ (yh (Jp (l:=sw) (k:=i) default za))
 rw [e] at h2
 omega⟩
def SwKeep.set {sw sw':List XSwitch} {t:Int} (k:SwKeep sw sw' t) {i:Nat} {x:XSwitch} (h1:x.above=(sw'.getD i default).above) (h2:x.since=(sw'.getD i default).since∨x.since=t) (h3:-1≤x.shown∧x.shown≤1) (h4:¬ (x.late=true∧(x.closed=true∨x.shown= -1))):SwKeep sw (sw'.set i x) t:=by
 refine ⟨by rw [yK];exact k.len,fun j hj=>?_⟩;have hl:=k.len;have hk:=k.at_ j hj;rw [yi,yM];split;·
  rename_i e;subst e;rw [if_pos za];refine ⟨by rw [← hk.1,← h1];rfl,?_,h3,h4⟩;rcases h2 with h2 | h2;·
   rcases hk.2.1 with h5 | h5;·exact .inl (by rw [← h5,← h2];rfl)
   ·exact .inr (by rw [← h5,← h2];rfl)
  ·exact .inr h2
 ·rw [← yi];exact hk
def SwKeep.openS {sw sw':List XSwitch} {t:Int} (k:SwKeep sw sw' t) (s:Int):SwKeep sw (Ye sw' s t) t:=by
 rw [Ye];split;·exact k.set rfl (.inr rfl) ⟨by show (-1:Int)≤0;decide,by show (0:Int)≤1;decide⟩ (by simp [Uzg])
 ·exact k
def V6d (x:XSwitch):Bool:=!x.closed && decide (x.shown≠-1) && !x.late
structure XTick where
 sw:List XSwitch
 late:List Int
 opened : List Int
 deriving Inhabited
def Vie (x:XSwitch):XSwitch:=⟨x.above,x.since,x.shown,x.closed,true⟩
def Vgb (rp t:Int) (y:XTick) (i:Nat):XTick:=
 if V6d (y.sw.getD i default)=true∧rp≤t - (y.sw.getD i default).since then
  if 0≤(y.sw.getD i default).above∧((y.sw.set i (Vie (y.sw.getD i default))).getD (y.sw.getD i default).above.toNat default).closed=true then
   ⟨Ye (y.sw.set i (Vie (y.sw.getD i default))) (y.sw.getD i default).above t,y.late ++ [(i:Int)],y.opened ++ [(y.sw.getD i default).above]⟩
  else ⟨y.sw.set i (Vie (y.sw.getD i default)),y.late ++ [(i:Int)],y.opened⟩
 else y
def Yea (sw : List XSwitch) (rp t : Int) : Nat → XTick
 | 0=>⟨sw,[],[]⟩
 | k + 1=>Vgb rp t (Yea sw rp t k) (sw.length - 1 - k)
def Uba (sw:List XSwitch) (rp t:Int):XTick:=Yea sw rp t sw.length
def Usd {sw:List XSwitch} {rp t:Int} {y:XTick} (i:Nat) (hi:i < sw.length) (k:SwKeep sw y.sw t):SwKeep sw (Vgb rp t y i).sw t:=by
 have h2:=k.at_ i hi;rw [Vgb];split;·
  rename_i hw;have hw1:=hw.1;rw [V6d,yo,yo,decide_eq_true_eq] at hw1;have hs:SwKeep sw (y.sw.set i (Vie (y.sw.getD i default))) t:=k.set rfl (.inl rfl) h2.2.2.1 (fun h=>by
   rcases h.2 with h | h;·have : (y.sw.getD i default).closed = true := h;rw [this] at hw1;exact absurd hw1.1.1 ze
   ·exact hw1.1.2 h)
  split;·exact hs.openS _
  ·exact hs
 ·exact k
def Vra {sw : List XSwitch} {zn : List Int} {rp t : Int} (h : feedE sw zn rp = 0) : ∀ k, k ≤ sw.length → SwKeep sw (Yea sw rp t k).sw t
 | 0,_=>.refl h t
 | k + 1,hk=>Usd _ za (Vra h k za)
def Zdd {rp t:Int} {y:XTick} {i:Nat}:(Vgb rp t y i).late.length≤y.late.length + 1∧(Vgb rp t y i).opened.length≤y.opened.length + 1:=by
 rw [Vgb];repeat' split
 all_goals (first | (simp only [yl,yA,yda];omega) | omega)
def Urb {sw : List XSwitch} {rp t : Int} : ∀ k, (Yea sw rp t k).late.length ≤ k ∧ (Yea sw rp t k).opened.length ≤ k
 | 0=>⟨ym _,ym _⟩
 | k + 1=>by
  have h1:=Urb (sw:=sw) (rp:=rp) (t:=t) k
  have h2:=Zdd (rp:=rp) (t:=t) (y:=Yea sw rp t k) (i:=sw.length - 1 - k)
  rw [Yea];omega
end
end Go.Proofs.YtchfclmokpbldaaGreat
