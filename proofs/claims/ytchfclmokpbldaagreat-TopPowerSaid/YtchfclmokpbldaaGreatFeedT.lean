/-
  Merged texts. By an AI agent.
-/
import Derived.Test.YtchfclmokpbldaaGreatRestN
import Derived.Test.YtchfclmokpbldaaGreatCongrS
import Derived.Test.YtchfclmokpbldaaGreatFeedD
set_option linter.all false
set_option maxHeartbeats 4000000
set_option maxRecDepth 20000
namespace Go.Proofs.YtchfclmokpbldaaGreat
open Go.Aw Go
section
section
variable {A B:Prop}
def Khe(h:A→B:=by exact Jx zkb rfl):=h
def Jwe(h:A→B:=by exact Ko rfl (Go.Proofs.YtchfclmokpbldaaGreat.YV.gives2 zHb) rfl rfl):=h
def Yke(h:A→B:=by exact V2 zMc rfl rfl rfl rfl):=h
def Y4e(h:A→B:=by exact V2 zkb rfl rfl rfl rfl):=h
def Z0e(h:A→B:=by exact K2 (Uc zhb) rfl rfl rfl):=h
def Uif(h:A→B:=by exact Jx zob rfl):=h
def Vif(h:A→B:=by exact Jx zqb rfl):=h
def U4f(h:A→B:=by exact Ko rfl zfc rfl rfl):=h
def U5f(h:A→B:=by exact Vpb 6 hT3 yd zc rfl rfl rfl rfl rfl zub):=h
def Kxf(h:A→B:=by exact Ko rfl zrc rfl rfl):=h
def Knf(h:A→B:=by exact Ku zqb rfl rfl rfl rfl):=h
end
def U2f {P:Program} {fn:Func} {t:Nat→Value} {L:LB} {R:LS} {r s q z:ResultVar} {v u x y:Value} (hr:fn.results=#[r,s,q,z]) (h:RV P t L R r v) (k:RV P t L R s u) (m:RV P t L R q x) (m2:RV P t L R z y):∀c n a w,Fr n t a→St c L R w→(results fn a.tmps).run P w=.ok (.tuple #[v,u,x,y]) w:=by intro c n a w hf hs;have h1:=Zza h hf hs;have h2:=Zza k hf hs;have h3:=Zza m hf hs;have h4:=Zza m2 hf hs;rw [U3a,hr];simp [h1,h2,h3,h4]
attribute [local irreducible] CJ LJ DJ Tri YV Gives U0 J3 Kj Uz RV J5 OwL.L
def atR (f:XFeeder) (k:Int):Int:=Zqd f.switches.l (Kma f.switches.l f.zones.l f.reply (f.zones.l.getD k.toNat 0))
def Zs (s:XSite) (c:List XCut) (fl:List XSpan) (r:XRest) (f:XFeeder) (t:Int):Int:=
 if sharedE s c.length fl.length t≠0 then sharedE s c.length fl.length t
 else if r.zone= -1∨r.step≠2 then 10
 else if Vbc r t then 8
 else if readyE s c fl r.zone t≠0 then readyE s c fl r.zone t
 else if feedE f.switches.l f.zones.l f.reply≠0 then feedE f.switches.l f.zones.l f.reply
 else if f.zones.l.length≠s.zones.l.length then 17
 else if Jpc c f.switches.l f.zones.l f.reply r.zone (atR f r.zone) then 20 else 0
def Kyb {s:XSite} {c:List XCut} {fl:List XSpan} {k t:Int} (h:readyE s c fl k t=0):0≤k∧k < c.length:=by
 rw [readyE] at h;split at h;·cases h
 ·omega
def Jrf (s:XSite) (c:Arr XCut) (fl:Arr XSpan) (r:XRest) (f:XFeeder) (t:Int) (L:LB) (R:LS) (h:RestA s c fl R) (hf:FeederR f R):
 Tri Tryz.prog 165 [s.val,c.val,fl.val,r.val,f.val,.int .i64 t].toArray L R (fun v M U=>∃a:Int,v=.tuple #[.int .i64 a,.int .i64 (Zs s c.l fl.l r f t)]∧(Zs s c.l fl.l r f t=0→a=atR f r.zone)∧L=M∧∀r∈R,InR r U):=by
 refine Jj 70 Tryz.call165 Tryz.func165 rfl rfl rfl ?_;apply (Xaf);intro b6;apply (qax);intro b9;apply (qax);intro b10;apply qad∘Xap∘Uif∘qbm∘Xat;refine q_l rfl (Vaa s c fl t _ _ h) ?_;apply (Xba);refine q_c ?_ ?_<;>intro hc0;·
  apply Xdj∘Xai;refine q_r L R zTc ?_;have he:Zs s c.l fl.l r f t=sharedE s c.l.length fl.l.length t:=by rw [Zs,if_pos hc0]
  exact zpd
 obtain ⟨hok,hln,ht⟩:=J7b (s:=s) (nc:=c.l.length) (nf:=fl.l.length) (t:=t) za;apply Xcv∘qah;apply J9 (G:=[_,_,_]) (j:=3) (cj:=30) rfl rfl zb rfl zfb rfl;·exact ubi
 intro junk4;apply (qaf);refine q_c ?_ ?_<;>intro hc1;·
  apply Xac∘Xai;refine q_r L R zTc ?_;have he:Zs s c.l fl.l r f t=10:=by rw [Zs,if_neg hc0,if_pos za]
  exact zpd
 apply qbo∘Vif∘qaa;refine q_l rfl (Yld r t _ _ ht) ?_;apply (qaf);refine q_c ?_ ?_<;>intro hc2;·
  apply Xac∘Xai;refine q_r L R zTc ?_;have he:Zs s c.l fl.l r f t=8:=by rw [Zs,if_neg hc0,if_neg za,if_pos zK]
  exact zpd
 have hlt:¬ Vbc r t:=by simpa using hc2
 apply qbo∘Uif∘qbm∘qbm∘Xam;refine q_l rfl (Zob s c fl r.zone t _ _ h hok hln ht) ?_;apply (Xba);refine q_c ?_ ?_<;>intro hc3;·
  apply Xdj∘Xai;refine q_r L R zTc ?_;have he:Zs s c.l fl.l r f t=readyE s c.l fl.l r.zone t:=by rw [Zs,if_neg hc0,if_neg za,if_neg hlt,if_pos hc3]
  exact zpd
 apply qbo∘Khe;refine q_l rfl (Vg f _ _ hf) ?_;apply (Xba);refine q_c ?_ ?_<;>intro hc4;·
  apply Xdj∘Xai;refine q_r L R zTc ?_;have he:Zs s c.l fl.l r f t=feedE f.switches.l f.zones.l f.reply:=by rw [Zs,if_neg hc0,if_neg za,if_neg hlt,if_neg hc3,if_pos hc4]
  exact zpd
 apply qbo∘Xab∘Xab∘Xao;refine q_c ?_ ?_<;>intro hc5;·
  apply Xac∘Xai;refine q_r L R zTc ?_;have he:Zs s c.l fl.l r f t=17:=by rw [Zs,if_neg hc0,if_neg za,if_neg hlt,if_neg hc3,if_neg hc4,if_pos za]
  exact zpd
 have hrz:=Kyb (s:=s) (c:=c.l) (fl:=fl.l) (k:=r.zone) (t:=t) za;apply qbv∘qbm∘Khe∘Xaa;refine Jy rfl (Vyd c f r.zone _ _ h.cuts hf za za za) rfl ?_;rintro v M U ⟨rfl,rfl,hR2⟩;refine Jx zCb rfl ?_;apply Xa3∘Xbk∘qaw∘qah∘qaf;refine q_c ?_ ?_<;>intro hc6;·
  apply Xac∘Xai;refine q_r L _ zTc ?_;have he:Zs s c.l fl.l r f t=20:=by rw [Zs,if_neg hc0,if_neg za,if_neg hlt,if_neg hc3,if_neg hc4,if_neg za,if_pos (by simpa [atR] using hc6)]
  exact ⟨0,by rw [he],fun h=>by omega,rfl,hR2⟩
 apply qbv∘qaa∘qad∘Xah;refine q_r L _ zTc ?_;have he:Zs s c.l fl.l r f t=0:=by rw [Zs,if_neg hc0,if_neg za,if_neg hlt,if_neg hc3,if_neg hc4,if_neg za,if_neg (by simpa [atR] using hc6)]
 exact ⟨atR f r.zone,by rw [he];rfl,fun _=>rfl,rfl,hR2⟩
def V0d {s:XSite} {c:List XCut} {fl:List XSpan} {r:XRest} {f:XFeeder} {t:Int} (h:Zs s c fl r f t=0):(0≤r.zone∧r.zone < c.length)∧c.length=f.zones.l.length∧feedE f.switches.l f.zones.l f.reply=0:=by
 rw [Zs] at h;split at h;·omega
 rename_i h0;obtain ⟨_,hln,_⟩:=J7b (Decidable.not_not.1 h0);split at h;·cases h
 split at h;·cases h
 split at h;·omega
 rename_i h3;have:=Kyb (Decidable.not_not.1 h3);split at h;·omega
 split at h;·cases h
 omega
def Uk (s:XSite) (c:List XCut) (fl:List XSpan) (r:XRest) (f:XFeeder) (t:Int):Int:=
 if Zs s c fl r f t≠0 then Zs s c fl r f t else Usa f.switches.l f.zones.l f.reply (atR f r.zone) t
def Jle (f:XFeeder) (r:XRest):Prop:=atR f r.zone=f.zones.l.getD r.zone.toNat 0
instance (f:XFeeder) (r:XRest):Decidable (Jle f r):=by unfold Jle;infer_instance
def Vz (s:XSite) (c:List XCut) (fl:List XSpan) (r:XRest) (f:XFeeder) (t:Int):XRest:=
 if Uk s c fl r f t≠0 then r else if Jle f r then noRest else ⟨r.zone,r.first,r.second,r.step,t⟩
def V4 (s:XSite) (c:List XCut) (fl:List XSpan) (r:XRest) (f:XFeeder) (t:Int):List XCut:=
 if Uk s c fl r f t≠0 then c else if Jle f r then c.set r.zone.toNat ⟨false,(c.getD r.zone.toNat default).clear,(c.getD r.zone.toNat default).reason⟩ else c
def Ve (s:XSite) (c:List XCut) (fl:List XSpan) (r:XRest) (f:XFeeder) (t:Int):List XSwitch:=
 if Uk s c fl r f t≠0 then f.switches.l else K4b f.switches.l (atR f r.zone) t
structure CloseIs (s:XSite) (c:List XCut) (fl:List XSpan) (r:XRest) (f:XFeeder) (t:Int) (q:XRest) (c2:List XCut) (sw:List XSwitch) (zn:List Int) (rp:Int):Prop where
 rest:q=Vz s c fl r f t
 cuts:c2=V4 s c fl r f t
 sw:sw=Ve s c fl r f t
 zn:zn=f.zones.l
 rp:rp=f.reply
def Y7b {s:XSite} {c:List XCut} {fl:List XSpan} {r:XRest} {f:XFeeder} {t e:Int} (h:Uk s c fl r f t=e) (he:e≠0):CloseIs s c fl r f t r c f.switches.l f.zones.l f.reply:=by
 have h0:Uk s c fl r f t≠0:=by omega
 exact ⟨by rw [Vz,if_pos h0],by rw [V4,if_pos h0],by rw [Ve,if_pos h0],rfl,rfl⟩
def Upe (s:XSite) (c:Arr XCut) (fl:Arr XSpan) (r:XRest) (f:XFeeder) (t:Int) (L:LB) (R:LS) (h:RestA s c fl R) (hf:FeederR f R) (hn:c.l.length≤1000∧f.switches.l.length≤1000∧f.zones.l.length≤1000):
 Tri Tryz.prog 87 [s.val,c.val,fl.val,r.val,f.val,.int .i64 t].toArray L R (fun v M U=>∃(q:XRest) (pc:OwL XCut) (psw:OwL XSwitch) (pz:OwL Int) (rp:Int),v=.tuple #[q.val,pc.val,.agg #[psw.val,pz.val,.int .i64 rp],.int .i64 (Uk s c.l fl.l r f t)]∧
  (pc.ok 3 XCut.cells∧psw.ok 5 XSwitch.cells∧pz.ok 1 Jo)∧CloseIs s c.l fl.l r f t q pc.l psw.l pz.l rp∧pz.L 3 Jo ++ (psw.L 76 XSwitch.cells ++ (pc.L 71 XCut.cells ++ L))=M∧∀r∈R,InR r U):=by
 have hcR:=h.cuts;have hsR:=hf.sw;have hzR:=hf.zn;refine Jj 84 Tryz.call87 Tryz.func87 rfl rfl rfl ?_;apply (Xaf);intro b6;apply (qax);intro b9;apply (qax);intro b10;apply (qaq);intro b12;apply qc4∘qaq;intro b14;apply Xag∘qbm;refine Jqa (Kn (f:=XCut.cells) (xs:=c) tb rfl rfl rfl ze rfl rfl (hcR) yf za) rfl ?_;rintro v M U ⟨o23,rfl,hok23,rfl,rfl⟩;apply qc4∘qam∘Khe∘qaq;intro b17;apply (Xc3);refine Vlb (rg 25 8) ((⟨fun _=>[],fun g=>(⟨g.1.2,f.zones.l⟩:OwL Int).L 3 Jo ++ ((⟨g.1.1,f.switches.l⟩:OwL XSwitch).L 76 XSwitch.cells ++ (⟨b17,[(⟨g.1.1,f.switches.l⟩:OwL XSwitch).val,(⟨g.1.2,f.zones.l⟩:OwL Int).val,.int .i64 f.reply],42⟩ :: ((⟨o23,c.l⟩:OwL XCut).L 71 XCut.cells ++ (⟨b14,[.slice none 0 0,.slice none 0 0,.int .i64 0],42⟩ :: ⟨b12,[.int .i64 0,.int .i64 0,.int .i64 0,.int .i64 0,.int .i64 0],51⟩ :: ⟨b10,f.cells,42⟩ :: ⟨b9,r.cells,51⟩ :: ⟨b6,s.cells,38⟩ :: L)))),fun _=>R,fun _=>0⟩:Head {g:Ow×Ow // (⟨g.1,f.switches.l⟩:OwL XSwitch).ok 5 XSwitch.cells∧(⟨g.2,f.zones.l⟩:OwL Int).ok 1 Jo})) ?_ ?_;·
  skip
  refine Uwc tb [] [0,1,3,4,2,6,5] [7,8,9] (_) [] 7 K3 zc rfl rfl zi fun hT3=>?_;refine Vpb 0 hT3 yd zc rfl rfl rfl rfl rfl zub ?_;refine Vpb 3 hT3 yd zc rfl rfl rfl rfl rfl zub ?_;refine Ji [1,4] hT3 yd zc ?_;refine Jn ?_ ?_;·
   skip
   apply (Jwe);rintro v M U ⟨rfl,rfl,rfl⟩;apply (qa1);refine Ji [2,4] hT3 yd zc ?_;refine Jn ?_ ?_;·
    skip
    apply (U4f);rintro v M U ⟨o27,rfl,hok27,rfl,rfl⟩;apply qa1∘U5f;refine Ji [4] hT3 yd zc ?_;apply qca∘Jwe;rintro v M U ⟨rfl,rfl,rfl⟩;apply (qa1);exact uap
   exact uaI
  apply qca∘Jwe;rintro v M U ⟨rfl,rfl,rfl⟩;apply (qa1);refine Ji [1] hT3 yd zc ?_;exact uaI
 rintro ⟨⟨oS,oZ⟩,hkS,hkZ⟩ junk;try dsimp only
 dsimp only at hkS hkZ;apply qae∘Uif∘qbm∘qbm∘Vif∘Khe∘qaa;refine Jy rfl (Jrf s c fl r f t _ _ h hf) rfl ?_;rintro v M U ⟨a,rfl,ha,rfl,hR2⟩;have hf2:=hf.mono hR2;have hzR2:=hf2.zn;refine Jx zCb rfl ?_;apply Xa3∘qad∘Xb2∘Xao;refine q_c ?_ ?_<;>intro hc0;·
  refine Jr ?_;refine Kh tb [46,47,48] [0,1,2,3] [4,5,6,7] ([Blk.mk b17 _ _,Blk.mk b14 _ _,Blk.mk b12 _ _,Blk.mk b9 _ _]) _ K3 zc zi zia ?_;apply Knf∘Yke∘Y4e;refine V2 (Jt zgb) rfl rfl rfl rfl ?_;apply Xch∘Z0e∘Xdi;refine Jz (Jc (U4 (Ke ?_)));refine q_r ((⟨oZ,f.zones.l⟩:OwL Int).L 3 Jo ++ ((⟨oS,f.switches.l⟩:OwL XSwitch).L 76 XSwitch.cells ++ ((⟨o23,c.l⟩:OwL XCut).L 71 XCut.cells ++ L))) _ zZc ?_;have he:Uk s c.l fl.l r f t=Zs s c.l fl.l r f t:=by rw [Uk,if_pos hc0]
  exact ⟨r,⟨o23,c.l⟩,⟨oS,f.switches.l⟩,⟨oZ,f.zones.l⟩,f.reply,by rw [he];rfl,⟨hok23,hkS,hkZ⟩,Y7b he hc0,rfl,hR2⟩
 obtain rfl:a=atR f r.zone:=ha za;obtain ⟨hrz,hcz,hfe⟩:=V0d (s:=s) (c:=c.l) (fl:=fl.l) (r:=r) (f:=f) (t:=t) za;have he:Uk s c.l fl.l r f t=Usa f.switches.l f.zones.l f.reply (atR f r.zone) t:=by rw [Uk,if_neg hc0]
 have hzg:=Jw (l:=f.zones.l) (k:=r.zone.toNat) 0 za;have hxg:=Jw (l:=c.l) (k:=r.zone.toNat) default za;obtain ⟨x,hx⟩:∃x,x=c.l.getD r.zone.toNat default:=⟨_,rfl⟩;rw [← hx] at hxg;apply qbv∘Khe∘Xbg;refine Jy rfl (U9c f (atR f r.zone) t _ _ hf2) rfl ?_;rintro v M U ⟨p,q,rp,rfl,⟨hpk,hqk⟩,hcl,rfl,rfl⟩;refine Jx zCb rfl ?_;apply (Xdr);intro b20;apply qak∘Xb2∘Xao;refine q_c ?_ ?_<;>intro hc1;·refine Jr ?_;refine Kh tb [59,60,61] [0,1,2,3] [4,5,6,7] ([Blk.mk b17 _ _,Blk.mk b14 _ _,Blk.mk b12 _ _,Blk.mk b9 _ _]) _ K3 zc zi zia ?_;apply Knf∘Yke∘Y4e;refine V2 (Jt zgb) rfl rfl rfl rfl ?_;apply Xch∘Z0e∘Xdi;refine Jz (Jc (U4 (Ke ?_)));refine q_r ((⟨oZ,f.zones.l⟩:OwL Int).L 3 Jo ++ ((⟨oS,f.switches.l⟩:OwL XSwitch).L 76 XSwitch.cells ++ ((⟨o23,c.l⟩:OwL XCut).L 71 XCut.cells ++ L))) _ zZc ?_;exact ⟨r,⟨o23,c.l⟩,⟨oS,f.switches.l⟩,⟨oZ,f.zones.l⟩,f.reply,by rw [he];rfl,⟨hok23,hkS,hkZ⟩,Y7b he hc1,rfl,hR2⟩
 obtain ⟨hpl,hql,rfl⟩:=hcl za;have hce:Usa f.switches.l f.zones.l f.reply (atR f r.zone) t=0:=by omega
 have he0:¬ Uk s c.l fl.l r f t≠0:=by omega
 apply Xcq∘Xbq;refine Jx zYa rfl ?_;apply qa7∘Xao;refine q_c ?_ ?_<;>intro hc2;·apply qae∘Vif∘qaq;intro b21;apply Xay∘qaa∘Xbh∘qa4;refine Kh tb [74,75] [0,1,2] [3,4,5,6] ([Blk.mk b21 _ _,Blk.mk b20 _ _,Blk.mk b14 _ _,Blk.mk b12 _ _]) _ K3 zc zi zia ?_;apply Knf∘Yke∘Y4e∘Xch∘Z0e∘Xdi;refine Jz (Jc (U4 (Ke ?_)));refine q_r (q.L 3 Jo ++ (p.L 76 XSwitch.cells ++ ((⟨o23,c.l⟩:OwL XCut).L 71 XCut.cells ++ L))) _ zZc ?_;exact ⟨⟨r.zone,r.first,r.second,r.step,t⟩,⟨o23,c.l⟩,p,q,f.reply,by rw [he,hce];rfl,⟨hok23,hpk,hqk⟩,⟨by rw [Vz,if_neg he0,if_neg (by rw [Jle];omega)],by rw [V4,if_neg he0,if_neg (by rw [Jle];omega)],by rw [Ve,if_neg he0,hpl],hql,rfl⟩,rfl,hR2⟩
 apply qbv∘Xci;refine Jx (Jv tb ((⟨o23,c.l⟩:OwL XCut)) _ rfl rfl rfl rfl zg (i:=r.zone.toNat) zk zu) rfl ?_;apply (qb0);refine Ym (Js tb ((⟨o23,c.l⟩:OwL XCut)) (⟨false,x.clear,x.reason⟩) rfl rfl rfl rfl zj zg yf zg ze zb zb) ?_;rintro v M U ⟨rfl,rfl⟩;apply (qa4);have hpc2:=OwL.set_ok (f:=XCut.cells) (wd:=3) (p:=⟨o23,c.l⟩) (i:=r.zone.toNat) (x:=⟨false,x.clear,x.reason⟩) yf hok23;refine Kh tb [82,83] [1,2,0] [3,4,5,6] ([Blk.mk b20 _ _,Blk.mk b14 _ _,Blk.mk b12 _ _]) _ K3 zc zi zia ?_;apply Yke∘Y4e;refine Up rfl (K5c _ _) rfl rfl ?_;rintro v M U ⟨rfl,rfl,rfl⟩;refine ⟨zi,zw,?_⟩;apply Xch∘Z0e∘Xdi;refine Jz (Jc (U4 ?_));refine q_r (q.L 3 Jo ++ (p.L 76 XSwitch.cells ++ ((⟨o23,c.l.set r.zone.toNat ⟨false,x.clear,x.reason⟩⟩:OwL XCut).L 71 XCut.cells ++ L))) _ zZc ?_;exact ⟨noRest,⟨o23,c.l.set r.zone.toNat ⟨false,x.clear,x.reason⟩⟩,p,q,f.reply,by simp only [he,hce,OwL.val,yy],⟨hpc2,hpk,hqk⟩,⟨by rw [Vz,if_neg he0,if_pos (by rw [Jle];omega)],by rw [V4,if_neg he0,if_pos (by rw [Jle];omega),← hx],by rw [Ve,if_neg he0,hpl],hql,rfl⟩,rfl,hR2⟩
end
section
def Kpb (z:XZone):XZone:=⟨⟨none,0,z.rule.l⟩,z.hold,⟨none,0,z.roads.l⟩,z.fresh⟩
def Kx (s:XSite):XSite:=⟨Zb s.air,⟨none,0,s.sensors.l⟩,⟨none,0,s.conds.l⟩,⟨none,0,s.zones.l.map Kpb⟩,⟨none,0,s.persons.l⟩⟩
def Y1a (s:XSite) (k:Nat):(Kx s).zones.l.getD k default=Kpb (s.zones.l.getD k default):=Vnb rfl
def Y8a (s:XSite):(Kx s).zones.l.length=s.zones.l.length:=yz _
def Ued (a:XAir) (x:XSens):Y5a (Zb a) x=Y5a a x:=by rw [Y5a,Y5a,show (Zb a).fans.l.length=a.fans.l.length from yz _,show (Zb a).doors.l.length=a.doors.l.length from yz _];rfl
def Y8b (a:XAir) (S:List XSens):Ur (Zb a) S=Ur a S:=by
 have e:Z1 (Zb a) S=Z1 a S:=by funext i;rw [Z1,Z1,Ued]
 rw [Ur,Ur,e]
def U6c (s:XSite):Y8 (Kx s)=Y8 s:=by rw [Y8,Y8,show (Kx s).zones.l=s.zones.l.map Kpb from rfl,ySb];rfl
def J6a (s:XSite):K6 (Kx s)=K6 s:=by rw [K6,K6,U6c,Y8a,show K1 (Kx s).air=K1 s.air from Yfb _,show Ur (Kx s).air (Kx s).sensors.l=Ur s.air s.sensors.l from Y8b _ _];rfl
def Z8a (s:XSite) (m:List XMeas) (w:List XWatch) (fl:List XSpan) (t:Int):valuesErr (Kx s) m w fl t=valuesErr s m w fl t:=by rw [valuesErr,valuesErr,J6a];rfl
def Uub (s:XSite) (v:List Int) (c:List XCut) (t:Int):cutsErr (Kx s) v c t=cutsErr s v c t:=by rw [cutsErr,cutsErr,J6a,Y8a];rfl
def Jzc (s:XSite) (v:List Int) (c:List XCut) (t:Int):cutAt (Kx s) v c t=cutAt s v c t:=by funext i;rw [cutAt,cutAt,Y1a];rfl
def K8b (s : XSite) (v : List Int) (c : List XCut) : ∀ k, K7a (Kx s) v c k = K7a s v c k
 | 0=>rfl
 | k + 1=>by rw [K7a,K7a,K8b s v c k,Y1a];rfl
def Ylb (s:XSite) (c:List XCut) (fl:List XSpan) (k t:Int):readyE (Kx s) c fl k t=readyE s c fl k t:=by rw [readyE,readyE,Y1a];rfl
def U8b (s:XSite) (n m:Nat) (t:Int):sharedE (Kx s) n m t=sharedE s n m t:=by rw [sharedE,sharedE,J6a,Y8a];rfl
abbrev SiteE (s s':XSite):Prop:=Kx s=Kx s'
section
variable {s s':XSite} (h:SiteE s s')
include h
def SiteE.air:Zb s.air=Zb s'.air:=congrArg XSite.air zWb
def SiteE.sens:s.sensors.l=s'.sensors.l:=by have e:=congrArg (fun x:XSite=>x.sensors.l) zWb;exact e
def SiteE.conds:s.conds.l=s'.conds.l:=by have e:=congrArg (fun x:XSite=>x.conds.l) zWb;exact e
def SiteE.persons:s.persons.l=s'.persons.l:=by have e:=congrArg (fun x:XSite=>x.persons.l) zWb;exact e
def SiteE.nfans:s.air.fans.l.length=s'.air.fans.l.length:=by have:=congrArg (fun x:XSite=>x.air.fans.l.length) zWb;simpa [Kx,Zb] using this
def SiteE.ndoors:s.air.doors.l.length=s'.air.doors.l.length:=by have:=congrArg (fun x:XSite=>x.air.doors.l.length) zWb;simpa [Kx,Zb] using this
def SiteE.nzones:s.zones.l.length=s'.zones.l.length:=by rw [← Y8a s,h,Y8a s']
def SiteE.zone (k:Nat):Kpb (s.zones.l.getD k default)=Kpb (s'.zones.l.getD k default):=by rw [← Y1a s,h,Y1a s']
def SiteE.rule (k:Nat):(s.zones.l.getD k default).rule.l=(s'.zones.l.getD k default).rule.l:=by have e:=congrArg (fun z:XZone=>z.rule.l) (SiteE.zone h k);exact e
def SiteE.door (k:Nat):(s.air.doors.l.getD k default).rests.l=(s'.air.doors.l.getD k default).rests.l:=by
 have e:Zsa (s.air.doors.l.getD k default)=Zsa (s'.air.doors.l.getD k default):=by rw [← Zcb s.air,SiteE.air h,Zcb s'.air]
 have e2:=congrArg (fun d:XDoor=>d.rests.l) e;exact e2
def SiteE.err:K6 s=K6 s':=by rw [← J6a s,h,J6a s']
def SiteE.valuesErr (m:List XMeas) (w:List XWatch) (fl:List XSpan) (t:Int):valuesErr s m w fl t=valuesErr s' m w fl t:=by rw [← Z8a s,h,Z8a s']
def SiteE.valuesV (m:List XMeas) (w:List XWatch) (fl:List XSpan) (t:Int):valuesV s m w fl t=valuesV s' m w fl t:=by rw [Go.Proofs.YtchfclmokpbldaaGreat.valuesV,Go.Proofs.YtchfclmokpbldaaGreat.valuesV,SiteE.valuesErr h,SiteE.sens h,SiteE.conds h]
def SiteE.valuesW (m:List XMeas) (w:List XWatch) (fl:List XSpan) (t:Int):valuesW s m w fl t=valuesW s' m w fl t:=by rw [Go.Proofs.YtchfclmokpbldaaGreat.valuesW,Go.Proofs.YtchfclmokpbldaaGreat.valuesW,SiteE.valuesErr h,SiteE.sens h,SiteE.conds h]
def SiteE.cutsErr (v:List Int) (c:List XCut) (t:Int):cutsErr s v c t=cutsErr s' v c t:=by rw [← Uub s,h,Uub s']
def SiteE.cutAt (v:List Int) (c:List XCut) (t:Int):cutAt s v c t=cutAt s' v c t:=by rw [← Jzc s,h,Jzc s']
def SiteE.cutsC (v:List Int) (c:List XCut) (t:Int):cutsC s v c t=cutsC s' v c t:=by rw [Go.Proofs.YtchfclmokpbldaaGreat.cutsC,Go.Proofs.YtchfclmokpbldaaGreat.cutsC,SiteE.cutsErr h,SiteE.cutAt h]
def SiteE.cutsN (v:List Int) (c:List XCut) (t:Int):cutsN s v c t=cutsN s' v c t:=by rw [Go.Proofs.YtchfclmokpbldaaGreat.cutsN,Go.Proofs.YtchfclmokpbldaaGreat.cutsN,SiteE.cutsErr h,← K8b s,h,K8b s']
def SiteE.readyE (c:List XCut) (fl:List XSpan) (k t:Int):readyE s c fl k t=readyE s' c fl k t:=by rw [← Ylb s,h,Ylb s']
def SiteE.sharedE (n m:Nat) (t:Int):sharedE s n m t=sharedE s' n m t:=by rw [← U8b s,h,U8b s']
def SiteE.askE (c:List XCut) (fl:List XSpan) (r:XRest) (p k t:Int):askE s c fl r p k t=askE s' c fl r p k t:=by rw [Go.Proofs.YtchfclmokpbldaaGreat.askE,Go.Proofs.YtchfclmokpbldaaGreat.askE,SiteE.sharedE h,SiteE.readyE h,SiteE.persons h]
def SiteE.askR (c:List XCut) (fl:List XSpan) (r:XRest) (p k t:Int):askR s c fl r p k t=askR s' c fl r p k t:=by rw [Go.Proofs.YtchfclmokpbldaaGreat.askR,Go.Proofs.YtchfclmokpbldaaGreat.askR,SiteE.askE h]
def SiteE.confirmE (c:List XCut) (fl:List XSpan) (r:XRest) (p t:Int):confirmE s c fl r p t=confirmE s' c fl r p t:=by
 have e:Jaa s r p↔Jaa s' r p:=by unfold Jaa;rw [SiteE.persons h]
 simp only [Go.Proofs.YtchfclmokpbldaaGreat.confirmE,SiteE.sharedE h,SiteE.readyE h,e]
def SiteE.confirmR (c:List XCut) (fl:List XSpan) (r:XRest) (p t:Int):confirmR s c fl r p t=confirmR s' c fl r p t:=by rw [Go.Proofs.YtchfclmokpbldaaGreat.confirmR,Go.Proofs.YtchfclmokpbldaaGreat.confirmR,SiteE.confirmE h]
end
end
section
def Vyf (x:XSwitch) (t:Int):XSwitch:=⟨x.above,t,0,false,false⟩
def U5 (sw:List XSwitch) (s t:Int):List XSwitch:=if (sw.getD s.toNat default).closed=true then sw.set s.toNat (Vyf (sw.getD s.toNat default) t) else sw
def Zsd (sw:List XSwitch) (s t:Int):(U5 sw s t).length=sw.length:=by rw [U5];split <;> simp
structure SwKeep (sw sw':List XSwitch) (t:Int):Prop where
 len:sw'.length=sw.length
 at_:∀i:Nat,i < sw.length→(sw'.getD i default).above=(sw.getD i default).above∧((sw'.getD i default).since=(sw.getD i default).since∨(sw'.getD i default).since=t)∧(-1≤(sw'.getD i default).shown∧(sw'.getD i default).shown≤1)∧¬ ((sw'.getD i default).late=true∧((sw'.getD i default).closed=true∨(sw'.getD i default).shown= -1))
def Ymb {sw:List XSwitch} {zn:List Int} {rp:Int} (h:feedE sw zn rp=0):∀i:Nat,i < sw.length→(-1≤(sw.getD i default).shown∧(sw.getD i default).shown≤1)∧¬ ((sw.getD i default).late=true∧((sw.getD i default).closed=true∨(sw.getD i default).shown= -1)):=fun i hi=>by
 by_cases h0:32 < sw.length∨16 < zn.length
 ·rw [feedE,if_pos h0] at h;omega
 cases h1:(List.range sw.length).findSome? (U6a sw) with
 | some e=>rw [J6b h0 h1] at h;exact absurd h (Uec (fun _=>Yjd) h1)
 | none=>
  have:=Kzb h1 hi
  rw [U6a] at this
  split at this
  ·cases this
  split at this
  ·cases this
  split at this
  ·cases this
  rename_i k1 k2 k3
  rw [not_or] at k3
  exact ⟨by omega,k3.2⟩
def SwKeep.refl {sw:List XSwitch} {zn:List Int} {rp:Int} (h:feedE sw zn rp=0) (t:Int):SwKeep sw sw t:=⟨rfl,fun i hi=>⟨rfl,.inl rfl,Ymb h i hi⟩⟩
def SwKeep.feedE {sw sw':List XSwitch} {zn:List Int} {rp t:Int} (k:SwKeep sw sw' t) (h:feedE sw zn rp=0) (ht:0≤t∧t≤2147483648):feedE sw' zn rp=0:=by
 have hl:=k.len;have hok:=Vq h;have h0':¬ (32 < sw'.length∨16 < zn.length):=by have:=hok.sn;have:=hok.zl;omega
 have h1':(List.range sw'.length).findSome? (U6a sw')=none:=by
  rw [yF];intro i hi;rw [yya,hl] at hi;have h2:=k.at_ i hi;have h3:=hok.up i hi;have h4:=hok.since i hi;exact Vpe rfl za za (fun h=>by
   rcases h with h | h;·omega
   ·exact h2.2.2.2 h)
 have h2':(List.range zn.length).findSome? (Zua sw'.length zn)=none:=by rw [yF];intro i hi;rw [yya] at hi;have:=hok.zr i hi;exact U7e za (fun ⟨j,hj,e⟩=>hok.zd i j hj hi e)
 rw [Vxb h0' h1' h2',if_neg (by have:=hok.rp;omega)]
def SwKeep.time {sw sw':List XSwitch} {t:Int} (k:SwKeep sw sw' t) (h:V7a sw t):V7a sw' t:=⟨h.1,fun x hx=>by
 obtain ⟨i,hi⟩:=List.mem_iff_getElem?.1 hx
 have hi':=(List.getElem?_eq_some_iff.1 hi).1
 have hl:=k.len
 have e:=getD_some (d:=default) hi
 have h2:=k.at_ i za
 have h3:=h.2 _ (yj (Jw (l:=sw) (k:=i) default za))
 rw [e] at h2
 omega⟩
def SwKeep.set {sw sw':List XSwitch} {t:Int} (k:SwKeep sw sw' t) {i:Nat} {x:XSwitch} (h1:x.above=(sw'.getD i default).above) (h2:x.since=(sw'.getD i default).since∨x.since=t) (h3:-1≤x.shown∧x.shown≤1) (h4:¬ (x.late=true∧(x.closed=true∨x.shown= -1))):SwKeep sw (sw'.set i x) t:=by
 refine ⟨by rw [yy];exact k.len,fun j hj=>?_⟩;have hl:=k.len;have hk:=k.at_ j hj;rw [yh,yK];split;·
  rename_i e;subst e;rw [if_pos za];refine ⟨by rw [← hk.1,← h1];rfl,?_,h3,h4⟩;rcases h2 with h2 | h2;·
   rcases hk.2.1 with h5 | h5;·exact .inl (by rw [← h5,← h2];rfl)
   ·exact .inr (by rw [← h5,← h2];rfl)
  ·exact .inr h2
 ·rw [← yh];exact hk
def SwKeep.openS {sw sw':List XSwitch} {t:Int} (k:SwKeep sw sw' t) (s:Int):SwKeep sw (U5 sw' s t) t:=by
 rw [U5];split;·exact k.set rfl (.inr rfl) ⟨by show (-1:Int)≤0;decide,by show (0:Int)≤1;decide⟩ (by simp [Vyf])
 ·exact k
def Zya (x:XSwitch):Bool:=!x.closed && decide (x.shown≠-1) && !x.late
structure XTick where
 sw:List XSwitch
 late:List Int
 opened : List Int
 deriving Inhabited
def Uhb (x:XSwitch):XSwitch:=⟨x.above,x.since,x.shown,x.closed,true⟩
def tickAt (rp t:Int) (y:XTick) (i:Nat):XTick:=
 if Zya (y.sw.getD i default)=true∧rp≤t - (y.sw.getD i default).since then
  if 0≤(y.sw.getD i default).above∧((y.sw.set i (Uhb (y.sw.getD i default))).getD (y.sw.getD i default).above.toNat default).closed=true then
   ⟨U5 (y.sw.set i (Uhb (y.sw.getD i default))) (y.sw.getD i default).above t,y.late ++ [(i:Int)],y.opened ++ [(y.sw.getD i default).above]⟩
  else ⟨y.sw.set i (Uhb (y.sw.getD i default)),y.late ++ [(i:Int)],y.opened⟩
 else y
def Vh (sw : List XSwitch) (rp t : Int) : Nat → XTick
 | 0=>⟨sw,[],[]⟩
 | k + 1=>tickAt rp t (Vh sw rp t k) (sw.length - 1 - k)
def Jda (sw:List XSwitch) (rp t:Int):XTick:=Vh sw rp t sw.length
def Ujd {sw:List XSwitch} {rp t:Int} {y:XTick} (i:Nat) (hi:i < sw.length) (k:SwKeep sw y.sw t):SwKeep sw (tickAt rp t y i).sw t:=by
 have h2:=k.at_ i hi;rw [tickAt];split;·
  rename_i hw;have hw1:=hw.1;rw [Zya,yn,yn,decide_eq_true_eq] at hw1;have hs:SwKeep sw (y.sw.set i (Uhb (y.sw.getD i default))) t:=k.set rfl (.inl rfl) h2.2.2.1 (fun h=>by
   rcases h.2 with h | h;·have : (y.sw.getD i default).closed = true := h;rw [this] at hw1;exact absurd hw1.1.1 ze
   ·exact hw1.1.2 h)
  split;·exact hs.openS _
  ·exact hs
 ·exact k
def Vma {sw : List XSwitch} {zn : List Int} {rp t : Int} (h : feedE sw zn rp = 0) : ∀ k, k ≤ sw.length → SwKeep sw (Vh sw rp t k).sw t
 | 0,_=>.refl h t
 | k + 1,hk=>Ujd _ za (Vma h k za)
def Jbe {rp t:Int} {y:XTick} {i:Nat}:(tickAt rp t y i).late.length≤y.late.length + 1∧(tickAt rp t y i).opened.length≤y.opened.length + 1:=by
 rw [tickAt];repeat' split
 all_goals (first | (simp only [yo,yw,yea];omega) | omega)
def Ugb {sw : List XSwitch} {rp t : Int} : ∀ k, (Vh sw rp t k).late.length ≤ k ∧ (Vh sw rp t k).opened.length ≤ k
 | 0=>⟨yl _,yl _⟩
 | k + 1=>by
  have h1:=Ugb (sw:=sw) (rp:=rp) (t:=t) k
  have h2:=Jbe (rp:=rp) (t:=t) (y:=Vh sw rp t k) (i:=sw.length - 1 - k)
  rw [Vh];omega
end
end Go.Proofs.YtchfclmokpbldaaGreat
