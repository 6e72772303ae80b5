/-
  Merged texts. By an AI agent.
-/
import Derived.Test.YtchfclmokpbldaaGreatRestN
import Derived.Test.YtchfclmokpbldaaGreatWin
import Derived.Test.YtchfclmokpbldaaGreatFeedD
set_option linter.all false
set_option maxHeartbeats 4000000
set_option maxRecDepth 20000
namespace Go.Proofs.YtchfclmokpbldaaGreat
open Go.Aw Go
section
section
variable {A B:Prop}
def K7e(h:A→B:=by exact Jy zxb rfl):=h
def Uve(h:A→B:=by exact Ks rfl (Go.Proofs.YtchfclmokpbldaaGreat.YV.gives2 zOb) rfl rfl):=h
def J4f(h:A→B:=by exact Vo zrd rfl rfl rfl rfl):=h
def Jrf(h:A→B:=by exact Vo zxb rfl rfl rfl rfl):=h
def Kmf(h:A→B:=by exact K0 (Uo zub) rfl rfl rfl):=h
def Zdf(h:A→B:=by exact Jy zAb rfl):=h
def Vef(h:A→B:=by exact Jy zKb rfl):=h
def Vmf(h:A→B:=by exact Ks rfl zIc rfl rfl):=h
def Vxf(h:A→B:=by exact U6a 6 hT3 yd zc rfl rfl rfl rfl rfl zEb):=h
def V5f(h:A→B:=by exact Ks rfl zVc rfl rfl):=h
def Zcf(h:A→B:=by exact Kt zKb rfl rfl rfl rfl):=h
end
def Ypf {P:Program} {fn:Func} {t:Nat→Value} {L:LB} {R:LS} {r s q z:ResultVar} {v u x y:Value} (hr:fn.results=#[r,s,q,z]) (h:RV P t L R r v) (k:RV P t L R s u) (m:RV P t L R q x) (m2:RV P t L R z y):∀c n a w,Fr n t a→St c L R w→(results fn a.tmps).run P w=.ok (.tuple #[v,u,x,y]) w:=by intro c n a w hf hs;have h1:=Job h hf hs;have h2:=Job k hf hs;have h3:=Job m hf hs;have h4:=Job m2 hf hs;rw [U8a,hr];simp [h1,h2,h3,h4]
attribute [local irreducible] CJ LJ DJ Tri YV Gives U5 J2 Kn U6 RV J4 OwL.L
def atR (f:XFeeder) (k:Int):Int:=Kof f.switches.l (Zba f.switches.l f.zones.l f.reply (f.zones.l.getD k.toNat 0))
def Jta (s:XSite) (c:List XCut) (fl:List XSpan) (r:XRest) (f:XFeeder) (t:Int):Int:=
 if sharedE s c.length fl.length t≠0 then sharedE s c.length fl.length t
 else if r.zone= -1∨r.step≠2 then 10
 else if Jjd r t then 8
 else if readyE s c fl r.zone t≠0 then readyE s c fl r.zone t
 else if feedE f.switches.l f.zones.l f.reply≠0 then feedE f.switches.l f.zones.l f.reply
 else if f.zones.l.length≠s.zones.l.length then 17
 else if K9c c f.switches.l f.zones.l f.reply r.zone (atR f r.zone) then 20 else 0
def Umb {s:XSite} {c:List XCut} {fl:List XSpan} {k t:Int} (h:readyE s c fl k t=0):0≤k∧k < c.length:=by
 rw [readyE] at h;split at h;·cases h
 ·omega
def Zre (s:XSite) (c:Arr XCut) (fl:Arr XSpan) (r:XRest) (f:XFeeder) (t:Int) (L:LB) (R:LS) (h:RestA s c fl R) (hf:FeederR f R):
 Tri Tryz.prog 165 [s.val,c.val,fl.val,r.val,f.val,.int .i64 t].toArray L R (fun v U J=>∃a:Int,v=.tuple #[.int .i64 a,.int .i64 (Jta s c.l fl.l r f t)]∧(Jta s c.l fl.l r f t=0→a=atR f r.zone)∧L=U∧∀r∈R,InR r J):=by
 refine Je 70 Tryz.call165 Tryz.func165 rfl rfl rfl ?_;apply (Xaf);intro b6;apply (qax);intro b9;apply (qax);intro b10;apply qad∘Xar∘Zdf∘qbm∘Xap;refine q_l rfl (Yoa s c fl t _ _ h) ?_;apply (Xbh);refine q_c ?_ ?_<;>intro hc0;·
  apply Xd1∘Xao;refine q_r L R zzd ?_;have he:Jta s c.l fl.l r f t=sharedE s c.l.length fl.l.length t:=by rw [Jta,if_pos hc0]
  exact zde
 obtain ⟨hok,hln,ht⟩:=Kvb (s:=s) (nc:=c.l.length) (nf:=fl.l.length) (t:=t) za;apply Xc1∘Xcn;apply J6 (G:=[_,_,_]) (j:=3) (cj:=30) rfl rfl zb rfl zsb rfl;·exact ubq
 intro junk4;apply (qaf);refine q_c ?_ ?_<;>intro hc1;·
  apply Xae∘Xao;refine q_r L R zzd ?_;have he:Jta s c.l fl.l r f t=10:=by rw [Jta,if_neg hc0,if_pos za]
  exact zde
 apply qbo∘Vef∘qaa;refine q_l rfl (Y5d r t _ _ ht) ?_;apply (qaf);refine q_c ?_ ?_<;>intro hc2;·
  apply Xae∘Xao;refine q_r L R zzd ?_;have he:Jta s c.l fl.l r f t=8:=by rw [Jta,if_neg hc0,if_neg za,if_pos zO]
  exact zde
 have hlt:¬ Jjd r t:=by simpa using hc2
 apply qbo∘Zdf∘qbm∘qbm∘Xah;refine q_l rfl (Yyb s c fl r.zone t _ _ h hok hln ht) ?_;apply (Xbh);refine q_c ?_ ?_<;>intro hc3;·
  apply Xd1∘Xao;refine q_r L R zzd ?_;have he:Jta s c.l fl.l r f t=readyE s c.l fl.l r.zone t:=by rw [Jta,if_neg hc0,if_neg za,if_neg hlt,if_pos hc3]
  exact zde
 apply qbo∘K7e;refine q_l rfl (Yo f _ _ hf) ?_;apply (Xbh);refine q_c ?_ ?_<;>intro hc4;·
  apply Xd1∘Xao;refine q_r L R zzd ?_;have he:Jta s c.l fl.l r f t=feedE f.switches.l f.zones.l f.reply:=by rw [Jta,if_neg hc0,if_neg za,if_neg hlt,if_neg hc3,if_pos hc4]
  exact zde
 apply Xec∘Xab∘Xat;refine q_c ?_ ?_<;>intro hc5;·
  apply Xae∘Xao;refine q_r L R zzd ?_;have he:Jta s c.l fl.l r f t=17:=by rw [Jta,if_neg hc0,if_neg za,if_neg hlt,if_neg hc3,if_neg hc4,if_pos za]
  exact zde
 have hrz:=Umb (s:=s) (c:=c.l) (fl:=fl.l) (k:=r.zone) (t:=t) za;apply qbv∘qbm∘K7e∘Xaa;refine Jw rfl (Ycd c f r.zone _ _ h.cuts hf za za za) rfl ?_;rintro v U J ⟨rfl,rfl,hR2⟩;refine Jy zSb rfl ?_;apply Xa7∘Xb6∘qaw∘Xdw;refine q_c ?_ ?_<;>intro hc6;·
  apply Xae∘Xao;refine q_r L _ zzd ?_;have he:Jta s c.l fl.l r f t=20:=by rw [Jta,if_neg hc0,if_neg za,if_neg hlt,if_neg hc3,if_neg hc4,if_neg za,if_pos (by simpa [atR] using hc6)]
  exact ⟨0,by rw [he],fun h=>by omega,rfl,hR2⟩
 apply Xd6∘qad∘Xak;refine q_r L _ zzd ?_;have he:Jta s c.l fl.l r f t=0:=by rw [Jta,if_neg hc0,if_neg za,if_neg hlt,if_neg hc3,if_neg hc4,if_neg za,if_neg (by simpa [atR] using hc6)]
 exact ⟨atR f r.zone,by rw [he];rfl,fun _=>rfl,rfl,hR2⟩
def Y8d {s:XSite} {c:List XCut} {fl:List XSpan} {r:XRest} {f:XFeeder} {t:Int} (h:Jta s c fl r f t=0):(0≤r.zone∧r.zone < c.length)∧c.length=f.zones.l.length∧feedE f.switches.l f.zones.l f.reply=0:=by
 rw [Jta] at h;split at h;·omega
 rename_i h0;obtain ⟨_,hln,_⟩:=Kvb (Decidable.not_not.1 h0);split at h;·cases h
 split at h;·cases h
 split at h;·omega
 rename_i h3;have:=Umb (Decidable.not_not.1 h3);split at h;·omega
 split at h;·cases h
 omega
def Vw (s:XSite) (c:List XCut) (fl:List XSpan) (r:XRest) (f:XFeeder) (t:Int):Int:=
 if Jta s c fl r f t≠0 then Jta s c fl r f t else Zca f.switches.l f.zones.l f.reply (atR f r.zone) t
def Zee (f:XFeeder) (r:XRest):Prop:=atR f r.zone=f.zones.l.getD r.zone.toNat 0
instance (f:XFeeder) (r:XRest):Decidable (Zee f r):=by unfold Zee;infer_instance
def K7a (s:XSite) (c:List XCut) (fl:List XSpan) (r:XRest) (f:XFeeder) (t:Int):XRest:=
 if Vw s c fl r f t≠0 then r else if Zee f r then noRest else ⟨r.zone,r.first,r.second,r.step,t⟩
def Kla (s:XSite) (c:List XCut) (fl:List XSpan) (r:XRest) (f:XFeeder) (t:Int):List XCut:=
 if Vw s c fl r f t≠0 then c else if Zee f r then c.set r.zone.toNat ⟨false,(c.getD r.zone.toNat default).clear,(c.getD r.zone.toNat default).reason⟩ else c
def Zt (s:XSite) (c:List XCut) (fl:List XSpan) (r:XRest) (f:XFeeder) (t:Int):List XSwitch:=
 if Vw s c fl r f t≠0 then f.switches.l else U0d f.switches.l (atR f r.zone) t
structure CloseIs (s:XSite) (c:List XCut) (fl:List XSpan) (r:XRest) (f:XFeeder) (t:Int) (q:XRest) (c2:List XCut) (sw:List XSwitch) (zn:List Int) (rp:Int):Prop where
 rest:q=K7a s c fl r f t
 cuts:c2=Kla s c fl r f t
 sw:sw=Zt s c fl r f t
 zn:zn=f.zones.l
 rp:rp=f.reply
def J0c {s:XSite} {c:List XCut} {fl:List XSpan} {r:XRest} {f:XFeeder} {t e:Int} (h:Vw s c fl r f t=e) (he:e≠0):CloseIs s c fl r f t r c f.switches.l f.zones.l f.reply:=by
 have h0:Vw s c fl r f t≠0:=by omega
 exact ⟨by rw [K7a,if_pos h0],by rw [Kla,if_pos h0],by rw [Zt,if_pos h0],rfl,rfl⟩
def K9e (s:XSite) (c:Arr XCut) (fl:Arr XSpan) (r:XRest) (f:XFeeder) (t:Int) (L:LB) (R:LS) (h:RestA s c fl R) (hf:FeederR f R) (hn:c.l.length≤1000∧f.switches.l.length≤1000∧f.zones.l.length≤1000):
 Tri Tryz.prog 87 [s.val,c.val,fl.val,r.val,f.val,.int .i64 t].toArray L R (fun v U J=>∃(q:XRest) (pc:OwL XCut) (psw:OwL XSwitch) (pz:OwL Int) (rp:Int),v=.tuple #[q.val,pc.val,.agg #[psw.val,pz.val,.int .i64 rp],.int .i64 (Vw s c.l fl.l r f t)]∧
  (pc.ok 3 XCut.cells∧psw.ok 5 XSwitch.cells∧pz.ok 1 Jk)∧CloseIs s c.l fl.l r f t q pc.l psw.l pz.l rp∧pz.L 3 Jk ++ (psw.L 76 XSwitch.cells ++ (pc.L 71 XCut.cells ++ L))=U∧∀r∈R,InR r J):=by
 have hcR:=h.cuts;have hsR:=hf.sw;have hzR:=hf.zn;refine Je 84 Tryz.call87 Tryz.func87 rfl rfl rfl ?_;apply (Xaf);intro b6;apply (qax);intro b9;apply (qax);intro b10;apply (qaq);intro b12;apply qc4∘qaq;intro b14;apply Xag∘qbm;refine Yv (Kp (f:=XCut.cells) (xs:=c) tb rfl rfl rfl ze rfl rfl (hcR) yf za) rfl ?_;rintro v U J ⟨o23,rfl,hok23,rfl,rfl⟩;apply Xcb∘K7e∘qaq;intro b17;apply (Xct);refine Vkc (rg 25 8) ((⟨fun _=>[],fun g=>(⟨g.1.2,f.zones.l⟩:OwL Int).L 3 Jk ++ ((⟨g.1.1,f.switches.l⟩:OwL XSwitch).L 76 XSwitch.cells ++ (⟨b17,[(⟨g.1.1,f.switches.l⟩:OwL XSwitch).val,(⟨g.1.2,f.zones.l⟩:OwL Int).val,.int .i64 f.reply],42⟩ :: ((⟨o23,c.l⟩:OwL XCut).L 71 XCut.cells ++ (⟨b14,[.slice none 0 0,.slice none 0 0,.int .i64 0],42⟩ :: ⟨b12,[.int .i64 0,.int .i64 0,.int .i64 0,.int .i64 0,.int .i64 0],51⟩ :: ⟨b10,f.cells,42⟩ :: ⟨b9,r.cells,51⟩ :: ⟨b6,s.cells,38⟩ :: L)))),fun _=>R,fun _=>0⟩:Head {g:Ow×Ow // (⟨g.1,f.switches.l⟩:OwL XSwitch).ok 5 XSwitch.cells∧(⟨g.2,f.zones.l⟩:OwL Int).ok 1 Jk})) ?_ ?_;·
  skip
  refine Uwb tb [] [0,1,3,4,2,6,5] [7,8,9] (_) [] 7 Kq zc rfl rfl zi fun hT3=>?_;refine U6a 0 hT3 yd zc rfl rfl rfl rfl rfl zEb ?_;refine U6a 3 hT3 yd zc rfl rfl rfl rfl rfl zEb ?_;refine Jg [1,4] hT3 yd zc ?_;refine Jt ?_ ?_;·
   skip
   apply (Uve);rintro v U J ⟨rfl,rfl,rfl⟩;apply (qa1);refine Jg [2,4] hT3 yd zc ?_;refine Jt ?_ ?_;·
    skip
    apply (Vmf);rintro v U J ⟨o27,rfl,hok27,rfl,rfl⟩;apply qa1∘Vxf;refine Jg [4] hT3 yd zc ?_;apply qca∘Uve;rintro v U J ⟨rfl,rfl,rfl⟩;apply (qa1);exact uan
   exact uaS
  apply qca∘Uve;rintro v U J ⟨rfl,rfl,rfl⟩;apply (qa1);refine Jg [1] hT3 yd zc ?_;exact uaS
 rintro ⟨⟨oS,oZ⟩,hkS,hkZ⟩ junk;try dsimp only
 dsimp only at hkS hkZ;apply qae∘Zdf∘qbm∘qbm∘Vef∘K7e∘qaa;refine Jw rfl (Zre s c fl r f t _ _ h hf) rfl ?_;rintro v U J ⟨a,rfl,ha,rfl,hR2⟩;have hf2:=hf.mono hR2;have hzR2:=hf2.zn;refine Jy zSb rfl ?_;apply Xa7∘qad∘Xck∘Xat;refine q_c ?_ ?_<;>intro hc0;·
  refine Jq ?_;refine J7 tb [46,47,48] [0,1,2,3] [4,5,6,7] ([Blk.mk b17 _ _,Blk.mk b14 _ _,Blk.mk b12 _ _,Blk.mk b9 _ _]) _ Kq zc zi zna ?_;apply Zcf∘J4f∘Jrf;refine Vo zqd rfl rfl rfl rfl ?_;apply Xcr∘Kmf∘Xdj;refine J1 (Jb (Uq (Kg ?_)));refine q_r ((⟨oZ,f.zones.l⟩:OwL Int).L 3 Jk ++ ((⟨oS,f.switches.l⟩:OwL XSwitch).L 76 XSwitch.cells ++ ((⟨o23,c.l⟩:OwL XCut).L 71 XCut.cells ++ L))) _ zDd ?_;have he:Vw s c.l fl.l r f t=Jta s c.l fl.l r f t:=by rw [Vw,if_pos hc0]
  exact ⟨r,⟨o23,c.l⟩,⟨oS,f.switches.l⟩,⟨oZ,f.zones.l⟩,f.reply,by rw [he];rfl,⟨hok23,hkS,hkZ⟩,J0c he hc0,rfl,hR2⟩
 obtain rfl:a=atR f r.zone:=ha za;obtain ⟨hrz,hcz,hfe⟩:=Y8d (s:=s) (c:=c.l) (fl:=fl.l) (r:=r) (f:=f) (t:=t) za;have he:Vw s c.l fl.l r f t=Zca f.switches.l f.zones.l f.reply (atR f r.zone) t:=by rw [Vw,if_neg hc0]
 have hzg:=Jn (l:=f.zones.l) (k:=r.zone.toNat) 0 za;have hxg:=Jn (l:=c.l) (k:=r.zone.toNat) default za;obtain ⟨x,hx⟩:∃x,x=c.l.getD r.zone.toNat default:=⟨_,rfl⟩;rw [← hx] at hxg;apply qbv∘K7e∘Xbw;refine Jw rfl (Ycc f (atR f r.zone) t _ _ hf2) rfl ?_;rintro v U J ⟨p,q,rp,rfl,⟨hpk,hqk⟩,hcl,rfl,rfl⟩;refine Jy zSb rfl ?_;apply (Xeb);intro b20;apply qak∘Xck∘Xat;refine q_c ?_ ?_<;>intro hc1;·refine Jq ?_;refine J7 tb [59,60,61] [0,1,2,3] [4,5,6,7] ([Blk.mk b17 _ _,Blk.mk b14 _ _,Blk.mk b12 _ _,Blk.mk b9 _ _]) _ Kq zc zi zna ?_;apply Zcf∘J4f∘Jrf;refine Vo zqd rfl rfl rfl rfl ?_;apply Xcr∘Kmf∘Xdj;refine J1 (Jb (Uq (Kg ?_)));refine q_r ((⟨oZ,f.zones.l⟩:OwL Int).L 3 Jk ++ ((⟨oS,f.switches.l⟩:OwL XSwitch).L 76 XSwitch.cells ++ ((⟨o23,c.l⟩:OwL XCut).L 71 XCut.cells ++ L))) _ zDd ?_;exact ⟨r,⟨o23,c.l⟩,⟨oS,f.switches.l⟩,⟨oZ,f.zones.l⟩,f.reply,by rw [he];rfl,⟨hok23,hkS,hkZ⟩,J0c he hc1,rfl,hR2⟩
 obtain ⟨hpl,hql,rfl⟩:=hcl za;have hce:Zca f.switches.l f.zones.l f.reply (atR f r.zone) t=0:=by omega
 have he0:¬ Vw s c.l fl.l r f t≠0:=by omega
 apply Xc4∘Xa2;refine Jy zkb rfl ?_;apply qa7∘Xat;refine q_c ?_ ?_<;>intro hc2;·apply qae∘Vef∘qaq;intro b21;apply Xaz∘qaa∘Xbm∘qa4;refine J7 tb [74,75] [0,1,2] [3,4,5,6] ([Blk.mk b21 _ _,Blk.mk b20 _ _,Blk.mk b14 _ _,Blk.mk b12 _ _]) _ Kq zc zi zna ?_;apply Zcf∘J4f∘Jrf∘Xcr∘Kmf∘Xdj;refine J1 (Jb (Uq (Kg ?_)));refine q_r (q.L 3 Jk ++ (p.L 76 XSwitch.cells ++ ((⟨o23,c.l⟩:OwL XCut).L 71 XCut.cells ++ L))) _ zDd ?_;exact ⟨⟨r.zone,r.first,r.second,r.step,t⟩,⟨o23,c.l⟩,p,q,f.reply,by rw [he,hce];rfl,⟨hok23,hpk,hqk⟩,⟨by rw [K7a,if_neg he0,if_neg (by rw [Zee];omega)],by rw [Kla,if_neg he0,if_neg (by rw [Zee];omega)],by rw [Zt,if_neg he0,hpl],hql,rfl⟩,rfl,hR2⟩
 apply qbv∘Xb4;refine Jy (Js tb ((⟨o23,c.l⟩:OwL XCut)) _ rfl rfl rfl rfl zg (i:=r.zone.toNat) zk zt) rfl ?_;apply (qb0);refine V6 (Ju tb ((⟨o23,c.l⟩:OwL XCut)) (⟨false,x.clear,x.reason⟩) rfl rfl rfl rfl zj zg yf zg ze zb zb) ?_;rintro v U J ⟨rfl,rfl⟩;apply (qa4);have hpc2:=OwL.set_ok (f:=XCut.cells) (wd:=3) (p:=⟨o23,c.l⟩) (i:=r.zone.toNat) (x:=⟨false,x.clear,x.reason⟩) yf hok23;refine J7 tb [82,83] [1,2,0] [3,4,5,6] ([Blk.mk b20 _ _,Blk.mk b14 _ _,Blk.mk b12 _ _]) _ Kq zc zi zna ?_;apply J4f∘Jrf;refine K6 rfl (Vzc _ _) rfl rfl ?_;rintro v U J ⟨rfl,rfl,rfl⟩;refine ⟨zi,zq,?_⟩;apply Xcr∘Kmf∘Xdj;refine J1 (Jb (Uq ?_));refine q_r (q.L 3 Jk ++ (p.L 76 XSwitch.cells ++ ((⟨o23,c.l.set r.zone.toNat ⟨false,x.clear,x.reason⟩⟩:OwL XCut).L 71 XCut.cells ++ L))) _ zDd ?_;exact ⟨noRest,⟨o23,c.l.set r.zone.toNat ⟨false,x.clear,x.reason⟩⟩,p,q,f.reply,by simp only [he,hce,OwL.val,yL],⟨hpc2,hpk,hqk⟩,⟨by rw [K7a,if_neg he0,if_pos (by rw [Zee];omega)],by rw [Kla,if_neg he0,if_pos (by rw [Zee];omega),← hx],by rw [Zt,if_neg he0,hpl],hql,rfl⟩,rfl,hR2⟩
end
section
def Kwb (z:XZone):XZone:=⟨⟨none,0,z.rule.l⟩,z.hold,⟨none,0,z.roads.l⟩,z.fresh⟩
def K1 (s:XSite):XSite:=⟨Zn s.air,⟨none,0,s.sensors.l⟩,⟨none,0,s.conds.l⟩,⟨none,0,s.zones.l.map Kwb⟩,⟨none,0,s.persons.l⟩⟩
def Zna (s:XSite) (k:Nat):(K1 s).zones.l.getD k default=Kwb (s.zones.l.getD k default):=Yrb rfl
def Zja (s:XSite):(K1 s).zones.l.length=s.zones.l.length:=yE _
def U3d (a:XAir) (x:XSens):Zaa (Zn a) x=Zaa a x:=by rw [Zaa,Zaa,show (Zn a).fans.l.length=a.fans.l.length from yE _,show (Zn a).doors.l.length=a.doors.l.length from yE _];rfl
def Z3b (a:XAir) (S:List XSens):U0 (Zn a) S=U0 a S:=by
 have e:Jda (Zn a) S=Jda a S:=by funext i;rw [Jda,Jda,U3d]
 rw [U0,U0,e]
def Yjc (s:XSite):Zk (K1 s)=Zk s:=by rw [Zk,Zk,show (K1 s).zones.l=s.zones.l.map Kwb from rfl,yac];rfl
def Kca (s:XSite):Ue (K1 s)=Ue s:=by rw [Ue,Ue,Yjc,Zja,show Ky (K1 s).air=Ky s.air from Z7b _,show U0 (K1 s).air (K1 s).sensors.l=U0 s.air s.sensors.l from Z3b _ _];rfl
def Jnb (s:XSite) (m:List XMeas) (w:List XWatch) (fl:List XSpan) (t:Int):valuesErr (K1 s) m w fl t=valuesErr s m w fl t:=by rw [valuesErr,valuesErr,Kca];rfl
def Vtb (s:XSite) (v:List Int) (c:List XCut) (t:Int):cutsErr (K1 s) v c t=cutsErr s v c t:=by rw [cutsErr,cutsErr,Kca,Zja];rfl
def Kuc (s:XSite) (v:List Int) (c:List XCut) (t:Int):cutAt (K1 s) v c t=cutAt s v c t:=by funext i;rw [cutAt,cutAt,Zna];rfl
def Ujb (s : XSite) (v : List Int) (c : List XCut) : ∀ k, Yqa (K1 s) v c k = Yqa s v c k
 | 0=>rfl
 | k + 1=>by rw [Yqa,Yqa,Ujb s v c k,Zna];rfl
def Jjc (s:XSite) (c:List XCut) (fl:List XSpan) (k t:Int):readyE (K1 s) c fl k t=readyE s c fl k t:=by rw [readyE,readyE,Zna];rfl
def Vlb (s:XSite) (n m:Nat) (t:Int):sharedE (K1 s) n m t=sharedE s n m t:=by rw [sharedE,sharedE,Kca,Zja];rfl
abbrev SiteE (s s':XSite):Prop:=K1 s=K1 s'
section
variable {s s':XSite} (h:SiteE s s')
include h
def SiteE.air:Zn s.air=Zn s'.air:=congrArg XSite.air zvc
def SiteE.sens:s.sensors.l=s'.sensors.l:=by have e:=congrArg (fun x:XSite=>x.sensors.l) zvc;exact e
def SiteE.conds:s.conds.l=s'.conds.l:=by have e:=congrArg (fun x:XSite=>x.conds.l) zvc;exact e
def SiteE.persons:s.persons.l=s'.persons.l:=by have e:=congrArg (fun x:XSite=>x.persons.l) zvc;exact e
def SiteE.nfans:s.air.fans.l.length=s'.air.fans.l.length:=by have:=congrArg (fun x:XSite=>x.air.fans.l.length) zvc;simpa [K1,Zn] using this
def SiteE.ndoors:s.air.doors.l.length=s'.air.doors.l.length:=by have:=congrArg (fun x:XSite=>x.air.doors.l.length) zvc;simpa [K1,Zn] using this
def SiteE.nzones:s.zones.l.length=s'.zones.l.length:=by rw [← Zja s,h,Zja s']
def SiteE.zone (k:Nat):Kwb (s.zones.l.getD k default)=Kwb (s'.zones.l.getD k default):=by rw [← Zna s,h,Zna s']
def SiteE.rule (k:Nat):(s.zones.l.getD k default).rule.l=(s'.zones.l.getD k default).rule.l:=by have e:=congrArg (fun z:XZone=>z.rule.l) (SiteE.zone h k);exact e
def SiteE.door (k:Nat):(s.air.doors.l.getD k default).rests.l=(s'.air.doors.l.getD k default).rests.l:=by
 have e:Jab (s.air.doors.l.getD k default)=Jab (s'.air.doors.l.getD k default):=by rw [← J2c s.air,SiteE.air h,J2c s'.air]
 have e2:=congrArg (fun d:XDoor=>d.rests.l) e;exact e2
def SiteE.err:Ue s=Ue s':=by rw [← Kca s,h,Kca s']
def SiteE.valuesErr (m:List XMeas) (w:List XWatch) (fl:List XSpan) (t:Int):valuesErr s m w fl t=valuesErr s' m w fl t:=by rw [← Jnb s,h,Jnb s']
def SiteE.valuesV (m:List XMeas) (w:List XWatch) (fl:List XSpan) (t:Int):valuesV s m w fl t=valuesV s' m w fl t:=by rw [Go.Proofs.YtchfclmokpbldaaGreat.valuesV,Go.Proofs.YtchfclmokpbldaaGreat.valuesV,SiteE.valuesErr h,SiteE.sens h,SiteE.conds h]
def SiteE.valuesW (m:List XMeas) (w:List XWatch) (fl:List XSpan) (t:Int):valuesW s m w fl t=valuesW s' m w fl t:=by rw [Go.Proofs.YtchfclmokpbldaaGreat.valuesW,Go.Proofs.YtchfclmokpbldaaGreat.valuesW,SiteE.valuesErr h,SiteE.sens h,SiteE.conds h]
def SiteE.cutsErr (v:List Int) (c:List XCut) (t:Int):cutsErr s v c t=cutsErr s' v c t:=by rw [← Vtb s,h,Vtb s']
def SiteE.cutAt (v:List Int) (c:List XCut) (t:Int):cutAt s v c t=cutAt s' v c t:=by rw [← Kuc s,h,Kuc s']
def SiteE.cutsC (v:List Int) (c:List XCut) (t:Int):cutsC s v c t=cutsC s' v c t:=by rw [Go.Proofs.YtchfclmokpbldaaGreat.cutsC,Go.Proofs.YtchfclmokpbldaaGreat.cutsC,SiteE.cutsErr h,SiteE.cutAt h]
def SiteE.cutsN (v:List Int) (c:List XCut) (t:Int):cutsN s v c t=cutsN s' v c t:=by rw [Go.Proofs.YtchfclmokpbldaaGreat.cutsN,Go.Proofs.YtchfclmokpbldaaGreat.cutsN,SiteE.cutsErr h,← Ujb s,h,Ujb s']
def SiteE.readyE (c:List XCut) (fl:List XSpan) (k t:Int):readyE s c fl k t=readyE s' c fl k t:=by rw [← Jjc s,h,Jjc s']
def SiteE.sharedE (n m:Nat) (t:Int):sharedE s n m t=sharedE s' n m t:=by rw [← Vlb s,h,Vlb s']
def SiteE.askE (c:List XCut) (fl:List XSpan) (r:XRest) (p k t:Int):askE s c fl r p k t=askE s' c fl r p k t:=by rw [Go.Proofs.YtchfclmokpbldaaGreat.askE,Go.Proofs.YtchfclmokpbldaaGreat.askE,SiteE.sharedE h,SiteE.readyE h,SiteE.persons h]
def SiteE.askR (c:List XCut) (fl:List XSpan) (r:XRest) (p k t:Int):askR s c fl r p k t=askR s' c fl r p k t:=by rw [Go.Proofs.YtchfclmokpbldaaGreat.askR,Go.Proofs.YtchfclmokpbldaaGreat.askR,SiteE.askE h]
def SiteE.confirmE (c:List XCut) (fl:List XSpan) (r:XRest) (p t:Int):confirmE s c fl r p t=confirmE s' c fl r p t:=by
 have e:Jia s r p↔Jia s' r p:=by unfold Jia;rw [SiteE.persons h]
 simp only [Go.Proofs.YtchfclmokpbldaaGreat.confirmE,SiteE.sharedE h,SiteE.readyE h,e]
def SiteE.confirmR (c:List XCut) (fl:List XSpan) (r:XRest) (p t:Int):confirmR s c fl r p t=confirmR s' c fl r p t:=by rw [Go.Proofs.YtchfclmokpbldaaGreat.confirmR,Go.Proofs.YtchfclmokpbldaaGreat.confirmR,SiteE.confirmE h]
end
end
section
def K2g (x:XSwitch) (t:Int):XSwitch:=⟨x.above,t,0,false,false⟩
def Yj (sw:List XSwitch) (s t:Int):List XSwitch:=if (sw.getD s.toNat default).closed=true then sw.set s.toNat (K2g (sw.getD s.toNat default) t) else sw
def J1e (sw:List XSwitch) (s t:Int):(Yj sw s t).length=sw.length:=by rw [Yj];split <;> simp
structure SwKeep (sw sw':List XSwitch) (t:Int):Prop where
 len:sw'.length=sw.length
 at_:∀i:Nat,i < sw.length→(sw'.getD i default).above=(sw.getD i default).above∧((sw'.getD i default).since=(sw.getD i default).since∨(sw'.getD i default).since=t)∧(-1≤(sw'.getD i default).shown∧(sw'.getD i default).shown≤1)∧¬ ((sw'.getD i default).late=true∧((sw'.getD i default).closed=true∨(sw'.getD i default).shown= -1))
def Yoe {sw:List XSwitch} {zn:List Int} {rp:Int} (h:feedE sw zn rp=0):∀i:Nat,i < sw.length→(-1≤(sw.getD i default).shown∧(sw.getD i default).shown≤1)∧¬ ((sw.getD i default).late=true∧((sw.getD i default).closed=true∨(sw.getD i default).shown= -1)):=fun i hi=>by
 by_cases h0:32 < sw.length∨16 < zn.length
 ·rw [feedE,if_pos h0] at h;omega
 cases h1:(List.range sw.length).findSome? (Vca sw) with
 | some e=>rw [Krb h0 h1] at h;exact absurd h (Vhc (fun _=>Zgd) h1)
 | none=>
  have:=Vcb h1 hi
  rw [Vca] at this
  split at this
  ·cases this
  split at this
  ·cases this
  split at this
  ·cases this
  rename_i k1 k2 k3
  rw [not_or] at k3
  exact ⟨by omega,k3.2⟩
def SwKeep.refl {sw:List XSwitch} {zn:List Int} {rp:Int} (h:feedE sw zn rp=0) (t:Int):SwKeep sw sw t:=⟨rfl,fun i hi=>⟨rfl,.inl rfl,Yoe h i hi⟩⟩
def SwKeep.feedE {sw sw':List XSwitch} {zn:List Int} {rp t:Int} (k:SwKeep sw sw' t) (h:feedE sw zn rp=0) (ht:0≤t∧t≤2147483648):feedE sw' zn rp=0:=by
 have hl:=k.len;have hok:=Ys h;have h0':¬ (32 < sw'.length∨16 < zn.length):=by have:=hok.sn;have:=hok.zl;omega
 have h1':(List.range sw'.length).findSome? (Vca sw')=none:=by
  rw [yK];intro i hi;rw [yQa,hl] at hi;have h2:=k.at_ i hi;have h3:=hok.up i hi;have h4:=hok.since i hi;exact Yte rfl za za (fun h=>by
   rcases h with h | h;·omega
   ·exact h2.2.2.2 h)
 have h2':(List.range zn.length).findSome? (Jdb sw'.length zn)=none:=by rw [yK];intro i hi;rw [yQa] at hi;have:=hok.zr i hi;exact V7e za (fun ⟨j,hj,e⟩=>hok.zd i j hj hi e)
 rw [Yvb h0' h1' h2',if_neg (by have:=hok.rp;omega)]
def SwKeep.time {sw sw':List XSwitch} {t:Int} (k:SwKeep sw sw' t) (h:Yya sw t):Yya sw' t:=⟨h.1,fun x hx=>by
 obtain ⟨i,hi⟩:=List.mem_iff_getElem?.1 hx
 have hi':=(List.getElem?_eq_some_iff.1 hi).1
 have hl:=k.len
 have e:=getD_some (d:=default) hi
 have h2:=k.at_ i za
 have h3:=h.2 _ (yi (Jn (l:=sw) (k:=i) default za))
 rw [e] at h2
 omega⟩
def SwKeep.set {sw sw':List XSwitch} {t:Int} (k:SwKeep sw sw' t) {i:Nat} {x:XSwitch} (h1:x.above=(sw'.getD i default).above) (h2:x.since=(sw'.getD i default).since∨x.since=t) (h3:-1≤x.shown∧x.shown≤1) (h4:¬ (x.late=true∧(x.closed=true∨x.shown= -1))):SwKeep sw (sw'.set i x) t:=by
 refine ⟨by rw [yL];exact k.len,fun j hj=>?_⟩;have hl:=k.len;have hk:=k.at_ j hj;rw [yh,yO];split;·
  rename_i e;subst e;rw [if_pos za];refine ⟨by rw [← hk.1,← h1];rfl,?_,h3,h4⟩;rcases h2 with h2 | h2;·
   rcases hk.2.1 with h5 | h5;·exact .inl (by rw [← h5,← h2];rfl)
   ·exact .inr (by rw [← h5,← h2];rfl)
  ·exact .inr h2
 ·rw [← yh];exact hk
def SwKeep.openS {sw sw':List XSwitch} {t:Int} (k:SwKeep sw sw' t) (s:Int):SwKeep sw (Yj sw' s t) t:=by
 rw [Yj];split;·exact k.set rfl (.inr rfl) ⟨by show (-1:Int)≤0;decide,by show (0:Int)≤1;decide⟩ (by simp [K2g])
 ·exact k
def Yvd (x:XSwitch):Bool:=!x.closed && decide (x.shown≠-1) && !x.late
structure XTick where
 sw:List XSwitch
 late:List Int
 opened : List Int
 deriving Inhabited
def Uje (x:XSwitch):XSwitch:=⟨x.above,x.since,x.shown,x.closed,true⟩
def Vhb (rp t:Int) (y:XTick) (i:Nat):XTick:=
 if Yvd (y.sw.getD i default)=true∧rp≤t - (y.sw.getD i default).since then
  if 0≤(y.sw.getD i default).above∧((y.sw.set i (Uje (y.sw.getD i default))).getD (y.sw.getD i default).above.toNat default).closed=true then
   ⟨Yj (y.sw.set i (Uje (y.sw.getD i default))) (y.sw.getD i default).above t,y.late ++ [(i:Int)],y.opened ++ [(y.sw.getD i default).above]⟩
  else ⟨y.sw.set i (Uje (y.sw.getD i default)),y.late ++ [(i:Int)],y.opened⟩
 else y
def Yva (sw : List XSwitch) (rp t : Int) : Nat → XTick
 | 0=>⟨sw,[],[]⟩
 | k + 1=>Vhb rp t (Yva sw rp t k) (sw.length - 1 - k)
def Uoa (sw:List XSwitch) (rp t:Int):XTick:=Yva sw rp t sw.length
def Kzd {sw:List XSwitch} {rp t:Int} {y:XTick} (i:Nat) (hi:i < sw.length) (k:SwKeep sw y.sw t):SwKeep sw (Vhb rp t y i).sw t:=by
 have h2:=k.at_ i hi;rw [Vhb];split;·
  rename_i hw;have hw1:=hw.1;rw [Yvd,yo,yo,decide_eq_true_eq] at hw1;have hs:SwKeep sw (y.sw.set i (Uje (y.sw.getD i default))) t:=k.set rfl (.inl rfl) h2.2.2.1 (fun h=>by
   rcases h.2 with h | h;·have : (y.sw.getD i default).closed = true := h;rw [this] at hw1;exact absurd hw1.1.1 ze
   ·exact hw1.1.2 h)
  split;·exact hs.openS _
  ·exact hs
 ·exact k
def Yla {sw : List XSwitch} {zn : List Int} {rp t : Int} (h : feedE sw zn rp = 0) : ∀ k, k ≤ sw.length → SwKeep sw (Yva sw rp t k).sw t
 | 0,_=>.refl h t
 | k + 1,hk=>Kzd _ za (Yla h k za)
def J4e {rp t:Int} {y:XTick} {i:Nat}:(Vhb rp t y i).late.length≤y.late.length + 1∧(Vhb rp t y i).opened.length≤y.opened.length + 1:=by
 rw [Vhb];repeat' split
 all_goals (first | (simp only [yl,yA,yfa];omega) | omega)
def U0b {sw : List XSwitch} {rp t : Int} : ∀ k, (Yva sw rp t k).late.length ≤ k ∧ (Yva sw rp t k).opened.length ≤ k
 | 0=>⟨ym _,ym _⟩
 | k + 1=>by
  have h1:=U0b (sw:=sw) (rp:=rp) (t:=t) k
  have h2:=J4e (rp:=rp) (t:=t) (y:=Yva sw rp t k) (i:=sw.length - 1 - k)
  rw [Yva];omega
end
end Go.Proofs.YtchfclmokpbldaaGreat
