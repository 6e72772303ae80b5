/-
  Texts of one chapter, merged. By an AI agent; no person has read it.
-/
import Derived.Test.YtchfclmokpbldaaGreatRestN
import Derived.Test.YtchfclmokpbldaaGreatCongrS
set_option linter.unusedVariables false
set_option linter.unusedSimpArgs false
set_option maxRecDepth 20000
namespace Go.Proofs.YtchfclmokpbldaaGreat
open Go.Aw Go
section
section
variable {A9 B9:Prop}
theorem V6d (a:A9) (h:A9→B9:=by exact Jx zkb rfl):B9:=h a
theorem Ymd (a:A9) (h:A9→B9:=by exact Kt rfl (Go.Proofs.YtchfclmokpbldaaGreat.YV.gives2 zKb) rfl rfl):B9:=h a
theorem K4e (a:A9) (h:A9→B9:=by exact V8 zKc rfl rfl rfl rfl):B9:=h a
theorem Kae (a:A9) (h:A9→B9:=by exact V8 zkb rfl rfl rfl rfl):B9:=h a
theorem J8e (a:A9) (h:A9→B9:=by exact Kv (Ud zfb) rfl rfl rfl):B9:=h a
theorem Y8e (a:A9) (h:A9→B9:=by exact Jx zmb rfl):B9:=h a
theorem Z4e (a:A9) (h:A9→B9:=by exact Jx zob rfl):B9:=h a
theorem Yue (a:A9) (h:A9→B9:=by exact Kt rfl zcc rfl rfl):B9:=h a
theorem Yhe (a:A9) (h:A9→B9:=by exact U6c 6 hT3 (List.nil_sublist _) ze rfl rfl rfl rfl rfl zzb):B9:=h a
theorem Z5e (a:A9) (h:A9→B9:=by exact Kt rfl zqc rfl rfl):B9:=h a
theorem Yse (a:A9) (h:A9→B9:=by exact Kx zob rfl rfl rfl rfl):B9:=h a
end
theorem Jff {P:Program} {fn:Func} {t:Nat→Value} {L:List Blk} {R:List Sl} {r s q z:ResultVar} {v u x y:Value} (hr:fn.results=#[r,s,q,z]) (h:RV P t L R r v) (k:RV P t L R s u) (m:RV P t L R q x) (m2:RV P t L R z y):∀c n a w,Fr n t a→St c L R w→(results fn a.tmps).run P w=.ok (.tuple #[v,u,x,y]) w:=by
  intro c n a w hf hs
  have h1:=Y6a h hf hs
  have h2:=Y6a k hf hs
  have h3:=Y6a m hf hs
  have h4:=Y6a m2 hf hs
  rw [K5a,hr]
  simp [h1,h2,h3,h4]
attribute [local irreducible] CJ LJ DJ Tri YV Gives Ui J0 Ke Uh RV J2 OwL.L
def atR (f:XFeeder) (k:Int):Int:=Vfe f.switches.l (V1a f.switches.l f.zones.l f.reply (f.zones.l.getD k.toNat 0))
def Z5 (s:XSite) (c:List XCut) (fl:List XSpan) (r:XRest) (f:XFeeder) (t:Int):Int:=
  if sharedE s c.length fl.length t≠0 then sharedE s c.length fl.length t
  else if r.zone= -1∨r.step≠2 then 10
  else if Ujc r t then 8
  else if readyE s c fl r.zone t≠0 then readyE s c fl r.zone t
  else if feedE f.switches.l f.zones.l f.reply≠0 then feedE f.switches.l f.zones.l f.reply
  else if f.zones.l.length≠s.zones.l.length then 17
  else if Ztb c f.switches.l f.zones.l f.reply r.zone (atR f r.zone) then 20 else 0
theorem J9b {s:XSite} {c:List XCut} {fl:List XSpan} {k t:Int} (h:readyE s c fl k t=0):0≤k∧k < c.length:=by
  rw [readyE] at h
  split at h
  · cases h
  · omega
theorem Uge (s:XSite) (c:Arr XCut) (fl:Arr XSpan) (r:XRest) (f:XFeeder) (t:Int) (L:List Blk) (R:List Sl) (h:RestA s c fl R) (hf:FeederR f R):
    Tri Tryz.prog 165 [s.val,c.val,fl.val,r.val,f.val,.int .i64 t].toArray L R (fun v L' R'=>∃a:Int,v=.tuple #[.int .i64 a,.int .i64 (Z5 s c.l fl.l r f t)]∧(Z5 s c.l fl.l r f t=0→a=atR f r.zone)∧L=L'∧∀r∈R,InR r R'):=by
  refine Jg 70 Tryz.call165 Tryz.func165 rfl rfl rfl ?_
  refine Xag ?_
  intro b6
  refine qax ?_
  intro b9
  refine qax ?_
  intro b10
  refine qad ?_
  refine Xas ?_
  refine Y8e ?_
  refine qbm ?_
  refine Xau ?_
  refine q_l rfl (U1a s c fl t _ _ h) ?_
  refine Xa7 ?_
  refine q_c (fun hc0=>?_) (fun hc0=>?_)
  ·
   refine Xdj ?_
   refine Xai ?_
   refine q_r (L':=L) (R':=R) zRc ?_
   have he:Z5 s c.l fl.l r f t=sharedE s c.l.length fl.l.length t:=by rw [Z5,if_pos hc0]
   exact zmd
  obtain ⟨hok,hln,ht⟩:=Jdb (s:=s) (nc:=c.l.length) (nf:=fl.l.length) (t:=t) za
  refine Xct ?_
  refine qah ?_
  apply J9 (G:=[_,_,_]) (j:=3) (cj:=30) rfl rfl zb rfl zdb rfl
  ·
   intro hg4
   replace hg4:=qb hg4
   refine Xaa ?_
   exact zfd
  intro junk4
  refine qaf ?_
  refine q_c (fun hc1=>?_) (fun hc1=>?_)
  ·
   refine Xab ?_
   refine Xai ?_
   refine q_r (L':=L) (R':=R) zRc ?_
   have he:Z5 s c.l fl.l r f t=10:=by rw [Z5,if_neg hc0,if_pos za]
   exact zmd
  refine qbo ?_
  refine Z4e ?_
  refine qaa ?_
  refine q_l rfl (Jud r t _ _ ht) ?_
  refine qaf ?_
  refine q_c (fun hc2=>?_) (fun hc2=>?_)
  ·
   refine Xab ?_
   refine Xai ?_
   refine q_r (L':=L) (R':=R) zRc ?_
   have he:Z5 s c.l fl.l r f t=8:=by rw [Z5,if_neg hc0,if_neg za,if_pos zJ]
   exact zmd
  have hlt:¬ Ujc r t:=by simpa using hc2
  refine qbo ?_
  refine Y8e ?_
  refine qbm ?_
  refine qbm ?_
  refine Xam ?_
  refine q_l rfl (Yfb s c fl r.zone t _ _ h hok hln ht) ?_
  refine Xa7 ?_
  refine q_c (fun hc3=>?_) (fun hc3=>?_)
  ·
   refine Xdj ?_
   refine Xai ?_
   refine q_r (L':=L) (R':=R) zRc ?_
   have he:Z5 s c.l fl.l r f t=readyE s c.l fl.l r.zone t:=by rw [Z5,if_neg hc0,if_neg za,if_neg hlt,if_pos hc3]
   exact zmd
  refine qbo ?_
  refine V6d ?_
  refine q_l rfl (Vu f _ _ hf) ?_
  refine Xa7 ?_
  refine q_c (fun hc4=>?_) (fun hc4=>?_)
  ·
   refine Xdj ?_
   refine Xai ?_
   refine q_r (L':=L) (R':=R) zRc ?_
   have he:Z5 s c.l fl.l r f t=feedE f.switches.l f.zones.l f.reply:=by rw [Z5,if_neg hc0,if_neg za,if_neg hlt,if_neg hc3,if_pos hc4]
   exact zmd
  refine qbo ?_
  refine Xac ?_
  refine Xac ?_
  refine Xaq ?_
  refine q_c (fun hc5=>?_) (fun hc5=>?_)
  ·
   refine Xab ?_
   refine Xai ?_
   refine q_r (L':=L) (R':=R) zRc ?_
   have he:Z5 s c.l fl.l r f t=17:=by rw [Z5,if_neg hc0,if_neg za,if_neg hlt,if_neg hc3,if_neg hc4,if_pos za]
   exact zmd
  have hrz:=J9b (s:=s) (c:=c.l) (fl:=fl.l) (k:=r.zone) (t:=t) za
  refine qbv ?_
  refine qbm ?_
  refine V6d ?_
  refine Xaa ?_
  refine Js rfl (J1d c f r.zone _ _ h.cuts hf za za za) rfl ?_
  rintro v L' R' ⟨rfl,rfl,hR2⟩
  refine Jx zDb rfl ?_
  refine Xa4 ?_
  refine Xbn ?_
  refine qaw ?_
  refine qah ?_
  refine qaf ?_
  refine q_c (fun hc6=>?_) (fun hc6=>?_)
  ·
   refine Xab ?_
   refine Xai ?_
   refine q_r (L':=L) (R':=_) zRc ?_
   have he:Z5 s c.l fl.l r f t=20:=by rw [Z5,if_neg hc0,if_neg za,if_neg hlt,if_neg hc3,if_neg hc4,if_neg za,if_pos (by simpa [atR] using hc6)]
   exact ⟨0,by rw [he],fun h=>by omega,rfl,hR2⟩
  refine qbv ?_
  refine qaa ?_
  refine qad ?_
  refine Xah ?_
  refine q_r (L':=L) (R':=_) zRc ?_
  have he:Z5 s c.l fl.l r f t=0:=by rw [Z5,if_neg hc0,if_neg za,if_neg hlt,if_neg hc3,if_neg hc4,if_neg za,if_neg (by simpa [atR] using hc6)]
  exact ⟨atR f r.zone,by rw [he];rfl,fun _=>rfl,rfl,hR2⟩
theorem Kid {s:XSite} {c:List XCut} {fl:List XSpan} {r:XRest} {f:XFeeder} {t:Int} (h:Z5 s c fl r f t=0):(0≤r.zone∧r.zone < c.length)∧c.length=f.zones.l.length∧feedE f.switches.l f.zones.l f.reply=0:=by
  rw [Z5] at h
  split at h
  · omega
  rename_i h0
  obtain ⟨_,hln,_⟩:=Jdb (Decidable.not_not.1 h0)
  split at h
  · cases h
  split at h
  · cases h
  split at h
  · omega
  rename_i h3
  have:=J9b (Decidable.not_not.1 h3)
  split at h
  · omega
  split at h
  · cases h
  omega
def Vg (s:XSite) (c:List XCut) (fl:List XSpan) (r:XRest) (f:XFeeder) (t:Int):Int:=
  if Z5 s c fl r f t≠0 then Z5 s c fl r f t else Vqa f.switches.l f.zones.l f.reply (atR f r.zone) t
def J0e (f:XFeeder) (r:XRest):Prop:=atR f r.zone=f.zones.l.getD r.zone.toNat 0
instance (f:XFeeder) (r:XRest):Decidable (J0e f r):=by unfold J0e;infer_instance
def Yf (s:XSite) (c:List XCut) (fl:List XSpan) (r:XRest) (f:XFeeder) (t:Int):XRest:=
  if Vg s c fl r f t≠0 then r else if J0e f r then noRest else ⟨r.zone,r.first,r.second,r.step,t⟩
def Vw (s:XSite) (c:List XCut) (fl:List XSpan) (r:XRest) (f:XFeeder) (t:Int):List XCut:=
  if Vg s c fl r f t≠0 then c else if J0e f r then c.set r.zone.toNat ⟨false,(c.getD r.zone.toNat default).clear,(c.getD r.zone.toNat default).reason⟩ else c
def Vj (s:XSite) (c:List XCut) (fl:List XSpan) (r:XRest) (f:XFeeder) (t:Int):List XSwitch:=
  if Vg s c fl r f t≠0 then f.switches.l else Uxb f.switches.l (atR f r.zone) t
structure CloseIs (s:XSite) (c:List XCut) (fl:List XSpan) (r:XRest) (f:XFeeder) (t:Int) (q:XRest) (c2:List XCut) (sw:List XSwitch) (zn:List Int) (rp:Int):Prop where
  rest:q=Yf s c fl r f t
  cuts:c2=Vw s c fl r f t
  sw:sw=Vj s c fl r f t
  zn:zn=f.zones.l
  rp:rp=f.reply
theorem U8b {s:XSite} {c:List XCut} {fl:List XSpan} {r:XRest} {f:XFeeder} {t e:Int} (h:Vg s c fl r f t=e) (he:e≠0):CloseIs s c fl r f t r c f.switches.l f.zones.l f.reply:=by
  have h0:Vg s c fl r f t≠0:=by omega
  exact ⟨by rw [Yf,if_pos h0],by rw [Vw,if_pos h0],by rw [Vj,if_pos h0],rfl,rfl⟩
theorem Z7d (s:XSite) (c:Arr XCut) (fl:Arr XSpan) (r:XRest) (f:XFeeder) (t:Int) (L:List Blk) (R:List Sl) (h:RestA s c fl R) (hf:FeederR f R) (hn:c.l.length≤1000∧f.switches.l.length≤1000∧f.zones.l.length≤1000):
    Tri Tryz.prog 87 [s.val,c.val,fl.val,r.val,f.val,.int .i64 t].toArray L R (fun v L' R'=>∃(q:XRest) (pc:OwL XCut) (psw:OwL XSwitch) (pz:OwL Int) (rp:Int),v=.tuple #[q.val,pc.val,.agg #[psw.val,pz.val,.int .i64 rp],.int .i64 (Vg s c.l fl.l r f t)]∧
      (pc.ok 3 XCut.cells∧psw.ok 5 XSwitch.cells∧pz.ok 1 Jp)∧CloseIs s c.l fl.l r f t q pc.l psw.l pz.l rp∧pz.L 3 Jp ++ (psw.L 76 XSwitch.cells ++ (pc.L 71 XCut.cells ++ L))=L'∧∀r∈R,InR r R'):=by
  have hcR:=h.cuts
  have hsR:=hf.sw
  have hzR:=hf.zn
  refine Jg 84 Tryz.call87 Tryz.func87 rfl rfl rfl ?_
  refine Xag ?_
  intro b6
  refine qax ?_
  intro b9
  refine qax ?_
  intro b10
  refine qaq ?_
  intro b12
  refine qc4 ?_
  refine qaq ?_
  intro b14
  refine Xaf ?_
  refine qbm ?_
  refine Y9 (Km (f:=XCut.cells) (xs:=c) tb rfl rfl rfl zc rfl rfl (hcR) (fun _=>rfl) za) rfl ?_
  rintro v L' R' ⟨o23,rfl,hok23,rfl,rfl⟩
  refine qc4 ?_
  refine qam ?_
  refine V6d ?_
  refine qaq ?_
  intro b17
  refine Xc2 ?_
  refine Juc [25,26,27,28,29,30,31,32] ((⟨fun _=>[],fun g=>(⟨g.1.2,f.zones.l⟩:OwL Int).L 3 Jp ++ ((⟨g.1.1,f.switches.l⟩:OwL XSwitch).L 76 XSwitch.cells ++ (⟨b17,[(⟨g.1.1,f.switches.l⟩:OwL XSwitch).val,(⟨g.1.2,f.zones.l⟩:OwL Int).val,.int .i64 f.reply],42⟩ :: ((⟨o23,c.l⟩:OwL XCut).L 71 XCut.cells ++ (⟨b14,[.slice none 0 0,.slice none 0 0,.int .i64 0],42⟩ :: ⟨b12,[.int .i64 0,.int .i64 0,.int .i64 0,.int .i64 0,.int .i64 0],51⟩ :: ⟨b10,f.cells,42⟩ :: ⟨b9,r.cells,51⟩ :: ⟨b6,s.cells,38⟩ :: L)))),fun _=>R,fun _=>0⟩:Head {g:Ow×Ow // (⟨g.1,f.switches.l⟩:OwL XSwitch).ok 5 XSwitch.cells∧(⟨g.2,f.zones.l⟩:OwL Int).ok 1 Jp})) ?_ ?_
  ·
   skip
   refine Ypc tb [] [0,1,3,4,2,6,5] [7,8,9] (_) [] 7 K1 ze rfl rfl zi fun hT3=>?_
   refine U6c 0 hT3 (List.nil_sublist _) ze rfl rfl rfl rfl rfl zzb ?_
   refine U6c 3 hT3 (List.nil_sublist _) ze rfl rfl rfl rfl rfl zzb ?_
   refine Jj [1,4] hT3 (List.nil_sublist _) ze ?_
   refine Jq ?_ ?_
   ·
    skip
    refine Ymd ?_
    rintro v L' R' ⟨rfl,rfl,rfl⟩
    refine qa1 ?_
    refine Jj [2,4] hT3 (List.nil_sublist _) ze ?_
    refine Jq ?_ ?_
    ·
     skip
     refine Yue ?_
     rintro v L' R' ⟨o27,rfl,hok27,rfl,rfl⟩
     refine qa1 ?_
     refine Yhe ?_
     refine Jj [4] hT3 (List.nil_sublist _) ze ?_
     refine qca ?_
     refine Ymd ?_
     rintro v L' R' ⟨rfl,rfl,rfl⟩
     refine qa1 ?_
     refine Jj [5] hT3 (List.nil_sublist _) ze ?_
     refine qca ?_
     refine Z5e ?_
     rintro v L' R' ⟨o30,rfl,hok30,rfl,rfl⟩
     refine qa1 ?_
     refine Ka hT3 (List.nil_sublist _) ze rfl ?_
     refine qbw ?_
     refine Xc0 ?_
     refine J1 ?_
     first
       | exact Jt ⟨(o27,o30),hok27,hok30⟩ zm zg (List.Perm.refl _) (List.Sublist.refl _) zqb
       | exact Jt ⟨(o27,o30),hok27,hok30⟩ zm zg (List.perm_append_comm_assoc _ _ _) (List.Sublist.refl _) zqb
    refine qca ?_
    refine Ymd ?_
    rintro v L' R' ⟨rfl,rfl,rfl⟩
    refine qa1 ?_
    refine Jj [2] hT3 (List.nil_sublist _) ze ?_
    refine qca ?_
    refine Yue ?_
    rintro v L' R' ⟨o27,rfl,hok27,rfl,rfl⟩
    refine qa1 ?_
    refine Yhe ?_
    refine Jj [5] hT3 (List.nil_sublist _) ze ?_
    refine qca ?_
    refine Z5e ?_
    rintro v L' R' ⟨o30,rfl,hok30,rfl,rfl⟩
    refine qa1 ?_
    refine Ka hT3 (List.nil_sublist _) ze rfl ?_
    refine qbw ?_
    refine Xc0 ?_
    refine J1 ?_
    first
      | exact Jt ⟨(o27,o30),hok27,hok30⟩ zm zg (List.Perm.refl _) (List.Sublist.refl _) zqb
      | exact Jt ⟨(o27,o30),hok27,hok30⟩ zm zg (List.perm_append_comm_assoc _ _ _) (List.Sublist.refl _) zqb
   refine qca ?_
   refine Ymd ?_
   rintro v L' R' ⟨rfl,rfl,rfl⟩
   refine qa1 ?_
   refine Jj [1] hT3 (List.nil_sublist _) ze ?_
   refine qca ?_
   refine Ymd ?_
   rintro v L' R' ⟨rfl,rfl,rfl⟩
   refine qa1 ?_
   refine Jj [2] hT3 (List.nil_sublist _) ze ?_
   refine qca ?_
   refine Yue ?_
   rintro v L' R' ⟨o27,rfl,hok27,rfl,rfl⟩
   refine qa1 ?_
   refine Yhe ?_
   refine Jj [5] hT3 (List.nil_sublist _) ze ?_
   refine qca ?_
   refine Z5e ?_
   rintro v L' R' ⟨o30,rfl,hok30,rfl,rfl⟩
   refine qa1 ?_
   refine Ka hT3 (List.nil_sublist _) ze rfl ?_
   refine qbw ?_
   refine Xc0 ?_
   refine J1 ?_
   first
     | exact Jt ⟨(o27,o30),hok27,hok30⟩ zm zg (List.Perm.refl _) (List.Sublist.refl _) zqb
     | exact Jt ⟨(o27,o30),hok27,hok30⟩ zm zg (List.perm_append_comm_assoc _ _ _) (List.Sublist.refl _) zqb
  rintro ⟨⟨oS,oZ⟩,hkS,hkZ⟩ junk
  try dsimp only
  dsimp only at hkS hkZ
  refine qae ?_
  refine Y8e ?_
  refine qbm ?_
  refine qbm ?_
  refine Z4e ?_
  refine V6d ?_
  refine qaa ?_
  refine Js rfl (Uge s c fl r f t _ _ h hf) rfl ?_
  rintro v L' R' ⟨a,rfl,ha,rfl,hR2⟩
  have hf2:=hf.mono hR2
  have hzR2:=hf2.zn
  refine Jx zDb rfl ?_
  refine Xa4 ?_
  refine qad ?_
  refine Xdb ?_
  refine Xaq ?_
  refine q_c (fun hc0=>?_) (fun hc0=>?_)
  ·
   refine Jn ?_
   refine Kj tb [46,47,48] [0,1,2,3] [4,5,6,7] ([Blk.mk b17 _ _,Blk.mk b14 _ _,Blk.mk b12 _ _,Blk.mk b9 _ _]) _ K1 ze zi zga ?_
   refine Yse ?_
   refine K4e ?_
   refine Kae ?_
   refine V8 (Jy zeb) rfl rfl rfl rfl ?_
   refine Xda ?_
   refine J8e ?_
   refine Xdg ?_
   refine J1 (Jb (Uo (J7 ?_)))
   refine q_r (L':=(⟨oZ,f.zones.l⟩:OwL Int).L 3 Jp ++ ((⟨oS,f.switches.l⟩:OwL XSwitch).L 76 XSwitch.cells ++ ((⟨o23,c.l⟩:OwL XCut).L 71 XCut.cells ++ L))) (R':=_) zWc ?_
   have he:Vg s c.l fl.l r f t=Z5 s c.l fl.l r f t:=by rw [Vg,if_pos hc0]
   exact ⟨r,⟨o23,c.l⟩,⟨oS,f.switches.l⟩,⟨oZ,f.zones.l⟩,f.reply,by rw [he];rfl,⟨hok23,hkS,hkZ⟩,U8b he hc0,rfl,hR2⟩
  obtain rfl:a=atR f r.zone:=ha za
  obtain ⟨hrz,hcz,hfe⟩:=Kid (s:=s) (c:=c.l) (fl:=fl.l) (r:=r) (f:=f) (t:=t) za
  have he:Vg s c.l fl.l r f t=Vqa f.switches.l f.zones.l f.reply (atR f r.zone) t:=by rw [Vg,if_neg hc0]
  have hzg:=Jw (l:=f.zones.l) (k:=r.zone.toNat) 0 za
  have hxg:=Jw (l:=c.l) (k:=r.zone.toNat) default za
  obtain ⟨x,hx⟩:∃x,x=c.l.getD r.zone.toNat default:=⟨_,rfl⟩
  rw [← hx] at hxg
  refine qbv ?_
  refine V6d ?_
  refine Xbh ?_
  refine Js rfl (J4c f (atR f r.zone) t _ _ hf2) rfl ?_
  rintro v L' R' ⟨p,q,rp,rfl,⟨hpk,hqk⟩,hcl,rfl,rfl⟩
  refine Jx zDb rfl ?_
  refine Xcx ?_
  intro b20
  refine qak ?_
  refine Xdb ?_
  refine Xaq ?_
  refine q_c (fun hc1=>?_) (fun hc1=>?_)
  ·
   refine Jn ?_
   refine Kj tb [59,60,61] [0,1,2,3] [4,5,6,7] ([Blk.mk b17 _ _,Blk.mk b14 _ _,Blk.mk b12 _ _,Blk.mk b9 _ _]) _ K1 ze zi zga ?_
   refine Yse ?_
   refine K4e ?_
   refine Kae ?_
   refine V8 (Jy zeb) rfl rfl rfl rfl ?_
   refine Xda ?_
   refine J8e ?_
   refine Xdg ?_
   refine J1 (Jb (Uo (J7 ?_)))
   refine q_r (L':=(⟨oZ,f.zones.l⟩:OwL Int).L 3 Jp ++ ((⟨oS,f.switches.l⟩:OwL XSwitch).L 76 XSwitch.cells ++ ((⟨o23,c.l⟩:OwL XCut).L 71 XCut.cells ++ L))) (R':=_) zWc ?_
   exact ⟨r,⟨o23,c.l⟩,⟨oS,f.switches.l⟩,⟨oZ,f.zones.l⟩,f.reply,by rw [he];rfl,⟨hok23,hkS,hkZ⟩,U8b he hc1,rfl,hR2⟩
  obtain ⟨hpl,hql,rfl⟩:=hcl za
  have hce:Vqa f.switches.l f.zones.l f.reply (atR f r.zone) t=0:=by omega
  have he0:¬ Vg s c.l fl.l r f t≠0:=by omega
  refine qbo ?_
  refine qaa ?_
  refine Xbe ?_
  refine Jx zWa rfl ?_
  refine qa7 ?_
  refine Xaq ?_
  refine q_c (fun hc2=>?_) (fun hc2=>?_)
  ·
   refine qae ?_
   refine Z4e ?_
   refine qaq ?_
   intro b21
   refine Xa0 ?_
   refine qaa ?_
   refine Xbj ?_
   refine qa4 ?_
   refine Kj tb [74,75] [0,1,2] [3,4,5,6] ([Blk.mk b21 _ _,Blk.mk b20 _ _,Blk.mk b14 _ _,Blk.mk b12 _ _]) _ K1 ze zi zga ?_
   refine Yse ?_
   refine K4e ?_
   refine Kae ?_
   refine Xda ?_
   refine J8e ?_
   refine Xdg ?_
   refine J1 (Jb (Uo (J7 ?_)))
   refine q_r (L':=q.L 3 Jp ++ (p.L 76 XSwitch.cells ++ ((⟨o23,c.l⟩:OwL XCut).L 71 XCut.cells ++ L))) (R':=_) zWc ?_
   exact ⟨⟨r.zone,r.first,r.second,r.step,t⟩,⟨o23,c.l⟩,p,q,f.reply,by rw [he,hce];rfl,⟨hok23,hpk,hqk⟩,⟨by rw [Yf,if_neg he0,if_neg (by rw [J0e];omega)],by rw [Vw,if_neg he0,if_neg (by rw [J0e];omega)],by rw [Vj,if_neg he0,hpl],hql,rfl⟩,rfl,hR2⟩
  refine qbv ?_
  refine Xcg ?_
  refine Jx (Ju tb ((⟨o23,c.l⟩:OwL XCut)) _ rfl rfl rfl rfl zh (i:=r.zone.toNat) zk zu) rfl ?_
  refine qb0 ?_
  refine Ye (Jr tb ((⟨o23,c.l⟩:OwL XCut)) (⟨false,x.clear,x.reason⟩) rfl rfl rfl rfl zj zh (fun _=>rfl) zh zc zb zb) ?_
  rintro v L' R' ⟨rfl,rfl⟩
  refine qa4 ?_
  have hpc2:=OwL.set_ok (f:=XCut.cells) (wd:=3) (p:=⟨o23,c.l⟩) (i:=r.zone.toNat) (x:=⟨false,x.clear,x.reason⟩) (fun _=>rfl) hok23
  refine Kj tb [82,83] [1,2,0] [3,4,5,6] ([Blk.mk b20 _ _,Blk.mk b14 _ _,Blk.mk b12 _ _]) _ K1 ze zi zga ?_
  refine K4e ?_
  refine Kae ?_
  refine Vi rfl (J2c _ _) rfl rfl ?_
  rintro v L' R' ⟨rfl,rfl,rfl⟩
  refine ⟨zi,zw,?_⟩
  refine Xda ?_
  refine J8e ?_
  refine Xdg ?_
  refine J1 (Jb (Uo ?_))
  refine q_r (L':=q.L 3 Jp ++ (p.L 76 XSwitch.cells ++ ((⟨o23,c.l.set r.zone.toNat ⟨false,x.clear,x.reason⟩⟩:OwL XCut).L 71 XCut.cells ++ L))) (R':=_) zWc ?_
  exact ⟨noRest,⟨o23,c.l.set r.zone.toNat ⟨false,x.clear,x.reason⟩⟩,p,q,f.reply,by simp only [he,hce,OwL.val,List.length_set],⟨hpc2,hpk,hqk⟩,⟨by rw [Yf,if_neg he0,if_pos (by rw [J0e];omega)],by rw [Vw,if_neg he0,if_pos (by rw [J0e];omega),← hx],by rw [Vj,if_neg he0,hpl],hql,rfl⟩,rfl,hR2⟩
end
section
def Ysb (z:XZone):XZone:=⟨⟨none,0,z.rule.l⟩,z.hold,⟨none,0,z.roads.l⟩,z.fresh⟩
def Kw (s:XSite):XSite:=⟨Yv s.air,⟨none,0,s.sensors.l⟩,⟨none,0,s.conds.l⟩,⟨none,0,s.zones.l.map Ysb⟩,⟨none,0,s.persons.l⟩⟩
theorem Vpa (s:XSite) (k:Nat):(Kw s).zones.l.getD k default=Ysb (s.zones.l.getD k default):=Ueb rfl
theorem V4a (s:XSite):(Kw s).zones.l.length=s.zones.l.length:=List.length_map _
theorem Zbc (a:XAir) (x:XSens):V0a (Yv a) x=V0a a x:=by
  rw [V0a,V0a,show (Yv a).fans.l.length=a.fans.l.length from List.length_map _,show (Yv a).doors.l.length=a.doors.l.length from List.length_map _];rfl
theorem V7b (a:XAir) (S:List XSens):Ue (Yv a) S=Ue a S:=by
  have e:Zk (Yv a) S=Zk a S:=by
    funext i
    rw [Zk,Zk,Zbc]
  rw [Ue,Ue,e]
theorem Kac (s:XSite):Ym (Kw s)=Ym s:=by
  rw [Ym,Ym,show (Kw s).zones.l=s.zones.l.map Ysb from rfl,List.findSome?_map];rfl
theorem Jla (s:XSite):K2 (Kw s)=K2 s:=by
  rw [K2,K2,Kac,V4a,show Ky (Kw s).air=Ky s.air from Vrb _,show Ue (Kw s).air (Kw s).sensors.l=Ue s.air s.sensors.l from V7b _ _];rfl
theorem Y7a (s:XSite) (m:List XMeas) (w:List XWatch) (fl:List XSpan) (t:Int):valuesErr (Kw s) m w fl t=valuesErr s m w fl t:=by rw [valuesErr,valuesErr,Jla];rfl
theorem K0b (s:XSite) (v:List Int) (c:List XCut) (t:Int):cutsErr (Kw s) v c t=cutsErr s v c t:=by rw [cutsErr,cutsErr,Jla,V4a];rfl
theorem Y9b (s:XSite) (v:List Int) (c:List XCut) (t:Int):cutAt (Kw s) v c t=cutAt s v c t:=by
  funext i
  rw [cutAt,cutAt,Vpa];rfl
theorem Kab (s : XSite) (v : List Int) (c : List XCut) : ∀ k, Zu (Kw s) v c k = Zu s v c k
  | 0=>rfl
  | k + 1=>by rw [Zu,Zu,Kab s v c k,Vpa];rfl
theorem Uvb (s:XSite) (c:List XCut) (fl:List XSpan) (k t:Int):readyE (Kw s) c fl k t=readyE s c fl k t:=by rw [readyE,readyE,Vpa];rfl
theorem K1b (s:XSite) (n m:Nat) (t:Int):sharedE (Kw s) n m t=sharedE s n m t:=by rw [sharedE,sharedE,Jla,V4a];rfl
abbrev SiteE (s s':XSite):Prop:=Kw s=Kw s'
section
variable {s s':XSite} (h:SiteE s s')
include h
theorem SiteE.air:Yv s.air=Yv s'.air:=congrArg XSite.air zVb
theorem SiteE.sens:s.sensors.l=s'.sensors.l:=by
  have e:=congrArg (fun x:XSite=>x.sensors.l) zVb
  exact e
theorem SiteE.conds:s.conds.l=s'.conds.l:=by
  have e:=congrArg (fun x:XSite=>x.conds.l) zVb
  exact e
theorem SiteE.persons:s.persons.l=s'.persons.l:=by
  have e:=congrArg (fun x:XSite=>x.persons.l) zVb
  exact e
theorem SiteE.nfans:s.air.fans.l.length=s'.air.fans.l.length:=by
  have:=congrArg (fun x:XSite=>x.air.fans.l.length) zVb
  simpa [Kw,Yv] using this
theorem SiteE.ndoors:s.air.doors.l.length=s'.air.doors.l.length:=by
  have:=congrArg (fun x:XSite=>x.air.doors.l.length) zVb
  simpa [Kw,Yv] using this
theorem SiteE.nzones:s.zones.l.length=s'.zones.l.length:=by rw [← V4a s,h,V4a s']
theorem SiteE.zone (k:Nat):Ysb (s.zones.l.getD k default)=Ysb (s'.zones.l.getD k default):=by rw [← Vpa s,h,Vpa s']
theorem SiteE.rule (k:Nat):(s.zones.l.getD k default).rule.l=(s'.zones.l.getD k default).rule.l:=by
  have e:=congrArg (fun z:XZone=>z.rule.l) (SiteE.zone h k)
  exact e
theorem SiteE.door (k:Nat):(s.air.doors.l.getD k default).rests.l=(s'.air.doors.l.getD k default).rests.l:=by
  have e:Yya (s.air.doors.l.getD k default)=Yya (s'.air.doors.l.getD k default):=by rw [← U3b s.air,SiteE.air h,U3b s'.air]
  have e2:=congrArg (fun d:XDoor=>d.rests.l) e
  exact e2
theorem SiteE.err:K2 s=K2 s':=by rw [← Jla s,h,Jla s']
theorem SiteE.valuesErr (m:List XMeas) (w:List XWatch) (fl:List XSpan) (t:Int):valuesErr s m w fl t=valuesErr s' m w fl t:=by rw [← Y7a s,h,Y7a s']
theorem SiteE.valuesV (m:List XMeas) (w:List XWatch) (fl:List XSpan) (t:Int):valuesV s m w fl t=valuesV s' m w fl t:=by
  rw [Go.Proofs.YtchfclmokpbldaaGreat.valuesV,Go.Proofs.YtchfclmokpbldaaGreat.valuesV,SiteE.valuesErr h,SiteE.sens h,SiteE.conds h]
theorem SiteE.valuesW (m:List XMeas) (w:List XWatch) (fl:List XSpan) (t:Int):valuesW s m w fl t=valuesW s' m w fl t:=by
  rw [Go.Proofs.YtchfclmokpbldaaGreat.valuesW,Go.Proofs.YtchfclmokpbldaaGreat.valuesW,SiteE.valuesErr h,SiteE.sens h,SiteE.conds h]
theorem SiteE.cutsErr (v:List Int) (c:List XCut) (t:Int):cutsErr s v c t=cutsErr s' v c t:=by rw [← K0b s,h,K0b s']
theorem SiteE.cutAt (v:List Int) (c:List XCut) (t:Int):cutAt s v c t=cutAt s' v c t:=by rw [← Y9b s,h,Y9b s']
theorem SiteE.cutsC (v:List Int) (c:List XCut) (t:Int):cutsC s v c t=cutsC s' v c t:=by rw [Go.Proofs.YtchfclmokpbldaaGreat.cutsC,Go.Proofs.YtchfclmokpbldaaGreat.cutsC,SiteE.cutsErr h,SiteE.cutAt h]
theorem SiteE.cutsN (v:List Int) (c:List XCut) (t:Int):cutsN s v c t=cutsN s' v c t:=by
  rw [Go.Proofs.YtchfclmokpbldaaGreat.cutsN,Go.Proofs.YtchfclmokpbldaaGreat.cutsN,SiteE.cutsErr h,← Kab s,h,Kab s']
theorem SiteE.readyE (c:List XCut) (fl:List XSpan) (k t:Int):readyE s c fl k t=readyE s' c fl k t:=by rw [← Uvb s,h,Uvb s']
theorem SiteE.sharedE (n m:Nat) (t:Int):sharedE s n m t=sharedE s' n m t:=by rw [← K1b s,h,K1b s']
theorem SiteE.askE (c:List XCut) (fl:List XSpan) (r:XRest) (p k t:Int):askE s c fl r p k t=askE s' c fl r p k t:=by
  rw [Go.Proofs.YtchfclmokpbldaaGreat.askE,Go.Proofs.YtchfclmokpbldaaGreat.askE,SiteE.sharedE h,SiteE.readyE h,SiteE.persons h]
theorem SiteE.askR (c:List XCut) (fl:List XSpan) (r:XRest) (p k t:Int):askR s c fl r p k t=askR s' c fl r p k t:=by
  rw [Go.Proofs.YtchfclmokpbldaaGreat.askR,Go.Proofs.YtchfclmokpbldaaGreat.askR,SiteE.askE h]
theorem SiteE.confirmE (c:List XCut) (fl:List XSpan) (r:XRest) (p t:Int):confirmE s c fl r p t=confirmE s' c fl r p t:=by
  have e:Zd s r p↔Zd s' r p:=by unfold Zd;rw [SiteE.persons h]
  simp only [Go.Proofs.YtchfclmokpbldaaGreat.confirmE,SiteE.sharedE h,SiteE.readyE h,e]
theorem SiteE.confirmR (c:List XCut) (fl:List XSpan) (r:XRest) (p t:Int):confirmR s c fl r p t=confirmR s' c fl r p t:=by
  rw [Go.Proofs.YtchfclmokpbldaaGreat.confirmR,Go.Proofs.YtchfclmokpbldaaGreat.confirmR,SiteE.confirmE h]
end
end
section
def Unf (x:XSwitch) (t:Int):XSwitch:=⟨x.above,t,0,false,false⟩
def Vl (sw:List XSwitch) (s t:Int):List XSwitch:=if (sw.getD s.toNat default).closed=true then sw.set s.toNat (Unf (sw.getD s.toNat default) t) else sw
theorem Yma (sw:List XSwitch) (s t:Int):(Vl sw s t).length=sw.length:=by rw [Vl];split <;> simp
structure SwKeep (sw sw':List XSwitch) (t:Int):Prop where
  len:sw'.length=sw.length
  at_:∀i:Nat,i < sw.length→(sw'.getD i default).above=(sw.getD i default).above∧((sw'.getD i default).since=(sw.getD i default).since∨(sw'.getD i default).since=t)∧(-1≤(sw'.getD i default).shown∧(sw'.getD i default).shown≤1)∧¬ ((sw'.getD i default).late=true∧((sw'.getD i default).closed=true∨(sw'.getD i default).shown= -1))
theorem Zqd {sw:List XSwitch} {zn:List Int} {rp:Int} (h:feedE sw zn rp=0):∀i:Nat,i < sw.length→(-1≤(sw.getD i default).shown∧(sw.getD i default).shown≤1)∧¬ ((sw.getD i default).late=true∧((sw.getD i default).closed=true∨(sw.getD i default).shown= -1)):=fun i hi=>by
  by_cases h0:32 < sw.length∨16 < zn.length
  · rw [feedE,if_pos h0] at h;omega
  cases h1:(List.range sw.length).findSome? (K0a sw) with
  | some e=>rw [Zwa h0 h1] at h;exact absurd h (Jkc (fun _=>Jtd) h1)
  | none=>
    have:=J8b h1 hi
    rw [K0a] at this
    split at this
    · cases this
    split at this
    · cases this
    split at this
    · cases this
    rename_i k1 k2 k3
    rw [not_or] at k3
    exact ⟨by omega,k3.2⟩
theorem SwKeep.refl {sw:List XSwitch} {zn:List Int} {rp:Int} (h:feedE sw zn rp=0) (t:Int):SwKeep sw sw t:=⟨rfl,fun i hi=>⟨rfl,.inl rfl,Zqd h i hi⟩⟩
theorem SwKeep.feedE {sw sw':List XSwitch} {zn:List Int} {rp t:Int} (k:SwKeep sw sw' t) (h:feedE sw zn rp=0) (ht:0≤t∧t≤2147483648):feedE sw' zn rp=0:=by
  have hl:=k.len
  have hok:=Vy h
  have h0':¬ (32 < sw'.length∨16 < zn.length):=by have:=hok.sn;have:=hok.zl;omega
  have h1':(List.range sw'.length).findSome? (K0a sw')=none:=by
    rw [List.findSome?_eq_none_iff]
    intro i hi
    rw [List.mem_range,hl] at hi
    have h2:=k.at_ i hi
    have h3:=hok.up i hi
    have h4:=hok.since i hi
    exact Ykd rfl za za (fun h=>by
      rcases h with h | h
      · omega
      · exact h2.2.2.2 h)
  have h2':(List.range zn.length).findSome? (Yza sw'.length zn)=none:=by
    rw [List.findSome?_eq_none_iff]
    intro i hi
    rw [List.mem_range] at hi
    have:=hok.zr i hi
    exact Zgd za (fun ⟨j,hj,e⟩=>hok.zd i j hj hi e)
  rw [Ulb h0' h1' h2',if_neg (by have:=hok.rp;omega)]
theorem SwKeep.time {sw sw':List XSwitch} {t:Int} (k:SwKeep sw sw' t) (h:Vba sw t):Vba sw' t:=⟨h.1,fun x hx=>by
  obtain ⟨i,hi⟩:=List.mem_iff_getElem?.1 hx
  have hi':=(List.getElem?_eq_some_iff.1 hi).1
  have hl:=k.len
  have e:=getD_some (d:=default) hi
  have h2:=k.at_ i za
  have h3:=h.2 _ (List.mem_of_getElem? (Jw (l:=sw) (k:=i) default za))
  rw [e] at h2
  omega⟩
theorem SwKeep.set {sw sw':List XSwitch} {t:Int} (k:SwKeep sw sw' t) {i:Nat} {x:XSwitch} (h1:x.above=(sw'.getD i default).above) (h2:x.since=(sw'.getD i default).since∨x.since=t) (h3:-1≤x.shown∧x.shown≤1) (h4:¬ (x.late=true∧(x.closed=true∨x.shown= -1))):SwKeep sw (sw'.set i x) t:=by
  refine ⟨by rw [List.length_set];exact k.len,fun j hj=>?_⟩
  have hl:=k.len
  have hk:=k.at_ j hj
  rw [List.getD_eq_getElem?_getD,List.getElem?_set]
  split
  · rename_i e
    subst e
    rw [if_pos za]
    refine ⟨by rw [← hk.1,← h1];rfl,?_,h3,h4⟩
    rcases h2 with h2 | h2
    · rcases hk.2.1 with h5 | h5
      · exact .inl (by rw [← h5,← h2];rfl)
      · exact .inr (by rw [← h5,← h2];rfl)
    · exact .inr h2
  · rw [← List.getD_eq_getElem?_getD];exact hk
theorem SwKeep.openS {sw sw':List XSwitch} {t:Int} (k:SwKeep sw sw' t) (s:Int):SwKeep sw (Vl sw' s t) t:=by
  rw [Vl]
  split
  · exact k.set rfl (.inr rfl) ⟨by show (-1:Int)≤0;decide,by show (0:Int)≤1;decide⟩ (by simp [Unf])
  · exact k
def Ked (x:XSwitch):Bool:=!x.closed && decide (x.shown≠-1) && !x.late
structure XTick where
  sw:List XSwitch
  late:List Int
  opened : List Int
  deriving Inhabited
def Ynd (x:XSwitch):XSwitch:=⟨x.above,x.since,x.shown,x.closed,true⟩
def Y5a (rp t:Int) (y:XTick) (i:Nat):XTick:=
  if Ked (y.sw.getD i default)=true∧rp≤t - (y.sw.getD i default).since then
    if 0≤(y.sw.getD i default).above∧((y.sw.set i (Ynd (y.sw.getD i default))).getD (y.sw.getD i default).above.toNat default).closed=true then
      ⟨Vl (y.sw.set i (Ynd (y.sw.getD i default))) (y.sw.getD i default).above t,y.late ++ [(i:Int)],y.opened ++ [(y.sw.getD i default).above]⟩
    else ⟨y.sw.set i (Ynd (y.sw.getD i default)),y.late ++ [(i:Int)],y.opened⟩
  else y
def K7a (sw : List XSwitch) (rp t : Int) : Nat → XTick
  | 0=>⟨sw,[],[]⟩
  | k + 1=>Y5a rp t (K7a sw rp t k) (sw.length - 1 - k)
def Yg (sw:List XSwitch) (rp t:Int):XTick:=K7a sw rp t sw.length
theorem Zxc {sw:List XSwitch} {rp t:Int} {y:XTick} (i:Nat) (hi:i < sw.length) (k:SwKeep sw y.sw t):SwKeep sw (Y5a rp t y i).sw t:=by
  have h2:=k.at_ i hi
  rw [Y5a]
  split
  · rename_i hw
    have hw1:=hw.1
    rw [Ked,Bool.and_eq_true,Bool.and_eq_true,decide_eq_true_eq] at hw1
    have hs:SwKeep sw (y.sw.set i (Ynd (y.sw.getD i default))) t:=k.set rfl (.inl rfl) h2.2.2.1 (fun h=>by
      rcases h.2 with h | h
      · have : (y.sw.getD i default).closed = true := h
        rw [this] at hw1;exact absurd hw1.1.1 zc
      · exact hw1.1.2 h)
    split
    · exact hs.openS _
    · exact hs
  · exact k
theorem Uha {sw : List XSwitch} {zn : List Int} {rp t : Int} (h : feedE sw zn rp = 0) : ∀ k, k ≤ sw.length → SwKeep sw (K7a sw rp t k).sw t
  | 0,_=>.refl h t
  | k + 1,hk=>Zxc _ za (Uha h k za)
theorem Usd {rp t:Int} {y:XTick} {i:Nat}:(Y5a rp t y i).late.length≤y.late.length + 1∧(Y5a rp t y i).opened.length≤y.opened.length + 1:=by
  rw [Y5a]
  repeat' split
  all_goals (first | (simp only [List.length_append,List.length_cons,List.length_nil];omega) | omega)
theorem Yha {sw : List XSwitch} {rp t : Int} : ∀ k, (K7a sw rp t k).late.length ≤ k ∧ (K7a sw rp t k).opened.length ≤ k
  | 0=>⟨Nat.le_refl _,Nat.le_refl _⟩
  | k + 1=>by
    have h1:=Yha (sw:=sw) (rp:=rp) (t:=t) k
    have h2:=Usd (rp:=rp) (t:=t) (y:=K7a sw rp t k) (i:=sw.length - 1 - k)
    rw [K7a];omega
end
end Go.Proofs.YtchfclmokpbldaaGreat
