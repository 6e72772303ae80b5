/-
  Texts of one chapter, merged. By an AI agent; no person has read it.
-/
import Derived.Test.YtchfclmokpbldaaGreatRestN
import Derived.Test.YtchfclmokpbldaaGreatCongrS
set_option maxRecDepth 20000
namespace Go.Proofs.YtchfclmokpbldaaGreat
open Go.Aw Go
section
section
variable {A9 B9:Prop}
theorem Z7d (a:A9) (h:A9→B9:=by exact Jx (Jl (row:=[_,_,_]) tb rfl rfl rfl zf zb zb) rfl):B9:=h a
theorem Z8d (a:A9) (h:A9→B9:=by exact Kt rfl (Go.Proofs.YtchfclmokpbldaaGreat.YV.gives2 (K0 tb rfl rfl rfl zf zb)) rfl rfl):B9:=h a
theorem Ufe (a:A9) (h:A9→B9:=by exact V8 (Jy (show _=Value.slice _ _ _ from rfl)) rfl rfl rfl rfl):B9:=h a
theorem Uae (a:A9) (h:A9→B9:=by exact V8 (Jl (row:=[_,_,_]) tb rfl rfl rfl zf zb zb) rfl rfl rfl rfl):B9:=h a
theorem Uoe (a:A9) (h:A9→B9:=by exact Kv (Uc (show _=Value.slice _ _ _ from rfl)) rfl rfl rfl):B9:=h a
theorem Yye (a:A9) (h:A9→B9:=by exact Jx (Jl (row:=[_,_,_,_,_,_,_,_]) tb rfl rfl rfl zf zb zb) rfl):B9:=h a
theorem Zqe (a:A9) (h:A9→B9:=by exact Jx (Jl (row:=[_,_,_,_,_]) tb rfl rfl rfl zf zb zb) rfl):B9:=h a
theorem Z9e (a:A9) (h:A9→B9:=by exact Kt rfl (Km (f:=XSwitch.cells) (xs:=f.switches) tb rfl rfl rfl zc rfl rfl (hsR) (fun _=>rfl) za) rfl rfl):B9:=h a
theorem Yle (a:A9) (h:A9→B9:=by exact Vsc 6 hT3 (List.nil_sublist _) ze rfl rfl rfl rfl rfl (U6 tb rfl rfl rfl)):B9:=h a
theorem Yte (a:A9) (h:A9→B9:=by exact Kt rfl (Km (f:=Jq) (xs:=f.zones) tb rfl rfl rfl zc rfl rfl (hzR) (fun _=>rfl) za) rfl rfl):B9:=h a
theorem Jff (a:A9) (h:A9→B9:=by exact Kx (Jl (row:=[_,_,_,_,_]) tb rfl rfl rfl zf zb zb) rfl rfl rfl rfl):B9:=h a
end
theorem Z6e {P:Program} {fn:Func} {t:Nat→Value} {L:List Blk} {R:List Sl} {r s q z:ResultVar} {v u x y:Value} (hr:fn.results=#[r,s,q,z]) (h:RV P t L R r v) (k:RV P t L R s u) (m:RV P t L R q x) (m2:RV P t L R z y):∀c n a w,Fr n t a→St c L R w→(results fn a.tmps).run P w=.ok (.tuple #[v,u,x,y]) w:=by
  intro c n a w hf hs
  have h1:=Y9a h hf hs
  have h2:=Y9a k hf hs
  have h3:=Y9a m hf hs
  have h4:=Y9a m2 hf hs
  rw [K4a,hr]
  simp [h1,h2,h3,h4]
attribute [local irreducible] CJ LJ DJ Tri YV Gives Uh J0 Ke Ui RV J2 OwL.L
def atR (f:XFeeder) (k:Int):Int:=Uhe f.switches.l (Vsa f.switches.l f.zones.l f.reply (f.zones.l.getD k.toNat 0))
def Z8 (s:XSite) (c:List XCut) (fl:List XSpan) (r:XRest) (f:XFeeder) (t:Int):Int:=
  if sharedE s c.length fl.length t≠0 then sharedE s c.length fl.length t
  else if r.zone= -1∨r.step≠2 then 10
  else if Vzc r t then 8
  else if readyE s c fl r.zone t≠0 then readyE s c fl r.zone t
  else if feedE f.switches.l f.zones.l f.reply≠0 then feedE f.switches.l f.zones.l f.reply
  else if f.zones.l.length≠s.zones.l.length then 17
  else if Y4b c f.switches.l f.zones.l f.reply r.zone (atR f r.zone) then 20 else 0
theorem J8b {s:XSite} {c:List XCut} {fl:List XSpan} {k t:Int} (h:readyE s c fl k t=0):0≤k∧k < c.length:=by
  rw [readyE] at h
  split at h
  · cases h
  · omega
theorem Uxe (s:XSite) (c:Arr XCut) (fl:Arr XSpan) (r:XRest) (f:XFeeder) (t:Int) (L:List Blk) (R:List Sl) (h:RestA s c fl R) (hf:FeederR f R):
    Tri Tryz.prog 165 [s.val,c.val,fl.val,r.val,f.val,.int .i64 t].toArray L R (fun v L' R'=>∃a:Int,v=.tuple #[.int .i64 a,.int .i64 (Z8 s c.l fl.l r f t)]∧(Z8 s c.l fl.l r f t=0→a=atR f r.zone)∧L=L'∧∀r∈R,InR r R'):=by
  refine Jg 70 Tryz.call165 Tryz.func165 rfl rfl rfl ?_
  refine Xag ?_
  intro b6
  refine qax ?_
  intro b9
  refine qax ?_
  intro b10
  refine qad ?_
  refine Xas ?_
  refine Yye ?_
  refine qbm ?_
  refine Xau ?_
  refine q_l rfl (Uma s c fl t _ _ h) ?_
  refine Xa7 ?_
  refine q_c (fun hc0=>?_) (fun hc0=>?_)
  ·
   refine Xdj ?_
   refine Xai ?_
   refine q_r (L':=L) (R':=R) (Ug rfl (Je (show _=Value.int _ _ from rfl)) (Je (show _=Value.int _ _ from rfl))) ?_
   have he:Z8 s c.l fl.l r f t=sharedE s c.l.length fl.l.length t:=by rw [Z8,if_pos hc0]
   exact ⟨0,by rw [he],fun h=>by omega,rfl,Jc _⟩
  obtain ⟨hok,hln,ht⟩:=Jjb (s:=s) (nc:=c.l.length) (nf:=fl.l.length) (t:=t) za
  refine Xct ?_
  refine qah ?_
  apply J8 (G:=[_,_,_]) (j:=3) (cj:=30) rfl rfl zb rfl (show _=Value.bool _ from rfl) rfl
  ·
   intro hg4
   replace hg4:=qb hg4
   refine Xaa ?_
   refine qbq ?_
   exact qai
  intro junk4
  refine qaf ?_
  refine q_c (fun hc1=>?_) (fun hc1=>?_)
  ·
   refine Xab ?_
   refine Xai ?_
   refine q_r (L':=L) (R':=R) (Ug rfl (Je (show _=Value.int _ _ from rfl)) (Je (show _=Value.int _ _ from rfl))) ?_
   have he:Z8 s c.l fl.l r f t=10:=by rw [Z8,if_neg hc0,if_pos za]
   exact ⟨0,by rw [he],fun h=>by omega,rfl,Jc _⟩
  refine qbo ?_
  refine Zqe ?_
  refine qaa ?_
  refine q_l rfl (K7d r t _ _ ht) ?_
  refine qaf ?_
  refine q_c (fun hc2=>?_) (fun hc2=>?_)
  ·
   refine Xab ?_
   refine Xai ?_
   refine q_r (L':=L) (R':=R) (Ug rfl (Je (show _=Value.int _ _ from rfl)) (Je (show _=Value.int _ _ from rfl))) ?_
   have he:Z8 s c.l fl.l r f t=8:=by rw [Z8,if_neg hc0,if_neg za,if_pos zK]
   exact ⟨0,by rw [he],fun h=>by omega,rfl,Jc _⟩
  have hlt:¬ Vzc r t:=by simpa using hc2
  refine qbo ?_
  refine Yye ?_
  refine qbm ?_
  refine qbm ?_
  refine Xam ?_
  refine q_l rfl (V5b s c fl r.zone t _ _ h hok hln ht) ?_
  refine Xa7 ?_
  refine q_c (fun hc3=>?_) (fun hc3=>?_)
  ·
   refine Xdj ?_
   refine Xai ?_
   refine q_r (L':=L) (R':=R) (Ug rfl (Je (show _=Value.int _ _ from rfl)) (Je (show _=Value.int _ _ from rfl))) ?_
   have he:Z8 s c.l fl.l r f t=readyE s c.l fl.l r.zone t:=by rw [Z8,if_neg hc0,if_neg za,if_neg hlt,if_pos hc3]
   exact ⟨0,by rw [he],fun h=>by omega,rfl,Jc _⟩
  refine qbo ?_
  refine Z7d ?_
  refine q_l rfl (Vt f _ _ hf) ?_
  refine Xa7 ?_
  refine q_c (fun hc4=>?_) (fun hc4=>?_)
  ·
   refine Xdj ?_
   refine Xai ?_
   refine q_r (L':=L) (R':=R) (Ug rfl (Je (show _=Value.int _ _ from rfl)) (Je (show _=Value.int _ _ from rfl))) ?_
   have he:Z8 s c.l fl.l r f t=feedE f.switches.l f.zones.l f.reply:=by rw [Z8,if_neg hc0,if_neg za,if_neg hlt,if_neg hc3,if_pos hc4]
   exact ⟨0,by rw [he],fun h=>by omega,rfl,Jc _⟩
  refine qbo ?_
  refine Xac ?_
  refine Xac ?_
  refine Xaq ?_
  refine q_c (fun hc5=>?_) (fun hc5=>?_)
  ·
   refine Xab ?_
   refine Xai ?_
   refine q_r (L':=L) (R':=R) (Ug rfl (Je (show _=Value.int _ _ from rfl)) (Je (show _=Value.int _ _ from rfl))) ?_
   have he:Z8 s c.l fl.l r f t=17:=by rw [Z8,if_neg hc0,if_neg za,if_neg hlt,if_neg hc3,if_neg hc4,if_pos za]
   exact ⟨0,by rw [he],fun h=>by omega,rfl,Jc _⟩
  have hrz:=J8b (s:=s) (c:=c.l) (fl:=fl.l) (k:=r.zone) (t:=t) za
  refine qbv ?_
  refine qbm ?_
  refine Z7d ?_
  refine Xaa ?_
  refine Js rfl (J1d c f r.zone _ _ h.cuts hf za za za) rfl ?_
  rintro v L' R' ⟨rfl,rfl,hR2⟩
  refine Jx (Jy rfl) rfl ?_
  refine Xa4 ?_
  refine Xbn ?_
  refine qaw ?_
  refine qah ?_
  refine qaf ?_
  refine q_c (fun hc6=>?_) (fun hc6=>?_)
  ·
   refine Xab ?_
   refine Xai ?_
   refine q_r (L':=L) (R':=_) (Ug rfl (Je (show _=Value.int _ _ from rfl)) (Je (show _=Value.int _ _ from rfl))) ?_
   have he:Z8 s c.l fl.l r f t=20:=by rw [Z8,if_neg hc0,if_neg za,if_neg hlt,if_neg hc3,if_neg hc4,if_neg za,if_pos (by simpa [atR] using hc6)]
   exact ⟨0,by rw [he],fun h=>by omega,rfl,hR2⟩
  refine qbv ?_
  refine qaa ?_
  refine qad ?_
  refine Xah ?_
  refine q_r (L':=L) (R':=_) (Ug rfl (Je (show _=Value.int _ _ from rfl)) (Je (show _=Value.int _ _ from rfl))) ?_
  have he:Z8 s c.l fl.l r f t=0:=by rw [Z8,if_neg hc0,if_neg za,if_neg hlt,if_neg hc3,if_neg hc4,if_neg za,if_neg (by simpa [atR] using hc6)]
  exact ⟨atR f r.zone,by rw [he];rfl,fun _=>rfl,rfl,hR2⟩
theorem J2d {s:XSite} {c:List XCut} {fl:List XSpan} {r:XRest} {f:XFeeder} {t:Int} (h:Z8 s c fl r f t=0):(0≤r.zone∧r.zone < c.length)∧c.length=f.zones.l.length∧feedE f.switches.l f.zones.l f.reply=0:=by
  rw [Z8] at h
  split at h
  · omega
  rename_i h0
  obtain ⟨_,hln,_⟩:=Jjb (Decidable.not_not.1 h0)
  split at h
  · cases h
  split at h
  · cases h
  split at h
  · omega
  rename_i h3
  have:=J8b (Decidable.not_not.1 h3)
  split at h
  · omega
  split at h
  · cases h
  omega
def Vf (s:XSite) (c:List XCut) (fl:List XSpan) (r:XRest) (f:XFeeder) (t:Int):Int:=
  if Z8 s c fl r f t≠0 then Z8 s c fl r f t else Vna f.switches.l f.zones.l f.reply (atR f r.zone) t
def J0e (f:XFeeder) (r:XRest):Prop:=atR f r.zone=f.zones.l.getD r.zone.toNat 0
instance (f:XFeeder) (r:XRest):Decidable (J0e f r):=by unfold J0e;infer_instance
def Yj (s:XSite) (c:List XCut) (fl:List XSpan) (r:XRest) (f:XFeeder) (t:Int):XRest:=
  if Vf s c fl r f t≠0 then r else if J0e f r then noRest else ⟨r.zone,r.first,r.second,r.step,t⟩
def Vw (s:XSite) (c:List XCut) (fl:List XSpan) (r:XRest) (f:XFeeder) (t:Int):List XCut:=
  if Vf s c fl r f t≠0 then c else if J0e f r then c.set r.zone.toNat ⟨false,(c.getD r.zone.toNat default).clear,(c.getD r.zone.toNat default).reason⟩ else c
def Vj (s:XSite) (c:List XCut) (fl:List XSpan) (r:XRest) (f:XFeeder) (t:Int):List XSwitch:=
  if Vf s c fl r f t≠0 then f.switches.l else U7b f.switches.l (atR f r.zone) t
structure CloseIs (s:XSite) (c:List XCut) (fl:List XSpan) (r:XRest) (f:XFeeder) (t:Int) (q:XRest) (c2:List XCut) (sw:List XSwitch) (zn:List Int) (rp:Int):Prop where
  rest:q=Yj s c fl r f t
  cuts:c2=Vw s c fl r f t
  sw:sw=Vj s c fl r f t
  zn:zn=f.zones.l
  rp:rp=f.reply
theorem Ycb {s:XSite} {c:List XCut} {fl:List XSpan} {r:XRest} {f:XFeeder} {t e:Int} (h:Vf s c fl r f t=e) (he:e≠0):CloseIs s c fl r f t r c f.switches.l f.zones.l f.reply:=by
  have h0:Vf s c fl r f t≠0:=by omega
  exact ⟨by rw [Yj,if_pos h0],by rw [Vw,if_pos h0],by rw [Vj,if_pos h0],rfl,rfl⟩
theorem Yod (s:XSite) (c:Arr XCut) (fl:Arr XSpan) (r:XRest) (f:XFeeder) (t:Int) (L:List Blk) (R:List Sl) (h:RestA s c fl R) (hf:FeederR f R) (hn:c.l.length≤1000∧f.switches.l.length≤1000∧f.zones.l.length≤1000):
    Tri Tryz.prog 87 [s.val,c.val,fl.val,r.val,f.val,.int .i64 t].toArray L R (fun v L' R'=>∃(q:XRest) (pc:OwL XCut) (psw:OwL XSwitch) (pz:OwL Int) (rp:Int),v=.tuple #[q.val,pc.val,.agg #[psw.val,pz.val,.int .i64 rp],.int .i64 (Vf s c.l fl.l r f t)]∧
      (pc.ok 3 XCut.cells∧psw.ok 5 XSwitch.cells∧pz.ok 1 Jq)∧CloseIs s c.l fl.l r f t q pc.l psw.l pz.l rp∧pz.L 3 Jq ++ (psw.L 76 XSwitch.cells ++ (pc.L 71 XCut.cells ++ L))=L'∧∀r∈R,InR r R'):=by
  have hcR:=h.cuts
  have hsR:=hf.sw
  have hzR:=hf.zn
  refine Jg 84 Tryz.call87 Tryz.func87 rfl rfl rfl ?_
  refine Xag ?_
  intro b6
  refine qax ?_
  intro b9
  refine qax ?_
  intro b10
  refine qaq ?_
  intro b12
  refine qc4 ?_
  refine qaq ?_
  intro b14
  refine Xaf ?_
  refine qbm ?_
  refine Y9 (Km (f:=XCut.cells) (xs:=c) tb rfl rfl rfl zc rfl rfl (hcR) (fun _=>rfl) za) rfl ?_
  rintro v L' R' ⟨o23,rfl,hok23,rfl,rfl⟩
  refine qc4 ?_
  refine qam ?_
  refine Z7d ?_
  refine qaq ?_
  intro b17
  refine Xc2 ?_
  refine Jcc [25,26,27,28,29,30,31,32] ((⟨fun _=>[],fun g=>(⟨g.1.2,f.zones.l⟩:OwL Int).L 3 Jq ++ ((⟨g.1.1,f.switches.l⟩:OwL XSwitch).L 76 XSwitch.cells ++ (⟨b17,[(⟨g.1.1,f.switches.l⟩:OwL XSwitch).val,(⟨g.1.2,f.zones.l⟩:OwL Int).val,.int .i64 f.reply],42⟩ :: ((⟨o23,c.l⟩:OwL XCut).L 71 XCut.cells ++ (⟨b14,[.slice none 0 0,.slice none 0 0,.int .i64 0],42⟩ :: ⟨b12,[.int .i64 0,.int .i64 0,.int .i64 0,.int .i64 0,.int .i64 0],51⟩ :: ⟨b10,f.cells,42⟩ :: ⟨b9,r.cells,51⟩ :: ⟨b6,s.cells,38⟩ :: L)))),fun _=>R,fun _=>0⟩:Head {g:Ow×Ow // (⟨g.1,f.switches.l⟩:OwL XSwitch).ok 5 XSwitch.cells∧(⟨g.2,f.zones.l⟩:OwL Int).ok 1 Jq})) ?_ ?_
  ·
   skip
   refine Z7c tb [] [0,1,3,4,2,6,5] [7,8,9] (_) [] 7 K1 ze rfl rfl zi fun hT3=>?_
   refine Vsc 0 hT3 (List.nil_sublist _) ze rfl rfl rfl rfl rfl (U6 tb rfl rfl rfl) ?_
   refine Vsc 3 hT3 (List.nil_sublist _) ze rfl rfl rfl rfl rfl (U6 tb rfl rfl rfl) ?_
   refine Jj [1,4] hT3 (List.nil_sublist _) ze ?_
   refine Jp ?_ ?_
   ·
    skip
    refine Z8d ?_
    rintro v L' R' ⟨rfl,rfl,rfl⟩
    refine qa1 ?_
    refine Jj [2,4] hT3 (List.nil_sublist _) ze ?_
    refine Jp ?_ ?_
    ·
     skip
     refine Z9e ?_
     rintro v L' R' ⟨o27,rfl,hok27,rfl,rfl⟩
     refine qa1 ?_
     refine Yle ?_
     refine Jj [4] hT3 (List.nil_sublist _) ze ?_
     refine qca ?_
     refine Z8d ?_
     rintro v L' R' ⟨rfl,rfl,rfl⟩
     refine qa1 ?_
     refine Jj [5] hT3 (List.nil_sublist _) ze ?_
     refine qca ?_
     refine Yte ?_
     rintro v L' R' ⟨o30,rfl,hok30,rfl,rfl⟩
     refine qa1 ?_
     refine Ka hT3 (List.nil_sublist _) ze rfl ?_
     refine qbw ?_
     refine Xc0 ?_
     refine J1 ?_
     first
       | exact Jt ⟨(o27,o30),hok27,hok30⟩ zm zg (List.Perm.refl _) (List.Sublist.refl _) (Jc _)
       | exact Jt ⟨(o27,o30),hok27,hok30⟩ zm zg (List.perm_append_comm_assoc _ _ _) (List.Sublist.refl _) (Jc _)
    refine qca ?_
    refine Z8d ?_
    rintro v L' R' ⟨rfl,rfl,rfl⟩
    refine qa1 ?_
    refine Jj [2] hT3 (List.nil_sublist _) ze ?_
    refine qca ?_
    refine Z9e ?_
    rintro v L' R' ⟨o27,rfl,hok27,rfl,rfl⟩
    refine qa1 ?_
    refine Yle ?_
    refine Jj [5] hT3 (List.nil_sublist _) ze ?_
    refine qca ?_
    refine Yte ?_
    rintro v L' R' ⟨o30,rfl,hok30,rfl,rfl⟩
    refine qa1 ?_
    refine Ka hT3 (List.nil_sublist _) ze rfl ?_
    refine qbw ?_
    refine Xc0 ?_
    refine J1 ?_
    first
      | exact Jt ⟨(o27,o30),hok27,hok30⟩ zm zg (List.Perm.refl _) (List.Sublist.refl _) (Jc _)
      | exact Jt ⟨(o27,o30),hok27,hok30⟩ zm zg (List.perm_append_comm_assoc _ _ _) (List.Sublist.refl _) (Jc _)
   refine qca ?_
   refine Z8d ?_
   rintro v L' R' ⟨rfl,rfl,rfl⟩
   refine qa1 ?_
   refine Jj [1] hT3 (List.nil_sublist _) ze ?_
   refine qca ?_
   refine Z8d ?_
   rintro v L' R' ⟨rfl,rfl,rfl⟩
   refine qa1 ?_
   refine Jj [2] hT3 (List.nil_sublist _) ze ?_
   refine qca ?_
   refine Z9e ?_
   rintro v L' R' ⟨o27,rfl,hok27,rfl,rfl⟩
   refine qa1 ?_
   refine Yle ?_
   refine Jj [5] hT3 (List.nil_sublist _) ze ?_
   refine qca ?_
   refine Yte ?_
   rintro v L' R' ⟨o30,rfl,hok30,rfl,rfl⟩
   refine qa1 ?_
   refine Ka hT3 (List.nil_sublist _) ze rfl ?_
   refine qbw ?_
   refine Xc0 ?_
   refine J1 ?_
   first
     | exact Jt ⟨(o27,o30),hok27,hok30⟩ zm zg (List.Perm.refl _) (List.Sublist.refl _) (Jc _)
     | exact Jt ⟨(o27,o30),hok27,hok30⟩ zm zg (List.perm_append_comm_assoc _ _ _) (List.Sublist.refl _) (Jc _)
  rintro ⟨⟨oS,oZ⟩,hkS,hkZ⟩ junk
  try dsimp only
  dsimp only at hkS hkZ
  refine qae ?_
  refine Yye ?_
  refine qbm ?_
  refine qbm ?_
  refine Zqe ?_
  refine Z7d ?_
  refine qaa ?_
  refine Js rfl (Uxe s c fl r f t _ _ h hf) rfl ?_
  rintro v L' R' ⟨a,rfl,ha,rfl,hR2⟩
  have hf2:=hf.mono hR2
  have hzR2:=hf2.zn
  refine Jx (Jy rfl) rfl ?_
  refine Xa4 ?_
  refine qad ?_
  refine Xdb ?_
  refine Xaq ?_
  refine q_c (fun hc0=>?_) (fun hc0=>?_)
  ·
   refine Jn ?_
   refine Kk tb [46,47,48] [0,1,2,3] [4,5,6,7] ([Blk.mk b17 _ _,Blk.mk b14 _ _,Blk.mk b12 _ _,Blk.mk b9 _ _]) _ K1 ze zi zha ?_
   refine Jff ?_
   refine Ufe ?_
   refine Uae ?_
   refine V8 (Jy (show _=Value.int _ _ from rfl)) rfl rfl rfl rfl ?_
   refine Xda ?_
   refine Uoe ?_
   refine Xdg ?_
   refine J1 (Jb (Um (J7 ?_)))
   refine q_r (L':=(⟨oZ,f.zones.l⟩:OwL Int).L 3 Jq ++ ((⟨oS,f.switches.l⟩:OwL XSwitch).L 76 XSwitch.cells ++ ((⟨o23,c.l⟩:OwL XCut).L 71 XCut.cells ++ L))) (R':=_) (Z6e rfl (Jm (row:=[_,_,_,_,_]) tb rfl rfl rfl zf zb zb) (Je (show _=Value.slice _ _ _ from rfl)) (Jm (row:=[_,_,_]) tb rfl rfl rfl zf zb zb) (Je (show _=Value.int _ _ from rfl))) ?_
   have he:Vf s c.l fl.l r f t=Z8 s c.l fl.l r f t:=by rw [Vf,if_pos hc0]
   exact ⟨r,⟨o23,c.l⟩,⟨oS,f.switches.l⟩,⟨oZ,f.zones.l⟩,f.reply,by rw [he];rfl,⟨hok23,hkS,hkZ⟩,Ycb he hc0,rfl,hR2⟩
  obtain rfl:a=atR f r.zone:=ha za
  obtain ⟨hrz,hcz,hfe⟩:=J2d (s:=s) (c:=c.l) (fl:=fl.l) (r:=r) (f:=f) (t:=t) za
  have he:Vf s c.l fl.l r f t=Vna f.switches.l f.zones.l f.reply (atR f r.zone) t:=by rw [Vf,if_neg hc0]
  have hzg:=Jw (l:=f.zones.l) (k:=r.zone.toNat) 0 za
  have hxg:=Jw (l:=c.l) (k:=r.zone.toNat) default za
  obtain ⟨x,hx⟩:∃x,x=c.l.getD r.zone.toNat default:=⟨_,rfl⟩
  rw [← hx] at hxg
  refine qbv ?_
  refine Z7d ?_
  refine Xbh ?_
  refine Js rfl (Jkc f (atR f r.zone) t _ _ hf2) rfl ?_
  rintro v L' R' ⟨p,q,rp,rfl,⟨hpk,hqk⟩,hcl,rfl,rfl⟩
  refine Jx (Jy rfl) rfl ?_
  refine Xcx ?_
  intro b20
  refine qak ?_
  refine Xdb ?_
  refine Xaq ?_
  refine q_c (fun hc1=>?_) (fun hc1=>?_)
  ·
   refine Jn ?_
   refine Kk tb [59,60,61] [0,1,2,3] [4,5,6,7] ([Blk.mk b17 _ _,Blk.mk b14 _ _,Blk.mk b12 _ _,Blk.mk b9 _ _]) _ K1 ze zi zha ?_
   refine Jff ?_
   refine Ufe ?_
   refine Uae ?_
   refine V8 (Jy (show _=Value.int _ _ from rfl)) rfl rfl rfl rfl ?_
   refine Xda ?_
   refine Uoe ?_
   refine Xdg ?_
   refine J1 (Jb (Um (J7 ?_)))
   refine q_r (L':=(⟨oZ,f.zones.l⟩:OwL Int).L 3 Jq ++ ((⟨oS,f.switches.l⟩:OwL XSwitch).L 76 XSwitch.cells ++ ((⟨o23,c.l⟩:OwL XCut).L 71 XCut.cells ++ L))) (R':=_) (Z6e rfl (Jm (row:=[_,_,_,_,_]) tb rfl rfl rfl zf zb zb) (Je (show _=Value.slice _ _ _ from rfl)) (Jm (row:=[_,_,_]) tb rfl rfl rfl zf zb zb) (Je (show _=Value.int _ _ from rfl))) ?_
   exact ⟨r,⟨o23,c.l⟩,⟨oS,f.switches.l⟩,⟨oZ,f.zones.l⟩,f.reply,by rw [he];rfl,⟨hok23,hkS,hkZ⟩,Ycb he hc1,rfl,hR2⟩
  obtain ⟨hpl,hql,rfl⟩:=hcl za
  have hce:Vna f.switches.l f.zones.l f.reply (atR f r.zone) t=0:=by omega
  have he0:¬ Vf s c.l fl.l r f t≠0:=by omega
  refine qbo ?_
  refine qaa ?_
  refine Xbe ?_
  refine Jx zXa rfl ?_
  refine qa7 ?_
  refine Xaq ?_
  refine q_c (fun hc2=>?_) (fun hc2=>?_)
  ·
   refine qae ?_
   refine Zqe ?_
   refine qaq ?_
   intro b21
   refine Xa0 ?_
   refine qaa ?_
   refine Xbj ?_
   refine qa4 ?_
   refine Kk tb [74,75] [0,1,2] [3,4,5,6] ([Blk.mk b21 _ _,Blk.mk b20 _ _,Blk.mk b14 _ _,Blk.mk b12 _ _]) _ K1 ze zi zha ?_
   refine Jff ?_
   refine Ufe ?_
   refine Uae ?_
   refine Xda ?_
   refine Uoe ?_
   refine Xdg ?_
   refine J1 (Jb (Um (J7 ?_)))
   refine q_r (L':=q.L 3 Jq ++ (p.L 76 XSwitch.cells ++ ((⟨o23,c.l⟩:OwL XCut).L 71 XCut.cells ++ L))) (R':=_) (Z6e rfl (Jm (row:=[_,_,_,_,_]) tb rfl rfl rfl zf zb zb) (Je (show _=Value.slice _ _ _ from rfl)) (Jm (row:=[_,_,_]) tb rfl rfl rfl zf zb zb) (Je (show _=Value.int _ _ from rfl))) ?_
   exact ⟨⟨r.zone,r.first,r.second,r.step,t⟩,⟨o23,c.l⟩,p,q,f.reply,by rw [he,hce];rfl,⟨hok23,hpk,hqk⟩,⟨by rw [Yj,if_neg he0,if_neg (by rw [J0e];omega)],by rw [Vw,if_neg he0,if_neg (by rw [J0e];omega)],by rw [Vj,if_neg he0,hpl],hql,rfl⟩,rfl,hR2⟩
  refine qbv ?_
  refine Xcg ?_
  refine Jx (Ju tb ((⟨o23,c.l⟩:OwL XCut)) _ rfl rfl rfl rfl zh (i:=r.zone.toNat) zk zu) rfl ?_
  refine qb0 ?_
  refine Yc (Jr tb ((⟨o23,c.l⟩:OwL XCut)) (⟨false,x.clear,x.reason⟩) rfl rfl rfl rfl zj zh (fun _=>rfl) zh zc zb zb) ?_
  rintro v L' R' ⟨rfl,rfl⟩
  refine qa4 ?_
  have hpc2:=OwL.set_ok (f:=XCut.cells) (wd:=3) (p:=⟨o23,c.l⟩) (i:=r.zone.toNat) (x:=⟨false,x.clear,x.reason⟩) (fun _=>rfl) hok23
  refine Kk tb [82,83] [1,2,0] [3,4,5,6] ([Blk.mk b20 _ _,Blk.mk b14 _ _,Blk.mk b12 _ _]) _ K1 ze zi zha ?_
  refine Ufe ?_
  refine Uae ?_
  refine Vi rfl (K1c _ _) rfl rfl ?_
  rintro v L' R' ⟨rfl,rfl,rfl⟩
  refine ⟨zi,zy,?_⟩
  refine Xda ?_
  refine Uoe ?_
  refine Xdg ?_
  refine J1 (Jb (Um ?_))
  refine q_r (L':=q.L 3 Jq ++ (p.L 76 XSwitch.cells ++ ((⟨o23,c.l.set r.zone.toNat ⟨false,x.clear,x.reason⟩⟩:OwL XCut).L 71 XCut.cells ++ L))) (R':=_) (Z6e rfl (Jm (row:=[_,_,_,_,_]) tb rfl rfl rfl zf zb zb) (Je (show _=Value.slice _ _ _ from rfl)) (Jm (row:=[_,_,_]) tb rfl rfl rfl zf zb zb) (Je (show _=Value.int _ _ from rfl))) ?_
  exact ⟨noRest,⟨o23,c.l.set r.zone.toNat ⟨false,x.clear,x.reason⟩⟩,p,q,f.reply,by simp only [he,hce,OwL.val,List.length_set],⟨hpc2,hpk,hqk⟩,⟨by rw [Yj,if_neg he0,if_pos (by rw [J0e];omega)],by rw [Vw,if_neg he0,if_pos (by rw [J0e];omega),← hx],by rw [Vj,if_neg he0,hpl],hql,rfl⟩,rfl,hR2⟩
end
section
def Ykb (z:XZone):XZone:=⟨⟨none,0,z.rule.l⟩,z.hold,⟨none,0,z.roads.l⟩,z.fresh⟩
def Kw (s:XSite):XSite:=⟨Yy s.air,⟨none,0,s.sensors.l⟩,⟨none,0,s.conds.l⟩,⟨none,0,s.zones.l.map Ykb⟩,⟨none,0,s.persons.l⟩⟩
theorem Vja (s:XSite) (k:Nat):(Kw s).zones.l.getD k default=Ykb (s.zones.l.getD k default):=Ugb rfl
theorem Vka (s:XSite):(Kw s).zones.l.length=s.zones.l.length:=List.length_map _
theorem Jjd (a:XAir) (x:XSens):Vma (Yy a) x=Vma a x:=by
  rw [Vma,Vma,show (Yy a).fans.l.length=a.fans.l.length from List.length_map _,show (Yy a).doors.l.length=a.doors.l.length from List.length_map _];rfl
theorem Vub (a:XAir) (S:List XSens):Ue (Yy a) S=Ue a S:=by
  have e:Zg (Yy a) S=Zg a S:=by
    funext i
    rw [Zg,Zg,Jjd]
  rw [Ue,Ue,e]
theorem J6c (s:XSite):Yo (Kw s)=Yo s:=by
  rw [Yo,Yo,show (Kw s).zones.l=s.zones.l.map Ykb from rfl,List.findSome?_map];rfl
theorem Jha (s:XSite):K2 (Kw s)=K2 s:=by
  rw [K2,K2,J6c,Vka,show Ky (Kw s).air=Ky s.air from Vbb _,show Ue (Kw s).air (Kw s).sensors.l=Ue s.air s.sensors.l from Vub _ _];rfl
theorem Zba (s:XSite) (m:List XMeas) (w:List XWatch) (fl:List XSpan) (t:Int):valuesErr (Kw s) m w fl t=valuesErr s m w fl t:=by rw [valuesErr,valuesErr,Jha];rfl
theorem Kwb (s:XSite) (v:List Int) (c:List XCut) (t:Int):cutsErr (Kw s) v c t=cutsErr s v c t:=by rw [cutsErr,cutsErr,Jha,Vka];rfl
theorem Zrb (s:XSite) (v:List Int) (c:List XCut) (t:Int):cutAt (Kw s) v c t=cutAt s v c t:=by
  funext i
  rw [cutAt,cutAt,Vja];rfl
theorem J2b (s : XSite) (v : List Int) (c : List XCut) : ∀ k, Zu (Kw s) v c k = Zu s v c k
  | 0=>rfl
  | k + 1=>by rw [Zu,Zu,J2b s v c k,Vja];rfl
theorem Vyb (s:XSite) (c:List XCut) (fl:List XSpan) (k t:Int):readyE (Kw s) c fl k t=readyE s c fl k t:=by rw [readyE,readyE,Vja];rfl
theorem Ksb (s:XSite) (n m:Nat) (t:Int):sharedE (Kw s) n m t=sharedE s n m t:=by rw [sharedE,sharedE,Jha,Vka];rfl
abbrev SiteE (s s':XSite):Prop:=Kw s=Kw s'
section
variable {s s':XSite} (h:SiteE s s')
include h
theorem SiteE.air:Yy s.air=Yy s'.air:=congrArg XSite.air (show Kw s=Kw s' from h)
theorem SiteE.sens:s.sensors.l=s'.sensors.l:=by
  have e:=congrArg (fun x:XSite=>x.sensors.l) (show Kw s=Kw s' from h)
  exact e
theorem SiteE.conds:s.conds.l=s'.conds.l:=by
  have e:=congrArg (fun x:XSite=>x.conds.l) (show Kw s=Kw s' from h)
  exact e
theorem SiteE.persons:s.persons.l=s'.persons.l:=by
  have e:=congrArg (fun x:XSite=>x.persons.l) (show Kw s=Kw s' from h)
  exact e
theorem SiteE.nfans:s.air.fans.l.length=s'.air.fans.l.length:=by
  have:=congrArg (fun x:XSite=>x.air.fans.l.length) (show Kw s=Kw s' from h)
  simpa [Kw,Yy] using this
theorem SiteE.ndoors:s.air.doors.l.length=s'.air.doors.l.length:=by
  have:=congrArg (fun x:XSite=>x.air.doors.l.length) (show Kw s=Kw s' from h)
  simpa [Kw,Yy] using this
theorem SiteE.nzones:s.zones.l.length=s'.zones.l.length:=by rw [← Vka s,h,Vka s']
theorem SiteE.zone (k:Nat):Ykb (s.zones.l.getD k default)=Ykb (s'.zones.l.getD k default):=by rw [← Vja s,h,Vja s']
theorem SiteE.rule (k:Nat):(s.zones.l.getD k default).rule.l=(s'.zones.l.getD k default).rule.l:=by
  have e:=congrArg (fun z:XZone=>z.rule.l) (SiteE.zone h k)
  exact e
theorem SiteE.door (k:Nat):(s.air.doors.l.getD k default).rests.l=(s'.air.doors.l.getD k default).rests.l:=by
  have e:Yra (s.air.doors.l.getD k default)=Yra (s'.air.doors.l.getD k default):=by rw [← Vgb s.air,SiteE.air h,Vgb s'.air]
  have e2:=congrArg (fun d:XDoor=>d.rests.l) e
  exact e2
theorem SiteE.err:K2 s=K2 s':=by rw [← Jha s,h,Jha s']
theorem SiteE.valuesErr (m:List XMeas) (w:List XWatch) (fl:List XSpan) (t:Int):valuesErr s m w fl t=valuesErr s' m w fl t:=by rw [← Zba s,h,Zba s']
theorem SiteE.valuesV (m:List XMeas) (w:List XWatch) (fl:List XSpan) (t:Int):valuesV s m w fl t=valuesV s' m w fl t:=by
  rw [Go.Proofs.YtchfclmokpbldaaGreat.valuesV,Go.Proofs.YtchfclmokpbldaaGreat.valuesV,SiteE.valuesErr h,SiteE.sens h,SiteE.conds h]
theorem SiteE.valuesW (m:List XMeas) (w:List XWatch) (fl:List XSpan) (t:Int):valuesW s m w fl t=valuesW s' m w fl t:=by
  rw [Go.Proofs.YtchfclmokpbldaaGreat.valuesW,Go.Proofs.YtchfclmokpbldaaGreat.valuesW,SiteE.valuesErr h,SiteE.sens h,SiteE.conds h]
theorem SiteE.cutsErr (v:List Int) (c:List XCut) (t:Int):cutsErr s v c t=cutsErr s' v c t:=by rw [← Kwb s,h,Kwb s']
theorem SiteE.cutAt (v:List Int) (c:List XCut) (t:Int):cutAt s v c t=cutAt s' v c t:=by rw [← Zrb s,h,Zrb s']
theorem SiteE.cutsC (v:List Int) (c:List XCut) (t:Int):cutsC s v c t=cutsC s' v c t:=by rw [Go.Proofs.YtchfclmokpbldaaGreat.cutsC,Go.Proofs.YtchfclmokpbldaaGreat.cutsC,SiteE.cutsErr h,SiteE.cutAt h]
theorem SiteE.cutsN (v:List Int) (c:List XCut) (t:Int):cutsN s v c t=cutsN s' v c t:=by
  rw [Go.Proofs.YtchfclmokpbldaaGreat.cutsN,Go.Proofs.YtchfclmokpbldaaGreat.cutsN,SiteE.cutsErr h,← J2b s,h,J2b s']
theorem SiteE.readyE (c:List XCut) (fl:List XSpan) (k t:Int):readyE s c fl k t=readyE s' c fl k t:=by rw [← Vyb s,h,Vyb s']
theorem SiteE.sharedE (n m:Nat) (t:Int):sharedE s n m t=sharedE s' n m t:=by rw [← Ksb s,h,Ksb s']
theorem SiteE.askE (c:List XCut) (fl:List XSpan) (r:XRest) (p k t:Int):askE s c fl r p k t=askE s' c fl r p k t:=by
  rw [Go.Proofs.YtchfclmokpbldaaGreat.askE,Go.Proofs.YtchfclmokpbldaaGreat.askE,SiteE.sharedE h,SiteE.readyE h,SiteE.persons h]
theorem SiteE.askR (c:List XCut) (fl:List XSpan) (r:XRest) (p k t:Int):askR s c fl r p k t=askR s' c fl r p k t:=by
  rw [Go.Proofs.YtchfclmokpbldaaGreat.askR,Go.Proofs.YtchfclmokpbldaaGreat.askR,SiteE.askE h]
theorem SiteE.confirmE (c:List XCut) (fl:List XSpan) (r:XRest) (p t:Int):confirmE s c fl r p t=confirmE s' c fl r p t:=by
  have e:Zm s r p↔Zm s' r p:=by unfold Zm;rw [SiteE.persons h]
  simp only [Go.Proofs.YtchfclmokpbldaaGreat.confirmE,SiteE.sharedE h,SiteE.readyE h,e]
theorem SiteE.confirmR (c:List XCut) (fl:List XSpan) (r:XRest) (p t:Int):confirmR s c fl r p t=confirmR s' c fl r p t:=by
  rw [Go.Proofs.YtchfclmokpbldaaGreat.confirmR,Go.Proofs.YtchfclmokpbldaaGreat.confirmR,SiteE.confirmE h]
end
end
section
def Knf (x:XSwitch) (t:Int):XSwitch:=⟨x.above,t,0,false,false⟩
def Vo (sw:List XSwitch) (s t:Int):List XSwitch:=if (sw.getD s.toNat default).closed=true then sw.set s.toNat (Knf (sw.getD s.toNat default) t) else sw
theorem Yma (sw:List XSwitch) (s t:Int):(Vo sw s t).length=sw.length:=by rw [Vo];split <;> simp
structure SwKeep (sw sw':List XSwitch) (t:Int):Prop where
  len:sw'.length=sw.length
  at_:∀i:Nat,i < sw.length→(sw'.getD i default).above=(sw.getD i default).above∧((sw'.getD i default).since=(sw.getD i default).since∨(sw'.getD i default).since=t)∧(-1≤(sw'.getD i default).shown∧(sw'.getD i default).shown≤1)∧¬ ((sw'.getD i default).late=true∧((sw'.getD i default).closed=true∨(sw'.getD i default).shown= -1))
theorem Yjd {sw:List XSwitch} {zn:List Int} {rp:Int} (h:feedE sw zn rp=0):∀i:Nat,i < sw.length→(-1≤(sw.getD i default).shown∧(sw.getD i default).shown≤1)∧¬ ((sw.getD i default).late=true∧((sw.getD i default).closed=true∨(sw.getD i default).shown= -1)):=fun i hi=>by
  by_cases h0:32 < sw.length∨16 < zn.length
  · rw [feedE,if_pos h0] at h;omega
  cases h1:(List.range sw.length).findSome? (Uaa sw) with
  | some e=>rw [Z7a h0 h1] at h;exact absurd h (Ktc (fun _=>Jxd) h1)
  | none=>
    have:=J6b h1 hi
    rw [Uaa] at this
    split at this
    · cases this
    split at this
    · cases this
    split at this
    · cases this
    rename_i k1 k2 k3
    rw [not_or] at k3
    exact ⟨by omega,k3.2⟩
theorem SwKeep.refl {sw:List XSwitch} {zn:List Int} {rp:Int} (h:feedE sw zn rp=0) (t:Int):SwKeep sw sw t:=⟨rfl,fun i hi=>⟨rfl,.inl rfl,Yjd h i hi⟩⟩
theorem SwKeep.feedE {sw sw':List XSwitch} {zn:List Int} {rp t:Int} (k:SwKeep sw sw' t) (h:feedE sw zn rp=0) (ht:0≤t∧t≤2147483648):feedE sw' zn rp=0:=by
  have hl:=k.len
  have hok:=Vx h
  have h0':¬ (32 < sw'.length∨16 < zn.length):=by have:=hok.sn;have:=hok.zl;omega
  have h1':(List.range sw'.length).findSome? (Uaa sw')=none:=by
    rw [List.findSome?_eq_none_iff]
    intro i hi
    rw [List.mem_range,hl] at hi
    have h2:=k.at_ i hi
    have h3:=hok.up i hi
    have h4:=hok.since i hi
    exact Zid rfl za za (fun h=>by
      rcases h with h | h
      · omega
      · exact h2.2.2.2 h)
  have h2':(List.range zn.length).findSome? (Ysa sw'.length zn)=none:=by
    rw [List.findSome?_eq_none_iff]
    intro i hi
    rw [List.mem_range] at hi
    have:=hok.zr i hi
    exact Jte za (fun ⟨j,hj,e⟩=>hok.zd i j hj hi e)
  rw [Ujb h0' h1' h2',if_neg (by have:=hok.rp;omega)]
theorem SwKeep.time {sw sw':List XSwitch} {t:Int} (k:SwKeep sw sw' t) (h:Vda sw t):Vda sw' t:=⟨h.1,fun x hx=>by
  obtain ⟨i,hi⟩:=List.mem_iff_getElem?.1 hx
  have hi':=(List.getElem?_eq_some_iff.1 hi).1
  have hl:=k.len
  have e:=getD_some (d:=default) hi
  have h2:=k.at_ i za
  have h3:=h.2 _ (List.mem_of_getElem? (Jw (l:=sw) (k:=i) default za))
  rw [e] at h2
  omega⟩
theorem SwKeep.set {sw sw':List XSwitch} {t:Int} (k:SwKeep sw sw' t) {i:Nat} {x:XSwitch} (h1:x.above=(sw'.getD i default).above) (h2:x.since=(sw'.getD i default).since∨x.since=t) (h3:-1≤x.shown∧x.shown≤1) (h4:¬ (x.late=true∧(x.closed=true∨x.shown= -1))):SwKeep sw (sw'.set i x) t:=by
  refine ⟨by rw [List.length_set];exact k.len,fun j hj=>?_⟩
  have hl:=k.len
  have hk:=k.at_ j hj
  rw [List.getD_eq_getElem?_getD,List.getElem?_set]
  split
  · rename_i e
    subst e
    rw [if_pos za]
    refine ⟨by rw [← hk.1,← h1];rfl,?_,h3,h4⟩
    rcases h2 with h2 | h2
    · rcases hk.2.1 with h5 | h5
      · exact .inl (by rw [← h5,← h2];rfl)
      · exact .inr (by rw [← h5,← h2];rfl)
    · exact .inr h2
  · rw [← List.getD_eq_getElem?_getD];exact hk
theorem SwKeep.openS {sw sw':List XSwitch} {t:Int} (k:SwKeep sw sw' t) (s:Int):SwKeep sw (Vo sw' s t) t:=by
  rw [Vo]
  split
  · exact k.set rfl (.inr rfl) ⟨by show (-1:Int)≤0;decide,by show (0:Int)≤1;decide⟩ (by simp [Knf])
  · exact k
def Jrd (x:XSwitch):Bool:=!x.closed && decide (x.shown≠-1) && !x.late
structure XTick where
  sw:List XSwitch
  late:List Int
  opened : List Int
  deriving Inhabited
def Yrd (x:XSwitch):XSwitch:=⟨x.above,x.since,x.shown,x.closed,true⟩
def Y3a (rp t:Int) (y:XTick) (i:Nat):XTick:=
  if Jrd (y.sw.getD i default)=true∧rp≤t - (y.sw.getD i default).since then
    if 0≤(y.sw.getD i default).above∧((y.sw.set i (Yrd (y.sw.getD i default))).getD (y.sw.getD i default).above.toNat default).closed=true then
      ⟨Vo (y.sw.set i (Yrd (y.sw.getD i default))) (y.sw.getD i default).above t,y.late ++ [(i:Int)],y.opened ++ [(y.sw.getD i default).above]⟩
    else ⟨y.sw.set i (Yrd (y.sw.getD i default)),y.late ++ [(i:Int)],y.opened⟩
  else y
def K8a (sw : List XSwitch) (rp t : Int) : Nat → XTick
  | 0=>⟨sw,[],[]⟩
  | k + 1=>Y3a rp t (K8a sw rp t k) (sw.length - 1 - k)
def Yb (sw:List XSwitch) (rp t:Int):XTick:=K8a sw rp t sw.length
theorem Zgc {sw:List XSwitch} {rp t:Int} {y:XTick} (i:Nat) (hi:i < sw.length) (k:SwKeep sw y.sw t):SwKeep sw (Y3a rp t y i).sw t:=by
  have h2:=k.at_ i hi
  rw [Y3a]
  split
  · rename_i hw
    have hw1:=hw.1
    rw [Jrd,Bool.and_eq_true,Bool.and_eq_true,decide_eq_true_eq] at hw1
    have hs:SwKeep sw (y.sw.set i (Yrd (y.sw.getD i default))) t:=k.set rfl (.inl rfl) h2.2.2.1 (fun h=>by
      rcases h.2 with h | h
      · have : (y.sw.getD i default).closed = true := h
        rw [this] at hw1;exact absurd hw1.1.1 zc
      · exact hw1.1.2 h)
    split
    · exact hs.openS _
    · exact hs
  · exact k
theorem U2a {sw : List XSwitch} {zn : List Int} {rp t : Int} (h : feedE sw zn rp = 0) : ∀ k, k ≤ sw.length → SwKeep sw (K8a sw rp t k).sw t
  | 0,_=>.refl h t
  | k + 1,hk=>Zgc _ za (U2a h k za)
theorem Ukd {rp t:Int} {y:XTick} {i:Nat}:(Y3a rp t y i).late.length≤y.late.length + 1∧(Y3a rp t y i).opened.length≤y.opened.length + 1:=by
  rw [Y3a]
  repeat' split
  all_goals (first | (simp only [List.length_append,List.length_cons,List.length_nil];omega) | omega)
theorem Yda {sw : List XSwitch} {rp t : Int} : ∀ k, (K8a sw rp t k).late.length ≤ k ∧ (K8a sw rp t k).opened.length ≤ k
  | 0=>⟨Nat.le_refl _,Nat.le_refl _⟩
  | k + 1=>by
    have h1:=Yda (sw:=sw) (rp:=rp) (t:=t) k
    have h2:=Ukd (rp:=rp) (t:=t) (y:=K8a sw rp t k) (i:=sw.length - 1 - k)
    rw [K8a];omega
end
end Go.Proofs.YtchfclmokpbldaaGreat
