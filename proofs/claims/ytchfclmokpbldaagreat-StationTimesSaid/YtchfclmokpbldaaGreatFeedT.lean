import Derived.Test.YtchfclmokpbldaaGreatRestN
import Derived.Test.YtchfclmokpbldaaGreatCongrS
set_option linter.unusedVariables false
set_option linter.unusedSimpArgs false
section
/-
  Restoring power: closing the next switch. By an AI agent; no person has read it.
-/
namespace Go.Proofs.YtchfclmokpbldaaGreat
open Go.Aw Go
section
variable {A9 B9:Prop}
theorem J2d (a:A9) (h:A9→B9:=by exact Jax (Jal (row:=[_,_,_]) tb rfl rfl rfl zf zb zb) rfl):B9:=h a
theorem J3l (a:A9) (h:A9→B9:=by exact Jbs rfl (Go.Proofs.YtchfclmokpbldaaGreat.YV.gives2 (Jbz tb rfl rfl rfl zf zb)) rfl rfl):B9:=h a
theorem J5z (a:A9) (h:A9→B9:=by exact Jd2 (Jav (show _=Value.slice _ _ _ from rfl)) rfl rfl rfl rfl):B9:=h a
theorem J4g (a:A9) (h:A9→B9:=by exact Jd2 (Jal (row:=[_,_,_]) tb rfl rfl rfl zf zb zb) rfl rfl rfl rfl):B9:=h a
theorem J6r (a:A9) (h:A9→B9:=by exact Jbu (Jca (show _=Value.slice _ _ _ from rfl)) rfl rfl rfl):B9:=h a
theorem J7n (a:A9) (h:A9→B9:=by exact Jax (Jal (row:=[_,_,_,_,_,_,_,_]) tb rfl rfl rfl zf zb zb) rfl):B9:=h a
theorem J7u (a:A9) (h:A9→B9:=by exact Jax (Jal (row:=[_,_,_,_,_]) tb rfl rfl rfl zf zb zb) rfl):B9:=h a
theorem J8v (a:A9) (h:A9→B9:=by exact Jbs rfl (Jbm (f:=XSwitch.cells) (xs:=f.switches) tb rfl rfl rfl ze rfl rfl (hsR) (fun _=>rfl) za) rfl rfl):B9:=h a
theorem J9o (a:A9) (h:A9→B9:=by exact Jt4 6 hT3 (List.nil_sublist _) zc rfl rfl rfl rfl rfl (Jc5 tb rfl rfl rfl)):B9:=h a
theorem J8o (a:A9) (h:A9→B9:=by exact Jbs rfl (Jbm (f:=Jap) (xs:=f.zones) tb rfl rfl rfl ze rfl rfl (hzR) (fun _=>rfl) za) rfl rfl):B9:=h a
theorem J8u (a:A9) (h:A9→B9:=by exact Jbv (Jal (row:=[_,_,_,_,_]) tb rfl rfl rfl zf zb zb) rfl rfl rfl rfl):B9:=h a
end
theorem J8s {P:Program} {fn:Func} {t:Nat→Value} {L:List Blk} {R:List Sl} {r s q z:ResultVar} {v u x y:Value} (hr:fn.results=#[r,s,q,z]) (h:RV P t L R r v) (k:RV P t L R s u) (m:RV P t L R q x) (m2:RV P t L R z y):∀c n a w,Fr n t a→St c L R w→(results fn a.tmps).run P w=.ok (.tuple #[v,u,x,y]) w:=by
  intro c n a w hf hs
  have h1:=Jko h hf hs
  have h2:=Jko k hf hs
  have h3:=Jko m hf hs
  have h4:=Jko m2 hf hs
  rw [Jhv,hr]
  simp [h1,h2,h3,h4]
set_option maxRecDepth 20000
attribute [local irreducible] CJ LJ DJ Tri YV Gives Jcj Ja1 Jbg Jci RV Ja2 OwL.L
def atR (f:XFeeder) (k:Int):Int:=J50 f.switches.l (Jjh f.switches.l f.zones.l f.reply (f.zones.l.getD k.toNat 0))
def Jfr (s:XSite) (c:List XCut) (fl:List XSpan) (r:XRest) (f:XFeeder) (t:Int):Int:=
  if sharedE s c.length fl.length t≠0 then sharedE s c.length fl.length t
  else if r.zone= -1∨r.step≠2 then 10
  else if Jty r t then 8
  else if readyE s c fl r.zone t≠0 then readyE s c fl r.zone t
  else if feedE f.switches.l f.zones.l f.reply≠0 then feedE f.switches.l f.zones.l f.reply
  else if f.zones.l.length≠s.zones.l.length then 17
  else if Jrq c f.switches.l f.zones.l f.reply r.zone (atR f r.zone) then 20 else 0
theorem Jqr {s:XSite} {c:List XCut} {fl:List XSpan} {k t:Int} (h:readyE s c fl k t=0):0≤k∧k < c.length:=by
  rw [readyE] at h
  split at h
  · cases h
  · omega
theorem J46 (s:XSite) (c:Arr XCut) (fl:Arr XSpan) (r:XRest) (f:XFeeder) (t:Int) (L:List Blk) (R:List Sl) (h:RestA s c fl R) (hf:FeederR f R):
    Tri Tryz.prog 165 [s.val,c.val,fl.val,r.val,f.val,.int .i64 t].toArray L R (fun v L' R'=>∃a:Int,v=.tuple #[.int .i64 a,.int .i64 (Jfr s c.l fl.l r f t)]∧(Jfr s c.l fl.l r f t=0→a=atR f r.zone)∧L=L'∧∀r∈R,InR r R'):=by
  refine Jad 70 Tryz.call165 Tryz.func165 rfl rfl rfl ?_
  refine Xaf ?_
  intro b6
  refine qax ?_
  intro b9
  refine qax ?_
  intro b10
  refine qad ?_
  refine Xas ?_
  refine J7n ?_
  refine qbm ?_
  refine Xau ?_
  refine q_l rfl (Jif s c fl t _ _ h) ?_
  refine Xa9 ?_
  refine q_c (fun hc0=>?_) (fun hc0=>?_)
  ·
   refine Xdj ?_
   refine Xai ?_
   refine q_r (L':=L) (R':=R) (Jcf rfl (Jaf (show _=Value.int _ _ from rfl)) (Jaf (show _=Value.int _ _ from rfl))) ?_
   have he:Jfr s c.l fl.l r f t=sharedE s c.l.length fl.l.length t:=by rw [Jfr,if_pos hc0]
   exact ⟨0,by rw [he],fun h=>by omega,rfl,Jac _⟩
  obtain ⟨hok,hln,ht⟩:=Jl7 (s:=s) (nc:=c.l.length) (nf:=fl.l.length) (t:=t) za
  refine Xce ?_
  refine Xb7 ?_
  apply Ja7 (G:=[_,_,_]) (j:=3) (cj:=30) rfl rfl zb rfl (show _=Value.bool _ from rfl) rfl
  ·
   intro hg4
   replace hg4:=qb hg4
   refine Xaa ?_
   refine qbq ?_
   exact qai
  intro junk4
  refine qaf ?_
  refine q_c (fun hc1=>?_) (fun hc1=>?_)
  ·
   refine Xac ?_
   refine Xai ?_
   refine q_r (L':=L) (R':=R) (Jcf rfl (Jaf (show _=Value.int _ _ from rfl)) (Jaf (show _=Value.int _ _ from rfl))) ?_
   have he:Jfr s c.l fl.l r f t=10:=by rw [Jfr,if_neg hc0,if_pos za]
   exact ⟨0,by rw [he],fun h=>by omega,rfl,Jac _⟩
  refine qbo ?_
  refine J7u ?_
  refine qaa ?_
  refine q_l rfl (Jzl r t _ _ ht) ?_
  refine qaf ?_
  refine q_c (fun hc2=>?_) (fun hc2=>?_)
  ·
   refine Xac ?_
   refine Xai ?_
   refine q_r (L':=L) (R':=R) (Jcf rfl (Jaf (show _=Value.int _ _ from rfl)) (Jaf (show _=Value.int _ _ from rfl))) ?_
   have he:Jfr s c.l fl.l r f t=8:=by rw [Jfr,if_neg hc0,if_neg za,if_pos zK]
   exact ⟨0,by rw [he],fun h=>by omega,rfl,Jac _⟩
  have hlt:¬ Jty r t:=by simpa using hc2
  refine qbo ?_
  refine J7n ?_
  refine qbm ?_
  refine qbm ?_
  refine Xal ?_
  refine q_l rfl (Jo9 s c fl r.zone t _ _ h hok hln ht) ?_
  refine Xa9 ?_
  refine q_c (fun hc3=>?_) (fun hc3=>?_)
  ·
   refine Xdj ?_
   refine Xai ?_
   refine q_r (L':=L) (R':=R) (Jcf rfl (Jaf (show _=Value.int _ _ from rfl)) (Jaf (show _=Value.int _ _ from rfl))) ?_
   have he:Jfr s c.l fl.l r f t=readyE s c.l fl.l r.zone t:=by rw [Jfr,if_neg hc0,if_neg za,if_neg hlt,if_pos hc3]
   exact ⟨0,by rw [he],fun h=>by omega,rfl,Jac _⟩
  refine qbo ?_
  refine J2d ?_
  refine q_l rfl (Jdr f _ _ hf) ?_
  refine Xa9 ?_
  refine q_c (fun hc4=>?_) (fun hc4=>?_)
  ·
   refine Xdj ?_
   refine Xai ?_
   refine q_r (L':=L) (R':=R) (Jcf rfl (Jaf (show _=Value.int _ _ from rfl)) (Jaf (show _=Value.int _ _ from rfl))) ?_
   have he:Jfr s c.l fl.l r f t=feedE f.switches.l f.zones.l f.reply:=by rw [Jfr,if_neg hc0,if_neg za,if_neg hlt,if_neg hc3,if_pos hc4]
   exact ⟨0,by rw [he],fun h=>by omega,rfl,Jac _⟩
  refine qbo ?_
  refine Xab ?_
  refine Xab ?_
  refine Xaq ?_
  refine q_c (fun hc5=>?_) (fun hc5=>?_)
  ·
   refine Xac ?_
   refine Xai ?_
   refine q_r (L':=L) (R':=R) (Jcf rfl (Jaf (show _=Value.int _ _ from rfl)) (Jaf (show _=Value.int _ _ from rfl))) ?_
   have he:Jfr s c.l fl.l r f t=17:=by rw [Jfr,if_neg hc0,if_neg za,if_neg hlt,if_neg hc3,if_neg hc4,if_pos za]
   exact ⟨0,by rw [he],fun h=>by omega,rfl,Jac _⟩
  have hrz:=Jqr (s:=s) (c:=c.l) (fl:=fl.l) (k:=r.zone) (t:=t) za
  refine qbv ?_
  refine qbm ?_
  refine J2d ?_
  refine Xaa ?_
  refine Jaw rfl (Jyo c f r.zone _ _ h.cuts hf za za za) rfl ?_
  rintro v L' R' ⟨rfl,rfl,hR2⟩
  refine Jax (Jav rfl) rfl ?_
  refine Xa5 ?_
  refine Xbm ?_
  refine qaw ?_
  refine qah ?_
  refine qaf ?_
  refine q_c (fun hc6=>?_) (fun hc6=>?_)
  ·
   refine Xac ?_
   refine Xai ?_
   refine q_r (L':=L) (R':=_) (Jcf rfl (Jaf (show _=Value.int _ _ from rfl)) (Jaf (show _=Value.int _ _ from rfl))) ?_
   have he:Jfr s c.l fl.l r f t=20:=by rw [Jfr,if_neg hc0,if_neg za,if_neg hlt,if_neg hc3,if_neg hc4,if_neg za,if_pos (by simpa [atR] using hc6)]
   exact ⟨0,by rw [he],fun h=>by omega,rfl,hR2⟩
  refine qbv ?_
  refine qaa ?_
  refine qad ?_
  refine Xah ?_
  refine q_r (L':=L) (R':=_) (Jcf rfl (Jaf (show _=Value.int _ _ from rfl)) (Jaf (show _=Value.int _ _ from rfl))) ?_
  have he:Jfr s c.l fl.l r f t=0:=by rw [Jfr,if_neg hc0,if_neg za,if_neg hlt,if_neg hc3,if_neg hc4,if_neg za,if_neg (by simpa [atR] using hc6)]
  exact ⟨atR f r.zone,by rw [he];rfl,fun _=>rfl,rfl,hR2⟩
theorem Jzn {s:XSite} {c:List XCut} {fl:List XSpan} {r:XRest} {f:XFeeder} {t:Int} (h:Jfr s c fl r f t=0):(0≤r.zone∧r.zone < c.length)∧c.length=f.zones.l.length∧feedE f.switches.l f.zones.l f.reply=0:=by
  rw [Jfr] at h
  split at h
  · omega
  rename_i h0
  obtain ⟨_,hln,_⟩:=Jl7 (Decidable.not_not.1 h0)
  split at h
  · cases h
  split at h
  · cases h
  split at h
  · omega
  rename_i h3
  have:=Jqr (Decidable.not_not.1 h3)
  split at h
  · omega
  split at h
  · cases h
  omega
def Jdj (s:XSite) (c:List XCut) (fl:List XSpan) (r:XRest) (f:XFeeder) (t:Int):Int:=
  if Jfr s c fl r f t≠0 then Jfr s c fl r f t else Jjq f.switches.l f.zones.l f.reply (atR f r.zone) t
def J32 (f:XFeeder) (r:XRest):Prop:=atR f r.zone=f.zones.l.getD r.zone.toNat 0
instance (f:XFeeder) (r:XRest):Decidable (J32 f r):=by unfold J32;infer_instance
def Jg1 (s:XSite) (c:List XCut) (fl:List XSpan) (r:XRest) (f:XFeeder) (t:Int):XRest:=
  if Jdj s c fl r f t≠0 then r else if J32 f r then noRest else ⟨r.zone,r.first,r.second,r.step,t⟩
def Jg5 (s:XSite) (c:List XCut) (fl:List XSpan) (r:XRest) (f:XFeeder) (t:Int):List XCut:=
  if Jdj s c fl r f t≠0 then c else if J32 f r then c.set r.zone.toNat ⟨false,(c.getD r.zone.toNat default).clear,(c.getD r.zone.toNat default).reason⟩ else c
def Je1 (s:XSite) (c:List XCut) (fl:List XSpan) (r:XRest) (f:XFeeder) (t:Int):List XSwitch:=
  if Jdj s c fl r f t≠0 then f.switches.l else Jxu f.switches.l (atR f r.zone) t
structure CloseIs (s:XSite) (c:List XCut) (fl:List XSpan) (r:XRest) (f:XFeeder) (t:Int) (q:XRest) (c2:List XCut) (sw:List XSwitch) (zn:List Int) (rp:Int):Prop where
  rest:q=Jg1 s c fl r f t
  cuts:c2=Jg5 s c fl r f t
  sw:sw=Je1 s c fl r f t
  zn:zn=f.zones.l
  rp:rp=f.reply
theorem Jpc {s:XSite} {c:List XCut} {fl:List XSpan} {r:XRest} {f:XFeeder} {t e:Int} (h:Jdj s c fl r f t=e) (he:e≠0):CloseIs s c fl r f t r c f.switches.l f.zones.l f.reply:=by
  have h0:Jdj s c fl r f t≠0:=by omega
  exact ⟨by rw [Jg1,if_pos h0],by rw [Jg5,if_pos h0],by rw [Je1,if_pos h0],rfl,rfl⟩
theorem J2f (s:XSite) (c:Arr XCut) (fl:Arr XSpan) (r:XRest) (f:XFeeder) (t:Int) (L:List Blk) (R:List Sl) (h:RestA s c fl R) (hf:FeederR f R) (hn:c.l.length≤1000∧f.switches.l.length≤1000∧f.zones.l.length≤1000):
    Tri Tryz.prog 87 [s.val,c.val,fl.val,r.val,f.val,.int .i64 t].toArray L R (fun v L' R'=>∃(q:XRest) (pc:OwL XCut) (psw:OwL XSwitch) (pz:OwL Int) (rp:Int),v=.tuple #[q.val,pc.val,.agg #[psw.val,pz.val,.int .i64 rp],.int .i64 (Jdj s c.l fl.l r f t)]∧
      (pc.ok 3 XCut.cells∧psw.ok 5 XSwitch.cells∧pz.ok 1 Jap)∧CloseIs s c.l fl.l r f t q pc.l psw.l pz.l rp∧pz.L 3 Jap ++ (psw.L 76 XSwitch.cells ++ (pc.L 71 XCut.cells ++ L))=L'∧∀r∈R,InR r R'):=by
  have hcR:=h.cuts
  have hsR:=hf.sw
  have hzR:=hf.zn
  refine Jad 84 Tryz.call87 Tryz.func87 rfl rfl rfl ?_
  refine Xaf ?_
  intro b6
  refine qax ?_
  intro b9
  refine qax ?_
  intro b10
  refine qaq ?_
  intro b12
  refine qc4 ?_
  refine qaq ?_
  intro b14
  refine Xag ?_
  refine qbm ?_
  refine Jgl (Jbm (f:=XCut.cells) (xs:=c) tb rfl rfl rfl ze rfl rfl (hcR) (fun _=>rfl) za) rfl ?_
  rintro v L' R' ⟨o23,rfl,hok23,rfl,rfl⟩
  refine qc4 ?_
  refine qam ?_
  refine J2d ?_
  refine qaq ?_
  intro b17
  refine Xcw ?_
  refine Jr3 [25,26,27,28,29,30,31,32] ((⟨fun _=>[],fun g=>(⟨g.1.2,f.zones.l⟩:OwL Int).L 3 Jap ++ ((⟨g.1.1,f.switches.l⟩:OwL XSwitch).L 76 XSwitch.cells ++ (⟨b17,[(⟨g.1.1,f.switches.l⟩:OwL XSwitch).val,(⟨g.1.2,f.zones.l⟩:OwL Int).val,.int .i64 f.reply],42⟩ :: ((⟨o23,c.l⟩:OwL XCut).L 71 XCut.cells ++ (⟨b14,[.slice none 0 0,.slice none 0 0,.int .i64 0],42⟩ :: ⟨b12,[.int .i64 0,.int .i64 0,.int .i64 0,.int .i64 0,.int .i64 0],51⟩ :: ⟨b10,f.cells,42⟩ :: ⟨b9,r.cells,51⟩ :: ⟨b6,s.cells,38⟩ :: L)))),fun _=>R,fun _=>0⟩:Head {g:Ow×Ow // (⟨g.1,f.switches.l⟩:OwL XSwitch).ok 5 XSwitch.cells∧(⟨g.2,f.zones.l⟩:OwL Int).ok 1 Jap})) ?_ ?_
  ·
   skip
   refine Jxv tb [] [0,1,3,4,2,6,5] [7,8,9] (_) [] 7 Jby zc rfl rfl zi fun hT3=>?_
   refine Jt4 0 hT3 (List.nil_sublist _) zc rfl rfl rfl rfl rfl (Jc5 tb rfl rfl rfl) ?_
   refine Jt4 3 hT3 (List.nil_sublist _) zc rfl rfl rfl rfl rfl (Jc5 tb rfl rfl rfl) ?_
   refine Jai [1,4] hT3 (List.nil_sublist _) zc ?_
   refine Jaq ?_ ?_
   ·
    skip
    refine J3l ?_
    rintro v L' R' ⟨rfl,rfl,rfl⟩
    refine qa1 ?_
    refine Jai [2,4] hT3 (List.nil_sublist _) zc ?_
    refine Jaq ?_ ?_
    ·
     skip
     refine J8v ?_
     rintro v L' R' ⟨o27,rfl,hok27,rfl,rfl⟩
     refine qa1 ?_
     refine J9o ?_
     refine Jai [4] hT3 (List.nil_sublist _) zc ?_
     refine qca ?_
     refine J3l ?_
     rintro v L' R' ⟨rfl,rfl,rfl⟩
     refine qa1 ?_
     refine Jai [5] hT3 (List.nil_sublist _) zc ?_
     refine qca ?_
     refine J8o ?_
     rintro v L' R' ⟨o30,rfl,hok30,rfl,rfl⟩
     refine qa1 ?_
     refine Ja8 hT3 (List.nil_sublist _) zc rfl ?_
     refine qbw ?_
     refine Xdc ?_
     refine Jaz ?_
     first
       | exact Jas ⟨(o27,o30),hok27,hok30⟩ zm zh (List.Perm.refl _) (List.Sublist.refl _) (Jac _)
       | exact Jas ⟨(o27,o30),hok27,hok30⟩ zm zh (List.perm_append_comm_assoc _ _ _) (List.Sublist.refl _) (Jac _)
    refine qca ?_
    refine J3l ?_
    rintro v L' R' ⟨rfl,rfl,rfl⟩
    refine qa1 ?_
    refine Jai [2] hT3 (List.nil_sublist _) zc ?_
    refine qca ?_
    refine J8v ?_
    rintro v L' R' ⟨o27,rfl,hok27,rfl,rfl⟩
    refine qa1 ?_
    refine J9o ?_
    refine Jai [5] hT3 (List.nil_sublist _) zc ?_
    refine qca ?_
    refine J8o ?_
    rintro v L' R' ⟨o30,rfl,hok30,rfl,rfl⟩
    refine qa1 ?_
    refine Ja8 hT3 (List.nil_sublist _) zc rfl ?_
    refine qbw ?_
    refine Xdc ?_
    refine Jaz ?_
    first
      | exact Jas ⟨(o27,o30),hok27,hok30⟩ zm zh (List.Perm.refl _) (List.Sublist.refl _) (Jac _)
      | exact Jas ⟨(o27,o30),hok27,hok30⟩ zm zh (List.perm_append_comm_assoc _ _ _) (List.Sublist.refl _) (Jac _)
   refine qca ?_
   refine J3l ?_
   rintro v L' R' ⟨rfl,rfl,rfl⟩
   refine qa1 ?_
   refine Jai [1] hT3 (List.nil_sublist _) zc ?_
   refine qca ?_
   refine J3l ?_
   rintro v L' R' ⟨rfl,rfl,rfl⟩
   refine qa1 ?_
   refine Jai [2] hT3 (List.nil_sublist _) zc ?_
   refine qca ?_
   refine J8v ?_
   rintro v L' R' ⟨o27,rfl,hok27,rfl,rfl⟩
   refine qa1 ?_
   refine J9o ?_
   refine Jai [5] hT3 (List.nil_sublist _) zc ?_
   refine qca ?_
   refine J8o ?_
   rintro v L' R' ⟨o30,rfl,hok30,rfl,rfl⟩
   refine qa1 ?_
   refine Ja8 hT3 (List.nil_sublist _) zc rfl ?_
   refine qbw ?_
   refine Xdc ?_
   refine Jaz ?_
   first
     | exact Jas ⟨(o27,o30),hok27,hok30⟩ zm zh (List.Perm.refl _) (List.Sublist.refl _) (Jac _)
     | exact Jas ⟨(o27,o30),hok27,hok30⟩ zm zh (List.perm_append_comm_assoc _ _ _) (List.Sublist.refl _) (Jac _)
  rintro ⟨⟨oS,oZ⟩,hkS,hkZ⟩ junk
  try dsimp only
  dsimp only at hkS hkZ
  refine qae ?_
  refine J7n ?_
  refine qbm ?_
  refine qbm ?_
  refine J7u ?_
  refine J2d ?_
  refine qaa ?_
  refine Jaw rfl (J46 s c fl r f t _ _ h hf) rfl ?_
  rintro v L' R' ⟨a,rfl,ha,rfl,hR2⟩
  have hf2:=hf.mono hR2
  have hzR2:=hf2.zn
  refine Jax (Jav rfl) rfl ?_
  refine Xa5 ?_
  refine qad ?_
  refine Xc0 ?_
  refine Xaq ?_
  refine q_c (fun hc0=>?_) (fun hc0=>?_)
  ·
   refine Jam ?_
   refine Jbk tb [46,47,48] [0,1,2,3] [4,5,6,7] ([Blk.mk b17 _ _,Blk.mk b14 _ _,Blk.mk b12 _ _,Blk.mk b9 _ _]) _ Jby zc zi zga ?_
   refine J8u ?_
   refine J5z ?_
   refine J4g ?_
   refine Jd2 (Jav (show _=Value.int _ _ from rfl)) rfl rfl rfl rfl ?_
   refine Xc8 ?_
   refine J6r ?_
   refine Xdq ?_
   refine Jaz (Jab (Jcq (Jba ?_)))
   refine q_r (L':=(⟨oZ,f.zones.l⟩:OwL Int).L 3 Jap ++ ((⟨oS,f.switches.l⟩:OwL XSwitch).L 76 XSwitch.cells ++ ((⟨o23,c.l⟩:OwL XCut).L 71 XCut.cells ++ L))) (R':=_) (J8s rfl (Jao (row:=[_,_,_,_,_]) tb rfl rfl rfl zf zb zb) (Jaf (show _=Value.slice _ _ _ from rfl)) (Jao (row:=[_,_,_]) tb rfl rfl rfl zf zb zb) (Jaf (show _=Value.int _ _ from rfl))) ?_
   have he:Jdj s c.l fl.l r f t=Jfr s c.l fl.l r f t:=by rw [Jdj,if_pos hc0]
   exact ⟨r,⟨o23,c.l⟩,⟨oS,f.switches.l⟩,⟨oZ,f.zones.l⟩,f.reply,by rw [he];rfl,⟨hok23,hkS,hkZ⟩,Jpc he hc0,rfl,hR2⟩
  obtain rfl:a=atR f r.zone:=ha za
  obtain ⟨hrz,hcz,hfe⟩:=Jzn (s:=s) (c:=c.l) (fl:=fl.l) (r:=r) (f:=f) (t:=t) za
  have he:Jdj s c.l fl.l r f t=Jjq f.switches.l f.zones.l f.reply (atR f r.zone) t:=by rw [Jdj,if_neg hc0]
  have hzg:=Jau (l:=f.zones.l) (k:=r.zone.toNat) 0 za
  have hxg:=Jau (l:=c.l) (k:=r.zone.toNat) default za
  obtain ⟨x,hx⟩:∃x,x=c.l.getD r.zone.toNat default:=⟨_,rfl⟩
  rw [← hx] at hxg
  refine qbv ?_
  refine J2d ?_
  refine Xbw ?_
  refine Jaw rfl (Jtj f (atR f r.zone) t _ _ hf2) rfl ?_
  rintro v L' R' ⟨p,q,rp,rfl,⟨hpk,hqk⟩,hcl,rfl,rfl⟩
  refine Jax (Jav rfl) rfl ?_
  refine Xcs ?_
  intro b20
  refine qak ?_
  refine Xc0 ?_
  refine Xaq ?_
  refine q_c (fun hc1=>?_) (fun hc1=>?_)
  ·
   refine Jam ?_
   refine Jbk tb [59,60,61] [0,1,2,3] [4,5,6,7] ([Blk.mk b17 _ _,Blk.mk b14 _ _,Blk.mk b12 _ _,Blk.mk b9 _ _]) _ Jby zc zi zga ?_
   refine J8u ?_
   refine J5z ?_
   refine J4g ?_
   refine Jd2 (Jav (show _=Value.int _ _ from rfl)) rfl rfl rfl rfl ?_
   refine Xc8 ?_
   refine J6r ?_
   refine Xdq ?_
   refine Jaz (Jab (Jcq (Jba ?_)))
   refine q_r (L':=(⟨oZ,f.zones.l⟩:OwL Int).L 3 Jap ++ ((⟨oS,f.switches.l⟩:OwL XSwitch).L 76 XSwitch.cells ++ ((⟨o23,c.l⟩:OwL XCut).L 71 XCut.cells ++ L))) (R':=_) (J8s rfl (Jao (row:=[_,_,_,_,_]) tb rfl rfl rfl zf zb zb) (Jaf (show _=Value.slice _ _ _ from rfl)) (Jao (row:=[_,_,_]) tb rfl rfl rfl zf zb zb) (Jaf (show _=Value.int _ _ from rfl))) ?_
   exact ⟨r,⟨o23,c.l⟩,⟨oS,f.switches.l⟩,⟨oZ,f.zones.l⟩,f.reply,by rw [he];rfl,⟨hok23,hkS,hkZ⟩,Jpc he hc1,rfl,hR2⟩
  obtain ⟨hpl,hql,rfl⟩:=hcl za
  have hce:Jjq f.switches.l f.zones.l f.reply (atR f r.zone) t=0:=by omega
  have he0:¬ Jdj s c.l fl.l r f t≠0:=by omega
  refine qbo ?_
  refine qaa ?_
  refine Xa1 ?_
  refine Jax zXa rfl ?_
  refine qa7 ?_
  refine Xaq ?_
  refine q_c (fun hc2=>?_) (fun hc2=>?_)
  ·
   refine qae ?_
   refine J7u ?_
   refine qaq ?_
   intro b21
   refine Xa2 ?_
   refine qaa ?_
   refine Xbh ?_
   refine qa4 ?_
   refine Jbk tb [74,75] [0,1,2] [3,4,5,6] ([Blk.mk b21 _ _,Blk.mk b20 _ _,Blk.mk b14 _ _,Blk.mk b12 _ _]) _ Jby zc zi zga ?_
   refine J8u ?_
   refine J5z ?_
   refine J4g ?_
   refine Xc8 ?_
   refine J6r ?_
   refine Xdq ?_
   refine Jaz (Jab (Jcq (Jba ?_)))
   refine q_r (L':=q.L 3 Jap ++ (p.L 76 XSwitch.cells ++ ((⟨o23,c.l⟩:OwL XCut).L 71 XCut.cells ++ L))) (R':=_) (J8s rfl (Jao (row:=[_,_,_,_,_]) tb rfl rfl rfl zf zb zb) (Jaf (show _=Value.slice _ _ _ from rfl)) (Jao (row:=[_,_,_]) tb rfl rfl rfl zf zb zb) (Jaf (show _=Value.int _ _ from rfl))) ?_
   exact ⟨⟨r.zone,r.first,r.second,r.step,t⟩,⟨o23,c.l⟩,p,q,f.reply,by rw [he,hce];rfl,⟨hok23,hpk,hqk⟩,⟨by rw [Jg1,if_neg he0,if_neg (by rw [J32];omega)],by rw [Jg5,if_neg he0,if_neg (by rw [J32];omega)],by rw [Je1,if_neg he0,hpl],hql,rfl⟩,rfl,hR2⟩
  refine qbv ?_
  refine Xcj ?_
  refine Jax (Jat tb ((⟨o23,c.l⟩:OwL XCut)) _ rfl rfl rfl rfl zg (i:=r.zone.toNat) zj zu) rfl ?_
  refine qb0 ?_
  refine Jd9 (Jar tb ((⟨o23,c.l⟩:OwL XCut)) (⟨false,x.clear,x.reason⟩) rfl rfl rfl rfl zk zg (fun _=>rfl) zg ze zb zb) ?_
  rintro v L' R' ⟨rfl,rfl⟩
  refine qa4 ?_
  have hpc2:=OwL.set_ok (f:=XCut.cells) (wd:=3) (p:=⟨o23,c.l⟩) (i:=r.zone.toNat) (x:=⟨false,x.clear,x.reason⟩) (fun _=>rfl) hok23
  refine Jbk tb [82,83] [1,2,0] [3,4,5,6] ([Blk.mk b20 _ _,Blk.mk b14 _ _,Blk.mk b12 _ _]) _ Jby zc zi zga ?_
  refine J5z ?_
  refine J4g ?_
  refine Jdf rfl (Jsp _ _) rfl rfl ?_
  rintro v L' R' ⟨rfl,rfl,rfl⟩
  refine ⟨zi,zx,?_⟩
  refine Xc8 ?_
  refine J6r ?_
  refine Xdq ?_
  refine Jaz (Jab (Jcq ?_))
  refine q_r (L':=q.L 3 Jap ++ (p.L 76 XSwitch.cells ++ ((⟨o23,c.l.set r.zone.toNat ⟨false,x.clear,x.reason⟩⟩:OwL XCut).L 71 XCut.cells ++ L))) (R':=_) (J8s rfl (Jao (row:=[_,_,_,_,_]) tb rfl rfl rfl zf zb zb) (Jaf (show _=Value.slice _ _ _ from rfl)) (Jao (row:=[_,_,_]) tb rfl rfl rfl zf zb zb) (Jaf (show _=Value.int _ _ from rfl))) ?_
  exact ⟨noRest,⟨o23,c.l.set r.zone.toNat ⟨false,x.clear,x.reason⟩⟩,p,q,f.reply,by simp only [he,hce,OwL.val,List.length_set],⟨hpc2,hpk,hqk⟩,⟨by rw [Jg1,if_neg he0,if_pos (by rw [J32];omega)],by rw [Jg5,if_neg he0,if_pos (by rw [J32];omega),← hx],by rw [Je1,if_neg he0,hpl],hql,rfl⟩,rfl,hR2⟩
end Go.Proofs.YtchfclmokpbldaaGreat
end
section
/-
  What is said of a site does not hang on where its lists lie. Plain. By an AI agent; no person has read it.
-/
namespace Go.Proofs.YtchfclmokpbldaaGreat
open Go.Aw Go
def Jqa (z:XZone):XZone:=⟨⟨none,0,z.rule.l⟩,z.hold,⟨none,0,z.roads.l⟩,z.fresh⟩
def Jbq (s:XSite):XSite:=⟨Jem s.air,⟨none,0,s.sensors.l⟩,⟨none,0,s.conds.l⟩,⟨none,0,s.zones.l.map Jqa⟩,⟨none,0,s.persons.l⟩⟩
theorem Jju (s:XSite) (k:Nat):(Jbq s).zones.l.getD k default=Jqa (s.zones.l.getD k default):=Jn4 rfl
theorem Jjo (s:XSite):(Jbq s).zones.l.length=s.zones.l.length:=List.length_map _
theorem Jw2 (a:XAir) (x:XSens):Jjy (Jem a) x=Jjy a x:=by
  rw [Jjy,Jjy,show (Jem a).fans.l.length=a.fans.l.length from List.length_map _,show (Jem a).doors.l.length=a.doors.l.length from List.length_map _];rfl
theorem Jon (a:XAir) (S:List XSens):Jcd (Jem a) S=Jcd a S:=by
  have e:Je7 (Jem a) S=Je7 a S:=by
    funext i
    rw [Je7,Je7,Jw2]
  rw [Jcd,Jcd,e]
theorem Jr5 (s:XSite):Jee (Jbq s)=Jee s:=by
  rw [Jee,Jee,show (Jbq s).zones.l=s.zones.l.map Jqa from rfl,List.findSome?_map];rfl
theorem Jf6 (s:XSite):Jb1 (Jbq s)=Jb1 s:=by
  rw [Jb1,Jb1,Jr5,Jjo,show Jbx (Jbq s).air=Jbx s.air from Jo3 _,show Jcd (Jbq s).air (Jbq s).sensors.l=Jcd s.air s.sensors.l from Jon _ _];rfl
theorem Jkt (s:XSite) (m:List XMeas) (w:List XWatch) (fl:List XSpan) (t:Int):valuesErr (Jbq s) m w fl t=valuesErr s m w fl t:=by rw [valuesErr,valuesErr,Jf6];rfl
theorem Jm5 (s:XSite) (v:List Int) (c:List XCut) (t:Int):cutsErr (Jbq s) v c t=cutsErr s v c t:=by rw [cutsErr,cutsErr,Jf6,Jjo];rfl
theorem Jre (s:XSite) (v:List Int) (c:List XCut) (t:Int):cutAt (Jbq s) v c t=cutAt s v c t:=by
  funext i
  rw [cutAt,cutAt,Jju];rfl
theorem Jmc (s : XSite) (v : List Int) (c : List XCut) : ∀ k, Jig (Jbq s) v c k = Jig s v c k
  | 0=>rfl
  | k + 1=>by rw [Jig,Jig,Jmc s v c k,Jju];rfl
theorem Jo8 (s:XSite) (c:List XCut) (fl:List XSpan) (k t:Int):readyE (Jbq s) c fl k t=readyE s c fl k t:=by rw [readyE,readyE,Jju];rfl
theorem Jnj (s:XSite) (n m:Nat) (t:Int):sharedE (Jbq s) n m t=sharedE s n m t:=by rw [sharedE,sharedE,Jf6,Jjo];rfl
abbrev SiteE (s s':XSite):Prop:=Jbq s=Jbq s'
section
variable {s s':XSite} (h:SiteE s s')
include h
theorem SiteE.air:Jem s.air=Jem s'.air:=congrArg XSite.air (show Jbq s=Jbq s' from h)
theorem SiteE.sens:s.sensors.l=s'.sensors.l:=by
  have e:=congrArg (fun x:XSite=>x.sensors.l) (show Jbq s=Jbq s' from h)
  exact e
theorem SiteE.conds:s.conds.l=s'.conds.l:=by
  have e:=congrArg (fun x:XSite=>x.conds.l) (show Jbq s=Jbq s' from h)
  exact e
theorem SiteE.persons:s.persons.l=s'.persons.l:=by
  have e:=congrArg (fun x:XSite=>x.persons.l) (show Jbq s=Jbq s' from h)
  exact e
theorem SiteE.places:s.air.mine.places.l=s'.air.mine.places.l:=by
  have e:=congrArg (fun x:XSite=>x.air.mine.places.l) (show Jbq s=Jbq s' from h)
  exact e
theorem SiteE.roads:s.air.mine.roads.l=s'.air.mine.roads.l:=by
  have e:=congrArg (fun x:XSite=>x.air.mine.roads.l) (show Jbq s=Jbq s' from h)
  exact e
theorem SiteE.nfans:s.air.fans.l.length=s'.air.fans.l.length:=by
  have:=congrArg (fun x:XSite=>x.air.fans.l.length) (show Jbq s=Jbq s' from h)
  simpa [Jbq,Jem] using this
theorem SiteE.ndoors:s.air.doors.l.length=s'.air.doors.l.length:=by
  have:=congrArg (fun x:XSite=>x.air.doors.l.length) (show Jbq s=Jbq s' from h)
  simpa [Jbq,Jem] using this
theorem SiteE.nzones:s.zones.l.length=s'.zones.l.length:=by rw [← Jjo s,h,Jjo s']
theorem SiteE.zone (k:Nat):Jqa (s.zones.l.getD k default)=Jqa (s'.zones.l.getD k default):=by rw [← Jju s,h,Jju s']
theorem SiteE.rule (k:Nat):(s.zones.l.getD k default).rule.l=(s'.zones.l.getD k default).rule.l:=by
  have e:=congrArg (fun z:XZone=>z.rule.l) (SiteE.zone h k)
  exact e
theorem SiteE.door (k:Nat):(s.air.doors.l.getD k default).rests.l=(s'.air.doors.l.getD k default).rests.l:=by
  have e:Jkj (s.air.doors.l.getD k default)=Jkj (s'.air.doors.l.getD k default):=by rw [← Joc s.air,SiteE.air h,Joc s'.air]
  have e2:=congrArg (fun d:XDoor=>d.rests.l) e
  exact e2
theorem SiteE.err:Jb1 s=Jb1 s':=by rw [← Jf6 s,h,Jf6 s']
theorem SiteE.valuesErr (m:List XMeas) (w:List XWatch) (fl:List XSpan) (t:Int):valuesErr s m w fl t=valuesErr s' m w fl t:=by rw [← Jkt s,h,Jkt s']
theorem SiteE.valuesV (m:List XMeas) (w:List XWatch) (fl:List XSpan) (t:Int):valuesV s m w fl t=valuesV s' m w fl t:=by
  rw [Go.Proofs.YtchfclmokpbldaaGreat.valuesV,Go.Proofs.YtchfclmokpbldaaGreat.valuesV,SiteE.valuesErr h,SiteE.sens h,SiteE.conds h]
theorem SiteE.valuesW (m:List XMeas) (w:List XWatch) (fl:List XSpan) (t:Int):valuesW s m w fl t=valuesW s' m w fl t:=by
  rw [Go.Proofs.YtchfclmokpbldaaGreat.valuesW,Go.Proofs.YtchfclmokpbldaaGreat.valuesW,SiteE.valuesErr h,SiteE.sens h,SiteE.conds h]
theorem SiteE.cutsErr (v:List Int) (c:List XCut) (t:Int):cutsErr s v c t=cutsErr s' v c t:=by rw [← Jm5 s,h,Jm5 s']
theorem SiteE.cutAt (v:List Int) (c:List XCut) (t:Int):cutAt s v c t=cutAt s' v c t:=by rw [← Jre s,h,Jre s']
theorem SiteE.cutsC (v:List Int) (c:List XCut) (t:Int):cutsC s v c t=cutsC s' v c t:=by rw [Go.Proofs.YtchfclmokpbldaaGreat.cutsC,Go.Proofs.YtchfclmokpbldaaGreat.cutsC,SiteE.cutsErr h,SiteE.cutAt h]
theorem SiteE.cutsN (v:List Int) (c:List XCut) (t:Int):cutsN s v c t=cutsN s' v c t:=by
  rw [Go.Proofs.YtchfclmokpbldaaGreat.cutsN,Go.Proofs.YtchfclmokpbldaaGreat.cutsN,SiteE.cutsErr h,← Jmc s,h,Jmc s']
theorem SiteE.readyE (c:List XCut) (fl:List XSpan) (k t:Int):readyE s c fl k t=readyE s' c fl k t:=by rw [← Jo8 s,h,Jo8 s']
theorem SiteE.sharedE (n m:Nat) (t:Int):sharedE s n m t=sharedE s' n m t:=by rw [← Jnj s,h,Jnj s']
theorem SiteE.askE (c:List XCut) (fl:List XSpan) (r:XRest) (p k t:Int):askE s c fl r p k t=askE s' c fl r p k t:=by
  rw [Go.Proofs.YtchfclmokpbldaaGreat.askE,Go.Proofs.YtchfclmokpbldaaGreat.askE,SiteE.sharedE h,SiteE.readyE h,SiteE.persons h]
theorem SiteE.askR (c:List XCut) (fl:List XSpan) (r:XRest) (p k t:Int):askR s c fl r p k t=askR s' c fl r p k t:=by
  rw [Go.Proofs.YtchfclmokpbldaaGreat.askR,Go.Proofs.YtchfclmokpbldaaGreat.askR,SiteE.askE h]
theorem SiteE.confirmE (c:List XCut) (fl:List XSpan) (r:XRest) (p t:Int):confirmE s c fl r p t=confirmE s' c fl r p t:=by
  have e:Je5 s r p↔Je5 s' r p:=by unfold Je5;rw [SiteE.persons h]
  simp only [Go.Proofs.YtchfclmokpbldaaGreat.confirmE,SiteE.sharedE h,SiteE.readyE h,e]
theorem SiteE.confirmR (c:List XCut) (fl:List XSpan) (r:XRest) (p t:Int):confirmR s c fl r p t=confirmR s' c fl r p t:=by
  rw [Go.Proofs.YtchfclmokpbldaaGreat.confirmR,Go.Proofs.YtchfclmokpbldaaGreat.confirmR,SiteE.confirmE h]
end
end Go.Proofs.YtchfclmokpbldaaGreat
end
section
/-
  Power networks: orders to open, and what happens as time passes. Plain. By an AI agent; no person has read it.
-/
namespace Go.Proofs.YtchfclmokpbldaaGreat
open Go.Aw Go
def Kbb (x:XSwitch) (t:Int):XSwitch:=⟨x.above,t,0,false,false⟩
def Jdn (sw:List XSwitch) (s t:Int):List XSwitch:=if (sw.getD s.toNat default).closed=true then sw.set s.toNat (Kbb (sw.getD s.toNat default) t) else sw
theorem J0e (sw:List XSwitch) (s t:Int):(Jdn sw s t).length=sw.length:=by rw [Jdn];split <;> simp
structure SwKeep (sw sw':List XSwitch) (t:Int):Prop where
  len:sw'.length=sw.length
  at_:∀i:Nat,i < sw.length→(sw'.getD i default).above=(sw.getD i default).above∧((sw'.getD i default).since=(sw.getD i default).since∨(sw'.getD i default).since=t)∧(-1≤(sw'.getD i default).shown∧(sw'.getD i default).shown≤1)∧¬ ((sw'.getD i default).late=true∧((sw'.getD i default).closed=true∨(sw'.getD i default).shown= -1))
theorem J2n {sw:List XSwitch} {zn:List Int} {rp:Int} (h:feedE sw zn rp=0):∀i:Nat,i < sw.length→(-1≤(sw.getD i default).shown∧(sw.getD i default).shown≤1)∧¬ ((sw.getD i default).late=true∧((sw.getD i default).closed=true∨(sw.getD i default).shown= -1)):=fun i hi=>by
  by_cases h0:32 < sw.length∨16 < zn.length
  · rw [feedE,if_pos h0] at h;omega
  cases h1:(List.range sw.length).findSome? (Jhs sw) with
  | some e=>rw [Jly h0 h1] at h;exact absurd h (Jsk (fun _=>Jzm) h1)
  | none=>
    have:=Jmt h1 hi
    rw [Jhs] at this
    split at this
    · cases this
    split at this
    · cases this
    split at this
    · cases this
    rename_i k1 k2 k3
    rw [not_or] at k3
    exact ⟨by omega,k3.2⟩
theorem SwKeep.refl {sw:List XSwitch} {zn:List Int} {rp:Int} (h:feedE sw zn rp=0) (t:Int):SwKeep sw sw t:=⟨rfl,fun i hi=>⟨rfl,.inl rfl,J2n h i hi⟩⟩
theorem SwKeep.feedE {sw sw':List XSwitch} {zn:List Int} {rp t:Int} (k:SwKeep sw sw' t) (h:feedE sw zn rp=0) (ht:0≤t∧t≤2147483648):feedE sw' zn rp=0:=by
  have hl:=k.len
  have hok:=Jdt h
  have h0':¬ (32 < sw'.length∨16 < zn.length):=by have:=hok.sn;have:=hok.zl;omega
  have h1':(List.range sw'.length).findSome? (Jhs sw')=none:=by
    rw [List.findSome?_eq_none_iff]
    intro i hi
    rw [List.mem_range,hl] at hi
    have h2:=k.at_ i hi
    have h3:=hok.up i hi
    have h4:=hok.since i hi
    exact J1j rfl za za (fun h=>by
      rcases h with h | h
      · omega
      · exact h2.2.2.2 h)
  have h2':(List.range zn.length).findSome? (Jkc sw'.length zn)=none:=by
    rw [List.findSome?_eq_none_iff]
    intro i hi
    rw [List.mem_range] at hi
    have:=hok.zr i hi
    exact J1o za (fun ⟨j,hj,e⟩=>hok.zd i j hj hi e)
  rw [Jnv h0' h1' h2',if_neg (by have:=hok.rp;omega)]
theorem SwKeep.time {sw sw':List XSwitch} {t:Int} (k:SwKeep sw sw' t) (h:Jix sw t):Jix sw' t:=⟨h.1,fun x hx=>by
  obtain ⟨i,hi⟩:=List.mem_iff_getElem?.1 hx
  have hi':=(List.getElem?_eq_some_iff.1 hi).1
  have hl:=k.len
  have e:=getD_some (d:=default) hi
  have h2:=k.at_ i za
  have h3:=h.2 _ (List.mem_of_getElem? (Jau (l:=sw) (k:=i) default za))
  rw [e] at h2
  omega⟩
theorem SwKeep.set {sw sw':List XSwitch} {t:Int} (k:SwKeep sw sw' t) {i:Nat} {x:XSwitch} (h1:x.above=(sw'.getD i default).above) (h2:x.since=(sw'.getD i default).since∨x.since=t) (h3:-1≤x.shown∧x.shown≤1) (h4:¬ (x.late=true∧(x.closed=true∨x.shown= -1))):SwKeep sw (sw'.set i x) t:=by
  refine ⟨by rw [List.length_set];exact k.len,fun j hj=>?_⟩
  have hl:=k.len
  have hk:=k.at_ j hj
  rw [List.getD_eq_getElem?_getD,List.getElem?_set]
  split
  · rename_i e
    subst e
    rw [if_pos za]
    refine ⟨by rw [← hk.1,← h1];rfl,?_,h3,h4⟩
    rcases h2 with h2 | h2
    · rcases hk.2.1 with h5 | h5
      · exact .inl (by rw [← h5,← h2];rfl)
      · exact .inr (by rw [← h5,← h2];rfl)
    · exact .inr h2
  · rw [← List.getD_eq_getElem?_getD];exact hk
theorem SwKeep.openS {sw sw':List XSwitch} {t:Int} (k:SwKeep sw sw' t) (s:Int):SwKeep sw (Jdn sw' s t) t:=by
  rw [Jdn]
  split
  · exact k.set rfl (.inr rfl) ⟨by show (-1:Int)≤0;decide,by show (0:Int)≤1;decide⟩ (by simp [Kbb])
  · exact k
def Jyl (x:XSwitch):Bool:=!x.closed && decide (x.shown≠-1) && !x.late
structure XTick where
  sw:List XSwitch
  late:List Int
  opened : List Int
  deriving Inhabited
def J27 (x:XSwitch):XSwitch:=⟨x.above,x.since,x.shown,x.closed,true⟩
def Jm4 (rp t:Int) (y:XTick) (i:Nat):XTick:=
  if Jyl (y.sw.getD i default)=true∧rp≤t - (y.sw.getD i default).since then
    if 0≤(y.sw.getD i default).above∧((y.sw.set i (J27 (y.sw.getD i default))).getD (y.sw.getD i default).above.toNat default).closed=true then
      ⟨Jdn (y.sw.set i (J27 (y.sw.getD i default))) (y.sw.getD i default).above t,y.late ++ [(i:Int)],y.opened ++ [(y.sw.getD i default).above]⟩
    else ⟨y.sw.set i (J27 (y.sw.getD i default)),y.late ++ [(i:Int)],y.opened⟩
  else y
def Jiy (sw : List XSwitch) (rp t : Int) : Nat → XTick
  | 0=>⟨sw,[],[]⟩
  | k + 1=>Jm4 rp t (Jiy sw rp t k) (sw.length - 1 - k)
def Jgd (sw:List XSwitch) (rp t:Int):XTick:=Jiy sw rp t sw.length
theorem Jxj {sw:List XSwitch} {rp t:Int} {y:XTick} (i:Nat) (hi:i < sw.length) (k:SwKeep sw y.sw t):SwKeep sw (Jm4 rp t y i).sw t:=by
  have h2:=k.at_ i hi
  rw [Jm4]
  split
  · rename_i hw
    have hw1:=hw.1
    rw [Jyl,Bool.and_eq_true,Bool.and_eq_true,decide_eq_true_eq] at hw1
    have hs:SwKeep sw (y.sw.set i (J27 (y.sw.getD i default))) t:=k.set rfl (.inl rfl) h2.2.2.1 (fun h=>by
      rcases h.2 with h | h
      · have : (y.sw.getD i default).closed = true := h
        rw [this] at hw1;exact absurd hw1.1.1 ze
      · exact hw1.1.2 h)
    split
    · exact hs.openS _
    · exact hs
  · exact k
theorem Jit {sw : List XSwitch} {zn : List Int} {rp t : Int} (h : feedE sw zn rp = 0) : ∀ k, k ≤ sw.length → SwKeep sw (Jiy sw rp t k).sw t
  | 0,_=>.refl h t
  | k + 1,hk=>Jxj _ za (Jit h k za)
theorem J0l {rp t:Int} {y:XTick} {i:Nat}:(Jm4 rp t y i).late.length≤y.late.length + 1∧(Jm4 rp t y i).opened.length≤y.opened.length + 1:=by
  rw [Jm4]
  repeat' split
  all_goals (first | (simp only [List.length_append,List.length_cons,List.length_nil];omega) | omega)
theorem Jmh {sw : List XSwitch} {rp t : Int} : ∀ k, (Jiy sw rp t k).late.length ≤ k ∧ (Jiy sw rp t k).opened.length ≤ k
  | 0=>⟨Nat.le_refl _,Nat.le_refl _⟩
  | k + 1=>by
    have h1:=Jmh (sw:=sw) (rp:=rp) (t:=t) k
    have h2:=J0l (rp:=rp) (t:=t) (y:=Jiy sw rp t k) (i:=sw.length - 1 - k)
    rw [Jiy];omega
end Go.Proofs.YtchfclmokpbldaaGreat
end
