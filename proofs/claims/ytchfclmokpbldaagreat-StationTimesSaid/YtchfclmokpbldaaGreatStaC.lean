/-
  Stations: settling. By an AI agent; no person has read it.
-/
import Derived.Test.YtchfclmokpbldaaGreatStaB
import Derived.Test.YtchfclmokpbldaaGreatVals
import Derived.Test.YtchfclmokpbldaaGreatCutC
import Derived.Test.YtchfclmokpbldaaGreatRestP
set_option linter.unusedVariables false
set_option linter.unusedSimpArgs false
namespace Go.Proofs.YtchfclmokpbldaaGreat
open Go.Aw Go
set_option maxRecDepth 20000
attribute [local irreducible] CJ LJ DJ Tri YV Gives Jcj Ja1 Jbg Jci RV Ja2 OwL.L
section
variable {A9 B9:Prop}
theorem J5o (a:A9) (h:A9→B9:=by exact Jbu (Jca (show _=Value.slice _ _ _ from rfl)) rfl rfl rfl):B9:=h a
theorem J7i (a:A9) (h:A9→B9:=by exact Jax (Jal (row:=[_,_,_]) tb rfl rfl rfl zf zb zb) rfl):B9:=h a
theorem Ka3 (a:A9) (h:A9→B9:=by exact Jbu (Jal (row:=[_,_,_,_,_,_,_,_]) tb rfl rfl rfl zf zb zb) rfl rfl rfl):B9:=h a
end
theorem J5c {A B C:List Blk} {x:Blk}:(A ++ (x :: (B ++ C))).Perm (x :: (B ++ (A ++ C))):=List.perm_middle.trans (.cons _ (List.perm_append_comm_assoc A B C))
theorem J1i (g:PSite) (p:PSta) (l:List Int) {k:Nat} {z:Int} (h:l[k]?=some z):Jll g p (l.take (k + 1))=Jt0 g (Jll g p (l.take k)) z:=by
  rw [List.take_add_one,h];simp [Jll,List.foldl_append]
theorem Jqm (kind:Int) (p:PSta) (l:List Int) {k:Nat} {z:Int} (h:l[k]?=some z):Jff kind p (l.take (k + 1))=Jf9 (Jff kind p (l.take k)) kind z 0:=by
  rw [List.take_add_one,h];simp [Jff,List.foldl_append]
theorem Jzj {g : PSite} : ∀ (l : List Int) {p : PSta}, (Jll g p l).cuts.length = p.cuts.length
  | [],p=>rfl
  | z :: l,p=>(Jzj l).trans (by rw [Jur])
theorem Jsa {g : PSite} {p : PSta} (vals : List Int) : ∀ k, (darkTo g vals p k).cuts.length = p.cuts.length
  | 0=>rfl
  | k + 1=>by
    rw [darkTo,Ji7]
    split
    · exact Jsa vals k
    · rw [Jur]
      show (List.set _ _ _).length=_
      rw [List.length_set];exact Jsa vals k
theorem Jyw {s : XSite} {v : List Int} {c : List XCut} : ∀ k, (Jig s v c k).length ≤ k
  | 0=>Nat.le_refl _
  | k + 1=>by
    have h:=Jyw (s:=s) (v:=v) (c:=c) k
    rw [Jig]
    split
    · rw [List.length_append,List.length_singleton];omega
    · omega
theorem Jow {s : XSite} {v : List Int} {c : List XCut} : ∀ k, ∀ z ∈ Jig s v c k, 0 ≤ z ∧ z < k
  | 0,z,h=>by cases h
  | k + 1,z,h=>by
    rw [Jig] at h
    split at h
    · rcases List.mem_append.1 h with h | h
      · have:=Jow k z h;omega
      · rw [List.mem_singleton.1 h];omega
    · have:=Jow k z h;omega
theorem Jgt (g0:PSite) (p:PSta) (x:XSta) (pl:OwL XEntry) (b:Nat) (t:Int) (L:List Blk) (R:List Sl) (hI:Inv g0 p) (hx:StaIs g0 p ({x with log:=pl.arr}:XSta)) (hs:SiteR x.site R) (hm:InR (Jde x.meas) R) (hw:InR (Jwm x.watches) R) (hc:InR (Jp3 x.cuts) R) (hf:FeederR x.feeder R) (hlk:pl.ok 4 XEntry.cells) (ht:p.time≤t∧t≤2147483648):
    Tri Tryz.prog 82 [.pointer (some ⟨b, 0, none⟩), .int .i64 t].toArray (⟨b, ({x with log := pl.arr} : XSta).cells, 54⟩ :: (pl.L 150 XEntry.cells ++ L)) R
      (fun v L' R'=>∃(w:Arr XWatch) (c:Arr XCut) (f:XFeeder) (q:OwL XEntry) (S:List Sl),q.ok 4 XEntry.cells∧StaIs g0 (Jaj g0 p t) ({x with time:=t,watches:=w,cuts:=c,feeder:=f,rest:=(Jaj g0 p t).rest,log:=q.arr}:XSta)∧(InR (Jwm w) (S ++ R)∧InR (Jp3 c) (S ++ R)∧FeederR f (S ++ R))∧
        ⟨b,({x with time:=t,watches:=w,cuts:=c,feeder:=f,rest:=(Jaj g0 p t).rest,log:=q.arr}:XSta).cells,54⟩ :: (q.L 150 XEntry.cells ++ L)=L'∧S ++ R=R'):=by
  have hIT:=hI.at ht.1 ht.2
  have hv:StaV ({x with time:=t,log:=pl.arr}:XSta) R:=StaV.of (x:={x with time:=t,log:=pl.arr}) (p:=({ p with time:=t }:PSta)) hIT { hx with time:=rfl } hs hm
  have hA:AiryIs x.site.air.mine g0.air:=SiteE.airy hx.site hIT.airy
  have hpll:pl.l=p.log:=hx.log
  have hml:x.meas.l=p.meas:=hx.meas
  have hwl:x.watches.l=p.watches:=hx.watches
  have hcl:x.cuts.l=p.cuts:=hx.cuts
  have hswl:x.feeder.switches.l=p.sw:=hx.sw
  have hznl:x.feeder.zones.l=g0.zn:=hx.zn
  have hrpl:x.feeder.reply=g0.rp:=hx.rp
  have hzl:=hI.zlen
  have hzs:x.site.zones.l.length=g0.site.zones.l.length:=SiteE.nzones hx.site
  have hclen:=hI.clen
  have hso:=hI.sok.len
  have hsA:=hIT.settleA
  have hsB:=hsA.settleB
  have hINV:Inv g0 ({ p with time:=t,watches:=valuesW g0.site p.meas p.watches (flP g0 ({ p with time:=t }:PSta)) t,cuts:=cutsC g0.site (Jny g0 ({ p with time:=t }:PSta)) p.cuts t }:PSta):=hIT.sA
  dsimp only [XSta.cells]
  refine Jad 209 Tryz.call82 Tryz.func82 rfl rfl rfl ?_
  refine qae ?_
  refine Xdu ?_
  refine Jax (Jay rfl) rfl ?_
  refine Xbh ?_
  refine qa4 ?_
  refine Jbf tb [0,1,2,3,4,5,6,7,8,9,10,11,12,13,14,16,15,17,18,19,20,21,22,23,24] _ Jby zc (List.Sublist.refl _) ?_
  refine Xbt ?_
  refine qal ?_
  refine Ka3 ?_
  refine Xcv ?_
  refine Xcv ?_
  refine Xbt ?_
  refine Jbu (Jal (row:=[_,_,_,_,_,_,_,_,_,_,_,_,_,_,_,_,_,_,_,_,_,_,_]) tb rfl rfl rfl zf zb zb) rfl rfl rfl ?_
  refine qao ?_
  refine Jei rfl (Jlk {x with time:=t,log:=pl.arr} g0.air _ _ hv hA) rfl rfl ?_
  rintro v L' R' ⟨fl,rfl,hfll,rfl,rfl⟩
  refine ⟨zi,zx,?_⟩
  refine Jei rfl (J00 x.site x.meas x.watches fl t _ _ ⟨hs.mono fun r hr=>Jaa (.tail _ hr),hm.mono fun r hr=>Jaa (.tail _ hr),hw.mono fun r hr=>Jaa (.tail _ hr),Jaa (.head _),hv.mok⟩) rfl rfl ?_
  rintro v L' R' ⟨pv,pw,rfl,⟨hpvk,hpwk⟩,hpvl,hpwl,rfl,rfl⟩
  refine ⟨zi,zx,?_⟩
  refine Jbu (Jav rfl) rfl rfl rfl ?_
  iterate 3 refine Jbu (Jb3 rfl rfl) rfl rfl rfl ?_
  refine J5o ?_
  refine J5o ?_
  refine qcg ?_
  refine Jaz (Jab (Jam (Jam ?_)))
  have hfle:fl.l=flP g0 ({ p with time:=t }:PSta):=by rw [hfll];show Jiz x.site g0.air x.meas.l t=_;rw [SiteE.flows hx.site,hml];rfl
  have hVE:valuesErr x.site x.meas.l x.watches.l fl.l t=0:=by rw [SiteE.valuesErr hx.site,hml,hwl,hfle];exact hIT.valErr
  have hpv:pv.l=Jny g0 ({ p with time:=t }:PSta):=by rw [hpvl,SiteE.valuesV hx.site,hml,hwl,hfle];rfl
  have hpw:pw.l=valuesW g0.site p.meas p.watches (flP g0 ({ p with time:=t }:PSta)) t:=by rw [hpwl,SiteE.valuesW hx.site,hml,hwl,hfle]
  refine Jbe (T:=3) (f:=Jap) (wd:=1) pv [] zk (fun _=>rfl) ze hpvk (fun s hs=>by cases hs) ?_
  refine Jcy zp ?_
  refine Jbe (T:=153) (f:=XWatch.cells) (wd:=3) pw [] zk (fun _=>rfl) ze hpwk (fun s hs=>by cases hs) ?_
  refine Jcy zp ?_
  have hR1:∀r∈R,InR r (Jwm pw.arr :: isl pv.arr :: J06 fl :: R):=fun r hr=>Jaa (.tail _ (.tail _ (.tail _ hr)))
  have hfe0:feedE x.feeder.switches.l x.feeder.zones.l x.feeder.reply=0:=by rw [hswl,hznl,hrpl];exact hI.fe
  refine Jbf tb [0,1,2,3,4,5,6,7,8,9,10,11,12,13,14,15,16,17,18,19,20,21,22,23,24] _ Jby zc (List.Sublist.refl _) ?_
  refine qao ?_
  refine Jbu (Jou rfl rfl) rfl rfl rfl ?_
  refine qb2 ?_
  refine Jdw (k:=48) (show _=Value.bool _ from rfl) (fun hg2=>?_) (fun hg2=>?_)
  ·
   replace hg2:=qb hg2
   exact absurd hVE hg2
  replace hg2:=qb hg2
  refine Xbt ?_
  refine qal ?_
  refine Jbu (Jal (row:=[_,_,_]) tb rfl rfl rfl zf zb zb) rfl rfl rfl ?_
  refine q_d rfl (Jdr x.feeder _ _ (hf.mono hR1)) ?_
  refine Jbu (Jou rfl rfl) rfl rfl rfl ?_
  refine Xbj ?_
  refine Jdw (k:=56) (show _=Value.bool _ from rfl) (fun hg10=>?_) (fun hg10=>?_)
  ·
   replace hg10:=qb hg10
   exact absurd hfe0 hg10
  replace hg10:=qb hg10
  refine Xbt ?_
  refine Xdh ?_
  refine Jbu (Jhf tb rfl rfl rfl) rfl rfl rfl ?_
  refine Xbt ?_
  refine Xdh ?_
  refine Jbu (Jhf tb rfl rfl rfl) rfl rfl rfl ?_
  refine Jbu (Jou rfl rfl) rfl rfl rfl ?_
  refine Xbx ?_
  refine q_c (fun hc0=>?_) (fun hc0=>?_)
  ·
   (exfalso;rw [hznl] at hc0;omega)
  refine qcl ?_
  refine Jbf tb [0,1,2,3,4,5,6,7,8,9,10,11,12,13,14,15,16,17] _ Jby zc (List.Sublist.refl _) ?_
  refine Xbt ?_
  refine qal ?_
  refine Ka3 ?_
  refine Jbu (Jav (show _=Value.slice _ _ _ from rfl)) rfl rfl rfl ?_
  refine Xbt ?_
  refine Xbo ?_
  refine Jei rfl (J4d x.site pv.arr x.cuts t _ _ (hs.mono hR1) (Jaa (.tail _ (.head _))) (hc.mono hR1)) rfl rfl ?_
  rintro v L' R' ⟨pc,qn,rfl,⟨hpck,hqnk⟩,hpcl,hqnl,rfl,rfl⟩
  refine ⟨zi,zx,?_⟩
  refine Jbu (Jav rfl) rfl rfl rfl ?_
  iterate 3 refine Jbu (Jb3 rfl rfl) rfl rfl rfl ?_
  refine J5o ?_
  refine J5o ?_
  refine qcg ?_
  refine Jaz (Jab (Jam (Jam ?_)))
  have hCE:cutsErr x.site pv.l x.cuts.l t=0:=by rw [SiteE.cutsErr hx.site,hpv,hcl];exact hIT.cutErr
  have hpc:pc.l=cutsC g0.site (Jny g0 ({ p with time:=t }:PSta)) p.cuts t:=by
    rw [hpcl];show cutsC x.site pv.l x.cuts.l t=_;rw [SiteE.cutsC hx.site,hpv,hcl]
  have hqn:qn.l=(cutsN g0.site (Jny g0 ({ p with time:=t }:PSta)) p.cuts t):=by
    rw [hqnl];show cutsN x.site pv.l x.cuts.l t=_;rw [SiteE.cutsN hx.site,hpv,hcl]
  refine Jbe (T:=3) (f:=Jap) (wd:=1) qn [] zk (fun _=>rfl) ze hqnk (fun s hs=>by cases hs) ?_
  refine Jcy zp ?_
  refine Xa4 ?_
  refine Xaq ?_
  refine q_c (fun hc1=>?_) (fun hc1=>?_)
  ·
   exact absurd hCE hc1
  refine qbv ?_
  refine qa6 ?_
  refine qa6 ?_
  refine qbm ?_
  refine qbm ?_
  refine Jax (Jay rfl) rfl ?_
  refine Xbs ?_
  refine Jax (Jay rfl) rfl ?_
  refine Xbs ?_
  refine qco ?_
  obtain ⟨R1,hR1e⟩:∃R1,R1=isl qn.arr :: Jwm pw.arr :: isl pv.arr :: J06 fl :: R:=⟨_,rfl⟩
  have hRR1:∀r∈R,InR r R1:=fun r hr=>Jaa (by rw [hR1e];exact .tail _ (.tail _ (.tail _ (.tail _ hr))))
  have hqnR:InR (isl qn.arr) R1:=Jaa zna
  have hpwR:InR (Jwm pw.arr) R1:=Jaa zla
  have hpvR:InR (isl pv.arr) R1:=Jaa zya
  refine Jsd (show _=R1 by rw [hR1e]) ?_
  have hpcn:pc.l.length=g0.site.zones.l.length:=by rw [hpc];exact hINV.clen
  have hqnn:qn.l.length≤16:=by
    have:=Jyw (s:=g0.site) (v:=Jny g0 ({ p with time:=t }:PSta)) (c:=p.cuts) p.cuts.length
    rw [hqn,cutsN,if_neg (by rw [hIT.cutErr];decide)];omega
  refine Jym J5c ?_
  refine Jcy (L':=⟨b,({x with time:=t,watches:=pw.arr,cuts:=pc.arr,log:=pl.arr}:XSta).cells,54⟩ :: (pl.L 150 XEntry.cells ++ (pc.L 71 XCut.cells ++ L))) rfl ?_
  refine qay ?_
  refine Xbv ?_
  refine Jan [(0,Value.pointer _),(1,Value.int _ _),(4,Value.slice _ _ _),(96,Value.slice _ _ _),(97,Value.int _ _),(98,Value.int _ _)] zh fun tq0=>?_
  refine q_p [10,98,99,100,101,102,103,104,105] ((⟨fun g=>[(98,.int .i64 ((g.1.1:Nat):Int))],fun g=>⟨b,({x with time:=t,watches:=pw.arr,cuts:=pc.arr,feeder:=g.1.2.1,log:=g.1.2.2.1.arr}:XSta).cells,54⟩ :: (g.1.2.2.1.L 150 XEntry.cells ++ (pc.L 71 XCut.cells ++ L)),fun g=>g.1.2.2.2,fun g=>qn.l.length - g.1.1⟩:Head {g:Nat×XFeeder×OwL XEntry×List Sl // g.1≤qn.l.length∧g.2.2.1.ok 4 XEntry.cells∧StaIs g0 (Jll g0 ({ p with time:=t,watches:=valuesW g0.site p.meas p.watches (flP g0 ({ p with time:=t }:PSta)) t,cuts:=cutsC g0.site (Jny g0 ({ p with time:=t }:PSta)) p.cuts t }:PSta) (qn.l.take g.1)) ({x with time:=t,watches:=pw.arr,cuts:=pc.arr,feeder:=g.2.1,log:=g.2.2.1.arr}:XSta)∧FeederR g.2.1 g.2.2.2∧∀r∈R1,InR r g.2.2.2})) (⟨(0,x.feeder,pl,R1),by dsimp only;omega,hlk,{ hx with time:=rfl,watches:=hpw,cuts:=hpc },hf.mono hRR1,Jac _⟩) ?_
  rintro ⟨⟨k,f1,l1,S1⟩,hk,hl1k,hS1,hf1,hR1S⟩ junk
  try dsimp only
  dsimp only [XSta.cells]
  dsimp only at hk hl1k hS1 hf1 hR1S
  have hI1:Inv g0 (Jll g0 ({ p with time:=t,watches:=valuesW g0.site p.meas p.watches (flP g0 ({ p with time:=t }:PSta)) t,cuts:=cutsC g0.site (Jny g0 ({ p with time:=t }:PSta)) p.cuts t }:PSta) (qn.l.take k)):=hINV.cuts _
  refine Xak ?_
  refine q_c (fun hc2=>?_) (fun hc2=>?_)
  ·
   have hqg:=Jau (l:=qn.l) (k:=k) 0 za
   have hqz:=Jow (s:=g0.site) (v:=Jny g0 ({ p with time:=t }:PSta)) (c:=p.cuts) p.cuts.length (qn.l.getD k 0) (by
     have e:Jig g0.site (Jny g0 ({ p with time:=t }:PSta)) p.cuts p.cuts.length=qn.l:=by rw [hqn,cutsN,if_neg (by rw [hIT.cutErr];decide)]
     rw [e];exact List.mem_of_getElem? hqg)
   have hqnR1:=hqnR.mono hR1S
   have hst:=J1i g0 ({ p with time:=t,watches:=valuesW g0.site p.meas p.watches (flP g0 ({ p with time:=t }:PSta)) t,cuts:=cutsC g0.site (Jny g0 ({ p with time:=t }:PSta)) p.cuts t }:PSta) qn.l hqg
   refine qbb ?_
   refine Jax zC rfl ?_
   refine qa7 ?_
   refine qad ?_
   refine Ja6 (Jab (Jah ?_))
   refine Xdu ?_
   refine Jaw rfl (J13 g0 (Jll g0 ({ p with time:=t,watches:=valuesW g0.site p.meas p.watches (flP g0 ({ p with time:=t }:PSta)) t,cuts:=cutsC g0.site (Jny g0 ({ p with time:=t }:PSta)) p.cuts t }:PSta) (qn.l.take k)) {x with time:=t,watches:=pw.arr,feeder:=f1} pc l1 b (qn.l.getD k 0) _ _ hI1 hS1 hf1 hpck hl1k (by rw [Jzj];show _∧_ < ((cutsC g0.site (Jny g0 ({ p with time:=t }:PSta)) p.cuts t).length:Int);rw [← hpc];omega)) rfl ?_
   rintro v L' R' ⟨f2,l2,S2,hl2k,hS2,hf2,rfl,rfl⟩
   refine Xbb ?_
   exact q_k ⟨(k + 1,f2,l2,S2 ++ S1),by dsimp only;omega,hl2k,by dsimp only;rw [hst];exact hS2,hf2,fun r hr=>(hR1S r hr).mono fun r hr=>Jaa (List.mem_append_right _ hr)⟩
  obtain rfl:k=qn.l.length:=by omega
  have hSA:Jll g0 ({ p with time:=t,watches:=valuesW g0.site p.meas p.watches (flP g0 ({ p with time:=t }:PSta)) t,cuts:=cutsC g0.site (Jny g0 ({ p with time:=t }:PSta)) p.cuts t }:PSta) (qn.l.take qn.l.length)=settleA g0 ({ p with time:=t }:PSta):=by rw [List.take_of_length_le (Nat.le_refl _),hqn];rfl
  rw [hSA] at hS1 hI1
  have hcA:pc.l=(settleA g0 ({ p with time:=t }:PSta)).cuts:=hS1.cuts
  have hrA:x.rest=(settleA g0 ({ p with time:=t }:PSta)).rest:=hS1.rest
  have htA:t=(settleA g0 ({ p with time:=t }:PSta)).time:=hS1.time
  have hszA:f1.zones.l=g0.zn:=hS1.zn
  have hswA:f1.switches.l=(settleA g0 ({ p with time:=t }:PSta)).sw:=hS1.sw
  have hrpA:f1.reply=g0.rp:=hS1.rp
  refine qc3 ?_
  refine Jbk tb [] [0,1,2,3,4,5,6,7,8,9,10,11] [12] (_) _ Jby zc zi (by (repeat (first | apply List.Sublist.cons (a:=Blk.mk b _ _) | apply List.Sublist.cons_cons));exact List.Sublist.refl _) ?_
  refine qb3 ?_
  refine qb3 ?_
  refine Jbv (Jay rfl) rfl rfl rfl rfl ?_
  refine Xar ?_
  refine qb3 ?_
  refine Jbv (Jay rfl) rfl rfl rfl rfl ?_
  refine qan ?_
  refine Jbv (Jal (row:=[_,_,_,_,_]) tb rfl rfl rfl zf zb zb) rfl rfl rfl rfl ?_
  refine Jdf rfl (J5i (p:=pc) x.rest zZ hpck) rfl rfl ?_
  rintro v L' R' ⟨rfl,rfl,rfl⟩
  refine ⟨zi,zx,?_⟩
  refine Jbv (Jay rfl) rfl rfl rfl rfl ?_
  refine qan ?_
  refine qba ?_
  refine Jlf rfl rfl rfl rfl zA zb zb zb zi ?_
  refine Jaz (Jab (Jam (Jam ?_)))
  have hke:Jga pc.l x.rest=Jga (settleA g0 ({ p with time:=t }:PSta)).cuts (settleA g0 ({ p with time:=t }:PSta)).rest:=by rw [hcA,hrA]
  obtain ⟨rr,hrr⟩:∃rr,rr=Jga (settleA g0 ({ p with time:=t }:PSta)).cuts (settleA g0 ({ p with time:=t }:PSta)).rest:=⟨_,rfl⟩
  rw [hke,← hrr]
  have hTE:Jp8 f1.switches.l f1.zones.l f1.reply t=0:=by rw [hswA,hszA,hrpA,Jp8,if_neg (by rw [hI1.fe];decide),if_pos (by have:=hI1.tok;rw [← htA] at this;exact this)]
  refine qay ?_
  refine qa6 ?_
  refine Jax (Jay rfl) rfl ?_
  refine qab ?_
  refine J7i ?_
  refine qaa ?_
  refine Jaw rfl (Jvx f1 t _ _ hf1) rfl ?_
  rintro v L' R' ⟨tp,tq,tr,tl,to,rfl,⟨htpk,htqk,htlk,htok⟩,htk,rfl,rfl⟩
  refine Jax (Jav rfl) rfl ?_
  iterate 4 refine qbs ?_
  refine qaq ?_
  intro b11
  refine qak ?_
  refine Xbr ?_
  refine Xat ?_
  refine Xbp ?_
  refine q_c (fun hc3=>?_) (fun hc3=>?_)
  ·
   obtain ⟨htp,htq,rfl,htl,hto⟩:=htk hTE
   refine Jbe (T:=3) (f:=Jap) (wd:=1) to [] zk (fun _=>rfl) ze htok (fun s hs=>by cases hs) ?_
   refine Jcy zp ?_
   refine Jbe (T:=3) (f:=Jap) (wd:=1) tl [] zk (fun _=>rfl) ze htlk (fun s hs=>by cases hs) ?_
   refine Jcy zp ?_
   refine Jbe (T:=3) (f:=Jap) (wd:=1) tq [] zk (fun _=>rfl) ze htqk (fun s hs=>by cases hs) ?_
   refine Jcy zp ?_
   refine Jbe (T:=76) (f:=XSwitch.cells) (wd:=5) tp [] zk (fun _=>rfl) ze htpk (fun s hs=>by cases hs) ?_
   refine Jcy zp ?_
   obtain ⟨R2,hR2e⟩:∃R2,R2=Jpm tp.arr :: isl tq.arr :: isl tl.arr :: isl to.arr :: S1:=⟨_,rfl⟩
   have hS1R2:∀r∈S1,InR r R2:=fun r hr=>Jaa (by rw [hR2e];exact .tail _ (.tail _ (.tail _ (.tail _ hr))))
   have htlR:InR (isl tl.arr) R2:=Jaa zza
   have htoR:InR (isl to.arr) R2:=Jaa (by rw [hR2e];exact .tail _ (.tail _ (.tail _ (.head _))))
   have hf3:FeederR ⟨tp.arr,tq.arr,f1.reply⟩ R2:=⟨Jaa zoa,Jaa zBa⟩
   refine Jsd (show _=R2 by rw [hR2e]) ?_
   have hRR2:∀r∈R1,InR r R2:=fun r hr=>(hR1S r hr).mono hS1R2
   have hPSs:tp.l=({ settleA g0 ({ p with time:=t }:PSta) with rest:=Jga (settleA g0 ({ p with time:=t }:PSta)).cuts (settleA g0 ({ p with time:=t }:PSta)).rest,sw:=(Jgd (settleA g0 ({ p with time:=t }:PSta)).sw g0.rp t).sw }:PSta).sw:=by rw [htp,hswA,hrpA]
   have hPSl:tl.l=(Jgd (settleA g0 ({ p with time:=t }:PSta)).sw g0.rp t).late:=by rw [htl,hswA,hrpA]
   have hPSo:to.l=(Jgd (settleA g0 ({ p with time:=t }:PSta)).sw g0.rp t).opened:=by rw [hto,hswA,hrpA]
   have hTLn:=Jmh (sw:=(settleA g0 ({ p with time:=t }:PSta)).sw) (rp:=g0.rp) (t:=t) (settleA g0 ({ p with time:=t }:PSta)).sw.length
   have hsn32:=hI1.fok.sn
   have htln:tl.l.length≤32:=by rw [hPSl];exact Nat.le_trans hTLn.1 hsn32
   have hton:to.l.length≤32:=by rw [hPSo];exact Nat.le_trans hTLn.2 hsn32
   have hIK:Inv g0 ({ settleA g0 ({ p with time:=t }:PSta) with rest:=Jga (settleA g0 ({ p with time:=t }:PSta)).cuts (settleA g0 ({ p with time:=t }:PSta)).rest,sw:=(Jgd (settleA g0 ({ p with time:=t }:PSta)).sw g0.rp t).sw }:PSta):=by
     have h1:Inv g0 ({ settleA g0 ({ p with time:=t }:PSta) with rest:=Jga (settleA g0 ({ p with time:=t }:PSta)).cuts (settleA g0 ({ p with time:=t }:PSta)).rest }:PSta):={ hI1 with rest:=Jzd _ _ hI1.rest.1 }
     have h2:=h1.sws (sw:=(Jgd (settleA g0 ({ p with time:=t }:PSta)).sw g0.rp t).sw) (by
       have h3:=Jit (rp:=g0.rp) (t:=t) hI1.fe (settleA g0 ({ p with time:=t }:PSta)).sw.length (Nat.le_refl _)
       have e:∀u,u=t→SwKeep (settleA g0 ({ p with time:=t }:PSta)).sw (Jgd (settleA g0 ({ p with time:=t }:PSta)).sw g0.rp t).sw u:=fun u hu=>by rw [hu];exact h3
       exact e _ htA.symm)
     exact h2
   have hS3:StaIs g0 ({ settleA g0 ({ p with time:=t }:PSta) with rest:=Jga (settleA g0 ({ p with time:=t }:PSta)).cuts (settleA g0 ({ p with time:=t }:PSta)).rest,sw:=(Jgd (settleA g0 ({ p with time:=t }:PSta)).sw g0.rp t).sw }:PSta) ({x with time:=t,watches:=pw.arr,cuts:=pc.arr,feeder:=⟨tp.arr,tq.arr,f1.reply⟩,rest:=rr,log:=l1.arr}:XSta):={ hS1 with sw:=hPSs,zn:=htq.trans hszA,rest:=hrr }
   refine qae ?_
   refine qa6 ?_
   refine J7i ?_
   refine Jax (Jay rfl) rfl ?_
   refine qab ?_
   refine Jg4 tb rfl rfl rfl rfl zA zb zb zb ?_
   refine qco ?_
   refine Jc3 (L':=⟨b,({x with time:=t,watches:=pw.arr,cuts:=pc.arr,feeder:=⟨tp.arr,tq.arr,f1.reply⟩,rest:=rr,log:=l1.arr}:XSta).cells,54⟩ :: (l1.L 150 XEntry.cells ++ (pc.L 71 XCut.cells ++ L))) zi (Jac _) ?_
   dsimp only [XSta.cells]
   refine qay ?_
   refine Xbv ?_
   refine Jan [(0,Value.pointer _),(4,Value.slice _ _ _),(13,Value.slice _ _ _),(135,Value.slice _ _ _),(136,Value.int _ _),(137,Value.int _ _)] zh fun tq1=>?_
   refine q_p [16,137,138,139,140,141,142,143,144] ((⟨fun g=>[(137,.int .i64 ((g.1.1:Nat):Int))],fun g=>⟨b,({x with time:=t,watches:=pw.arr,cuts:=pc.arr,feeder:=⟨tp.arr,tq.arr,f1.reply⟩,rest:=rr,log:=g.1.2.arr}:XSta).cells,54⟩ :: (g.1.2.L 150 XEntry.cells ++ (pc.L 71 XCut.cells ++ L)),fun _=>R2,fun g=>tl.l.length - g.1.1⟩:Head {g:Nat×OwL XEntry // g.1≤tl.l.length∧g.2.ok 4 XEntry.cells∧StaIs g0 (Jff 3 ({ settleA g0 ({ p with time:=t }:PSta) with rest:=Jga (settleA g0 ({ p with time:=t }:PSta)).cuts (settleA g0 ({ p with time:=t }:PSta)).rest,sw:=(Jgd (settleA g0 ({ p with time:=t }:PSta)).sw g0.rp t).sw }:PSta) (tl.l.take g.1)) ({x with time:=t,watches:=pw.arr,cuts:=pc.arr,feeder:=⟨tp.arr,tq.arr,f1.reply⟩,rest:=rr,log:=g.2.arr}:XSta)})) (⟨(0,l1),by dsimp only;omega,hl1k,hS3⟩) ?_
   rintro ⟨⟨k2,l2⟩,hk2,hl2k,hS4⟩ junk
   try dsimp only
   dsimp only [XSta.cells]
   dsimp only at hk2 hl2k hS4
   refine Xak ?_
   refine q_c (fun hc4=>?_) (fun hc4=>?_)
   ·
    have htg:=Jau (l:=tl.l) (k:=k2) 0 za
    have hst:=Jqm 3 ({ settleA g0 ({ p with time:=t }:PSta) with rest:=Jga (settleA g0 ({ p with time:=t }:PSta)).cuts (settleA g0 ({ p with time:=t }:PSta)).rest,sw:=(Jgd (settleA g0 ({ p with time:=t }:PSta)).sw g0.rp t).sw }:PSta) tl.l htg
    refine qbb ?_
    refine Jax zJa rfl ?_
    refine qa7 ?_
    refine qad ?_
    refine Ja6 (Jab (Jah ?_))
    refine Xdu ?_
    refine Jaw rfl (Jf3 ({x with time:=t,watches:=pw.arr,cuts:=pc.arr,feeder:=⟨tp.arr,tq.arr,f1.reply⟩,rest:=rr,log:=x.log}:XSta) l2 b 3 (tl.l.getD k2 0) 0 _ _ hl2k (by have h1:=hS4.log;have h2:=(hIK.notes 3 (tl.l.take k2)).log;rw [← h1] at h2;exact h2)) rfl ?_
    rintro v L' R' ⟨l3,hl3k,hl3,rfl,rfl⟩
    refine Xbb ?_
    exact q_k ⟨(k2 + 1,l3),by dsimp only;omega,hl3k,by dsimp only;rw [hst];exact hS4.note hl3⟩
   obtain rfl:k2=tl.l.length:=by omega
   rw [List.take_of_length_le (Nat.le_refl _)] at hS4
   have hI4:Inv g0 (Jff 3 ({ settleA g0 ({ p with time:=t }:PSta) with rest:=Jga (settleA g0 ({ p with time:=t }:PSta)).cuts (settleA g0 ({ p with time:=t }:PSta)).rest,sw:=(Jgd (settleA g0 ({ p with time:=t }:PSta)).sw g0.rp t).sw }:PSta) tl.l):=hIK.notes 3 _
   refine qbk ?_
   refine Xbv ?_
   refine Jan [(0,Value.pointer _),(4,Value.slice _ _ _),(145,Value.slice _ _ _),(146,Value.int _ _),(147,Value.int _ _)] zh fun tq2=>?_
   refine q_p [18,147,148,149,150,151,152,153,154] ((⟨fun g=>[(147,.int .i64 ((g.1.1:Nat):Int))],fun g=>⟨b,({x with time:=t,watches:=pw.arr,cuts:=pc.arr,feeder:=⟨tp.arr,tq.arr,f1.reply⟩,rest:=rr,log:=g.1.2.arr}:XSta).cells,54⟩ :: (g.1.2.L 150 XEntry.cells ++ (pc.L 71 XCut.cells ++ L)),fun _=>R2,fun g=>to.l.length - g.1.1⟩:Head {g:Nat×OwL XEntry // g.1≤to.l.length∧g.2.ok 4 XEntry.cells∧StaIs g0 (Jff 2 (Jff 3 ({ settleA g0 ({ p with time:=t }:PSta) with rest:=Jga (settleA g0 ({ p with time:=t }:PSta)).cuts (settleA g0 ({ p with time:=t }:PSta)).rest,sw:=(Jgd (settleA g0 ({ p with time:=t }:PSta)).sw g0.rp t).sw }:PSta) tl.l) (to.l.take g.1)) ({x with time:=t,watches:=pw.arr,cuts:=pc.arr,feeder:=⟨tp.arr,tq.arr,f1.reply⟩,rest:=rr,log:=g.2.arr}:XSta)})) (⟨(0,l2),by dsimp only;omega,hl2k,hS4⟩) ?_
   rintro ⟨⟨k3,l4⟩,hk3,hl4k,hS5⟩ junk
   try dsimp only
   dsimp only [XSta.cells]
   dsimp only at hk3 hl4k hS5
   refine Xak ?_
   refine q_c (fun hc5=>?_) (fun hc5=>?_)
   ·
    have htg:=Jau (l:=to.l) (k:=k3) 0 za
    have hst:=Jqm 2 (Jff 3 ({ settleA g0 ({ p with time:=t }:PSta) with rest:=Jga (settleA g0 ({ p with time:=t }:PSta)).cuts (settleA g0 ({ p with time:=t }:PSta)).rest,sw:=(Jgd (settleA g0 ({ p with time:=t }:PSta)).sw g0.rp t).sw }:PSta) tl.l) to.l htg
    refine qbb ?_
    refine Jax (by first | exact Jae tb rfl rfl rfl rfl zt (i:=k3) zj za | exact Jak tb rfl rfl rfl rfl (i:=k3) zj za) rfl ?_
    refine qa7 ?_
    refine qad ?_
    refine Ja6 (Jab (Jah ?_))
    refine Xdu ?_
    refine Jaw rfl (Jf3 ({x with time:=t,watches:=pw.arr,cuts:=pc.arr,feeder:=⟨tp.arr,tq.arr,f1.reply⟩,rest:=rr,log:=x.log}:XSta) l4 b 2 (to.l.getD k3 0) 0 _ _ hl4k (by have h1:=hS5.log;have h2:=(hI4.notes 2 (to.l.take k3)).log;rw [← h1] at h2;exact h2)) rfl ?_
    rintro v L' R' ⟨l5,hl5k,hl5,rfl,rfl⟩
    refine Xbb ?_
    exact q_k ⟨(k3 + 1,l5),by dsimp only;omega,hl5k,by dsimp only;rw [hst];exact hS5.note hl5⟩
   obtain rfl:k3=to.l.length:=by omega
   obtain ⟨QB,hQB⟩:∃QB,QB=settleB g0 (settleA g0 ({ p with time:=t }:PSta)):=⟨_,rfl⟩
   have hSB:Jff 2 (Jff 3 ({ settleA g0 ({ p with time:=t }:PSta) with rest:=Jga (settleA g0 ({ p with time:=t }:PSta)).cuts (settleA g0 ({ p with time:=t }:PSta)).rest,sw:=(Jgd (settleA g0 ({ p with time:=t }:PSta)).sw g0.rp t).sw }:PSta) tl.l) to.l=QB:=by rw [hQB,hPSl,hPSo,settleB];simp only [← htA]
   rw [List.take_of_length_le (Nat.le_refl _),hSB] at hS5
   rw [← hQB] at hsB
   obtain ⟨VS,hVS⟩:∃VS,VS=Jny g0 ({ p with time:=t }:PSta):=⟨_,rfl⟩
   rw [← hVS] at hpv
   have hQn:QB.cuts.length=pc.l.length:=by rw [← hS5.cuts]
   refine qbk ?_
   refine qa6 ?_
   refine Jax (Jay rfl) rfl ?_
   refine Xaw ?_
   refine Jan [(0,Value.pointer _),(4,Value.slice _ _ _),(159,Value.int _ _),(160,Value.int _ _)] zh fun tq3=>?_
   refine q_p [19,160,161,162,163,164,165,166,167,168,169,170,171,172,173,174,175,176,177,178,179,180,181,182,183,184,185,186,187,188,189,190,191,192,193,194,195,196,197,198,199,200,201,202,203,204,205,206,207,208] ((⟨fun g=>[(160,.int .i64 ((g.1.1:Nat):Int))],fun g=>⟨b,({x with time:=t,watches:=pw.arr,cuts:=(⟨pc.o,g.1.2.2.2.1⟩:OwL XCut).arr,feeder:=g.1.2.1,rest:=rr,log:=g.1.2.2.1.arr}:XSta).cells,54⟩ :: (g.1.2.2.1.L 150 XEntry.cells ++ ((⟨pc.o,g.1.2.2.2.1⟩:OwL XCut).L 71 XCut.cells ++ L)),fun g=>g.1.2.2.2.2,fun g=>pc.l.length - g.1.1⟩:Head {g:Nat×XFeeder×OwL XEntry×List XCut×List Sl // g.1≤pc.l.length∧g.2.2.1.ok 4 XEntry.cells∧StaIs g0 (darkTo g0 VS QB g.1) ({x with time:=t,watches:=pw.arr,cuts:=(⟨pc.o,g.2.2.2.1⟩:OwL XCut).arr,feeder:=g.2.1,rest:=rr,log:=g.2.2.1.arr}:XSta)∧FeederR g.2.1 g.2.2.2.2∧∀r∈R2,InR r g.2.2.2.2})) (⟨(0,⟨tp.arr,tq.arr,f1.reply⟩,l4,pc.l,R2),by dsimp only;omega,hl4k,hS5,hf3,Jac _⟩) ?_
   rintro ⟨⟨k4,f5,l6,cl,S5⟩,hk4,hl6k,hS6,hf5,hR2S⟩ junk
   try dsimp only
   dsimp only [XSta.cells]
   dsimp only at hk4 hl6k hS6 hf5 hR2S
   have hcle:cl=(darkTo g0 VS QB k4).cuts:=hS6.cuts
   have hcln:cl.length=pc.l.length:=by rw [hcle,Jsa,hQn]
   have hclk:(⟨pc.o,cl⟩:OwL XCut).ok 3 XCut.cells:=OwL.len_ok (fun _=>rfl) hpck hcln
   have hI6:Inv g0 (darkTo g0 VS QB k4):=hsB.darkTo VS k4
   refine Xak ?_
   refine q_c (fun hc6=>?_) (fun hc6=>?_)
   ·
    have hcg:=Jau (l:=cl) (k:=k4) default za
    obtain ⟨c,hce⟩:∃c,c=cl.getD k4 default:=⟨_,rfl⟩
    rw [← hce] at hcg
    have hsw6:f5.switches.l=(darkTo g0 VS QB k4).sw:=hS6.sw
    have hzn6:f5.zones.l=g0.zn:=hS6.zn
    have hrp6:f5.reply=g0.rp:=hS6.rp
    have hda:darkTo g0 VS QB (k4 + 1)=Ji7 g0 VS (darkTo g0 VS QB k4) k4:=rfl
    have hdk:J9n g0 (darkTo g0 VS QB k4).sw k4=(Jjh f5.switches.l f5.zones.l f5.reply (f5.zones.l.getD (k4:Int).toNat 0)).any (fun k=>J26 (f5.switches.l.getD k.toNat default)):=by rw [hsw6,hzn6,hrp6];rfl
    refine Xa6 ?_
    refine Xas ?_
    refine qa6 ?_
    refine Jax (Jay rfl) rfl ?_
    refine Xal ?_
    refine Jax (Jat tb ((⟨pc.o,cl⟩:OwL XCut)) _ rfl rfl rfl rfl zg (i:=k4) zj zu) rfl ?_
    refine qb0 ?_
    refine Jax (Jbj tb ((⟨pc.o,cl⟩:OwL XCut)) rfl rfl rfl zk zg (fun _=>rfl) zg zb) rfl ?_
    refine qah ?_
    apply Ja7 (G:=[_,_,_,_,_,_,_]) (j:=8) (cj:=171) rfl rfl zb rfl (show _=Value.bool _ from rfl) rfl
    ·
     intro hg9
     replace hg9:=qb hg9
     refine qa6 ?_
     refine Jax (Jay rfl) rfl ?_
     refine qab ?_
     refine J7i ?_
     refine qaa ?_
     refine q_l rfl (J6e f5 (k4:Int) _ _ hf5 (by rw [hsw6,hzn6,hrp6];exact hI6.fe) (by rw [hzn6];omega)) ?_
     refine qb4 ?_
     exact qai
    intro junk9
    refine qaf ?_
    refine q_c (fun hc7=>?_) (fun hc7=>?_)
    ·
     refine Jcc (Jbt (Jbb (Jab (Jah ?_))))
     refine Xae ?_
     exact q_k ⟨(k4 + 1,f5,l6,cl,S5),by dsimp only;omega,hl6k,by dsimp only;rw [hda,Ji7,if_pos (by rw [← hcle,← hce,hdk];simpa using hc7)];exact hS6,hf5,hR2S⟩
    have hnd:¬ ((darkTo g0 VS QB k4).cuts.getD k4 default).off=true∧¬ J9n g0 (darkTo g0 VS QB k4).sw k4=false:=by rw [← hcle,← hce,hdk,← not_or];simpa using hc7
    have hzg:=Jau (l:=x.site.zones.l) (k:=k4) default za
    have hRS5:∀r∈R,InR r S5:=fun r hr=>((hRR1 r hr).mono hRR2).mono hR2S
    have hzR5:=hs.zones.mono hRS5
    have hruR:=InR.rule hzR5 hzg
    have hpvR5:=(hpvR.mono hRR2).mono hR2S
    refine qcl ?_
    refine Jbk tb [189] [0,1,2,3,4,5,6,7,8,9,10,11,12,13,14,15,16,17,18,19,20,21,22] [23,24,25,26] (_) _ Jby zc zi (List.nil_sublist _) ?_
    refine qb3 ?_
    refine Jbv (Jay rfl) rfl rfl rfl rfl ?_
    refine Xc6 ?_
    refine qb3 ?_
    refine Jbv (Jay rfl) rfl rfl rfl rfl ?_
    refine Xar ?_
    refine Jd2 (Jav (show _=Value.int _ _ from rfl)) rfl rfl rfl rfl ?_
    refine qb3 ?_
    refine Jbv (Jay rfl) rfl rfl rfl rfl ?_
    refine qan ?_
    refine Xc6 ?_
    refine Jbv (by first | exact Jae tb rfl rfl rfl rfl zt (i:=k4) zj za | exact Jak tb rfl rfl rfl rfl (i:=k4) zj za) rfl rfl rfl rfl ?_
    refine qcv ?_
    refine qci ?_
    refine qct ?_
    refine Jdf rfl (Jq9 (x.site.zones.l.getD k4 default).rule pv.arr _ _ hruR hpvR5) rfl rfl ?_
    rintro v L' R' ⟨rfl,rfl,rfl⟩
    refine ⟨zi,zx,?_⟩
    refine Jbv (Jat tb ((⟨pc.o,cl⟩:OwL XCut)) _ rfl rfl rfl rfl zg (i:=k4) zj zu) rfl rfl rfl rfl ?_
    refine qcv ?_
    refine qba ?_
    refine Jmm (Jar tb ((⟨pc.o,cl⟩:OwL XCut)) (⟨true,c.clear,c.reason⟩) rfl rfl rfl rfl zk zg (fun _=>rfl) zg ze zb zb) rfl rfl ?_
    rintro v L' R' ⟨rfl,rfl⟩
    refine qa1 ?_
    refine Jbu (Jat tb ((⟨pc.o,cl⟩:OwL XCut)) _ rfl rfl rfl rfl zg (i:=k4) zj zu) rfl rfl rfl ?_
    refine qce ?_
    have hclk1:=OwL.set_ok (f:=XCut.cells) (wd:=3) (p:=⟨pc.o,cl⟩) (i:=k4) (x:=⟨true,c.clear,c.reason⟩) (fun _=>rfl) hclk
    have hcg1:(cl.set k4 ⟨true,c.clear,c.reason⟩)[k4]?=some ⟨true,c.clear,c.reason⟩:=List.getElem?_set_self za
    refine Jmm (Jar tb ((⟨pc.o,cl.set k4 ⟨true,c.clear,c.reason⟩⟩:OwL XCut)) (⟨true,c.clear,Jh9 (x.site.zones.l.getD k4 default).rule.l pv.l⟩) rfl rfl rfl rfl zk zg (fun _=>rfl) zg ze zb zb) rfl rfl ?_
    rintro v L' R' ⟨rfl,rfl⟩
    refine qa1 ?_
    refine qbu ?_
    obtain ⟨cl2,hcl2⟩:∃cl2,cl2=cl.set k4 ⟨true,c.clear,Jh9 (x.site.zones.l.getD k4 default).rule.l pv.l⟩:=⟨_,rfl⟩
    have hcl2n:cl2.length=cl.length:=by rw [hcl2,List.length_set]
    have hcv:(⟨pc.o,cl2⟩:OwL XCut).arr.val=(⟨pc.o,cl⟩:OwL XCut).arr.val:=by simp only [OwL.arr,Arr.val,hcl2n]
    have hcl2k:(⟨pc.o,cl2⟩:OwL XCut).ok 3 XCut.cells:=OwL.len_ok (fun _=>rfl) hpck (hcl2n.trans hcln)
    refine Jcy (L':=⟨b,({x with time:=t,watches:=pw.arr,cuts:=(⟨pc.o,cl2⟩:OwL XCut).arr,feeder:=f5,rest:=rr,log:=l6.arr}:XSta).cells,54⟩ :: (l6.L 150 XEntry.cells ++ ((⟨pc.o,cl2⟩:OwL XCut).L 71 XCut.cells ++ L))) (by simp only [XSta.cells,hcv];rw [hcl2];simp only [List.set_set]) ?_
    have hev:Jh9 (x.site.zones.l.getD k4 default).rule.l pv.l=Jh9 (g0.site.zones.l.getD k4 default).rule.l VS:=by rw [SiteE.rule hx.site k4,hpv]
    obtain ⟨pD,hpD⟩:∃pD:PSta,pD={ darkTo g0 VS QB k4 with cuts:=(darkTo g0 VS QB k4).cuts.set k4 ⟨true,((darkTo g0 VS QB k4).cuts.getD k4 default).clear,Jh9 (g0.site.zones.l.getD k4 default).rule.l VS⟩ }:=⟨_,rfl⟩
    have hpDc:cl2=pD.cuts:=by rw [hcl2,hpD,hev,hce,hcle]
    have hID:Inv g0 pD:=by
      rw [hpD]
      exact { hI6 with clen:=by show (List.set _ _ _).length=_;rw [List.length_set];exact hI6.clen,rest:=by show _∧(_∨(_∧_ < ((List.set _ _ _).length:Int)));rw [List.length_set];exact hI6.rest }
    have hSD:StaIs g0 pD ({x with time:=t,watches:=pw.arr,cuts:=(⟨pc.o,cl2⟩:OwL XCut).arr,feeder:=f5,rest:=rr,log:=l6.arr}:XSta):=by rw [hpD] at hpDc ⊢;exact { hS6 with cuts:=hpDc }
    have hdn:darkTo g0 VS QB (k4 + 1)=Jt0 g0 pD (k4:Int):=by rw [hda,Ji7,if_neg (not_or.2 hnd),hpD]
    refine qay ?_
    refine Xdu ?_
    refine Jaw rfl (J13 g0 pD ({x with time:=t,watches:=pw.arr,cuts:=(⟨pc.o,cl2⟩:OwL XCut).arr,feeder:=f5,rest:=rr,log:=l6.arr}:XSta) (⟨pc.o,cl2⟩:OwL XCut) l6 b (k4:Int) _ _ hID hSD hf5 hcl2k hl6k (by rw [← hpDc];omega)) rfl ?_
    rintro v L' R' ⟨f7,l7,S7,hl7k,hS7,hf7,rfl,rfl⟩
    refine Xbb ?_
    exact q_k ⟨(k4 + 1,f7,l7,cl2,S7 ++ S5),by dsimp only;omega,hl7k,by dsimp only;rw [hdn];exact hS7,hf7,fun r hr=>(hR2S r hr).mono fun r hr=>Jaa (List.mem_append_right _ hr)⟩
   obtain rfl:k4=pc.l.length:=by omega
   have hSP:darkTo g0 VS QB pc.l.length=Jaj g0 p t:=by rw [Jaj,← hVS,← hQB,hQn]
   rw [hSP] at hS6
   have hre:rr=(Jaj g0 p t).rest:=hS6.rest
   refine Jbe (T:=71) (f:=XCut.cells) (wd:=3) (⟨pc.o,cl⟩:OwL XCut) [] zk (fun _=>rfl) ze hclk (fun s hs=>by cases hs) ?_
   refine Jcy zp ?_
   have hpwR5:=(hpwR.mono hRR2).mono hR2S
   have hRS5:∀r∈R,InR r S5:=fun r hr=>((hRR1 r hr).mono hRR2).mono hR2S
   have hS9:∀r∈S5,InR r ((Jp3 (⟨pc.o,cl⟩:OwL XCut).arr :: S5) ++ R):=fun r hr=>Jaa (.tail _ (List.mem_append_left _ hr))
   refine Jcc (Jbt (Jco (Jbb ?_)))
   refine Jgw (L':=⟨b,({x with time:=t,watches:=pw.arr,cuts:=(⟨pc.o,cl⟩:OwL XCut).arr,feeder:=f5,rest:=rr,log:=l6.arr}:XSta).cells,54⟩ :: (l6.L 150 XEntry.cells ++ L)) (R':=(Jp3 (⟨pc.o,cl⟩:OwL XCut).arr :: S5) ++ R) (Kaz rfl) ?hp ?hL ?hR
   case hp=>exact ⟨pw.arr,(⟨pc.o,cl⟩:OwL XCut).arr,f5,l6,Jp3 (⟨pc.o,cl⟩:OwL XCut).arr :: S5,hl6k,by rw [← hre];exact hS6,⟨hpwR5.mono hS9,Jaa (.head _),hf5.mono hS9⟩,by rw [← hre];rfl,rfl⟩
   case hL=>exact zi
   case hR=>
    exact fun r hr=>by
      rcases List.mem_append.1 hr with h | h
      · exact Jaa h
      · exact (hRS5 r h).mono fun r hr=>Jaa (.tail _ hr)
  exact absurd hTE hc3
end Go.Proofs.YtchfclmokpbldaaGreat
