/-
  Stations: settling. By an AI agent; no person has read it.
-/
import Derived.Test.YtchfclmokpbldaaGreatLevK
import Derived.Test.YtchfclmokpbldaaGreatCutC
import Derived.Test.YtchfclmokpbldaaGreatRestP
set_option linter.unusedVariables false
set_option linter.unusedSimpArgs false
namespace Go.Proofs.YtchfclmokpbldaaGreat
open Go.Aw Go
set_option maxRecDepth 20000
attribute [local irreducible] CJ LJ DJ Tri YV Gives Ui J0 Ke Uh RV J2 OwL.L
section
variable {A9 B9:Prop}
theorem Uae (a:A9) (h:A9→B9:=by exact Kv (Ud zfb) rfl rfl rfl):B9:=h a
theorem Jhf (a:A9) (h:A9→B9:=by exact Jx zkb rfl):B9:=h a
theorem K0f (a:A9) (h:A9→B9:=by exact Kv zmb rfl rfl rfl):B9:=h a
end
theorem U1e {A B C:List Blk} {x:Blk}:(A ++ (x :: (B ++ C))).Perm (x :: (B ++ (A ++ C))):=List.perm_middle.trans (.cons _ (List.perm_append_comm_assoc A B C))
theorem Jke (g:PSite) (p:PSta) (l:List Int) {k:Nat} {z:Int} (h:l[k]?=some z):Vga g p (l.take (k + 1))=K3b g (Vga g p (l.take k)) z:=by
  rw [List.take_add_one,h];simp [Vga,List.foldl_append]
theorem Z2b (kind:Int) (p:PSta) (l:List Int) {k:Nat} {z:Int} (h:l[k]?=some z):Yr kind p (l.take (k + 1))=Yi (Yr kind p (l.take k)) kind z 0:=by
  rw [List.take_add_one,h];simp [Yr,List.foldl_append]
theorem K0d {g : PSite} : ∀ (l : List Int) {p : PSta}, (Vga g p l).cuts.length = p.cuts.length
  | [],p=>rfl
  | z :: l,p=>(K0d l).trans (by rw [Z4a])
theorem Kuc {g : PSite} {p : PSta} (vals : List Int) : ∀ k, (darkTo g vals p k).cuts.length = p.cuts.length
  | 0=>rfl
  | k + 1=>by
    rw [darkTo,Kta]
    split
    · exact Kuc vals k
    · rw [Z4a]
      show (List.set _ _ _).length=_
      rw [List.length_set];exact Kuc vals k
theorem Jjc {s : XSite} {v : List Int} {c : List XCut} : ∀ k, (Zu s v c k).length ≤ k
  | 0=>Nat.le_refl _
  | k + 1=>by
    have h:=Jjc (s:=s) (v:=v) (c:=c) k
    rw [Zu]
    split
    · rw [List.length_append,List.length_singleton];omega
    · omega
theorem Uub {s : XSite} {v : List Int} {c : List XCut} : ∀ k, ∀ z ∈ Zu s v c k, 0 ≤ z ∧ z < k
  | 0,z,h=>by cases h
  | k + 1,z,h=>by
    rw [Zu] at h
    split at h
    · rcases List.mem_append.1 h with h | h
      · have:=Uub k z h;omega
      · rw [List.mem_singleton.1 h];omega
    · have:=Uub k z h;omega
theorem J4a (g0:PSite) (p:PSta) (x:XSta) (pl:OwL XEntry) (b:Nat) (t:Int) (L:List Blk) (R:List Sl) (hI:Inv g0 p) (hx:StaIs g0 p ({x with log:=pl.arr}:XSta)) (hs:SiteR x.site R) (hm:InR (Vn x.meas) R) (hw:InR (U1d x.watches) R) (hc:InR (Kwc x.cuts) R) (hf:FeederR x.feeder R) (hlk:pl.ok 4 XEntry.cells) (ht:p.time≤t∧t≤2147483648):
    Tri Tryz.prog 82 [.pointer (some ⟨b, 0, none⟩), .int .i64 t].toArray (⟨b, ({x with log := pl.arr} : XSta).cells, 54⟩ :: (pl.L 150 XEntry.cells ++ L)) R
      (fun v L' R'=>∃(w:Arr XWatch) (c:Arr XCut) (f:XFeeder) (q:OwL XEntry) (S:List Sl),q.ok 4 XEntry.cells∧StaIs g0 (Jd g0 p t) ({x with time:=t,watches:=w,cuts:=c,feeder:=f,rest:=(Jd g0 p t).rest,log:=q.arr}:XSta)∧(InR (U1d w) (S ++ R)∧InR (Kwc c) (S ++ R)∧FeederR f (S ++ R))∧
        ⟨b,({x with time:=t,watches:=w,cuts:=c,feeder:=f,rest:=(Jd g0 p t).rest,log:=q.arr}:XSta).cells,54⟩ :: (q.L 150 XEntry.cells ++ L)=L'∧S ++ R=R'):=by
  have hIT:=hI.at ht.1 ht.2
  have hv:StaV ({x with time:=t,log:=pl.arr}:XSta) R:=StaV.of (x:={x with time:=t,log:=pl.arr}) (p:=({ p with time:=t }:PSta)) hIT { hx with time:=rfl } hs hm
  have hA:AiryIs x.site.air.mine g0.air:=SiteE.airy hx.site hIT.airy
  have hpll:pl.l=p.log:=hx.log
  have hml:x.meas.l=p.meas:=hx.meas
  have hwl:x.watches.l=p.watches:=hx.watches
  have hcl:x.cuts.l=p.cuts:=hx.cuts
  have hswl:x.feeder.switches.l=p.sw:=hx.sw
  have hznl:x.feeder.zones.l=g0.zn:=hx.zn
  have hrpl:x.feeder.reply=g0.rp:=hx.rp
  have hzl:=hI.zlen
  have hzs:x.site.zones.l.length=g0.site.zones.l.length:=SiteE.nzones hx.site
  have hclen:=hI.clen
  have hso:=hI.sok.len
  have hsA:=hIT.settleA
  have hsB:=hsA.settleB
  have hINV:Inv g0 ({ p with time:=t,watches:=valuesW g0.site p.meas p.watches (flP g0 ({ p with time:=t }:PSta)) t,cuts:=cutsC g0.site (Kja g0 ({ p with time:=t }:PSta)) p.cuts t }:PSta):=hIT.sA
  dsimp only [XSta.cells]
  refine Jg 209 Tryz.call82 Tryz.func82 rfl rfl rfl ?_
  refine qae ?_
  refine Xdf ?_
  refine Jx zIb rfl ?_
  refine Xbj ?_
  refine qa4 ?_
  refine Kn tb [0,1,2,3,4,5,6,7,8,9,10,11,12,13,14,16,15,17,18,19,20,21,22,23,24] _ K1 ze (List.Sublist.refl _) ?_
  refine Xbq ?_
  refine qal ?_
  refine K0f ?_
  refine Xcr ?_
  refine Xcr ?_
  refine Xbq ?_
  refine Kv zjb rfl rfl rfl ?_
  refine qao ?_
  refine Yt rfl (Jfb {x with time:=t,log:=pl.arr} g0.air _ _ hv hA) rfl rfl ?_
  rintro v L' R' ⟨fl,rfl,hfll,rfl,rfl⟩
  refine ⟨zi,zw,?_⟩
  refine Yt rfl (Uwd x.site x.meas x.watches fl t _ _ ⟨hs.mono fun r hr=>Ja (.tail _ hr),hm.mono fun r hr=>Ja (.tail _ hr),hw.mono fun r hr=>Ja (.tail _ hr),Ja (.head _),hv.mok⟩) rfl rfl ?_
  rintro v L' R' ⟨pv,pw,rfl,⟨hpvk,hpwk⟩,hpvl,hpwl,rfl,rfl⟩
  refine ⟨zi,zw,?_⟩
  refine Kv zDb rfl rfl rfl ?_
  iterate 3 refine Kv zNb rfl rfl rfl ?_
  refine Uae ?_
  refine Uae ?_
  refine qcg ?_
  refine J1 (Jb (Jn (Jn ?_)))
  have hfle:fl.l=flP g0 ({ p with time:=t }:PSta):=by rw [hfll];show Vca x.site g0.air x.meas.l t=_;rw [SiteE.flows hx.site,hml];rfl
  have hVE:valuesErr x.site x.meas.l x.watches.l fl.l t=0:=by rw [SiteE.valuesErr hx.site,hml,hwl,hfle];exact hIT.valErr
  have hpv:pv.l=Kja g0 ({ p with time:=t }:PSta):=by rw [hpvl,SiteE.valuesV hx.site,hml,hwl,hfle];rfl
  have hpw:pw.l=valuesW g0.site p.meas p.watches (flP g0 ({ p with time:=t }:PSta)) t:=by rw [hpwl,SiteE.valuesW hx.site,hml,hwl,hfle]
  refine Kd (T:=3) (f:=Jp) (wd:=1) pv [] zj (fun _=>rfl) zc hpvk (fun s hs=>by cases hs) ?_
  refine Uv zp ?_
  refine Kd (T:=153) (f:=XWatch.cells) (wd:=3) pw [] zj (fun _=>rfl) zc hpwk (fun s hs=>by cases hs) ?_
  refine Uv zp ?_
  have hR1:∀r∈R,InR r (U1d pw.arr :: isl pv.arr :: Vzd fl :: R):=fun r hr=>Ja (.tail _ (.tail _ (.tail _ hr)))
  have hfe0:feedE x.feeder.switches.l x.feeder.zones.l x.feeder.reply=0:=by rw [hswl,hznl,hrpl];exact hI.fe
  refine Kn tb [0,1,2,3,4,5,6,7,8,9,10,11,12,13,14,15,16,17,18,19,20,21,22,23,24] _ K1 ze (List.Sublist.refl _) ?_
  refine qao ?_
  refine Kv zwc rfl rfl rfl ?_
  refine qb2 ?_
  refine Vd (k:=48) zdb (fun hg2=>?_) (fun hg2=>?_)
  ·
   replace hg2:=qb hg2
   exact absurd hVE hg2
  replace hg2:=qb hg2
  refine Xbq ?_
  refine qal ?_
  refine Kv zkb rfl rfl rfl ?_
  refine q_d rfl (Vu x.feeder _ _ (hf.mono hR1)) ?_
  refine Kv zwc rfl rfl rfl ?_
  refine Xbf ?_
  refine Vd (k:=56) zdb (fun hg10=>?_) (fun hg10=>?_)
  ·
   replace hg10:=qb hg10
   exact absurd hfe0 hg10
  replace hg10:=qb hg10
  refine Xbq ?_
  refine Xdh ?_
  refine Kv ztb rfl rfl rfl ?_
  refine Xbq ?_
  refine Xdh ?_
  refine Kv ztb rfl rfl rfl ?_
  refine Kv zwc rfl rfl rfl ?_
  refine Xbu ?_
  refine q_c (fun hc0=>?_) (fun hc0=>?_)
  ·
   (exfalso;rw [hznl] at hc0;omega)
  refine qcl ?_
  refine Kn tb [0,1,2,3,4,5,6,7,8,9,10,11,12,13,14,15,16,17] _ K1 ze (List.Sublist.refl _) ?_
  refine Xbq ?_
  refine qal ?_
  refine K0f ?_
  refine Kv zKc rfl rfl rfl ?_
  refine Xbq ?_
  refine Xb1 ?_
  refine Yt rfl (U8e x.site pv.arr x.cuts t _ _ (hs.mono hR1) zMb (hc.mono hR1)) rfl rfl ?_
  rintro v L' R' ⟨pc,qn,rfl,⟨hpck,hqnk⟩,hpcl,hqnl,rfl,rfl⟩
  refine ⟨zi,zw,?_⟩
  refine Kv zDb rfl rfl rfl ?_
  iterate 3 refine Kv zNb rfl rfl rfl ?_
  refine Uae ?_
  refine Uae ?_
  refine qcg ?_
  refine J1 (Jb (Jn (Jn ?_)))
  have hCE:cutsErr x.site pv.l x.cuts.l t=0:=by rw [SiteE.cutsErr hx.site,hpv,hcl];exact hIT.cutErr
  have hpc:pc.l=cutsC g0.site (Kja g0 ({ p with time:=t }:PSta)) p.cuts t:=by
    rw [hpcl];show cutsC x.site pv.l x.cuts.l t=_;rw [SiteE.cutsC hx.site,hpv,hcl]
  have hqn:qn.l=(cutsN g0.site (Kja g0 ({ p with time:=t }:PSta)) p.cuts t):=by
    rw [hqnl];show cutsN x.site pv.l x.cuts.l t=_;rw [SiteE.cutsN hx.site,hpv,hcl]
  refine Kd (T:=3) (f:=Jp) (wd:=1) qn [] zj (fun _=>rfl) zc hqnk (fun s hs=>by cases hs) ?_
  refine Uv zp ?_
  refine Xa3 ?_
  refine Xaq ?_
  refine q_c (fun hc1=>?_) (fun hc1=>?_)
  ·
   exact absurd hCE hc1
  refine qbv ?_
  refine qa6 ?_
  refine qa6 ?_
  refine qbm ?_
  refine qbm ?_
  refine Jx zIb rfl ?_
  refine Xbp ?_
  refine Jx zIb rfl ?_
  refine Xbp ?_
  refine qco ?_
  obtain ⟨R1,hR1e⟩:∃R1,R1=isl qn.arr :: U1d pw.arr :: isl pv.arr :: Vzd fl :: R:=⟨_,rfl⟩
  have hRR1:∀r∈R,InR r R1:=fun r hr=>Ja (by rw [hR1e];exact .tail _ (.tail _ (.tail _ (.tail _ hr))))
  have hqnR:InR (isl qn.arr) R1:=Ja zoa
  have hpwR:InR (U1d pw.arr) R1:=Ja zma
  have hpvR:InR (isl pv.arr) R1:=Ja zya
  refine Ymb zxc ?_
  have hpcn:pc.l.length=g0.site.zones.l.length:=by rw [hpc];exact hINV.clen
  have hqnn:qn.l.length≤16:=by
    have:=Jjc (s:=g0.site) (v:=Kja g0 ({ p with time:=t }:PSta)) (c:=p.cuts) p.cuts.length
    rw [hqn,cutsN,if_neg (by rw [hIT.cutErr];decide)];omega
  refine Jxd U1e ?_
  refine Uv (L':=⟨b,({x with time:=t,watches:=pw.arr,cuts:=pc.arr,log:=pl.arr}:XSta).cells,54⟩ :: (pl.L 150 XEntry.cells ++ (pc.L 71 XCut.cells ++ L))) rfl ?_
  refine qay ?_
  refine Xbt ?_
  refine Jo [(0,Value.pointer _),(1,Value.int _ _),(4,Value.slice _ _ _),(96,Value.slice _ _ _),(97,Value.int _ _),(98,Value.int _ _)] zg fun tq0=>?_
  refine q_p [10,98,99,100,101,102,103,104,105] ((⟨fun g=>[(98,.int .i64 ((g.1.1:Nat):Int))],fun g=>⟨b,({x with time:=t,watches:=pw.arr,cuts:=pc.arr,feeder:=g.1.2.1,log:=g.1.2.2.1.arr}:XSta).cells,54⟩ :: (g.1.2.2.1.L 150 XEntry.cells ++ (pc.L 71 XCut.cells ++ L)),fun g=>g.1.2.2.2,fun g=>qn.l.length - g.1.1⟩:Head {g:Nat×XFeeder×OwL XEntry×List Sl // g.1≤qn.l.length∧g.2.2.1.ok 4 XEntry.cells∧StaIs g0 (Vga g0 ({ p with time:=t,watches:=valuesW g0.site p.meas p.watches (flP g0 ({ p with time:=t }:PSta)) t,cuts:=cutsC g0.site (Kja g0 ({ p with time:=t }:PSta)) p.cuts t }:PSta) (qn.l.take g.1)) ({x with time:=t,watches:=pw.arr,cuts:=pc.arr,feeder:=g.2.1,log:=g.2.2.1.arr}:XSta)∧FeederR g.2.1 g.2.2.2∧∀r∈R1,InR r g.2.2.2})) (⟨(0,x.feeder,pl,R1),by dsimp only;omega,hlk,{ hx with time:=rfl,watches:=hpw,cuts:=hpc },hf.mono hRR1,Jc _⟩) ?_
  rintro ⟨⟨k,f1,l1,S1⟩,hk,hl1k,hS1,hf1,hR1S⟩ junk
  try dsimp only
  dsimp only [XSta.cells]
  dsimp only at hk hl1k hS1 hf1 hR1S
  have hI1:Inv g0 (Vga g0 ({ p with time:=t,watches:=valuesW g0.site p.meas p.watches (flP g0 ({ p with time:=t }:PSta)) t,cuts:=cutsC g0.site (Kja g0 ({ p with time:=t }:PSta)) p.cuts t }:PSta) (qn.l.take k)):=hINV.cuts _
  refine Xak ?_
  refine q_c (fun hc2=>?_) (fun hc2=>?_)
  ·
   have hqg:=Jw (l:=qn.l) (k:=k) 0 za
   have hqz:=Uub (s:=g0.site) (v:=Kja g0 ({ p with time:=t }:PSta)) (c:=p.cuts) p.cuts.length (qn.l.getD k 0) (by
     have e:Zu g0.site (Kja g0 ({ p with time:=t }:PSta)) p.cuts p.cuts.length=qn.l:=by rw [hqn,cutsN,if_neg (by rw [hIT.cutErr];decide)]
     rw [e];exact List.mem_of_getElem? hqg)
   have hqnR1:=hqnR.mono hR1S
   have hst:=Jke g0 ({ p with time:=t,watches:=valuesW g0.site p.meas p.watches (flP g0 ({ p with time:=t }:PSta)) t,cuts:=cutsC g0.site (Kja g0 ({ p with time:=t }:PSta)) p.cuts t }:PSta) qn.l hqg
   refine qbb ?_
   refine Jx zB rfl ?_
   refine qa7 ?_
   refine qad ?_
   refine J6 (Jb (Jh ?_))
   refine Xdf ?_
   refine Js rfl (Z4d g0 (Vga g0 ({ p with time:=t,watches:=valuesW g0.site p.meas p.watches (flP g0 ({ p with time:=t }:PSta)) t,cuts:=cutsC g0.site (Kja g0 ({ p with time:=t }:PSta)) p.cuts t }:PSta) (qn.l.take k)) {x with time:=t,watches:=pw.arr,feeder:=f1} pc l1 b (qn.l.getD k 0) _ _ hI1 hS1 hf1 hpck hl1k (by rw [K0d];show _∧_ < ((cutsC g0.site (Kja g0 ({ p with time:=t }:PSta)) p.cuts t).length:Int);rw [← hpc];omega)) rfl ?_
   rintro v L' R' ⟨f2,l2,S2,hl2k,hS2,hf2,rfl,rfl⟩
   refine Xa8 ?_
   exact q_k ⟨(k + 1,f2,l2,S2 ++ S1),by dsimp only;omega,hl2k,by dsimp only;rw [hst];exact hS2,hf2,fun r hr=>(hR1S r hr).mono fun r hr=>Ja (List.mem_append_right _ hr)⟩
  obtain rfl:k=qn.l.length:=by omega
  have hSA:Vga g0 ({ p with time:=t,watches:=valuesW g0.site p.meas p.watches (flP g0 ({ p with time:=t }:PSta)) t,cuts:=cutsC g0.site (Kja g0 ({ p with time:=t }:PSta)) p.cuts t }:PSta) (qn.l.take qn.l.length)=settleA g0 ({ p with time:=t }:PSta):=by rw [List.take_of_length_le (Nat.le_refl _),hqn];rfl
  rw [hSA] at hS1 hI1
  have hcA:pc.l=(settleA g0 ({ p with time:=t }:PSta)).cuts:=hS1.cuts
  have hrA:x.rest=(settleA g0 ({ p with time:=t }:PSta)).rest:=hS1.rest
  have htA:t=(settleA g0 ({ p with time:=t }:PSta)).time:=hS1.time
  have hszA:f1.zones.l=g0.zn:=hS1.zn
  have hswA:f1.switches.l=(settleA g0 ({ p with time:=t }:PSta)).sw:=hS1.sw
  have hrpA:f1.reply=g0.rp:=hS1.rp
  refine qc3 ?_
  refine Kj tb [] [0,1,2,3,4,5,6,7,8,9,10,11] [12] (_) _ K1 ze zi (by (repeat (first | apply List.Sublist.cons (a:=Blk.mk b _ _) | apply List.Sublist.cons_cons));exact List.Sublist.refl _) ?_
  refine qb3 ?_
  refine qb3 ?_
  refine Kx zIb rfl rfl rfl rfl ?_
  refine Xar ?_
  refine qb3 ?_
  refine Kx zIb rfl rfl rfl rfl ?_
  refine qan ?_
  refine Kx zob rfl rfl rfl rfl ?_
  refine Vi rfl (Ude (p:=pc) x.rest zO hpck) rfl rfl ?_
  rintro v L' R' ⟨rfl,rfl,rfl⟩
  refine ⟨zi,zw,?_⟩
  refine Kx zIb rfl rfl rfl rfl ?_
  refine qan ?_
  refine qba ?_
  refine Zva rfl rfl rfl rfl zA zb zb zb zi ?_
  refine J1 (Jb (Jn (Jn ?_)))
  have hke:Zt pc.l x.rest=Zt (settleA g0 ({ p with time:=t }:PSta)).cuts (settleA g0 ({ p with time:=t }:PSta)).rest:=by rw [hcA,hrA]
  obtain ⟨rr,hrr⟩:∃rr,rr=Zt (settleA g0 ({ p with time:=t }:PSta)).cuts (settleA g0 ({ p with time:=t }:PSta)).rest:=⟨_,rfl⟩
  rw [hke,← hrr]
  have hTE:Yyb f1.switches.l f1.zones.l f1.reply t=0:=by rw [hswA,hszA,hrpA,Yyb,if_neg (by rw [hI1.fe];decide),if_pos (by have:=hI1.tok;rw [← htA] at this;exact this)]
  refine qay ?_
  refine qa6 ?_
  refine Jx zIb rfl ?_
  refine qab ?_
  refine Jhf ?_
  refine qaa ?_
  refine Js rfl (Ucc f1 t _ _ hf1) rfl ?_
  rintro v L' R' ⟨tp,tq,tr,tl,to,rfl,⟨htpk,htqk,htlk,htok⟩,htk,rfl,rfl⟩
  refine Jx zDb rfl ?_
  iterate 4 refine qbs ?_
  refine qaq ?_
  intro b11
  refine qak ?_
  refine Xbs ?_
  refine Xat ?_
  refine Xcd ?_
  refine q_c (fun hc3=>?_) (fun hc3=>?_)
  ·
   obtain ⟨htp,htq,rfl,htl,hto⟩:=htk hTE
   refine Kd (T:=3) (f:=Jp) (wd:=1) to [] zj (fun _=>rfl) zc htok (fun s hs=>by cases hs) ?_
   refine Uv zp ?_
   refine Kd (T:=3) (f:=Jp) (wd:=1) tl [] zj (fun _=>rfl) zc htlk (fun s hs=>by cases hs) ?_
   refine Uv zp ?_
   refine Kd (T:=3) (f:=Jp) (wd:=1) tq [] zj (fun _=>rfl) zc htqk (fun s hs=>by cases hs) ?_
   refine Uv zp ?_
   refine Kd (T:=76) (f:=XSwitch.cells) (wd:=5) tp [] zj (fun _=>rfl) zc htpk (fun s hs=>by cases hs) ?_
   refine Uv zp ?_
   obtain ⟨R2,hR2e⟩:∃R2,R2=Vhb tp.arr :: isl tq.arr :: isl tl.arr :: isl to.arr :: S1:=⟨_,rfl⟩
   have hS1R2:∀r∈S1,InR r R2:=fun r hr=>Ja (by rw [hR2e];exact .tail _ (.tail _ (.tail _ (.tail _ hr))))
   have htlR:InR (isl tl.arr) R2:=Ja zza
   have htoR:InR (isl to.arr) R2:=Ja (by rw [hR2e];exact .tail _ (.tail _ (.tail _ (.head _))))
   have hf3:FeederR ⟨tp.arr,tq.arr,f1.reply⟩ R2:=⟨Ja zZ,Ja zBa⟩
   refine Ymb zyc ?_
   have hRR2:∀r∈R1,InR r R2:=fun r hr=>(hR1S r hr).mono hS1R2
   have hPSs:tp.l=({ settleA g0 ({ p with time:=t }:PSta) with rest:=Zt (settleA g0 ({ p with time:=t }:PSta)).cuts (settleA g0 ({ p with time:=t }:PSta)).rest,sw:=(Yg (settleA g0 ({ p with time:=t }:PSta)).sw g0.rp t).sw }:PSta).sw:=by rw [htp,hswA,hrpA]
   have hPSl:tl.l=(Yg (settleA g0 ({ p with time:=t }:PSta)).sw g0.rp t).late:=by rw [htl,hswA,hrpA]
   have hPSo:to.l=(Yg (settleA g0 ({ p with time:=t }:PSta)).sw g0.rp t).opened:=by rw [hto,hswA,hrpA]
   have hTLn:=Yha (sw:=(settleA g0 ({ p with time:=t }:PSta)).sw) (rp:=g0.rp) (t:=t) (settleA g0 ({ p with time:=t }:PSta)).sw.length
   have hsn32:=hI1.fok.sn
   have htln:tl.l.length≤32:=by rw [hPSl];exact Nat.le_trans hTLn.1 hsn32
   have hton:to.l.length≤32:=by rw [hPSo];exact Nat.le_trans hTLn.2 hsn32
   have hIK:Inv g0 ({ settleA g0 ({ p with time:=t }:PSta) with rest:=Zt (settleA g0 ({ p with time:=t }:PSta)).cuts (settleA g0 ({ p with time:=t }:PSta)).rest,sw:=(Yg (settleA g0 ({ p with time:=t }:PSta)).sw g0.rp t).sw }:PSta):=by
     have h1:Inv g0 ({ settleA g0 ({ p with time:=t }:PSta) with rest:=Zt (settleA g0 ({ p with time:=t }:PSta)).cuts (settleA g0 ({ p with time:=t }:PSta)).rest }:PSta):={ hI1 with rest:=J2d _ _ hI1.rest.1 }
     have h2:=h1.sws (sw:=(Yg (settleA g0 ({ p with time:=t }:PSta)).sw g0.rp t).sw) (by
       have h3:=Uha (rp:=g0.rp) (t:=t) hI1.fe (settleA g0 ({ p with time:=t }:PSta)).sw.length (Nat.le_refl _)
       have e:∀u,u=t→SwKeep (settleA g0 ({ p with time:=t }:PSta)).sw (Yg (settleA g0 ({ p with time:=t }:PSta)).sw g0.rp t).sw u:=fun u hu=>by rw [hu];exact h3
       exact e _ htA.symm)
     exact h2
   have hS3:StaIs g0 ({ settleA g0 ({ p with time:=t }:PSta) with rest:=Zt (settleA g0 ({ p with time:=t }:PSta)).cuts (settleA g0 ({ p with time:=t }:PSta)).rest,sw:=(Yg (settleA g0 ({ p with time:=t }:PSta)).sw g0.rp t).sw }:PSta) ({x with time:=t,watches:=pw.arr,cuts:=pc.arr,feeder:=⟨tp.arr,tq.arr,f1.reply⟩,rest:=rr,log:=l1.arr}:XSta):={ hS1 with sw:=hPSs,zn:=htq.trans hszA,rest:=hrr }
   refine qae ?_
   refine qa6 ?_
   refine Jhf ?_
   refine Jx zIb rfl ?_
   refine qab ?_
   refine Kca tb rfl rfl rfl rfl zA zb zb zb ?_
   refine qco ?_
   refine U2 (L':=⟨b,({x with time:=t,watches:=pw.arr,cuts:=pc.arr,feeder:=⟨tp.arr,tq.arr,f1.reply⟩,rest:=rr,log:=l1.arr}:XSta).cells,54⟩ :: (l1.L 150 XEntry.cells ++ (pc.L 71 XCut.cells ++ L))) zi zqb ?_
   dsimp only [XSta.cells]
   refine qay ?_
   refine Xbt ?_
   refine Jo [(0,Value.pointer _),(4,Value.slice _ _ _),(13,Value.slice _ _ _),(135,Value.slice _ _ _),(136,Value.int _ _),(137,Value.int _ _)] zg fun tq1=>?_
   refine q_p [16,137,138,139,140,141,142,143,144] ((⟨fun g=>[(137,.int .i64 ((g.1.1:Nat):Int))],fun g=>⟨b,({x with time:=t,watches:=pw.arr,cuts:=pc.arr,feeder:=⟨tp.arr,tq.arr,f1.reply⟩,rest:=rr,log:=g.1.2.arr}:XSta).cells,54⟩ :: (g.1.2.L 150 XEntry.cells ++ (pc.L 71 XCut.cells ++ L)),fun _=>R2,fun g=>tl.l.length - g.1.1⟩:Head {g:Nat×OwL XEntry // g.1≤tl.l.length∧g.2.ok 4 XEntry.cells∧StaIs g0 (Yr 3 ({ settleA g0 ({ p with time:=t }:PSta) with rest:=Zt (settleA g0 ({ p with time:=t }:PSta)).cuts (settleA g0 ({ p with time:=t }:PSta)).rest,sw:=(Yg (settleA g0 ({ p with time:=t }:PSta)).sw g0.rp t).sw }:PSta) (tl.l.take g.1)) ({x with time:=t,watches:=pw.arr,cuts:=pc.arr,feeder:=⟨tp.arr,tq.arr,f1.reply⟩,rest:=rr,log:=g.2.arr}:XSta)})) (⟨(0,l1),by dsimp only;omega,hl1k,hS3⟩) ?_
   rintro ⟨⟨k2,l2⟩,hk2,hl2k,hS4⟩ junk
   try dsimp only
   dsimp only [XSta.cells]
   dsimp only at hk2 hl2k hS4
   refine Xak ?_
   refine q_c (fun hc4=>?_) (fun hc4=>?_)
   ·
    have htg:=Jw (l:=tl.l) (k:=k2) 0 za
    have hst:=Z2b 3 ({ settleA g0 ({ p with time:=t }:PSta) with rest:=Zt (settleA g0 ({ p with time:=t }:PSta)).cuts (settleA g0 ({ p with time:=t }:PSta)).rest,sw:=(Yg (settleA g0 ({ p with time:=t }:PSta)).sw g0.rp t).sw }:PSta) tl.l htg
    refine qbb ?_
    refine Jx zIa rfl ?_
    refine qa7 ?_
    refine qad ?_
    refine J6 (Jb (Jh ?_))
    refine Xdf ?_
    refine Js rfl (Jda ({x with time:=t,watches:=pw.arr,cuts:=pc.arr,feeder:=⟨tp.arr,tq.arr,f1.reply⟩,rest:=rr,log:=x.log}:XSta) l2 b 3 (tl.l.getD k2 0) 0 _ _ hl2k (by have h1:=hS4.log;have h2:=(hIK.notes 3 (tl.l.take k2)).log;rw [← h1] at h2;exact h2)) rfl ?_
    rintro v L' R' ⟨l3,hl3k,hl3,rfl,rfl⟩
    refine Xa8 ?_
    exact q_k ⟨(k2 + 1,l3),by dsimp only;omega,hl3k,by dsimp only;rw [hst];exact hS4.note hl3⟩
   obtain rfl:k2=tl.l.length:=by omega
   rw [List.take_of_length_le (Nat.le_refl _)] at hS4
   have hI4:Inv g0 (Yr 3 ({ settleA g0 ({ p with time:=t }:PSta) with rest:=Zt (settleA g0 ({ p with time:=t }:PSta)).cuts (settleA g0 ({ p with time:=t }:PSta)).rest,sw:=(Yg (settleA g0 ({ p with time:=t }:PSta)).sw g0.rp t).sw }:PSta) tl.l):=hIK.notes 3 _
   refine qbk ?_
   refine Xbt ?_
   refine Jo [(0,Value.pointer _),(4,Value.slice _ _ _),(145,Value.slice _ _ _),(146,Value.int _ _),(147,Value.int _ _)] zg fun tq2=>?_
   refine q_p [18,147,148,149,150,151,152,153,154] ((⟨fun g=>[(147,.int .i64 ((g.1.1:Nat):Int))],fun g=>⟨b,({x with time:=t,watches:=pw.arr,cuts:=pc.arr,feeder:=⟨tp.arr,tq.arr,f1.reply⟩,rest:=rr,log:=g.1.2.arr}:XSta).cells,54⟩ :: (g.1.2.L 150 XEntry.cells ++ (pc.L 71 XCut.cells ++ L)),fun _=>R2,fun g=>to.l.length - g.1.1⟩:Head {g:Nat×OwL XEntry // g.1≤to.l.length∧g.2.ok 4 XEntry.cells∧StaIs g0 (Yr 2 (Yr 3 ({ settleA g0 ({ p with time:=t }:PSta) with rest:=Zt (settleA g0 ({ p with time:=t }:PSta)).cuts (settleA g0 ({ p with time:=t }:PSta)).rest,sw:=(Yg (settleA g0 ({ p with time:=t }:PSta)).sw g0.rp t).sw }:PSta) tl.l) (to.l.take g.1)) ({x with time:=t,watches:=pw.arr,cuts:=pc.arr,feeder:=⟨tp.arr,tq.arr,f1.reply⟩,rest:=rr,log:=g.2.arr}:XSta)})) (⟨(0,l2),by dsimp only;omega,hl2k,hS4⟩) ?_
   rintro ⟨⟨k3,l4⟩,hk3,hl4k,hS5⟩ junk
   try dsimp only
   dsimp only [XSta.cells]
   dsimp only at hk3 hl4k hS5
   refine Xak ?_
   refine q_c (fun hc5=>?_) (fun hc5=>?_)
   ·
    have htg:=Jw (l:=to.l) (k:=k3) 0 za
    have hst:=Z2b 2 (Yr 3 ({ settleA g0 ({ p with time:=t }:PSta) with rest:=Zt (settleA g0 ({ p with time:=t }:PSta)).cuts (settleA g0 ({ p with time:=t }:PSta)).rest,sw:=(Yg (settleA g0 ({ p with time:=t }:PSta)).sw g0.rp t).sw }:PSta) tl.l) to.l htg
    refine qbb ?_
    refine Jx (by first | exact Jf tb rfl rfl rfl rfl zt (i:=k3) zk za | exact Jk tb rfl rfl rfl rfl (i:=k3) zk za) rfl ?_
    refine qa7 ?_
    refine qad ?_
    refine J6 (Jb (Jh ?_))
    refine Xdf ?_
    refine Js rfl (Jda ({x with time:=t,watches:=pw.arr,cuts:=pc.arr,feeder:=⟨tp.arr,tq.arr,f1.reply⟩,rest:=rr,log:=x.log}:XSta) l4 b 2 (to.l.getD k3 0) 0 _ _ hl4k (by have h1:=hS5.log;have h2:=(hI4.notes 2 (to.l.take k3)).log;rw [← h1] at h2;exact h2)) rfl ?_
    rintro v L' R' ⟨l5,hl5k,hl5,rfl,rfl⟩
    refine Xa8 ?_
    exact q_k ⟨(k3 + 1,l5),by dsimp only;omega,hl5k,by dsimp only;rw [hst];exact hS5.note hl5⟩
   obtain rfl:k3=to.l.length:=by omega
   obtain ⟨QB,hQB⟩:∃QB,QB=settleB g0 (settleA g0 ({ p with time:=t }:PSta)):=⟨_,rfl⟩
   have hSB:Yr 2 (Yr 3 ({ settleA g0 ({ p with time:=t }:PSta) with rest:=Zt (settleA g0 ({ p with time:=t }:PSta)).cuts (settleA g0 ({ p with time:=t }:PSta)).rest,sw:=(Yg (settleA g0 ({ p with time:=t }:PSta)).sw g0.rp t).sw }:PSta) tl.l) to.l=QB:=by rw [hQB,hPSl,hPSo,settleB];simp only [← htA]
   rw [List.take_of_length_le (Nat.le_refl _),hSB] at hS5
   rw [← hQB] at hsB
   obtain ⟨VS,hVS⟩:∃VS,VS=Kja g0 ({ p with time:=t }:PSta):=⟨_,rfl⟩
   rw [← hVS] at hpv
   have hQn:QB.cuts.length=pc.l.length:=by rw [← hS5.cuts]
   refine qbk ?_
   refine qa6 ?_
   refine Jx zIb rfl ?_
   refine Xaw ?_
   refine Jo [(0,Value.pointer _),(4,Value.slice _ _ _),(159,Value.int _ _),(160,Value.int _ _)] zg fun tq3=>?_
   refine q_p [19,160,161,162,163,164,165,166,167,168,169,170,171,172,173,174,175,176,177,178,179,180,181,182,183,184,185,186,187,188,189,190,191,192,193,194,195,196,197,198,199,200,201,202,203,204,205,206,207,208] ((⟨fun g=>[(160,.int .i64 ((g.1.1:Nat):Int))],fun g=>⟨b,({x with time:=t,watches:=pw.arr,cuts:=(⟨pc.o,g.1.2.2.2.1⟩:OwL XCut).arr,feeder:=g.1.2.1,rest:=rr,log:=g.1.2.2.1.arr}:XSta).cells,54⟩ :: (g.1.2.2.1.L 150 XEntry.cells ++ ((⟨pc.o,g.1.2.2.2.1⟩:OwL XCut).L 71 XCut.cells ++ L)),fun g=>g.1.2.2.2.2,fun g=>pc.l.length - g.1.1⟩:Head {g:Nat×XFeeder×OwL XEntry×List XCut×List Sl // g.1≤pc.l.length∧g.2.2.1.ok 4 XEntry.cells∧StaIs g0 (darkTo g0 VS QB g.1) ({x with time:=t,watches:=pw.arr,cuts:=(⟨pc.o,g.2.2.2.1⟩:OwL XCut).arr,feeder:=g.2.1,rest:=rr,log:=g.2.2.1.arr}:XSta)∧FeederR g.2.1 g.2.2.2.2∧∀r∈R2,InR r g.2.2.2.2})) (⟨(0,⟨tp.arr,tq.arr,f1.reply⟩,l4,pc.l,R2),by dsimp only;omega,hl4k,hS5,hf3,Jc _⟩) ?_
   rintro ⟨⟨k4,f5,l6,cl,S5⟩,hk4,hl6k,hS6,hf5,hR2S⟩ junk
   try dsimp only
   dsimp only [XSta.cells]
   dsimp only at hk4 hl6k hS6 hf5 hR2S
   have hcle:cl=(darkTo g0 VS QB k4).cuts:=hS6.cuts
   have hcln:cl.length=pc.l.length:=by rw [hcle,Kuc,hQn]
   have hclk:(⟨pc.o,cl⟩:OwL XCut).ok 3 XCut.cells:=OwL.len_ok (fun _=>rfl) hpck hcln
   have hI6:Inv g0 (darkTo g0 VS QB k4):=hsB.darkTo VS k4
   refine Xak ?_
   refine q_c (fun hc6=>?_) (fun hc6=>?_)
   ·
    have hcg:=Jw (l:=cl) (k:=k4) default za
    obtain ⟨c,hce⟩:∃c,c=cl.getD k4 default:=⟨_,rfl⟩
    rw [← hce] at hcg
    have hsw6:f5.switches.l=(darkTo g0 VS QB k4).sw:=hS6.sw
    have hzn6:f5.zones.l=g0.zn:=hS6.zn
    have hrp6:f5.reply=g0.rp:=hS6.rp
    have hda:darkTo g0 VS QB (k4 + 1)=Kta g0 VS (darkTo g0 VS QB k4) k4:=rfl
    have hdk:Zse g0 (darkTo g0 VS QB k4).sw k4=(V1a f5.switches.l f5.zones.l f5.reply (f5.zones.l.getD (k4:Int).toNat 0)).any (fun k=>Zvd (f5.switches.l.getD k.toNat default)):=by rw [hsw6,hzn6,hrp6];rfl
    refine Xa2 ?_
    refine Xas ?_
    refine qa6 ?_
    refine Jx zIb rfl ?_
    refine Xam ?_
    refine Jx zOb rfl ?_
    refine qb0 ?_
    refine Jx (Kk tb ((⟨pc.o,cl⟩:OwL XCut)) rfl rfl rfl zj zh (fun _=>rfl) zh zb) rfl ?_
    refine qah ?_
    apply J9 (G:=[_,_,_,_,_,_,_]) (j:=8) (cj:=171) rfl rfl zb rfl zdb rfl
    ·
     intro hg9
     replace hg9:=qb hg9
     refine qa6 ?_
     refine Jx zIb rfl ?_
     refine qab ?_
     refine Jhf ?_
     refine qaa ?_
     refine q_l rfl (Upe f5 (k4:Int) _ _ hf5 (by rw [hsw6,hzn6,hrp6];exact hI6.fe) (by rw [hzn6];omega)) ?_
     refine qb4 ?_
     exact qai
    intro junk9
    refine qaf ?_
    refine q_c (fun hc7=>?_) (fun hc7=>?_)
    ·
     refine K8 (Kq (Kc (Jb (Jh ?_))))
     refine Xae ?_
     exact q_k ⟨(k4 + 1,f5,l6,cl,S5),by dsimp only;omega,hl6k,by dsimp only;rw [hda,Kta,if_pos (by rw [← hcle,← hce,hdk];simpa using hc7)];exact hS6,hf5,hR2S⟩
    have hnd:¬ ((darkTo g0 VS QB k4).cuts.getD k4 default).off=true∧¬ Zse g0 (darkTo g0 VS QB k4).sw k4=false:=by rw [← hcle,← hce,hdk,← not_or];simpa using hc7
    have hzg:=Jw (l:=x.site.zones.l) (k:=k4) default za
    have hRS5:∀r∈R,InR r S5:=fun r hr=>((hRR1 r hr).mono hRR2).mono hR2S
    have hzR5:=hs.zones.mono hRS5
    have hruR:=InR.rule hzR5 hzg
    have hpvR5:=(hpvR.mono hRR2).mono hR2S
    refine qcl ?_
    refine Kj tb [189] [0,1,2,3,4,5,6,7,8,9,10,11,12,13,14,15,16,17,18,19,20,21,22] [23,24,25,26] (_) _ K1 ze zi (List.nil_sublist _) ?_
    refine qb3 ?_
    refine Kx zIb rfl rfl rfl rfl ?_
    refine Xc8 ?_
    refine qb3 ?_
    refine Kx zIb rfl rfl rfl rfl ?_
    refine Xar ?_
    refine V8 (Jy zeb) rfl rfl rfl rfl ?_
    refine qb3 ?_
    refine Kx zIb rfl rfl rfl rfl ?_
    refine qan ?_
    refine Xc8 ?_
    refine Kx (by first | exact Jf tb rfl rfl rfl rfl zt (i:=k4) zk za | exact Jk tb rfl rfl rfl rfl (i:=k4) zk za) rfl rfl rfl rfl ?_
    refine qcv ?_
    refine qci ?_
    refine qct ?_
    refine Vi rfl (Z0b (x.site.zones.l.getD k4 default).rule pv.arr _ _ hruR hpvR5) rfl rfl ?_
    rintro v L' R' ⟨rfl,rfl,rfl⟩
    refine ⟨zi,zw,?_⟩
    refine Kx zOb rfl rfl rfl rfl ?_
    refine qcv ?_
    refine qba ?_
    refine Kcb (Jr tb ((⟨pc.o,cl⟩:OwL XCut)) (⟨true,c.clear,c.reason⟩) rfl rfl rfl rfl zj zh (fun _=>rfl) zh zc zb zb) rfl rfl ?_
    rintro v L' R' ⟨rfl,rfl⟩
    refine qa1 ?_
    refine Kv zOb rfl rfl rfl ?_
    refine qce ?_
    have hclk1:=OwL.set_ok (f:=XCut.cells) (wd:=3) (p:=⟨pc.o,cl⟩) (i:=k4) (x:=⟨true,c.clear,c.reason⟩) (fun _=>rfl) hclk
    have hcg1:(cl.set k4 ⟨true,c.clear,c.reason⟩)[k4]?=some ⟨true,c.clear,c.reason⟩:=List.getElem?_set_self za
    refine Kcb (Jr tb ((⟨pc.o,cl.set k4 ⟨true,c.clear,c.reason⟩⟩:OwL XCut)) (⟨true,c.clear,J1a (x.site.zones.l.getD k4 default).rule.l pv.l⟩) rfl rfl rfl rfl zj zh (fun _=>rfl) zh zc zb zb) rfl rfl ?_
    rintro v L' R' ⟨rfl,rfl⟩
    refine qa1 ?_
    refine qbu ?_
    obtain ⟨cl2,hcl2⟩:∃cl2,cl2=cl.set k4 ⟨true,c.clear,J1a (x.site.zones.l.getD k4 default).rule.l pv.l⟩:=⟨_,rfl⟩
    have hcl2n:cl2.length=cl.length:=by rw [hcl2,List.length_set]
    have hcv:(⟨pc.o,cl2⟩:OwL XCut).arr.val=(⟨pc.o,cl⟩:OwL XCut).arr.val:=by simp only [OwL.arr,Arr.val,hcl2n]
    have hcl2k:(⟨pc.o,cl2⟩:OwL XCut).ok 3 XCut.cells:=OwL.len_ok (fun _=>rfl) hpck (hcl2n.trans hcln)
    refine Uv (L':=⟨b,({x with time:=t,watches:=pw.arr,cuts:=(⟨pc.o,cl2⟩:OwL XCut).arr,feeder:=f5,rest:=rr,log:=l6.arr}:XSta).cells,54⟩ :: (l6.L 150 XEntry.cells ++ ((⟨pc.o,cl2⟩:OwL XCut).L 71 XCut.cells ++ L))) (by simp only [XSta.cells,hcv];rw [hcl2];simp only [List.set_set]) ?_
    have hev:J1a (x.site.zones.l.getD k4 default).rule.l pv.l=J1a (g0.site.zones.l.getD k4 default).rule.l VS:=by rw [SiteE.rule hx.site k4,hpv]
    obtain ⟨pD,hpD⟩:∃pD:PSta,pD={ darkTo g0 VS QB k4 with cuts:=(darkTo g0 VS QB k4).cuts.set k4 ⟨true,((darkTo g0 VS QB k4).cuts.getD k4 default).clear,J1a (g0.site.zones.l.getD k4 default).rule.l VS⟩ }:=⟨_,rfl⟩
    have hpDc:cl2=pD.cuts:=by rw [hcl2,hpD,hev,hce,hcle]
    have hID:Inv g0 pD:=by
      rw [hpD]
      exact { hI6 with clen:=by show (List.set _ _ _).length=_;rw [List.length_set];exact hI6.clen,rest:=by show _∧(_∨(_∧_ < ((List.set _ _ _).length:Int)));rw [List.length_set];exact hI6.rest }
    have hSD:StaIs g0 pD ({x with time:=t,watches:=pw.arr,cuts:=(⟨pc.o,cl2⟩:OwL XCut).arr,feeder:=f5,rest:=rr,log:=l6.arr}:XSta):=by rw [hpD] at hpDc ⊢;exact { hS6 with cuts:=hpDc }
    have hdn:darkTo g0 VS QB (k4 + 1)=K3b g0 pD (k4:Int):=by rw [hda,Kta,if_neg (not_or.2 hnd),hpD]
    refine qay ?_
    refine Xdf ?_
    refine Js rfl (Z4d g0 pD ({x with time:=t,watches:=pw.arr,cuts:=(⟨pc.o,cl2⟩:OwL XCut).arr,feeder:=f5,rest:=rr,log:=l6.arr}:XSta) (⟨pc.o,cl2⟩:OwL XCut) l6 b (k4:Int) _ _ hID hSD hf5 hcl2k hl6k (by rw [← hpDc];omega)) rfl ?_
    rintro v L' R' ⟨f7,l7,S7,hl7k,hS7,hf7,rfl,rfl⟩
    refine Xa8 ?_
    exact q_k ⟨(k4 + 1,f7,l7,cl2,S7 ++ S5),by dsimp only;omega,hl7k,by dsimp only;rw [hdn];exact hS7,hf7,fun r hr=>(hR2S r hr).mono fun r hr=>Ja (List.mem_append_right _ hr)⟩
   obtain rfl:k4=pc.l.length:=by omega
   have hSP:darkTo g0 VS QB pc.l.length=Jd g0 p t:=by rw [Jd,← hVS,← hQB,hQn]
   rw [hSP] at hS6
   have hre:rr=(Jd g0 p t).rest:=hS6.rest
   refine Kd (T:=71) (f:=XCut.cells) (wd:=3) (⟨pc.o,cl⟩:OwL XCut) [] zj (fun _=>rfl) zc hclk (fun s hs=>by cases hs) ?_
   refine Uv zp ?_
   have hpwR5:=(hpwR.mono hRR2).mono hR2S
   have hRS5:∀r∈R,InR r S5:=fun r hr=>((hRR1 r hr).mono hRR2).mono hR2S
   have hS9:∀r∈S5,InR r ((Kwc (⟨pc.o,cl⟩:OwL XCut).arr :: S5) ++ R):=fun r hr=>Ja (.tail _ (List.mem_append_left _ hr))
   refine K8 (Kq (Uf (Kc ?_)))
   refine J6a (L':=⟨b,({x with time:=t,watches:=pw.arr,cuts:=(⟨pc.o,cl⟩:OwL XCut).arr,feeder:=f5,rest:=rr,log:=l6.arr}:XSta).cells,54⟩ :: (l6.L 150 XEntry.cells ++ L)) (R':=(Kwc (⟨pc.o,cl⟩:OwL XCut).arr :: S5) ++ R) (Jrf rfl) ?hp ?hL ?hR
   case hp=>exact ⟨pw.arr,(⟨pc.o,cl⟩:OwL XCut).arr,f5,l6,Kwc (⟨pc.o,cl⟩:OwL XCut).arr :: S5,hl6k,by rw [← hre];exact hS6,⟨hpwR5.mono hS9,Ja (.head _),hf5.mono hS9⟩,by rw [← hre];rfl,rfl⟩
   case hL=>exact zi
   case hR=>
    exact fun r hr=>by
      rcases List.mem_append.1 hr with h | h
      · exact Ja h
      · exact (hRS5 r h).mono fun r hr=>Ja (.tail _ hr)
  exact absurd hTE hc3
end Go.Proofs.YtchfclmokpbldaaGreat
