/-
  Texts of one chapter, merged. By an AI agent; no person has read it.
-/
import Derived.Test.YtchfclmokpbldaaGreatFrzT
import Derived.Test.YtchfclmokpbldaaGreatGasW
import Derived.Test.YtchfclmokpbldaaGreatGasP
import Derived.Test.YtchfclmokpbldaaGreatAwakeP
import Derived.Test.YtchfclmokpbldaaGreatDraws
import Derived.Test.YtchfclmokpbldaaGreatFits
import Derived.Test.YtchfclmokpbldaaGreatRows
set_option linter.unusedVariables false
set_option linter.unusedSimpArgs false
set_option maxRecDepth 20000
namespace Go.Proofs.YtchfclmokpbldaaGreat
open Go.Aw Go
section
attribute [local irreducible] CJ LJ DJ Tri YV Gives Uq J2 Kj Ut RV J3 OwL.L
section
variable {A9 B9:Prop}
theorem Zgd (a:A9) (h:A9→B9:=by exact Ks (Jz (show _=Value.slice _ _ _ from rfl)) rfl rfl rfl):B9:=h a
theorem Ygf (a:A9) (h:A9→B9:=by exact Ks (by first | exact Vzb rfl rfl (by omega) (by omega) (by omega) | exact Upc rfl rfl (by omega) (by omega) (by omega) | exact Kuc rfl rfl (by omega)) rfl rfl rfl):B9:=h a
theorem U0g (a:A9) (h:A9→B9:=by exact Jw (Js (row:=[_,_,_,_,_,_,_,_]) tb rfl rfl rfl (by repeat (first | exact zi0 | apply zi1 | apply zi2)) (by rfl) (by rfl)) rfl):B9:=h a
theorem Jgg (a:A9) (h:A9→B9:=by exact Ks (Jo tb (kp) _ rfl rfl rfl rfl (by assumption) (i:=i) (by first | rfl | omega | (simp;omega)) (by first | omega | (dsimp only;omega) | (dsimp only;rw [List.length_set];omega) | (dsimp only;simp only [List.length_set];omega))) rfl rfl rfl):B9:=h a
theorem Zjf (a:A9) (h:A9→B9:=by exact Ks (J4 tb (kp) rfl rfl rfl (by repeat (first | apply OSeg.cons | exact OSeg.here | exact OSeg.last | exact OSeg.at (by assumption) | apply OSeg.app)) (by assumption) (fun _=>rfl) (by assumption) (by rfl)) rfl rfl rfl):B9:=h a
end
theorem Jkf (m : XMine) (fl : Arr XSpan) (s : XSrc) (b : Nat) (T : TypeId) (L : List Blk) (R : List Sl) (hm : MineR m R) (hfl : InR (Jkc fl) R) (hv : Ul m = 0) (hn : fl.l.length = m.roads.l.length) (hs : Jbd m.roads.l.length s)
    (hfb:∀x∈fl.l,(-1125899906842624≤x.low∧x.low≤1125899906842624)∧(-1125899906842624≤x.high∧x.high≤1125899906842624)):
    Tri Tryz.prog 70 [m.val,fl.val,.slice (some ⟨b,0,none⟩) 1 1].toArray (⟨b,s.cells,T⟩ :: L) R (fun w U J=>∃(p r:OwL Int) (inf:List Int),w=.tuple #[p.val,r.val,.int .i64 0]∧(p.ok 1 Jj∧r.ok 1 Jj)∧Conc m.roads.l.length r.l∧(∀i:Nat,i < m.roads.l.length→K0f m fl.l inf r.l i)∧s.span.high≤inf.getD s.road.toNat 0∧r.L 3 Jj ++ L=U∧∀r∈R,InR r J):=by
  have hR:∀r∈R,InR r (U4g ⟨some ⟨b,0,none⟩,1,[s]⟩ :: R):=fun r hr=>Ja (.tail _ hr)
  refine (Tri.frz (wd:=3) (len:=1) (cap:=1) (rows:=[XSrc.cells s]) (subs:=[]) rfl (by decide) (by decide) (fun r hr=>by rw [List.mem_singleton.1 hr];rfl) (by decide) rfl (fun s hs=>by cases hs) (K0d m fl ⟨some ⟨b,0,none⟩,1,[s]⟩ L _ ⟨hm.places.mono hR,hm.roads.mono hR⟩ (hfl.mono hR) (Ja (.head _)) hv hn (by simp) (fun z hz=>by rw [List.mem_singleton.1 hz];exact hs) hfb)).mono ?_
  rintro w U J ⟨p,r,inf,h1,h2,h3,h4,h5,h6,h7⟩
  exact ⟨p,r,inf,h1,h2,h3,h4,h5 _ (.head _),h6,fun r hr=>h7 r (.tail _ hr)⟩
theorem Zod (y:Arr Int) (wt:Int) (R:List Sl) (hy:CodesR y R) (hwt:0≤wt∧wt≤255):
    Tri Tryz.prog 13 [y.val,.int .u8 wt].toArray [] R (fun v U J=>v=.bool true∧[]=U∧R=J):=by
  have htm:wt.tmod 60=wt % 60:=Int.tmod_eq_emod_of_nonneg (by omega)
  have htb:0≤wt.tmod 60∧wt.tmod 60 < 60:=by omega
  refine Je 176 Tryz.call13 Tryz.func13 rfl rfl rfl ?_
  apply (Xbt)
  apply (Xdu)
  refine Jv rfl (Vye y _ _ hy) rfl ?_
  rintro v U J ⟨c,rfl,hx,rfl,rfl⟩
  apply (qc1)
  apply (qam)
  apply (qa6)
  refine Jv rfl (Vig (.consL .nil) hx (Nat.zero_le _)) rfl ?_
  rintro v U J ⟨m,k1,S,rfl,hm,hMA,hif,hid,hk1,rfl,rfl⟩
  simp only [List.append_assoc,List.cons_append,List.nil_append]
  refine Jw (Jz rfl) rfl ?_
  iterate 3 apply (qbs)
  apply (qaq)
  intro b6
  apply (qaq)
  intro b7
  apply (qaq)
  intro b8
  iterate 3 apply (qak)
  apply (qa4)
  refine Vtf (A:=[]) hm hMA (fun f hf=>(hif f hf).mono fun r hr=>Ja (by simp [hr])) (fun f hf=>(hid f hf).mono fun r hr=>Ja (by simp [hr])) fun a s x R1 hMA hA hT hX hR1=>?_
  apply (qb1)
  obtain ⟨_,hae,hF,hri,hfo⟩:=hMA.b
  have hx1:CodesR (Kma y) R1:=hx.mono fun r hr=>hR1 r (by simp [hr])
  have hR0:∀r∈R,InR r R1:=fun r hr=>hR1 r (by simp [hr])
  have hnp:=hMA.nplaces
  have hnr:=hMA.nroads
  have hfn:=hF.flen
  obtain ⟨A,hAA⟩:=K4e a.mine
  have hxf:=hX.flows
  have hme:=Kxa hMA.err
  have hmo:=U6a hme
  apply (qay)
  apply (Xct)
  refine Jv rfl (Y9b a s A _ _ hA hT (fun _=>hAA)) rfl ?_
  rintro v U J ⟨l,rfl,hlk,hll,rfl,rfl⟩
  have han:=(Yyd hMA.err hMA.fit hAA).1
  have hln:l.l.length=x.flows.l.length:=by rw [hll,hfn];exact Uvc hMA.err hMA.fit hAA
  have hlh:V4e x.flows.l l.l:=by rw [hll];exact ana_holds hMA.err hMA.fit hAA hF
  have hlb:Zwf l.l:=by rw [hll];exact Umf hMA.err hMA.fit hAA
  rw [han]
  refine Jw (Jz rfl) rfl ?_
  apply (Xd3)
  apply (Xc5)
  apply (Xb7)
  apply Kf (G:=[_,_,_,_,_,_]) (j:=2) (cj:=41) rfl rfl (by rfl) rfl (show _=Value.bool _ from rfl) rfl
  ·
   intro hg3
   replace hg3:=qb hg3
   apply (Xap)
   apply (Xab)
   apply (qbq)
   exact qai
  intro junk3
  apply (qaf)
  refine q_c (fun hc0=>?_) (fun hc0=>?_)
  ·
   (exfalso;simp at hc0;omega)
  refine J5 (Jb (Jq (Jq ?_)))
  refine Vg (A:=[]) (wd:=2) [] (fun _=>rfl) (by decide) hlk (fun s hs=>by cases hs) ?_
  refine U2 (by simp only [List.nil_append];rfl) ?_
  obtain ⟨R2,hR2e⟩:∃R2,R2=Jkc l.arr :: R1:=⟨_,rfl⟩
  have hR2:∀r∈R1,InR r R2:=fun r hr=>Ja (by rw [hR2e];exact .tail _ hr)
  have hlR:InR (Jkc l.arr) R2:=Ja (by rw [hR2e];exact .head _)
  refine Jic (show _=R2 by rw [hR2e]) ?_
  apply (qay)
  apply (qab)
  apply (Xay)
  refine Jm [(1,Value.int _ _),(5,Value.pointer _),(6,Value.pointer _),(8,Value.pointer _),(9,Value.slice _ _ _),(51,Value.slice _ _ _),(52,Value.int _ _),(53,Value.int _ _)] (by repeat' (first | exact trivial | refine And.intro rfl ?_)) fun tq0=>?_
  refine q_p [4,11,12,13,14,15,16,17,18,19,20,21,22,23,24,53,54,55,56,57,58,59,60,61,62,63,64,65,66,67,68,69,70,71,72,73,74,75,76,77,78,79,80,81,82,83,84,85,86,87,88,89,90,91,92,93,94,95,96,97,98,99,100,101,102,103,104,105,106,107,108,109,110,111,112,113,114,115,116,117,118,119,120,121,122,123,124,125,126,127,128,129,130,131,132,133,134,135,136,137,138,139,140,141,142,143,144,145,146,147,148,149,150,151,152,153,154,155,156,157,158,159,160,161,162,163,164,165,166,167,168,169,170,171,172,173,174] ((⟨fun g=>[(53,.int .i64 ((g.1.1:Nat):Int))],fun g=>⟨b8,x.cells,82⟩ :: ⟨b7,s.cells,80⟩ :: ⟨b6,a.cells,32⟩ :: cblk c (Kma y) g.1.2.1 :: [],fun g=>g.1.2.2,fun g=>a.mine.roads.l.length - g.1.1⟩:Head {g:Nat×Nat×List Sl // g.1≤a.mine.roads.l.length∧g.2.1≤(Kma y).l.length∧∀r∈R2,InR r g.2.2})) (⟨(0,k1,R2),by dsimp only;omega,hk1,fun r hr=>Ja hr⟩) ?_
  rintro ⟨⟨i,k,S3⟩,hi,hk,hsub⟩ junk
  try dsimp only
  dsimp only at hi hk hsub
  have h13:∀r∈R1,InR r S3:=fun r hr=>(hR2 r hr).mono hsub
  have hx3:=hx1.mono h13
  have hA3:=Zw hA h13
  have hxf3:=hxf.mono h13
  have hl3:=hlR.mono hsub
  have hrR3:=hA3.mineR.roads
  have hpR3:=hA3.mineR.places
  apply (Xaj)
  refine q_c (fun hc1=>?_) (fun hc1=>?_)
  ·
   have hrg:=Jp (l:=a.mine.roads.l) (k:=i) default (by omega)
   have hfg:=Jp (l:=x.flows.l) (k:=i) 0 (by omega)
   have hro:=hmo.road i _ hrg
   have hfr:=hro.fr
   have hto:=hro.to
   have hfb:=hF.flow _ (List.mem_of_getElem? hfg)
   apply (Xa1)
   refine Jw (by first | exact Jd tb rfl rfl rfl rfl (by first | assumption | exact zr (by simp)) (i:=i) (by first | rfl | omega | (simp;omega)) (by omega) | exact Jl tb rfl rfl rfl rfl (i:=i) (by first | rfl | omega | (simp;omega)) (by omega)) rfl ?_
   apply (qc8)
   apply (qaq)
   intro b12
   apply (qad)
   apply (Xcp)
   refine Ke tb [0,1,2,3,4,5,6,7,8] _ Ko (by kernel_rfl) (List.Sublist.refl _) ?_
   apply (Xby)
   refine Ks (by first | exact Jd tb rfl rfl rfl rfl (by first | assumption | exact zr (by simp)) (i:=i) (by first | rfl | omega | (simp;omega)) (by omega) | exact Jl tb rfl rfl rfl rfl (i:=i) (by first | rfl | omega | (simp;omega)) (by omega)) rfl rfl rfl ?_
   apply (qbl)
   apply (Xal)
   apply (Xc6)
   apply (qc6)
   apply (qaa)
   apply (Xbd)
   refine Vq [13,14,67,68,69,70] ((⟨fun g=>[(13,.int .i64 g.1.1),(14,.int .i64 g.1.2)],fun _=>⟨b12,((a.mine.roads.l.getD i default)).cells,157⟩ :: ⟨b8,x.cells,82⟩ :: ⟨b7,s.cells,80⟩ :: ⟨b6,a.cells,32⟩ :: cblk c (Kma y) k :: [],fun _=>S3,fun _=>0⟩:Head {g:Int×Int // g.1=max (x.flows.l.getD i 0) (-(x.flows.l.getD i 0))∧0≤g.2∧g.2 < a.mine.places.l.length})) ?_ ?_
   ·
    skip
    refine q_c (fun hc2=>?_) (fun hc2=>?_)
    ·
     refine Ke tb [0,1,2,3,4,5] _ Ko (by kernel_rfl) (List.Sublist.refl _) ?_
     apply (qao)
     refine Ks (Zha rfl (by omega) (by omega)) rfl rfl rfl ?_
     apply (Xal)
     apply (Xc6)
     refine J1 ?_
     exact q_j ⟨(-(x.flows.l.getD i 0),(a.mine.roads.l.getD i default).to),by dsimp only;omega,hto⟩
    refine J5 ?_
    exact q_j ⟨((x.flows.l.getD i 0),(a.mine.roads.l.getD i default).fr),by dsimp only;omega,hfr⟩
   rintro ⟨⟨q,fr⟩,hq,hfrx⟩ junk
   try dsimp only
   dsimp only at hq hfrx
   have hpg:=Jp (l:=a.mine.places.l) (k:=fr.toNat) default (by omega)
   apply (Xa6)
   apply (Xcl)
   apply Kf (G:=[_,_,_,_,_,_,_,_]) (j:=2) (cj:=73) rfl rfl (by rfl) rfl (show _=Value.bool _ from rfl) rfl
   ·
    intro hg3
    replace hg3:=qb hg3
    apply (qab)
    apply (Xah)
    refine Jw (by first | exact Jd tb rfl rfl rfl rfl (by first | assumption | exact zr (by simp)) (i:=fr.toNat) (by first | rfl | omega | (simp;omega)) (by omega) | exact Jl tb rfl rfl rfl rfl (i:=fr.toNat) (by first | rfl | omega | (simp;omega)) (by omega)) rfl ?_
    apply (Xbc)
    apply (qb4)
    exact qai
   intro junk3
   apply (qaf)
   refine q_c (fun hc3=>?_) (fun hc3=>?_)
   ·
    refine K9 (Km (J6 (Jb (Jg ?_))))
    apply (Xad)
    exact q_k ⟨(i + 1,k,S3),by dsimp only;omega,hk,hsub⟩
   have hq0:q≠0:=hc3.1
   have hqp:0 < q:=by omega
   apply (qbv)
   apply (qa6)
   refine Jv rfl (Yia (by repeat (first | apply USeg.here | apply USeg.cons | apply USeg.app)) hx3 hk (by omega)) rfl ?_
   rintro v U J ⟨w,k2,rfl,g1,g1',g1'',hk2,rfl,rfl⟩
   have g1q:=g1' (by omega)
   apply (Xca)
   refine Ke tb [0,1,2,3,4,5,6,7,8,9,10,11,12,13,14,15,16,17,18,19] ([Blk.mk b6 _ _]) Ko (by kernel_rfl) (by repeat (first | exact zs0 _ | exact zs1 _ | apply zs2 | apply zs3 | apply zs4 | apply zs5)) ?_
   apply (qal)
   apply (qbd)
   refine Zgd ?_
   iterate 3 apply (qao)
   apply (qb8)
   refine Vo rfl (Yia (by repeat (first | apply USeg.here | apply USeg.cons | apply USeg.app)) hx3 hk2 (by omega)) rfl rfl ?_
   rintro v U J ⟨w2,k3,rfl,g2,g2',g2'',hk3,rfl,rfl⟩
   refine ⟨(by repeat (first | exact zs0 _ | exact zs1 _ | apply zs2 | apply zs3 | apply zs4 | apply zs5)),(by first | exact Jc _ | assumption | exact (fun r h=>Ja (by simp [h]))),?_⟩
   have g2q:=g2' (by omega)
   apply (qc2)
   refine Ks (J8 (qs:=[(0,(Value.int _ _).cells.toList),(1,(Value.int _ _).cells.toList)]) (out:=[_,_]) tb rfl rfl rfl rfl) rfl rfl rfl ?_
   refine Ks (J8 (qs:=[(0,(Value.int _ _).cells.toList),(1,(Value.agg _).cells.toList)]) (out:=[_,_,_]) tb rfl rfl rfl rfl) rfl rfl rfl ?_
   refine Jzb (Ju (qs:=[(0,(Value.agg _).cells.toList)]) (out:=[_,_,_]) tb rfl rfl rfl rfl rfl rfl rfl) rfl rfl rfl ?_
   rintro v U J ⟨b97,rfl,rfl,hR97⟩
   replace hR97:=hR97.symm;subst hR97
   apply (qa1)
   refine Vo rfl (Jkf a.mine l.arr (⟨(i:Int),⟨w,w + w2⟩⟩:XSrc) _ _ _ _ hA3.mineR hl3 hme (show l.l.length=_ by omega) (by unfold Jbd;dsimp only;omega) (fun z hz=>by obtain ⟨j,hj,rfl⟩:=List.getElem_of_mem hz;have:=hlb j;rw [List.getD_eq_getElem?_getD,List.getElem?_eq_getElem hj] at this;exact this)) rfl rfl ?_
   rintro v U J ⟨pp,rr,inf,rfl,⟨hppk,hrrk⟩,hrc,hrd,hin1,rfl,hR4⟩
   refine ⟨(by repeat (first | exact zs0 _ | exact zs1 _ | apply zs2 | apply zs3 | apply zs4 | apply zs5)),(by first | exact Jc _ | assumption | exact (fun r h=>Ja (by simp [h]))),?_⟩
   have hrn:=hrc.len
   have hri':=hrd i (by omega)
   dsimp only at hin1
   refine Ks (Jz rfl) rfl rfl rfl ?_
   iterate 3 refine Ks (K5 rfl rfl) rfl rfl rfl ?_
   refine Ks (K8 (show _=Value.slice _ _ _ from rfl)) rfl rfl rfl ?_
   refine Ks (K8 (show _=Value.slice _ _ _ from rfl)) rfl rfl rfl ?_
   apply (qcg)
   apply (qc6)
   apply (qaa)
   apply (Xb7)
   apply Kf (G:=[_,_,_,_,_]) (j:=2) (cj:=104) rfl rfl (by rfl) rfl (show _=Value.bool _ from rfl) rfl
   ·
    intro hg3
    replace hg3:=qb hg3
    apply (Xap)
    apply (Xap)
    apply (qbq)
    exact qai
   intro junk3
   apply (qaf)
   refine q_c (fun hc4=>?_) (fun hc4=>?_)
   ·
    (exfalso;simp at hc4;omega)
   have hne:(x.flows.l.getD i 0)≠0:=fun e=>by rw [e] at hq;omega
   have hcl:(a.mine.roads.l.getD i default).closed=false:=by
     cases hc:(a.mine.roads.l.getD i default).closed with
     | false=>rfl
     | true=>exact absurd (hF.shut (by omega) hc) hne
   have hbd:=V6e (hrd i (by omega)) hcl (hlh i (by omega)) hne hq (show 0≤w∧w≤1000000 by omega) (by rw [Int.toNat_natCast] at hin1;omega)
   obtain ⟨v,hve⟩:∃v,v=w / q:=⟨_,rfl⟩
   have hvt:w.tdiv q=v:=by rw [hve];exact Int.tdiv_eq_ediv_of_nonneg (by omega)
   rw [← hve] at hbd
   have hrx:=hrc.rng _ (List.mem_of_getElem? (Jp (l:=rr.l) (k:=i) 0 (by omega)))
   apply (qcl)
   refine Vg (A:=[]) (wd:=1) [] (fun _=>rfl) (by decide) hrrk (fun s hs=>by cases hs) ?_
   refine U2 (by simp only [List.nil_append];rfl) ?_
   obtain ⟨R4,hR4e⟩:∃R4,R4=isl rr.arr :: J:=⟨_,rfl⟩
   have h34:∀r∈S3,InR r R4:=fun r hr=>(hR4 r hr).mono fun r hr=>Ja (by rw [hR4e];exact .tail _ hr)
   have hrR:InR (isl rr.arr) R4:=Ja (by rw [hR4e];exact .head _)
   refine Jic (show _=R4 by rw [hR4e]) ?_
   apply (Xa5)
   refine Jw (J8 (qs:=[(1,(Value.int _ _).cells.toList),(2,(Value.int _ _).cells.toList),(4,(Value.int _ _).cells.toList),(5,(Value.int _ _).cells.toList),(6,(Value.int _ _).cells.toList),(7,(Value.int _ _).cells.toList)]) (out:=[_,_,_,_,_,_,_,_]) tb rfl rfl rfl rfl) rfl ?_
   apply (qaq)
   intro b19
   apply (Xcp)
   refine Ke tb [0,1,2,3,4,5,6,7,8,9] _ Ko (by kernel_rfl) (List.Sublist.refl _) ?_
   refine Ks (Js (row:=[_,_,_,_,_,_,_,_]) tb rfl rfl rfl (by repeat (first | exact zi0 | apply zi1 | apply zi2)) (by rfl) (by rfl)) rfl rfl rfl ?_
   apply (Xdo)
   refine Ygf ?_
   refine Vo rfl (J5d (⟨0,1,(i:Int),0,1000,1,500,40⟩:XSens) (w.tdiv q) _ _) rfl rfl ?_
   rintro v U J ⟨raw,ok,rfl,hraw,rfl,rfl⟩
   refine ⟨(by repeat (first | exact zs0 _ | exact zs1 _ | apply zs2 | apply zs3 | apply zs4 | apply zs5)),(by first | exact Jc _ | assumption | exact (fun r h=>Ja (by simp [h]))),?_⟩
   rw [hvt] at hraw
   have hok:ok=true:=by
     cases ok with
     | true=>rfl
     | false=>exact absurd (Uif (by omega) (by omega)) (hraw.miss rfl (Y2d (by omega)) v (by omega) (by omega))
   subst hok
   have hrr:=hraw.rng
   obtain ⟨_,hl1,hl2⟩:=hraw.hit rfl
   have hvb:=Umb (⟨0,1,(i:Int),0,1000,1,500,40⟩:XSens) raw
   refine Ks (Jz rfl) rfl rfl rfl ?_
   refine Ks (K5 rfl rfl) rfl rfl rfl ?_
   refine Ks (K5 rfl rfl) rfl rfl rfl ?_
   apply (qcg)
   refine Ks (K8 (show _=Value.bool _ from rfl)) rfl rfl rfl ?_
   refine J1 (Jb (Jq (Jg ?_)))
   refine U0g ?_
   apply (qaa)
   refine q_l rfl (Vgc (⟨0,1,(i:Int),0,1000,1,500,40⟩:XSens) raw _ _ (by omega)) ?_
   refine Jw (J8 (qs:=[(1,(Value.int _ _).cells.toList),(2,(Value.agg _).cells.toList)]) (out:=[_,_,_,_]) tb rfl rfl rfl rfl) rfl ?_
   apply (qaq)
   intro b22
   apply (Xaz)
   apply (qbm)
   refine U0g ?_
   refine Za (Ju (qs:=[(0,(Value.agg _).cells.toList)]) (out:=[_,_,_,_,_,_,_,_]) tb rfl rfl rfl rfl rfl rfl rfl) rfl ?_
   rintro v U J ⟨b128,rfl,rfl,hR128⟩
   replace hR128:=hR128.symm;subst hR128
   apply (qa8)
   refine Za (Ju (qs:=[(0,(Value.agg _).cells.toList)]) (out:=[_,_,_,_]) tb rfl rfl rfl rfl rfl rfl rfl) rfl ?_
   rintro v U J ⟨b130,rfl,rfl,hR130⟩
   replace hR130:=hR130.symm;subst hR130
   apply (qaa)
   apply (qdg)
   apply (qda)
   apply (qar)
   refine Kwa (wd:=4) (len:=1) (cap:=1) (rows:=[XMeas.cells (⟨0,3,Vn (⟨0,1,(i:Int),0,1000,1,500,40⟩:XSens) raw⟩:XMeas)]) (subs:=[]) rfl (by decide) (by decide) (fun r hr=>by rw [List.mem_singleton.1 hr];rfl) (by decide) rfl (fun s hs=>by cases hs) ?_
   refine Kwa (wd:=8) (len:=1) (cap:=1) (rows:=[XSens.cells (⟨0,1,(i:Int),0,1000,1,500,40⟩:XSens)]) (subs:=[]) rfl (by decide) (by decide) (fun r hr=>by rw [List.mem_singleton.1 hr];rfl) (by decide) rfl (fun s hs=>by cases hs) ?_
   refine Jv rfl (Yyc rr.arr ⟨some ⟨b128,0,none⟩,1,[(⟨0,1,(i:Int),0,1000,1,500,40⟩:XSens)]⟩ ⟨some ⟨b130,0,none⟩,1,[(⟨0,3,Vn (⟨0,1,(i:Int),0,1000,1,500,40⟩:XSens) raw⟩:XMeas)]⟩ (3 + wt.tmod 60) _ _ (hrR.mono fun r hr=>Ja (.tail _ (.tail _ hr))) (Ja (.head _)) (Ja (.tail _ (.head _))) (show rr.l.length≤1000 by omega) (by simp) (by simp) (fun z hz=>by rw [List.mem_singleton.1 hz];exact ⟨⟨by show (0:Int)≤3;decide,by show (3:Int)≤2147483648;decide⟩,hvb.1,hvb.2⟩) (by omega)) rfl ?_
   rintro v U J ⟨kp,kb,rfl,⟨hkk,hbk⟩,hkl,hbl,rfl,hR5⟩
   have hkw:=Uke (rd:=rr.l) (i:=i) (s:=(⟨0,1,(i:Int),0,1000,1,500,40⟩:XSens)) (m:=(⟨0,3,Vn (⟨0,1,(i:Int),0,1000,1,500,40⟩:XSens) raw⟩:XMeas)) (t:=3 + wt.tmod 60) (v:=v) (by omega) rfl rfl rfl ⟨hl1,hl2⟩ ⟨hbd.1,hbd.2.1⟩ hrx.2
   obtain ⟨hw1,hw2,hw3⟩:=hkw
   have hkl':kp.l=(Ycc (Vr rr.l) ⟨0,1000000⟩ 1 [(⟨0,1,(i:Int),0,1000,1,500,40⟩:XSens)] [(⟨0,3,Vn (⟨0,1,(i:Int),0,1000,1,500,40⟩:XSens) raw⟩:XMeas)] (3 + wt.tmod 60)).out:=hkl
   have hbl':kb.l=[]:=hbl.trans hw2
   rw [← hkl'] at hw1 hw3
   have hkg:=Jp (l:=kp.l) (k:=i) default (by omega)
   have hb0:kb.l.length=0:=by rw [hbl'];rfl
   have hnt:w.tdiv q=v:=hvt
   refine Jw (Jz rfl) rfl ?_
   apply (Xba)
   apply (Xbp)
   apply (qa4)
   refine Ke tb [0,1,2,3,4,5,6,7,8,9,10,11,12,13,14,15,16,17,18,19,20,21,22,23,24,25,26,27,28,29,30,31,32,33,34,35] _ Ko (by kernel_rfl) (List.Sublist.refl _) ?_
   apply (qb2)
   refine Ks (U5a rfl) rfl rfl rfl ?_
   apply (qb2)
   refine U1 (k:=140) (show _=Value.bool _ from rfl) (fun hg2=>?_) (fun hg2=>?_)
   ·
    replace hg2:=qb hg2
    exact absurd hg2 (by decide)
   replace hg2:=qb hg2
   refine Zgd ?_
   refine Ks (Jca tb rfl rfl rfl) rfl rfl rfl ?_
   refine Ks (U9b rfl rfl) rfl rfl rfl ?_
   apply (Xbh)
   refine U1 (k:=145) (show _=Value.bool _ from rfl) (fun hg7=>?_) (fun hg7=>?_)
   ·
    replace hg7:=qb hg7
    (exfalso;omega)
   replace hg7:=qb hg7
   refine Zgd ?_
   refine Ks (Jca tb rfl rfl rfl) rfl rfl rfl ?_
   refine Zgd ?_
   refine Ks (Jca tb rfl rfl rfl) rfl rfl rfl ?_
   refine Ks (Zyb rfl rfl) rfl rfl rfl ?_
   apply (Xbh)
   refine U1 (k:=152) (show _=Value.bool _ from rfl) (fun hg14=>?_) (fun hg14=>?_)
   ·
    replace hg14:=qb hg14
    (exfalso;omega)
   replace hg14:=qb hg14
   refine Zgd ?_
   apply (qao)
   refine Jgg ?_
   apply (qce)
   refine Zjf ?_
   apply (Xdo)
   refine Ygf ?_
   refine Ks (U9b rfl rfl) rfl rfl rfl ?_
   apply (Xbh)
   refine U1 (k:=163) (show _=Value.bool _ from rfl) (fun hg25=>?_) (fun hg25=>?_)
   ·
    replace hg25:=qb hg25
    (exfalso;omega)
   replace hg25:=qb hg25
   refine Zgd ?_
   apply (qao)
   refine Jgg ?_
   apply (qce)
   refine Zjf ?_
   apply (Xdo)
   refine Ygf ?_
   refine Ks (Y0a rfl rfl) rfl rfl rfl ?_
   apply (Xb0)
   refine q_c (fun hc5=>?_) (fun hc5=>?_)
   ·
    (exfalso;omega)
   apply (Xaw)
   exact q_k ⟨(i + 1,k3,J),by dsimp only;omega,hk3,fun r hr=>((hsub r hr).mono h34).mono fun r hr=>hR5 r (.tail _ (.tail _ hr))⟩
  apply (qbk)
  refine q_l rfl (Y9c _ _) ?_
  apply (Xbs)
  refine K2 (U:=[]) (J:=R) (Vs rfl (Ji (show _=Value.bool _ from rfl))) ?hp ?hL ?hR
  case hp=>exact ⟨rfl,rfl,rfl⟩
  case hL=>exact List.nil_sublist _
  case hR=>exact fun r hr=>(hR0 r hr).mono h13
end
end Go.Proofs.YtchfclmokpbldaaGreat
section
/-
  The statement TopGas: it returns true for all inputs, and the inputs read as they did. No conditions.
-/
namespace Go.Proofs.YtchfclmokpbldaaGreat
open Go.Aw Go
open Go.ChangeShapes Go.WideShapes Go.ChangeAt Go.RowKit
namespace topGas
theorem walk (a0:Arr Int) (a1:Int) (w:World) (w0:∀n∈a0.l,(Lit.int .u8 n).wf=true) (r0:∀s∈[bsl a0],Rep w (Old w) s) (w1:(Lit.int .u8 a1).wf=true):
    Calls Tryz.prog 13 #[a0.val,.int .u8 a1] w fun e w'=>e=.returned (.bool true)∧Below w.heap.size w w':=by
  have h:=(Zod a0 a1 [bsl a0] ⟨Ja (by simp),fun i b hb=>Jmg (w0 b (List.mem_of_getElem? hb))⟩ (Jmg w1)).2 w (Old w) (V8e fun r hr=>by
    simp only [List.mem_cons,List.not_mem_nil,or_false] at hr
    rcases hr with rfl
    · exact r0 _ (by simp))
  exact h.mono fun e w' ⟨v,U,J,he,⟨hv,_,_⟩,hst⟩=>⟨by rw [he,hv],Y9e hst⟩
set_option maxRecDepth 100000 in
theorem Jsg (os:Os) (started:os.Started) (H:Type) (enc:TypeId×Value→H):
    ReturnsInHanded {} Tryz.checked os 13 .any (Rows.topGasSpec.pre6 enc Tryz.prog Tryz.f13 Rows.topGasRow.domain false) (Rows.topGasSpec.post enc Tryz.prog Tryz.f13 false true false false):=by
  refine returnsInHanded_of_change (C := Tryz.checked) Zre started (by kernel_rfl) Tryz.func13
    (ChangeSpec.witness6 (enc:=enc) (C:=Tryz.checked) false ⟨#[],#[.slice none 0 0,.int .u8 0],[]⟩ 8 (by kernel_rfl) (by kernel_rfl) (by kernel_rfl) (by kernel_rfl)) ?_
  intro W base args ds gs before hval0 hW hcnd _
  have hval:∀(j:Nat) t v,Tryz.f13.params[j]?=some t→args[j]?=some v→Value.okWide Tryz.prog W .any base t v:=hval0
  have hW':=hW
  obtain ⟨p,q,hA0,hV,rfl,hfz,hnd⟩:=hW
  have hA:DataW.TrodAll enc Tryz.prog W 0 (fun _=>true) true Tryz.f13.params.toList args.toList ds p:=hA0
  rw [Tryz.params13] at hA hval
  obtain ⟨v0,vs0,d0,ds0,p0,q0,hargs,rfl,rfl,h0,t0⟩:=trodAll_cons hA
  obtain ⟨v1,vs1,d1,ds1,p1,q1,rfl,rfl,rfl,h1,t1⟩:=trodAll_cons t0
  obtain ⟨rfl,rfl,rfl⟩:=trodAll_nil t1
  obtain rfl:args=#[v0,v1]:=by cases args;simp_all
  obtain ⟨rfl,rfl⟩:=trodVars_none hV
  obtain ⟨x0,y0,z0,rfl⟩:=okWide_slice Tryz.underlying22 (hval 0 22 v0 rfl rfl)
  have k0:=h0
  have lt0:∀x∈p0,x.block < W.heap.size:=by obtain ⟨m,hm⟩:=k0;exact DataW.trod_lt m _ _ _ hm
  obtain ⟨a0,e0,w0,r0⟩:∃a:Arr Int,_:=Z4e W _ (by obtain ⟨m,hm⟩:=h0;exact ⟨_,_,m,_,hm⟩)
  obtain ⟨rfl,rfl,rfl⟩:x0=a0.a∧y0=a0.l.length∧z0=a0.cap:=by simpa [Value.cells,Arr.val] using e0
  obtain ⟨a1,rfl,rfl,rfl,w1⟩:=open_int Tryz.underlying5 (hval 1 5 v1 rfl rfl) h1
  clear hA0 hval0
  refine (walk a0 a1 W w0 r0 w1).mono fun e W' ⟨he,bel⟩=>?_
  subst he
  exact ⟨_,rfl,_,_,_,[],_,[],hW',trodAll_mk1 (shut_bool Tryz.underlying4 _),(trodAll_cons_mk (Below.trod V3f (by kernel_rfl) (of_decide_eq_true (by kernel_rfl)) k0 bel lt0) (trodAll_cons_mk (shut_int Tryz.underlying5 w1) trodAll_mk0)),rfl,bel.frame _,fun h=>by cases h⟩
end topGas
end Go.Proofs.YtchfclmokpbldaaGreat
end
namespace Go.Proofs.YtchfclmokpbldaaGreat
open Go.Aw Go
end Go.Proofs.YtchfclmokpbldaaGreat
