import Derived.Test.YtihompplndcdeaaLaw15e
import Derived.Test.YtihompplndcdeaaSpans
import Derived.Test.YtihompplndcdeaaNarrow
set_option linter.unusedVariables false
set_option linter.unusedSimpArgs false
section
/-
  Sensors of flows and measurements of them that are drawn. By an AI agent; no person has read it.
-/
namespace Go.Proofs.Ytihompplndcdeaa
open Go.Aw Go
set_option maxRecDepth 20000
attribute [local irreducible] CJ LJ DJ Tri YV Gives Jdn Jaw Jbk Jdo RV Jay OwL.L
end Go.Proofs.Ytihompplndcdeaa
end
section
/-
  True measurements contradict nothing, and leave the flows where they are. By an AI agent; no person has read it.
-/
namespace Go.Proofs.Ytihompplndcdeaa
open Go.Aw Go
def Jxh (fl:List Int) (l:List XSpan):Prop:=∀k:Nat,k < fl.length→(l.getD k default).low≤fl.getD k 0∧fl.getD k 0≤(l.getD k default).high
theorem ana_holds {a:XAir} {s:XSetting} {x:XState} {A:List Bool} (h0:Jat a=0) (hf:Jdl a s=true) (hA:AiryIs a.mine A) (hF:FitsF a s x):Jxh x.flows.l (Jf8 a s A).2:=fun k hk=>by
  have hn:=hF.flen
  have hk':k < a.mine.roads.l.length:=by omega
  have hg:=Jai (l:=x.flows.l) (k:=k) 0 hk
  have hq:=hF.flow _ (List.mem_of_getElem? hg)
  rcases (Jyp h0 hf hA).2 with ⟨hac,hle,e⟩ | e
  · rw [e, List.getD_eq_getElem?_getD (l := (List.range a.mine.roads.l.length).map (Jby a s (Jhv a s A) A)), List.getElem?_map, List.getElem?_range hk']
    exact hac.flows hF hA hk'
  · rw [e, List.getD_eq_getElem?_getD (l := (List.range a.mine.roads.l.length).map (Je0 a)), List.getElem?_map, List.getElem?_range hk']
    show (Je0 a k).low≤_∧_≤(Je0 a k).high
    rw [Je0]
    split
    · rename_i hc
      rw [hF.shut hk' hc];decide
    · simp only [nothingS];omega
end Go.Proofs.Ytihompplndcdeaa
end
section
/-
  Statements about chapter 15: what a change does is foreseen. By an AI agent; no person has read it.
-/
namespace Go.Proofs.Ytihompplndcdeaa
open Go.Aw Go
section
variable {A9 B9:Prop}
theorem J1t (a:A9) (h:A9→B9:=by exact Jbx (Jap (show _=Value.slice _ _ _ from rfl)) rfl rfl rfl):B9:=h a
theorem J1p (a:A9) (h:A9→B9:=by exact Jbx (by first | exact Jaf tb rfl rfl rfl rfl (by first | assumption | exact zr (by simp)) (i:=i) (by first | rfl | omega | (simp;omega)) (by omega) | exact Jah tb rfl rfl rfl rfl (i:=i) (by first | rfl | omega | (simp;omega)) (by omega)) rfl rfl rfl):B9:=h a
theorem J5p (a:A9) (h:A9→B9:=by exact Jax (by first | exact Jaf tb rfl rfl rfl rfl (by first | assumption | exact zr (by simp)) (i:=i) (by first | rfl | omega | (simp;omega)) (by omega) | exact Jah tb rfl rfl rfl rfl (i:=i) (by first | rfl | omega | (simp;omega)) (by omega)) rfl):B9:=h a
theorem J4m (a:A9) (h:A9→B9:=by exact Jbx (by first | exact Jaf tb rfl rfl rfl rfl (by first | assumption | exact zr (by simp)) (i:=w.road.toNat) (by first | rfl | omega | (simp;omega)) (by omega) | exact Jah tb rfl rfl rfl rfl (i:=w.road.toNat) (by first | rfl | omega | (simp;omega)) (by omega)) rfl rfl rfl):B9:=h a
end
theorem Jx5 {fl gl:List XSpan} {i:Nat} {q:Int} (hn:Jso fl gl i=false) (hg:(gl.getD i default).low≤q∧q≤(gl.getD i default).high):(Jl8 (fl.getD i default)=1→0 < q)∧(Jl8 (fl.getD i default)= -1→q < 0):=by
  have h:Jl8 (fl.getD i default)≠0→Jl8 (gl.getD i default)=Jl8 (fl.getD i default):=fun h0=>by
    rw [← Bool.not_eq_true,Jmc] at hn
    rcases Classical.em (Jl8 (gl.getD i default)=Jl8 (fl.getD i default)) with h1 | h1
    · exact h1
    · exact absurd ⟨h0,h1⟩ hn
  constructor
  · intro h1
    have h2:=h (by omega)
    rw [h1,Jl8] at h2
    split at h2
    · cases h2
    split at h2
    · omega
    split at h2 <;> cases h2
  · intro h1
    have h2:=h (by omega)
    rw [h1,Jl8] at h2
    split at h2
    · cases h2
    split at h2
    · cases h2
    split at h2
    · omega
    · cases h2
theorem Jzj {fl gl:List XSpan} {fc:List XFace} {i:Nat} {Q:List Int} (hi:i < fc.length) (hn:Jsf fl gl fc i=false) (hg:∀j:Nat,j < Q.length→(gl.getD j default).low≤Q.getD j 0∧Q.getD j 0≤(gl.getD j default).high) (hl:gl.length=Q.length) (h1:(Jww fl fc).getD i 0=1) (hr:0≤(fc.getD i default).road∧(fc.getD i default).road < Q.length):
    (fc.getD i default).need≤max (Q.getD (fc.getD i default).road.toNat 0) (-(Q.getD (fc.getD i default).road.toNat 0)):=by
  rw [← Bool.not_eq_true,Jmg] at hn
  have h2:(Jww gl fc).getD i 0=1:=by
    rcases Classical.em ((Jww gl fc).getD i 0=1) with h | h
    · exact h
    · exact absurd ⟨h1,h⟩ hn
  rw [Jww,List.getD_eq_getElem?_getD,List.getElem?_map,List.getElem?_range hi] at h2
  have h3:Jgi gl (fc.getD i default)=1:=h2
  have h:=hg (fc.getD i default).road.toNat (by omega)
  rw [Jgi,if_pos (by omega),Js6] at h3
  generalize gl.getD (fc.getD i default).road.toNat default=y at h h3
  generalize Q.getD (fc.getD i default).road.toNat 0=q at h ⊢
  split at h3
  · cases h3
  split at h3
  · omega
  split at h3 <;> cases h3
theorem Ju4 {P:Nat→Bool} {k i:Nat} (hi:i < k) (h:(i:Int) ∉ Jjg P k):P i=false:=by
  rw [← Bool.not_eq_true]
  exact fun h2=>h (Jes.2 ⟨i,rfl,hi,h2⟩)
set_option maxRecDepth 20000
attribute [local irreducible] CJ LJ DJ Tri YV Gives Jdn Jaw Jbk Jdo RV Jay OwL.L
theorem Jks (y:Arr Int) (R:List Sl) (hy:CodesR y R):
    Tri Try.prog 3 [y.val].toArray [] R (fun v L' R'=>v=.bool true∧[]=L'∧R=R'):=by
  refine Jae 160 Try.call3 Try.func3 rfl rfl rfl ?_
  refine Xbh ?_
  refine qam ?_
  refine qbm ?_
  refine Jaq rfl (Jt1 y _ _ hy) rfl ?_
  rintro v L' R' ⟨c,rfl,hx,rfl,rfl⟩
  refine qc1 ?_
  refine qam ?_
  refine qa6 ?_
  refine Jaq rfl (J34 (.consL .nil) hx (Nat.zero_le _)) rfl ?_
  rintro v L' R' ⟨m,k1,S,rfl,hm,hMA,hif,hid,hk1,rfl,rfl⟩
  simp only [List.append_assoc,List.cons_append,List.nil_append]
  refine Jax (Jap rfl) rfl ?_
  iterate 3 refine qbs ?_
  refine qaq ?_
  intro b4
  refine qaq ?_
  intro b5
  refine qaq ?_
  intro b6
  iterate 3 refine qak ?_
  refine qa4 ?_
  refine Jt5 (A:=[]) hm hMA (fun f hf=>(hif f hf).mono fun r hr=>Jab (by simp [hr])) (fun f hf=>(hid f hf).mono fun r hr=>Jab (by simp [hr])) fun a s x R1 hMA hA hT hX hR1=>?_
  refine qb1 ?_
  obtain ⟨_,hae,hF,hri,hfo⟩:=hMA.b
  have hx1:CodesR (Jd6 y) R1:=hx.mono fun r hr=>hR1 r (by simp [hr])
  have hR0:∀r∈R,InR r R1:=fun r hr=>hR1 r (by simp [hr])
  have hnp:=hMA.nplaces
  have hnr:=hMA.nroads
  have hnf:=hMA.nfans
  have hnd:=hMA.ndoors
  have hfn:=hF.flen
  obtain ⟨A,hAA⟩:=Juh a.mine
  obtain ⟨K,hK⟩:=Jhp a.mine
  refine Ja5 tb [0,1,3,4,2,5,6,7,8] ([Blk.mk b4 _ _]) Jbh (by kernel_rfl) (by repeat (first | exact zs0 _ | exact zs1 _ | apply zs2 | apply zs3 | apply zs4 | apply zs5)) ?_
  refine qb8 ?_
  refine qbc ?_
  refine qb8 ?_
  refine qbc ?_
  refine Jdx rfl (Jqx (a:=a) (.consB (.consB (.consB (.consL .nil)))) hx1 hk1 hA.doors (by omega) (by omega) hae.rests) rfl rfl ?_
  rintro v L' R' ⟨tf,td,k3,rfl,⟨ht1,ht2⟩,hAS,hk3,rfl,rfl⟩
  simp only [List.append_assoc,List.cons_append,List.nil_append]
  refine qas ?_
  refine Jdx rfl (Tri.spl (.consB (.consB (.consB (.consL .rest)))) (Jhk c (Jd6 y) k3 a _ hx1 hk3 (by omega))) rfl rfl ?_
  rintro v L' R' ⟨_,rfl,f,k4,rfl,hfk,hfd,hk4,rfl,rfl⟩
  simp only [List.append_assoc,List.cons_append,List.nil_append]
  refine qas ?_
  refine qbr ?_
  intro b7
  refine qbg ?_
  refine Jbx (Jcy (show _=Value.slice _ _ _ from rfl)) rfl rfl rfl ?_
  refine Jb8 (Jaa (Jan (Jan ?_)))
  refine Jbn (A:=[_,_,_,_]) (wd:=1) [] (fun _=>rfl) (by decide) ht1 (fun s hs=>by cases hs) ?_
  refine qb1 ?_
  refine Jbn (A:=[_,_,_,_]) (wd:=1) [] (fun _=>rfl) (by decide) ht2 (fun s hs=>by cases hs) ?_
  refine qb1 ?_
  refine Jbn (A:=[_,_,_,_]) (wd:=2) [] (fun _=>rfl) (by decide) hfk (fun s hs=>by cases hs) ?_
  refine qb1 ?_
  obtain ⟨R3,hR3e⟩:∃R3,R3=Jty f.arr :: isl td.arr :: isl tf.arr :: R1:=⟨_,rfl⟩
  have hR3:∀r∈R1,InR r R3:=fun r hr=>Jab (by simp [hR3e,hr])
  have hU:SetR ⟨tf.arr,td.arr⟩ R3:=⟨Jab (by simp [hR3e]),Jab (by simp [hR3e])⟩
  have hfR:InR (Jty f.arr) R3:=Jab (by simp [hR3e])
  have hfo2:Jhn f.arr.l:=fun y hy=>by have:=(hfd.at_ y hy).2;omega
  have hfl:f.arr.l.length≤1000:=by have:=hfd.len;show f.l.length≤1000;omega
  have hA3:=Jcd hA hR3
  have hT3:=Jbu hT hR3
  have hX3:StateR x R3:=⟨hX.pres.mono hR3,hX.flows.mono hR3⟩
  have hRR3:∀r∈R,InR r R3:=fun r hr=>(hR0 r hr).mono hR3
  have hfit:=hAS.fit
  refine Jz1 (show _=R3 by rw [hR3e]) ?_
  refine qay ?_
  refine Xaz ?_
  refine qbe ?_
  refine q_l rfl (Jqy a s x _ _ hA3 hT3 hX3) ?_
  refine Xa3 ?_
  refine q_c (fun hc0=>?_) (fun hc0=>?_)
  ·
   exact absurd hMA.fits hc0
  refine qbv ?_
  refine Xaz ?_
  refine Xaz ?_
  refine qbm ?_
  refine Jaq rfl (Jhe a a ⟨tf.arr,td.arr⟩ s f.arr A A _ _ _ _ hA3 hU hA3 hT3 hfR hfo2 hfl (fun _=>hAA) (fun _=>hAA) (hK _) (hK _)) rfl ?_
  rintro v L' R' ⟨v,rfl,hvk,hvg,rfl,rfl⟩
  have hz:Juo a ⟨tf.arr,td.arr⟩=0:=Jem.2 ⟨hMA.err,hfit⟩
  have hz2:Juo a s=0:=Jem.2 ⟨hMA.err,hMA.fit⟩
  have hce:Js2 a ⟨tf.arr,td.arr⟩ a s=0:=Jh7.2 ⟨hz,hz2,Nat.le_refl _,Nat.le_refl _⟩
  rw [Jz0,if_pos hce] at hvg
  have hvt:v.t.l=Jjg (Jso (Jf8 a ⟨tf.arr,td.arr⟩ A).2 (Jf8 a s A).2) a.mine.roads.l.length:=congrArg XVerd.turned hvg
  have hvs:v.s.l=Jjg (Jsf (Jf8 a ⟨tf.arr,td.arr⟩ A).2 (Jf8 a s A).2 f.l) f.l.length:=congrArg XVerd.starved hvg
  rw [hce]
  refine Jax (Jap rfl) rfl ?_
  refine Xa6 ?_
  refine qaq ?_
  intro b9
  refine qak ?_
  refine Xai ?_
  refine Xaz ?_
  refine Jaq rfl (Jgv a ⟨tf.arr,td.arr⟩ A _ _ hA3 hU (fun _=>hAA)) rfl ?_
  rintro v L' R' ⟨l,rfl,hlk,hll,rfl,rfl⟩
  have han:=(Jyp hMA.err hfit hAA).1
  have hln:l.l.length=x.flows.l.length:=by rw [hll,hfn];exact Jlh hMA.err hfit hAA
  have hgn:(Jf8 a s A).2.length=x.flows.l.length:=by rw [hfn];exact Jlh hMA.err hMA.fit hAA
  have hgh:Jxh x.flows.l (Jf8 a s A).2:=ana_holds hMA.err hMA.fit hAA hF
  rw [← hll] at hvt hvs
  rw [han]
  refine Jax (Jap rfl) rfl ?_
  refine Xbw ?_
  refine Xcm ?_
  refine Xb5 ?_
  apply Jbi (G:=[_,_]) (j:=2) (cj:=54) rfl rfl (by rfl) rfl (show _=Value.bool _ from rfl) rfl
  ·
   intro hg3
   replace hg3:=qb hg3
   refine qaa ?_
   refine qbq ?_
   exact qai
  intro junk3
  refine qah ?_
  apply Jbi (G:=[_,_,_,_,_,_]) (j:=6) (cj:=58) rfl rfl (by rfl) rfl (show _=Value.bool _ from rfl) rfl
  ·
   intro hg7
   replace hg7:=qb hg7
   refine Xat ?_
   refine Xab ?_
   refine qbq ?_
   exact qai
  intro junk7
  refine qaf ?_
  refine q_c (fun hc1=>?_) (fun hc1=>?_)
  ·
   (exfalso;simp at hc1;omega)
  refine Ja4 (Jaa (Jan (Jan ?_)))
  refine Jbn (A:=[]) (wd:=2) [] (fun _=>rfl) (by decide) hlk (fun s hs=>by cases hs) ?_
  refine Jlf (by simp only [List.nil_append];rfl) ?_
  refine Jbn (A:=[_]) (wd:=1) [] (fun _=>rfl) (by decide) hvk.l (fun s hs=>by cases hs) ?_
  refine qb1 ?_
  refine Jbn (A:=[_]) (wd:=1) [] (fun _=>rfl) (by decide) hvk.c (fun s hs=>by cases hs) ?_
  refine qb1 ?_
  refine Jbn (A:=[_]) (wd:=1) [] (fun _=>rfl) (by decide) hvk.s (fun s hs=>by cases hs) ?_
  refine qb1 ?_
  refine Jbn (A:=[_]) (wd:=1) [] (fun _=>rfl) (by decide) hvk.t (fun s hs=>by cases hs) ?_
  refine qb1 ?_
  obtain ⟨R4,hR4e⟩:∃R4,R4=isl v.t.arr :: isl v.s.arr :: isl v.c.arr :: isl v.l.arr :: Jrc l.arr :: R3:=⟨_,rfl⟩
  have hR4:∀r∈R3,InR r R4:=fun r hr=>Jab (by simp [hR4e,hr])
  have hlR:InR (Jrc l.arr) R4:=Jab (by simp [hR4e])
  have hvtR:InR (isl v.t.arr) R4:=Jab (by simp [hR4e])
  have hvsR:InR (isl v.s.arr) R4:=Jab (by simp [hR4e])
  have hfR4:=hfR.mono hR4
  have hxf:=hX3.flows.mono hR4
  refine Jz1 (show _=R4 by rw [hR4e]) ?_
  refine qay ?_
  refine Xbm ?_
  refine Jag [(6,Value.pointer _),(8,Value.slice _ _ _),(9,Value.pointer _),(11,Value.slice _ _ _),(67,Value.slice _ _ _),(68,Value.int _ _),(69,Value.int _ _)] (by repeat' (first | exact trivial | refine And.intro rfl ?_)) fun tq0=>?_
  refine q_s [2,13,14,15,69,70,71,72,73,74,75,76,77,78,79,80,81,82,83,84,85,86,87,88,89,90,91,92,93,94,95,96,97,98,99,100] (fun g:{i:Nat // i≤x.flows.l.length}=>[(69,.int .i64 ((g.1:Nat):Int))]) (fun g=>x.flows.l.length - g.1) (⟨0,by omega⟩) ?_
  rintro ⟨i,hi⟩ junk
  try dsimp only
  refine Xar ?_
  refine q_c (fun hc2=>?_) (fun hc2=>?_)
  ·
   have hfg:=Jai (l:=x.flows.l) (k:=i) 0 (by omega)
   have hlg:=Jai (l:=l.l) (k:=i) default (by omega)
   have hgi:=hgh i (by omega)
   refine Xa8 ?_
   refine J5p ?_
   refine qa7 ?_
   refine qad ?_
   refine Xai ?_
   refine Xal ?_
   refine J5p ?_
   refine qdl ?_
   refine q_l rfl (Jl7 _ _ _) ?_
   refine Xai ?_
   refine Xah ?_
   refine q_l rfl (Jrj v.t.arr (i:Int) _ _ hvtR) ?_
   refine qb4 ?_
   refine qah ?_
   apply Jb3 (G:=[_,_,_,_,_,_,_,_,_,_,_,_,_,_]) (j:=5) (cj:=84) rfl rfl (by rfl) rfl (show _=Value.bool _ from rfl) rfl
   ·
    intro hg6
    replace hg6:=qb hg6
    refine qaa ?_
    refine Xcr ?_
    apply Jb3 (G:=[_,_]) (j:=8) (cj:=87) rfl rfl (by rfl) rfl (show _=Value.bool _ from rfl) rfl
    ·
     intro hg9
     replace hg9:=qb hg9
     refine qaa ?_
     refine qbx ?_
     exact qai
    intro junk9
    refine qah ?_
    apply Jbi (G:=[_,_,_,_,_,_]) (j:=12) (cj:=91) rfl rfl (by rfl) rfl (show _=Value.bool _ from rfl) rfl
    ·
     intro hg13
     replace hg13:=qb hg13
     refine qaa ?_
     refine Xcr ?_
     apply Jb3 (G:=[_,_]) (j:=15) (cj:=94) rfl rfl (by rfl) rfl (show _=Value.bool _ from rfl) rfl
     ·
      intro hg16
      replace hg16:=qb hg16
      refine qaa ?_
      refine qbz ?_
      exact qai
     intro junk16
     exact qai
    intro junk13
    exact qai
   intro junk6
   refine qaf ?_
   refine q_c (fun hc3=>?_) (fun hc3=>?_)
   ·
    (exfalso;have hT3:=Jx5 (fl:=l.l) (gl:=(Jf8 a s A).2) (i:=i) (q:=x.flows.l.getD i 0) (Ju4 (k:=a.mine.roads.l.length) (by omega) (by rw [← hvt];exact hc3.1)) hgi;rcases hc3.2 with ⟨e1,e2⟩ | ⟨e1,e2⟩;(have:=hT3.1 e1;omega);(have:=hT3.2 e1;omega))
   refine Xay ?_
   exact q_k (⟨i + 1,by omega⟩)
  refine qcf ?_
  refine qbm ?_
  refine qbm ?_
  refine Jaq rfl (Jta l.arr f.arr _ _ hlR hfR4 hfo2 hfl (show l.l.length≤1000 by omega)) rfl ?_
  rintro v L' R' ⟨p,rfl,hpk,hpl,rfl,rfl⟩
  have hpn:p.l.length=f.l.length:=by rw [hpl];simp [Jww]
  have hfl5:f.l.length≤3:=hfd.len
  refine qag ?_
  refine Xas ?_
  refine Jag [(6,Value.pointer _),(8,Value.slice _ _ _),(9,Value.pointer _),(103,Value.slice _ _ _),(104,Value.int _ _),(105,Value.int _ _)] (by repeat' (first | exact trivial | refine And.intro rfl ?_)) fun tq1=>?_
  refine q_s [2,16,17,105,106,107,108,109,110,111,112,113,114,115,116,117,118,119,120,121,122,123,124,125,126,127,128,129,130,131,132,133,134,135,136,137,138,139,140,141,142,143,144,145,146,147,148,149,150,151,152,153,154,155,156,157,158] (fun g:{i:Nat // i≤p.l.length}=>[(105,.int .i64 ((g.1:Nat):Int))]) (fun g=>p.l.length - g.1) (⟨0,by omega⟩) ?_
  rintro ⟨i,hi⟩ junk
  try dsimp only
  refine Xar ?_
  refine q_c (fun hc4=>?_) (fun hc4=>?_)
  ·
   have hpg:=Jai (l:=p.l) (k:=i) 0 (by omega)
   have hfg2:=Jai (l:=f.l) (k:=i) default (by omega)
   have hfa:=hfd.at_ _ (List.mem_of_getElem? hfg2)
   obtain ⟨w,hw⟩:∃w,w=f.l.getD i default:=⟨_,rfl⟩
   have hkeep:=Jzj (fl:=l.l) (gl:=(Jf8 a s A).2) (fc:=f.l) (i:=i) (Q:=x.flows.l) (by omega)
   rw [← hw] at hfg2 hfa hkeep
   refine Xa8 ?_
   refine Jax (Jao tb (p) _ rfl rfl rfl rfl (by assumption) (i:=i) (by first | rfl | omega | (simp;omega)) (by first | omega | (dsimp only;omega) | (dsimp only;rw [List.length_set];omega) | (dsimp only;simp only [List.length_set];omega))) rfl ?_
   refine Jax (Jbe tb (p) rfl rfl rfl (by repeat (first | apply OSeg.cons | exact OSeg.here | exact OSeg.last | exact OSeg.at (by assumption) | apply OSeg.app)) (by assumption) (fun _=>rfl) (by assumption) (by rfl)) rfl ?_
   refine qad ?_
   refine Xb3 ?_
   refine Ja5 tb [0,1,2,3,4,5,6,7,8,9,10,11,12,13,14,15,16,17,18,19,20,21,22,23,24,25,26,27,28,29,30,31,32,33,34,35,36,37,38,39,40,41,42,43,44,45,46,47] ([Blk.mk b9 _ _,Blk.mk b6 _ _]) Jbh (by kernel_rfl) (by repeat (first | exact zs0 _ | exact zs1 _ | apply zs2 | apply zs3 | apply zs4 | apply zs5)) ?_
   refine qao ?_
   refine Jbx (Jm8 rfl rfl) rfl rfl rfl ?_
   refine qb2 ?_
   refine Jep (k:=112) (show _=Value.bool _ from rfl) (fun hg2=>?_) (fun hg2=>?_)
   ·
    replace hg2:=qb hg2
    refine J1t ?_
    refine qao ?_
    refine J1p ?_
    refine Xb9 ?_
    refine Xad ?_
    refine Jbx (Jew tb rfl rfl rfl) rfl rfl rfl ?_
    refine Jbx (Jna rfl rfl) rfl rfl rfl ?_
    refine qbp ?_
    refine qb2 ?_
    refine Jep (k:=123) (show _=Value.bool _ from rfl) (fun hg13=>?_) (fun hg13=>?_)
    ·
     replace hg13:=qb hg13
     refine Xa0 ?_
     refine q_d rfl (Jrj v.s.arr (i:Int) _ _ hvsR) ?_
     refine Jbx (Jpy rfl) rfl rfl rfl ?_
     refine qbp ?_
     refine qb2 ?_
     refine Jep (k:=130) (show _=Value.bool _ from rfl) (fun hg20=>?_) (fun hg20=>?_)
     ·
      replace hg20:=qb hg20
      have hqg:=Jai (l:=x.flows.l) (k:=w.road.toNat) 0 (by omega)
      have hqb:=hF.flow _ (List.mem_of_getElem? hqg)
      refine Xad ?_
      refine J1t ?_
      refine qao ?_
      refine J1p ?_
      refine Xb9 ?_
      refine J4m ?_
      refine qbl ?_
      refine Xad ?_
      refine J1t ?_
      refine qao ?_
      refine J1p ?_
      refine Xb9 ?_
      refine J4m ?_
      refine qbl ?_
      refine Jbx (Jkq rfl (by omega) (by omega)) rfl rfl rfl ?_
      refine Jbx (Jk3 rfl rfl) rfl rfl rfl ?_
      refine J1t ?_
      refine qao ?_
      refine J1p ?_
      refine Xb9 ?_
      refine Jbx (Jna rfl rfl) rfl rfl rfl ?_
      refine Xbi ?_
      refine q_c (fun hc5=>?_) (fun hc5=>?_)
      ·
       (exfalso;have h9:=hkeep (Ju4 (k:=f.l.length) (by omega) (by rw [← hvs];exact hg20)) hgh hgn (by rw [← hg2,hpl]) (by omega);omega)
      refine Xay ?_
      exact q_k (⟨i + 1,by omega⟩)
     replace hg20:=qb hg20
     iterate 26 refine qap ?_
     refine Xbi ?_
     refine Jb0 rfl ?_
     refine Xay ?_
     exact q_k (⟨i + 1,by omega⟩)
    replace hg13:=qb hg13
    iterate 5 refine qap ?_
    refine qbp ?_
    refine qb2 ?_
    iterate 26 refine qap ?_
    refine Xbi ?_
    refine Jb0 rfl ?_
    refine Xay ?_
    exact q_k (⟨i + 1,by omega⟩)
   replace hg2:=qb hg2
   iterate 9 refine qap ?_
   refine qbp ?_
   refine qb2 ?_
   iterate 5 refine qap ?_
   refine qbp ?_
   refine qb2 ?_
   iterate 26 refine qap ?_
   refine Xbi ?_
   refine Jb0 rfl ?_
   refine Xay ?_
   exact q_k (⟨i + 1,by omega⟩)
  refine qbk ?_
  refine q_l rfl (Jfv _ _) ?_
  refine Xa9 ?_
  refine Jbj (L':=[]) (R':=R) (Jd4 rfl (Jal (show _=Value.bool _ from rfl))) ?hp ?hL ?hR
  case hp=>exact ⟨rfl,rfl,rfl⟩
  case hL=>exact List.nil_sublist _
  case hR=>exact fun r hr=>(hRR3 r hr).mono hR4
end Go.Proofs.Ytihompplndcdeaa
end
