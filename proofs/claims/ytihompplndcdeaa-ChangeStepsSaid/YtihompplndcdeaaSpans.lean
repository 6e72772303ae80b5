import Derived.Test.YtihompplndcdeaaCflowS
import Derived.Test.YtihompplndcdeaaSolveR
import Derived.Test.YtihompplndcdeaaCflowR
set_option linter.unusedVariables false
set_option linter.unusedSimpArgs false
section
/-
  certify.Flows. By an AI agent; no person has read it.
-/
namespace Go.Proofs.Ytihompplndcdeaa
open Go.Aw Go
set_option maxRecDepth 20000
attribute [local irreducible] CJ LJ DJ Tri YV Gives Jdn Jaw Jbk Jdo RV Jay OwL.L
section
variable {A9 B9:Prop}
theorem J4l (a:A9) (h:A9→B9:=by exact Jb1 (Jba (row:=[_,_,_,_,_,_,_,_,_,_,_,_]) tb rfl rfl rfl (by repeat (first | exact zi0 | apply zi1 | apply zi2)) (by rfl) (by rfl)) rfl rfl rfl rfl):B9:=h a
theorem J4x (a:A9) (h:A9→B9:=by exact Jb1 (by first | exact Jaf tb rfl rfl rfl rfl (by first | assumption | exact zr (by simp)) (i:=P.road.fr.toNat) (by first | rfl | omega | (simp;omega)) (by omega) | exact Jah tb rfl rfl rfl rfl (i:=P.road.fr.toNat) (by first | rfl | omega | (simp;omega)) (by omega)) rfl rfl rfl rfl):B9:=h a
theorem J5a (a:A9) (h:A9→B9:=by exact Jb1 (by first | exact Jaf tb rfl rfl rfl rfl (by first | assumption | exact zr (by simp)) (i:=P.road.to.toNat) (by first | rfl | omega | (simp;omega)) (by omega) | exact Jah tb rfl rfl rfl rfl (i:=P.road.to.toNat) (by first | rfl | omega | (simp;omega)) (by omega)) rfl rfl rfl rfl):B9:=h a
end
theorem Jyn (a:XAir) (s:XSetting) (b:XBounds) (A:List Bool) (L:List Blk) (R:List Sl) (hm:AirR a R) (hs:SetR s R) (hb:BoundsR b R) (hA:Jat a=0→AiryIs a.mine A):
    Tri Try.prog 36 [a.val,s.val,b.val].toArray L R (fun v L' R'=>∃(p:OwL XSpan) (S:List Sl),v=p.val∧p.ok 2 XSpan.cells∧p.l=Jce a s b A∧p.L 54 XSpan.cells ++ L=L'∧S ++ R=R'):=by
  have hmr:=hm.roads
  have hbl:=hb.low
  have hbh:=hb.high
  refine Jae 85 Try.call36 Try.func36 rfl rfl rfl ?_
  refine Xaj ?_
  intro b3
  refine qax ?_
  intro b4
  refine qax ?_
  intro b5
  refine Xbo ?_
  refine Xaz ?_
  refine qbe ?_
  refine Jaq rfl (J0y a s b A _ _ hm hs hb hA) rfl ?_
  rintro v L' R' ⟨S1,rfl,rfl,rfl⟩
  have hm1:AirR a (S1 ++ R):=⟨hm.places.mono fun r h=>Jab (by simp [h]),hm.roads.mono fun r h=>Jab (by simp [h]),hm.fans.mono fun r h=>Jab (by simp [h]),hm.doors.mono fun r h=>Jab (by simp [h])⟩
  have hmr1:=hm1.roads
  refine Xa3 ?_
  refine q_c (fun hc0=>?_) (fun hc0=>?_)
  ·
   refine Xbf ?_
   refine qbh ?_
   refine q_r (L':=L) (R':=S1 ++ R) (Jd4 rfl (Jal (show _=Value.slice _ _ _ from rfl))) ?_
   exact ⟨OwL.nil,S1,rfl,OwL.nil_ok,by rw [Jce,if_neg hc0],by rw [Jc7,List.nil_append],rfl⟩
  have hck:Jd1 a s b A=0:=by omega
  have hC:=Jrg hck
  have hok:=Jey hC.h0
  have hfo:=Jf3 hC.hf
  have hAA:=hA hC.h0
  have hnr:=hok.mine.roads
  have hln:=hC.hl
  have hhn:=hC.hh
  refine qbv ?_
  refine Xa7 ?_
  refine qc7 ?_
  rintro v L' R' ⟨b20,rfl,rfl,hR20⟩
  replace hR20:=hR20.symm;subst hR20
  refine qc4 ?_
  refine qa4 ?_
  refine Jlf (Jgh (f:=XSpan.cells) (x:=⟨0,0⟩) rfl _) ?_
  refine qay ?_
  refine Xb4 ?_
  refine Jaq rfl (Jme a.mine _ _ hm1.mineR hok.mine (Jg4 hC.h0)) rfl ?_
  rintro v L' R' ⟨p,A2,S2,rfl,hpk,hA2,hpl,rfl,rfl⟩
  obtain rfl:A=A2:=hAA.unique hA2
  have hplen:p.l.length=a.mine.places.l.length:=by rw [hpl,List.length_map];exact hAA.length
  have hm2:AirR a (S2 ++ (S1 ++ R)):=⟨hm1.places.mono fun r h=>Jab (by simp only [List.mem_append];exact .inr (List.mem_append.1 h)),hm1.roads.mono fun r h=>Jab (by simp only [List.mem_append];exact .inr (List.mem_append.1 h)),hm1.fans.mono fun r h=>Jab (by simp only [List.mem_append];exact .inr (List.mem_append.1 h)),hm1.doors.mono fun r h=>Jab (by simp only [List.mem_append];exact .inr (List.mem_append.1 h))⟩
  have hs2:SetR s (S2 ++ (S1 ++ R)):=⟨hs.fans.mono fun r h=>Jab (by simp [h]),hs.doors.mono fun r h=>Jab (by simp [h])⟩
  refine Xbo ?_
  refine Xaz ?_
  refine Jaq rfl (Jqv a s _ _ hm2 hs2 hok hfo) rfl ?_
  rintro v L' R' ⟨n,rfl,hn,rfl,rfl⟩
  have hpp:InR (Jiy n.pipes) (Jiy n.pipes :: Jh1 n.at_ :: (S2 ++ (S1 ++ R))):=Jab (.head _)
  have hbl3:InR (isl b.low) (Jiy n.pipes :: Jh1 n.at_ :: (S2 ++ (S1 ++ R))):=hbl.mono fun r h=>Jab (by simp [h])
  have hbh3:InR (isl b.high) (Jiy n.pipes :: Jh1 n.at_ :: (S2 ++ (S1 ++ R))):=hbh.mono fun r h=>Jab (by simp [h])
  have hnl:=hn.length
  refine Jax (Jkz (e:=121) tb rfl (by kernel_rfl) rfl rfl rfl rfl rfl) rfl ?_
  refine qag ?_
  refine Xas ?_
  refine Jag [(5,Value.pointer _),(7,Value.slice _ _ _),(8,Value.slice _ _ _),(27,Value.slice _ _ _),(28,Value.int _ _),(29,Value.int _ _)] (by repeat' (first | exact trivial | refine And.intro rfl ?_)) fun tq0=>?_
  refine q_p [10,29,30,31,32,33,34,35,36,37,38,39,40,41,42,43,44,45,46,47,48,49,50,51,52,53,54,55,56,57,58,59,60,61,62,63,64,65,66,67,68,69,70,71,72,73,74,75,76,77,78,79,80,81,82,83] ((⟨fun q=>[(29,.int .i64 ((q.1.1:Nat):Int))],fun q=>p.L 4 blc ++ ((⟨.own b20 a.mine.roads.l.length [],q.1.2⟩:OwL XSpan).L 54 XSpan.cells ++ (⟨b5,b.cells,88⟩ :: ⟨b4,s.cells,35⟩ :: ⟨b3,a.cells,32⟩ :: L)),fun _=>Jiy n.pipes :: Jh1 n.at_ :: (S2 ++ (S1 ++ R)),fun q=>n.pipes.l.length - q.1.1⟩:Head {q:Nat×List XSpan // q.1≤n.pipes.l.length∧FlowTo a s b A n q.1 q.2})) (⟨(0,List.replicate a.mine.roads.l.length ⟨0,0⟩),by dsimp only;omega,FlowTo.zero a s b A n⟩) ?_
  rintro ⟨⟨k,l⟩,w1,w2⟩ junk
  try dsimp only
  dsimp only at w1 w2
  have hll:=w2.len
  have hkq:(⟨.own b20 a.mine.roads.l.length [],l⟩:OwL XSpan).ok 2 XSpan.cells:=by have:=Jfa (f:=XSpan.cells) (wd:=2) (b:=b20) (n:=a.mine.roads.l.length) (x:=⟨0,0⟩) (fun _=>rfl) (by simp only [maxLen];omega);exact OwL.len_ok (fun _=>rfl) this (by simp;exact hll)
  refine Xar ?_
  refine q_c (fun hc1=>?_) (fun hc1=>?_)
  ·
   obtain ⟨P,hP⟩:=Jar (l:=n.pipes.l) (k:=k) (by omega)
   have hPI:=InR.pipe hpp hP
   obtain ⟨hPn,hPo⟩:=hn.open (List.mem_of_getElem? hP)
   have hPs:=hn.pipe P (List.mem_of_getElem? hP)
   have hPk:=Jr2 hok hPn hPs
   have hdr:Jjn P=Ja8 a s ((P.num.toNat:Nat):Int):=funext fun q=>by rw [Ju9 hPs q,Int.toNat_of_nonneg hPn.1]
   have hro:=hok.mine.road P.num.toNat _ (Jai default (by omega))
   have hr1:=hro.fr
   have hr2:=hro.to
   have hef:P.road.fr=(a.mine.roads.l.getD P.num.toNat default).fr:=by rw [hPs.road]
   have het:P.road.to=(a.mine.roads.l.getD P.num.toNat default).to:=by rw [hPs.road]
   have hAl:=hAA.length
   have hpg:p.l[P.road.fr.toNat]?=some (!(A.getD P.road.fr.toNat false)):=by rw [hpl,List.getElem?_map,Jai (l:=A) (k:=P.road.fr.toNat) false (by omega)];rfl
   have g1:=Jai (l:=b.low.l) (k:=P.road.fr.toNat) 0 (by omega)
   have g2:=Jai (l:=b.low.l) (k:=P.road.to.toNat) 0 (by omega)
   have g3:=Jai (l:=b.high.l) (k:=P.road.fr.toNat) 0 (by omega)
   have g4:=Jai (l:=b.high.l) (k:=P.road.to.toNat) 0 (by omega)
   have e1:=hC.pl.get P.road.fr.toNat
   have e2:=hC.pl.get P.road.to.toNat
   have e3:=hC.ph.get P.road.fr.toNat
   have e4:=hC.ph.get P.road.to.toNat
   have hlg:=Jai (l:=l) (k:=P.num.toNat) default (by omega)
   refine qbb ?_
   refine Jax (by first | exact Jaf tb rfl rfl rfl rfl (by first | assumption | exact zr (by simp)) (i:=k) (by first | rfl | omega | (simp;omega)) (by omega) | exact Jah tb rfl rfl rfl rfl (i:=k) (by first | rfl | omega | (simp;omega)) (by omega)) rfl ?_
   refine qdx ?_
   refine qaq ?_
   intro b10
   refine Xbk ?_
   refine qbm ?_
   refine qab ?_
   refine Xaa ?_
   refine Jax (Jao tb (p) _ rfl rfl rfl rfl (by assumption) (i:=P.road.fr.toNat) (by first | rfl | omega | (simp;omega)) (by first | omega | (dsimp only;omega) | (dsimp only;rw [List.length_set];omega) | (dsimp only;simp only [List.length_set];omega))) rfl ?_
   refine Jax (Jbe tb (p) rfl rfl rfl (by repeat (first | apply OSeg.cons | exact OSeg.here | exact OSeg.last | exact OSeg.at (by assumption) | apply OSeg.app)) (by assumption) (fun _=>rfl) (by assumption) (by rfl)) rfl ?_
   refine qaf ?_
   refine q_c (fun hc2=>?_) (fun hc2=>?_)
   ·
    have hrf:nothingS=Jby a s b A P.num.toNat:=by rw [Jby,if_neg (by rw [hPo];decide),← hef,if_neg (by simpa using hc2)]
    refine qae ?_
    refine Xch ?_
    refine qcd ?_
    refine Jax (Jao tb ((⟨.own b20 a.mine.roads.l.length [],l⟩:OwL XSpan)) _ rfl rfl ((show _=Value.slice _ _ _ from rfl).trans (Jei hll)) rfl (by assumption) (i:=P.num.toNat) (by first | rfl | omega | (simp;omega)) (by first | omega | (dsimp only;omega) | (dsimp only;rw [List.length_set];omega) | (dsimp only;simp only [List.length_set];omega))) rfl ?_
    refine Jhw (Jer tb ((⟨.own b20 a.mine.roads.l.length [],l⟩:OwL XSpan)) (nothingS) rfl rfl rfl rfl (by repeat (first | apply OSeg.cons | exact OSeg.here | exact OSeg.last | exact OSeg.at (by assumption) | apply OSeg.app)) (by assumption) (fun _=>rfl) (by assumption) (Nat.le_of_ble_eq_true rfl) (by rfl) (by rfl)) ?_
    rintro v L' R' ⟨rfl,rfl⟩
    refine Jbr (Jaa (Jcs (Jbv (Jbf (Jaa (Jaj ?_))))))
    refine Xag ?_
    exact q_k ⟨(k + 1,l.set P.num.toNat _),by dsimp only;omega,w2.next hP (by omega) hrf⟩
   have hrf:(⟨Jbp (Jjn P) (b.low.l.getD P.road.fr.toNat 0 - b.high.l.getD P.road.to.toNat 0),Jbc (Jjn P) (b.high.l.getD P.road.fr.toNat 0 - b.low.l.getD P.road.to.toNat 0)⟩:XSpan)=Jby a s b A P.num.toNat:=by rw [Jby,if_neg (by rw [hPo];decide),← hef,← het,if_pos (by simpa using hc2),hdr]
   refine Ja4 (Jaa ?_)
   refine Jaz tb [] [0,1,2,3,4,5,6,7,8,9,10,11,12,13,14,15,16,17,18,20,21,22,23,24,25,26,27,28,29,30,31,32,33,34,35,19,36,37,38] [39] ([Blk.mk b10 _ _,Blk.mk b5 _ _]) _ Jbh (by kernel_rfl) (by repeat (first | exact zs0 _ | exact zs1 _ | apply zs2 | apply zs3 | apply zs4 | apply zs5)) (List.Sublist.refl _) ?_
   refine Xcx ?_
   refine J4l ?_
   refine Xac ?_
   refine Xcn ?_
   refine J4x ?_
   refine qci ?_
   refine Xac ?_
   refine Xcn ?_
   refine J5a ?_
   refine qci ?_
   refine qcc ?_
   refine J4l ?_
   refine Xac ?_
   refine Xcn ?_
   refine J4x ?_
   refine qci ?_
   refine Xac ?_
   refine Xcn ?_
   refine J5a ?_
   refine qci ?_
   refine qcc ?_
   refine Jbt rfl (Jjk P (b.low.l.getD P.road.fr.toNat 0 - b.high.l.getD P.road.to.toNat 0) _ _ hPI hPk) rfl rfl ?_
   rintro v L' R' ⟨rfl,rfl,rfl⟩
   refine qas ?_
   refine Jbt rfl (Jh9 P (b.high.l.getD P.road.fr.toNat 0 - b.low.l.getD P.road.to.toNat 0) _ _ hPI hPk) rfl rfl ?_
   rintro v L' R' ⟨rfl,rfl,rfl⟩
   refine qas ?_
   refine qcw ?_
   refine Jb1 (Jao tb ((⟨.own b20 a.mine.roads.l.length [],l⟩:OwL XSpan)) _ rfl rfl ((show _=Value.slice _ _ _ from rfl).trans (Jei hll)) rfl (by assumption) (i:=P.num.toNat) (by first | rfl | omega | (simp;omega)) (by first | omega | (dsimp only;omega) | (dsimp only;rw [List.length_set];omega) | (dsimp only;simp only [List.length_set];omega))) rfl rfl rfl rfl ?_
   refine qba ?_
   refine Jqb (Jer tb ((⟨.own b20 a.mine.roads.l.length [],l⟩:OwL XSpan)) (⟨Jbp (Jjn P) (b.low.l.getD P.road.fr.toNat 0 - b.high.l.getD P.road.to.toNat 0),Jbc (Jjn P) (b.high.l.getD P.road.fr.toNat 0 - b.low.l.getD P.road.to.toNat 0)⟩) rfl rfl rfl rfl (by repeat (first | apply OSeg.cons | exact OSeg.here | exact OSeg.last | exact OSeg.at (by assumption) | apply OSeg.app)) (by assumption) (fun _=>rfl) (by assumption) (Nat.le_of_ble_eq_true rfl) (by rfl) (by rfl)) rfl rfl ?_
   rintro v L' R' ⟨rfl,rfl⟩
   refine qa1 ?_
   refine qby ?_
   refine Xag ?_
   exact q_k ⟨(k + 1,l.set P.num.toNat _),by dsimp only;omega,w2.next hP (by omega) hrf⟩
  obtain rfl:k=n.pipes.l.length:=by omega
  refine Xco ?_
  refine q_r (L':=(⟨.own b20 a.mine.roads.l.length [],l⟩:OwL XSpan).L 54 XSpan.cells ++ L) (R':=Jiy n.pipes :: Jh1 n.at_ :: (S2 ++ (S1 ++ R))) (Jd4 rfl (Jal (show _=Value.slice _ _ _ from rfl))) ?_
  exact ⟨(⟨.own b20 a.mine.roads.l.length [],l⟩:OwL XSpan),Jiy n.pipes :: Jh1 n.at_ :: (S2 ++ S1),Jei hll,hkq,by rw [Jce,if_pos hck];exact w2.done hn,rfl,by simp [List.append_assoc]⟩
end Go.Proofs.Ytihompplndcdeaa
end
section
/-
  What is known of the air: airflow.Analyse and the reference's; the direction of a span. By an AI agent; no person has read it.
-/
namespace Go.Proofs.Ytihompplndcdeaa
open Go.Aw Go
set_option maxRecDepth 20000
attribute [local irreducible] CJ LJ DJ Tri YV Gives Jdn Jaw Jbk Jdo RV Jay OwL.L
theorem Jl5 {a:XAir} {s:XSetting} {b b':XBounds} {A:List Bool} (h1:b.low.l=b'.low.l) (h2:b.high.l=b'.high.l):Jce a s b A=Jce a s b' A:=by
  have e1:Jcq a s b A=Jcq a s b' A:=funext fun i=>by rw [Jcq,Jcq,h1,h2]
  have e2:Jd1 a s b A=Jd1 a s b' A:=by rw [Jd1,Jd1,h1,h2,e1]
  have e3:Jby a s b A=Jby a s b' A:=funext fun i=>by rw [Jby,Jby,h1,h2]
  rw [Jce,Jce,e2,e3]
def Jhv (a:XAir) (s:XSetting) (A:List Bool):XBounds:=⟨⟨none,0,(Jdm a s A).2.1⟩,⟨none,0,(Jdm a s A).2.2⟩⟩
def Je0 (a:XAir) (k:Nat):XSpan:=if (a.mine.roads.l.getD k default).closed=true then ⟨0,0⟩ else nothingS
def Jf8 (a:XAir) (s:XSetting) (A:List Bool):Int×List XSpan:=
  if Jat a≠0 then (Jat a,[]) else if Jdl a s=false then (21,[]) else if (Jdm a s A).1=0 then (0,Jce a s (Jhv a s A) A)
  else (0,(List.range a.mine.roads.l.length).map (Je0 a))
theorem Jmz (L:List Blk) (R:List Sl):
    Tri Try.prog 37 [].toArray L R (fun v L' R'=>v=nothingS.val∧L=L'∧R=R'):=by
  refine Jae 2 Try.call37 Try.func37 rfl rfl rfl ?_
  refine qae ?_
  refine qaq ?_
  intro b0
  refine qam ?_
  refine qcd ?_
  refine Xbp ?_
  refine q_r (L':=L) (R':=R) (Jd4 rfl (Ja0 (row:=[_,_]) tb rfl rfl rfl (by repeat (first | exact zi0 | apply zi1 | apply zi2)) (by rfl) (by rfl))) ?_
  exact ⟨rfl,rfl,rfl⟩
structure BlindTo (a:XAir) (i:Nat) (l:List XSpan):Prop where
  len:l.length=a.mine.roads.l.length
  don:∀j:Nat,j < i→l[j]?=some (Je0 a j)
  non:∀j:Nat,i≤j→j < a.mine.roads.l.length→l[j]?=some ⟨0,0⟩
theorem BlindTo.next {a:XAir} {i:Nat} {l:List XSpan} (h:BlindTo a i l) (hi:i < a.mine.roads.l.length) {x:XSpan} (hx:x=Je0 a i):BlindTo a (i + 1) (l.set i x):=by
  have hl:=h.len
  refine ⟨by simp [hl],fun j hj=>?_,fun j h1 h2=>?_⟩
  · rw [List.getElem?_set]
    split
    · rename_i e;rw [if_pos (by omega),hx,e]
    · exact h.don j (by omega)
  · rw [List.getElem?_set_ne (by omega)]
    exact h.non j (by omega) h2
theorem BlindTo.stay {a:XAir} {i:Nat} {l:List XSpan} (h:BlindTo a i l) (hi:i < a.mine.roads.l.length) (hx:(⟨0,0⟩:XSpan)=Je0 a i):BlindTo a (i + 1) l:=by
  refine ⟨h.len,fun j hj=>?_,fun j h1 h2=>h.non j (by omega) h2⟩
  rcases Nat.lt_or_ge j i with h1 | h1
  · exact h.don j h1
  · obtain rfl : j = i := by omega
    rw [h.non j (Nat.le_refl _) hi,hx]
theorem BlindTo.done {a:XAir} {l:List XSpan} (h:BlindTo a a.mine.roads.l.length l):l=(List.range a.mine.roads.l.length).map (Je0 a):=by
  have hl:=h.len
  refine List.ext_getElem? fun j=>?_
  rcases Nat.lt_or_ge j a.mine.roads.l.length with hj | hj
  · rw [h.don j hj,List.getElem?_map,List.getElem?_range hj];rfl
  · rw [List.getElem?_eq_none (by omega),List.getElem?_eq_none (by simp;omega)]
theorem Jgv (a:XAir) (s:XSetting) (A:List Bool) (L:List Blk) (R:List Sl) (hm:AirR a R) (hs:SetR s R) (hA:Jat a=0→AiryIs a.mine A):
    Tri Try.prog 12 [a.val,s.val].toArray L R (fun w L' R'=>∃p:OwL XSpan,w=.tuple #[p.val,.int .i64 (Jf8 a s A).1]∧p.ok 2 XSpan.cells∧p.l=(Jf8 a s A).2∧p.L 54 XSpan.cells ++ L=L'∧R=R'):=by
  have hmr:=hm.roads
  refine Jae 56 Try.call12 Try.func12 rfl rfl rfl ?_
  refine Xaj ?_
  intro b2
  refine qax ?_
  intro b3
  refine qc4 ?_
  refine Xaw ?_
  refine qa8 ?_
  refine q_l rfl (Jdy a _ _ hm) ?_
  refine Xbv ?_
  refine q_c (fun hc0=>?_) (fun hc0=>?_)
  ·
   refine Xbb ?_
   refine qc4 ?_
   refine Xa4 ?_
   refine q_r (L':=L) (R':=R) (Jfb rfl (Jal (show _=Value.slice _ _ _ from rfl)) (Jal (show _=Value.int _ _ from rfl))) ?_
   exact ⟨OwL.nil,by rw [Jf8,if_pos hc0];rfl,OwL.nil_ok,by rw [Jf8,if_pos hc0],by rw [Jc7,List.nil_append],rfl⟩
  have h0:Jat a=0:=by omega
  have hok:=Jey h0
  have hnp:=hok.mine.places
  have hnr:=hok.mine.roads
  refine qbo ?_
  refine Xaz ?_
  refine q_l rfl (Je8 a s _ _ hm hs) ?_
  refine Xbu ?_
  refine q_c (fun hc1=>?_) (fun hc1=>?_)
  ·
   refine Xcw ?_
   refine q_r (L':=L) (R':=R) (Jfb rfl (Jal (show _=Value.slice _ _ _ from rfl)) (Jal (show _=Value.int _ _ from rfl))) ?_
   exact ⟨OwL.nil,by rw [Jf8,if_neg hc0,if_pos (by simpa using hc1)];rfl,OwL.nil_ok,by rw [Jf8,if_neg hc0,if_pos (by simpa using hc1)],by rw [Jc7,List.nil_append],rfl⟩
  have hf0:Jdl a s=true:=by simpa using hc1
  have hff:¬ Jdl a s=false:=by rw [hf0];decide
  refine qbo ?_
  refine Xaz ?_
  refine Jaq rfl (Jr0 a s A _ _ hm hs hA (by omega)) rfl ?_
  rintro v L' R' ⟨lo,hi,rfl,h1,h2,h3,h4,rfl,rfl⟩
  refine Jax (Jap rfl) rfl ?_
  refine Xa6 ?_
  refine qaq ?_
  intro b7
  refine qak ?_
  refine Xb3 ?_
  refine Jbn (A:=[_]) (wd:=1) [] (fun _=>rfl) (by decide) h1 (fun s hs=>by cases hs) ?_
  refine qb1 ?_
  refine Jbn (A:=[_]) (wd:=1) [] (fun _=>rfl) (by decide) h2 (fun s hs=>by cases hs) ?_
  refine qb1 ?_
  have hR2:∀r∈R,InR r (isl hi.arr :: isl lo.arr :: R):=fun r hr=>Jab (by simp [hr])
  have hB2:BoundsR ⟨lo.arr,hi.arr⟩ (isl hi.arr :: isl lo.arr :: R):=⟨Jab (.tail _ (.head _)),Jab (.head _)⟩
  have hmr2:=hmr.mono hR2
  refine Xbs ?_
  refine Xb2 ?_
  refine q_c (fun hc2=>?_) (fun hc2=>?_)
  ·
   refine qae ?_
   refine Xaz ?_
   refine qbe ?_
   refine Jaq rfl (Jyn a s ⟨lo.arr,hi.arr⟩ A _ _ (Jcd hm hR2) (Jbu hs hR2) hB2 hA) rfl ?_
   rintro v L' R' ⟨p,S,rfl,hpk,hpl,rfl,rfl⟩
   refine qc4 ?_
   refine Xa4 ?_
   refine Jbj (L':=p.L 54 XSpan.cells ++ L) (R':=R) (Jfb rfl (Jal (show _=Value.slice _ _ _ from rfl)) (Jal (show _=Value.int _ _ from rfl))) ?hp ?hL ?hR
   case hp=>
    have ha:Jf8 a s A=(0,Jce a s (Jhv a s A) A):=by rw [Jf8,if_neg hc0,if_neg hff,if_pos hc2]
    exact ⟨p,by rw [ha];rfl,hpk,by rw [ha,hpl];exact Jl5 h3 h4,rfl,rfl⟩
   case hL=>exact (by repeat (first | exact zs0 _ | exact zs1 _ | apply zs2 | apply zs3 | apply zs4 | apply zs5))
   case hR=>exact fun r h=>Jab (by simp [h])
  refine qbv ?_
  refine Xa7 ?_
  refine qc7 ?_
  rintro v L' R' ⟨b37,rfl,rfl,hR37⟩
  replace hR37:=hR37.symm;subst hR37
  refine qc4 ?_
  refine qco ?_
  refine Jlf (Jgh (f:=XSpan.cells) (x:=⟨0,0⟩) rfl _) ?_
  refine qay ?_
  refine Xa7 ?_
  refine Xas ?_
  refine Jag [(9,Value.slice _ _ _),(40,Value.slice _ _ _),(41,Value.int _ _),(42,Value.int _ _)] (by repeat' (first | exact trivial | refine And.intro rfl ?_)) fun tq0=>?_
  refine q_p [10,11,42,43,44,45,46,47,48,49,50,51,52,53,54] ((⟨fun g=>[(42,.int .i64 ((g.1.1:Nat):Int))],fun g=>(⟨.own b37 a.mine.roads.l.length [],g.1.2⟩:OwL XSpan).L 54 XSpan.cells ++ (⟨b7,[lo.val,hi.val],88⟩ :: ⟨b3,s.cells,35⟩ :: ⟨b2,a.cells,32⟩ :: L),fun _=>isl hi.arr :: isl lo.arr :: R,fun g=>a.mine.roads.l.length - g.1.1⟩:Head {g:Nat×List XSpan // g.1≤a.mine.roads.l.length∧BlindTo a g.1 g.2})) (⟨(0,List.replicate a.mine.roads.l.length ⟨0,0⟩),by dsimp only;omega,⟨by simp,fun j hj=>by omega,fun j _ hj=>by rw [List.getElem?_replicate,if_pos hj]⟩⟩) ?_
  rintro ⟨⟨k,l⟩,w1,w2⟩ junk
  try dsimp only
  dsimp only at w1 w2
  have hll:=w2.len
  have hkq:(⟨.own b37 a.mine.roads.l.length [],l⟩:OwL XSpan).ok 2 XSpan.cells:=by have:=Jfa (f:=XSpan.cells) (wd:=2) (b:=b37) (n:=a.mine.roads.l.length) (x:=⟨0,0⟩) (fun _=>rfl) (by simp only [maxLen];omega);exact OwL.len_ok (fun _=>rfl) this (by simp;exact hll)
  refine Xar ?_
  refine q_c (fun hc3=>?_) (fun hc3=>?_)
  ·
   have hrg:=Jai (l:=a.mine.roads.l) (k:=k) default (by omega)
   have hlg:=w2.non k (Nat.le_refl _) (by omega)
   refine Xa8 ?_
   refine Jax (by first | exact Jaf tb rfl rfl rfl rfl (by first | assumption | exact zr (by simp)) (i:=k) (by first | rfl | omega | (simp;omega)) (by omega) | exact Jah tb rfl rfl rfl rfl (i:=k) (by first | rfl | omega | (simp;omega)) (by omega)) rfl ?_
   refine qc8 ?_
   refine qaq ?_
   intro b11
   refine qad ?_
   refine Xcd ?_
   refine Xbu ?_
   refine q_c (fun hc4=>?_) (fun hc4=>?_)
   ·
    have hbf:nothingS=Je0 a k:=by rw [Je0,if_neg (by simpa using hc4)]
    refine Xcg ?_
    refine q_l rfl (Jmz _ _) ?_
    refine Jax (Jao tb ((⟨.own b37 a.mine.roads.l.length [],l⟩:OwL XSpan)) _ rfl rfl ((show _=Value.slice _ _ _ from rfl).trans (Jei hll)) rfl (by assumption) (i:=k) (by first | rfl | omega | (simp;omega)) (by first | omega | (dsimp only;omega) | (dsimp only;rw [List.length_set];omega) | (dsimp only;simp only [List.length_set];omega))) rfl ?_
    refine Jhw (Jer tb ((⟨.own b37 a.mine.roads.l.length [],l⟩:OwL XSpan)) (nothingS) rfl rfl rfl rfl (by repeat (first | apply OSeg.cons | exact OSeg.here | exact OSeg.last | exact OSeg.at (by assumption) | apply OSeg.app)) (by assumption) (fun _=>rfl) (by assumption) (Nat.le_of_ble_eq_true rfl) (by rfl) (by rfl)) ?_
    rintro v L' R' ⟨rfl,rfl⟩
    refine Xa5 ?_
    exact q_k ⟨(k + 1,l.set k nothingS),by dsimp only;omega,w2.next (by omega) hbf⟩
   have hbf:(⟨0,0⟩:XSpan)=Je0 a k:=by rw [Je0,if_pos (by simpa using hc4)]
   refine Xay ?_
   exact q_k ⟨(k + 1,l),by dsimp only;omega,w2.stay (by omega) hbf⟩
  obtain rfl:k=a.mine.roads.l.length:=by omega
  refine qbk ?_
  refine Xbl ?_
  refine Xau ?_
  refine Jbj (L':=(⟨.own b37 a.mine.roads.l.length [],l⟩:OwL XSpan).L 54 XSpan.cells ++ L) (R':=R) (Jfb rfl (Jal (show _=Value.slice _ _ _ from rfl)) (Jal (show _=Value.int _ _ from rfl))) ?hp ?hL ?hR
  case hp=>
   have ha:Jf8 a s A=(0,(List.range a.mine.roads.l.length).map (Je0 a)):=by rw [Jf8,if_neg hc0,if_neg hff,if_neg hc2]
   exact ⟨(⟨.own b37 a.mine.roads.l.length [],l⟩:OwL XSpan),by rw [ha];simp only [OwL.val,Ow.addr,Ow.cap,hll],hkq,by rw [ha];exact w2.done,rfl,rfl⟩
  case hL=>exact (by repeat (first | exact zs0 _ | exact zs1 _ | apply zs2 | apply zs3 | apply zs4 | apply zs5))
  case hR=>exact fun r h=>Jab (by simp [h])
def Jl8 (x:XSpan):Int:=if x.high < x.low then 0 else if 0 < x.low then 1 else if x.high < 0 then -1 else 0
theorem Jj3 (x:XSpan) (L:List Blk) (R:List Sl):
    Tri Try.prog 51 [x.val].toArray L R (fun v L' R'=>v=.int .i64 (Jl8 x)∧L=L'∧R=R'):=by
  refine Jae 17 Try.call51 Try.func51 rfl rfl rfl ?_
  refine Xaj ?_
  intro b1
  refine qad ?_
  refine Jbr (Jaa (Jan (Ja9 (Jan (Jaj ?_)))))
  refine Xa1 ?_
  refine qa5 ?_
  refine Xbt ?_
  refine q_c (fun hc0=>?_) (fun hc0=>?_)
  ·
   refine Xc4 ?_
   refine q_i (L':=L) (R':=R) ?_
   exact ⟨by rw [Jl8,if_pos hc0],rfl,rfl⟩
  refine qae ?_
  refine Xcp ?_
  refine Xbt ?_
  refine q_c (fun hc1=>?_) (fun hc1=>?_)
  ·
   refine Xc4 ?_
   refine q_i (L':=L) (R':=R) ?_
   exact ⟨by rw [Jl8,if_neg (by omega),if_pos hc1],rfl,rfl⟩
  refine qae ?_
  refine Xaa ?_
  refine qaj ?_
  refine Xbt ?_
  refine q_c (fun hc2=>?_) (fun hc2=>?_)
  ·
   refine Xc4 ?_
   refine q_i (L':=L) (R':=R) ?_
   exact ⟨by rw [Jl8,if_neg (by omega),if_neg (by omega),if_pos hc2],rfl,rfl⟩
  refine Ja4 (Ja7 (Jaa (Jan (Jaj ?_))))
  refine Xau ?_
  refine q_i (L':=L) (R':=R) ?_
  exact ⟨by rw [Jl8,if_neg (by omega),if_neg (by omega),if_neg (by omega)],rfl,rfl⟩
theorem Jl7 (x:XSpan) (L:List Blk) (R:List Sl):
    Tri Try.prog 13 [x.val].toArray L R (fun v L' R'=>v=.int .i64 (Jl8 x)∧L=L'∧R=R'):=by
  refine Jae 14 Try.call13 Try.func13 rfl rfl rfl ?_
  refine Xaj ?_
  intro b1
  refine Xaw ?_
  refine Xa1 ?_
  refine Xbx ?_
  refine q_c (fun hc0=>?_) (fun hc0=>?_)
  ·
   refine Xbn ?_
   refine q_i (L':=L) (R':=R) ?_
   exact ⟨by rw [Jl8,if_pos hc0],rfl,rfl⟩
  refine qbo ?_
  refine Xaa ?_
  refine Xbx ?_
  refine q_c (fun hc1=>?_) (fun hc1=>?_)
  ·
   refine Xbn ?_
   refine q_i (L':=L) (R':=R) ?_
   exact ⟨by rw [Jl8,if_neg (by omega),if_pos hc1],rfl,rfl⟩
  refine qbo ?_
  refine Xaa ?_
  refine Xan ?_
  refine q_c (fun hc2=>?_) (fun hc2=>?_)
  ·
   refine Xbn ?_
   refine q_i (L':=L) (R':=R) ?_
   exact ⟨by rw [Jl8,if_neg (by omega),if_neg (by omega),if_pos hc2],rfl,rfl⟩
  refine qbv ?_
  refine Xau ?_
  refine q_i (L':=L) (R':=R) ?_
  exact ⟨by rw [Jl8,if_neg (by omega),if_neg (by omega),if_neg (by omega)],rfl,rfl⟩
end Go.Proofs.Ytihompplndcdeaa
end
section
/-
  Raising and lowering: what they leave. By an AI agent; no person has read it.
-/
namespace Go.Proofs.Ytihompplndcdeaa
open Go.Aw Go
section
variable {a:XAir} {s:XSetting} {A:List Bool} {l m:List Int} {k:Nat} {v:Int}
theorem Jx8 (h0:PresOk l) (h:Jft a s true l k=some v):l.getD k 0≤v∧0≤Jph a s (l.set k v) (k:Int)∧∀w,l.getD k 0≤w→w < v→Jph a s (l.set k w) (k:Int) < 0:=by
  obtain ⟨d,d0,d1,dv,dg,dj⟩:=(Jjv (Jnz (h0.get k)).1 h).yes rfl
  have e:∀x,Jqk a s true l (k:Int) x=J2f a s l (k:Int) x:=fun x=>by rw [Jqk,if_pos rfl]
  rw [e,decide_eq_true_eq,Int.toNat_natCast] at dg
  have es:sgn true=1:=rfl
  rw [es] at dv dj
  refine ⟨by omega,dg,fun w w1 w2=>?_⟩
  have:=dj (w - l.getD k 0) (by omega) (by omega)
  rw [show l.getD k 0 + 1 * (w - l.getD k 0)=w by omega,e,decide_eq_false_iff_not,Int.toNat_natCast] at this
  omega
theorem Jsg (h0:PresOk l) (h:Jft a s false l k=some v):v≤l.getD k 0∧Jgp a s (l.set k v) (k:Int)≤0∧∀w,w≤l.getD k 0→v < w→0 < Jgp a s (l.set k w) (k:Int):=by
  obtain ⟨d,d0,d1,dv,dg,dj⟩:=(Jjv (Jnz (h0.get k)).1 h).yes rfl
  have e:∀x,Jqk a s false l (k:Int) x=Jue a s l (k:Int) x:=fun x=>by rw [Jqk,if_neg (by decide)]
  rw [e,decide_eq_true_eq,Int.toNat_natCast] at dg
  have es:sgn false= -1:=rfl
  rw [es] at dv dj
  refine ⟨by omega,dg,fun w w1 w2=>?_⟩
  have:=dj (l.getD k 0 - w) (by omega) (by omega)
  rw [show l.getD k 0 + -1 * (l.getD k 0 - w)=w by omega,e,decide_eq_false_iff_not,Int.toNat_natCast] at this
  omega
end
theorem Jjr {a : XAir} {s : XSetting} {A : List Bool} {up : Bool} {l : List Int} : ∀ {n : Nat} {m : List Int}, Jb4 a s A up l n = some m → ∀ k, k ≤ n → ∃ mk, Jb4 a s A up l k = some mk ∧ ∀ j : Nat, j < k → m[j]? = mk[j]?
  | 0,m,h,k,hk=>by
    obtain rfl:k=0:=by omega
    exact ⟨m,h,fun j hj=>by omega⟩
  | n + 1,m,h,k,hk=>by
    rcases Nat.lt_or_ge n k with h1 | h1
    · obtain rfl : k = n + 1 := by omega
      exact ⟨m,h,fun _ _=>rfl⟩
    · have h' := h
      rw [Jb4,Option.bind_eq_some_iff] at h'
      obtain ⟨m1,e1,e2⟩:=h'
      obtain ⟨mk,f1,f2⟩:=Jjr e1 k h1
      refine ⟨mk,f1,fun j hj=>?_⟩
      rw [← f2 j hj]
      split at e2
      · cases e2;rfl
      · obtain ⟨v, _, rfl⟩ := Option.map_eq_some_iff.1 e2
        rw [List.getElem?_set_ne (by omega)]
theorem Jy8 {a:XAir} {s:XSetting} {A:List Bool} {up:Bool} {l:List Int} (hl:PresOk l) (hn:l.length=a.mine.places.l.length) (h:Jb4 a s A up l a.mine.places.l.length=some l) {k:Nat} (hk:k < a.mine.places.l.length) (hf:¬ Jmn a A k=true):Jft a s up l k=some (l.getD k 0):=by
  obtain ⟨m1,e1,e2⟩:=Jjr h (k + 1) (by omega)
  have e1':=e1
  rw [Jb4,Option.bind_eq_some_iff] at e1'
  obtain ⟨m0,f1,f2⟩:=e1'
  obtain ⟨m0',g1,g2⟩:=Jjr h k (by omega)
  rw [f1] at g1
  cases g1
  have hS:=Jeo hl f1
  have em:m0=l:=List.ext_getElem? fun j=>by
    rcases Nat.lt_or_ge j k with h1 | h1
    · exact (g2 j h1).symm
    · exact hS.rest j h1
  subst em
  rw [if_neg hf] at f2
  obtain ⟨v,hv,rfl⟩:=Option.map_eq_some_iff.1 f2
  have:=e2 k (by omega)
  rw [List.getElem?_set_self (by omega),Jai (l:=m0) (k:=k) 0 (by omega)] at this
  rw [hv,Option.some.inj this]
structure Moved (a:XAir) (A:List Bool) (up:Bool) (l m:List Int):Prop where
  len:m.length=l.length
  le:∀j:Nat,if up=true then l.getD j 0≤m.getD j 0 else m.getD j 0≤l.getD j 0
  fix:∀j:Nat,Jmn a A j=true→m.getD j 0=l.getD j 0
theorem Moved.refl {a:XAir} {A:List Bool} {up:Bool} {l:List Int}:Moved a A up l l:=⟨rfl,fun j=>by split <;> exact Int.le_refl _,fun _ _=>rfl⟩
theorem Moved.trans {a:XAir} {A:List Bool} {up:Bool} {l m n:List Int} (h:Moved a A up l m) (k:Moved a A up m n):Moved a A up l n:=by
  refine ⟨k.len.trans h.len,fun j=>?_,fun j hj=>(k.fix j hj).trans (h.fix j hj)⟩
  have h1:=h.le j
  have h2:=k.le j
  split at h1
  · rename_i e;rw [if_pos e] at h2;rw [if_pos e];omega
  · rename_i e;rw [if_neg e] at h2;rw [if_neg e];omega
theorem Jni {a : XAir} {s : XSetting} {A : List Bool} {up : Bool} {l : List Int} (hl : PresOk l) : ∀ {n : Nat} {m : List Int}, n ≤ l.length → Jb4 a s A up l n = some m → Moved a A up l m
  | 0,m,_,h=>by cases h;exact .refl
  | n + 1,m,hn,h=>by
    have h':=h
    rw [Jb4,Option.bind_eq_some_iff] at h'
    obtain ⟨m0,e1,e2⟩:=h'
    have ih:=Jni hl (by omega) e1
    have hS:=Jeo hl e1
    have hlen:=hS.len
    split at e2
    · cases e2;exact ih
    · rename_i hf
      obtain ⟨v,hv,rfl⟩:=Option.map_eq_some_iff.1 e2
      refine ih.trans ⟨by simp,fun j=>?_,fun j hj=>?_⟩
      · rw [Jel (by omega)]
        cases up with
        | true=>
          have:=(Jx8 hS.pres hv).1
          simp only [if_true]
          split
          · rename_i e;subst e;exact this
          · exact Int.le_refl _
        | false=>
          have:=(Jsg hS.pres hv).1
          simp only [Bool.false_eq_true,if_false]
          split
          · rename_i e;subst e;exact this
          · exact Int.le_refl _
      · rw [Jel (by omega),if_neg (fun e=>hf (by rw [← e];exact hj))]
theorem Jii {a : XAir} {s : XSetting} {A : List Bool} {up : Bool} : ∀ {n : Nat} {l m : List Int}, PresOk l → l.length = a.mine.places.l.length → Jcm a s A up n l = some m → Moved a A up l m
  | 0,l,m,_,_,h=>by cases h
  | n + 1,l,m,hl,hn,h=>by
    rw [Jcm] at h
    split at h
    · cases h
    · rename_i m1 h1
      have hs:=Jeo hl h1
      have hm:=Jni hl (by omega) h1
      split at h
      · cases h;exact hm
      · exact hm.trans (Jii hs.pres (hs.len.trans hn) h)
theorem Jpz {a:XAir} {s:XSetting} {A:List Bool} {n:Nat} {l m:List Int} {up:Bool} (hl:PresOk l) (hn:l.length=a.mine.places.l.length) (h:Jcm a s A up n l=some m) {k:Nat} (hk:k < a.mine.places.l.length) (hf:¬ Jmn a A k=true):
    if up=true then 0≤Jph a s m (k:Int) else Jgp a s m (k:Int)≤0:=by
  obtain ⟨h1,h2,h3⟩:=Jij hl h
  have hx:=Jy8 h2 (h1.trans hn) h3 hk hf
  cases up with
  | true=>
    have:=(Jx8 h2 hx).2.1
    rw [Jir] at this
    simpa using this
  | false=>
    have:=(Jsg h2 hx).2.1
    rw [Jir] at this
    simpa using this
theorem Jh3 {a:XAir} {s:XSetting} {A:List Bool} {up:Bool} {ps:List Int} (h:StartOk a s ps A):(Jbw a s A up ps).1=0∨(Jbw a s A up ps).1=2:=by
  rw [Jbw,if_neg (by rw [Jf6.2 h];decide)]
  split
  · exact .inr rfl
  · exact .inl rfl
theorem StartOk.moved {a:XAir} {s:XSetting} {A:List Bool} {up:Bool} {l:List Int} (h:StartOk a s l A) {n:Nat} {m:List Int} (hm:Jcm a s A up n l=some m):StartOk a s m A:=by
  obtain ⟨h1,h2,_⟩:=Jij h.hp hm
  have h3:=Jii h.hp h.hl hm
  exact ⟨h.h0,h.hf,h1.trans h.hl,h2,fun i hi hf=>(h3.fix i hf).trans (h.fix i hi hf)⟩
theorem Jwa {a:XAir} {s:XSetting} {A:List Bool} (h0:Jat a=0) (hf:Jdl a s=true):StartOk a s (List.replicate a.mine.places.l.length 0) A:=by
  refine ⟨h0,hf,by simp,fun p hp=>?_,fun i hi _=>?_⟩
  · rw [(List.mem_replicate.1 hp).2];decide
  · rw [List.getD_eq_getElem?_getD, List.getElem?_replicate]
    split <;> rfl
structure Solved (a:XAir) (s:XSetting) (A:List Bool) (lo hi:List Int):Prop where
  lok:StartOk a s lo A
  hok:StartOk a s hi A
  le:∀i:Nat,lo.getD i 0≤hi.getD i 0
  low:∀i:Nat,i < a.mine.places.l.length→¬ Jmn a A i=true→Jgp a s lo (i:Int)≤0
  high:∀i:Nat,i < a.mine.places.l.length→¬ Jmn a A i=true→0≤Jph a s hi (i:Int)
theorem Juf {a:XAir} {s:XSetting} {A:List Bool} (h0:Jat a=0) (hf:Jdl a s=true):((Jdm a s A).1=0∧Solved a s A (Jdm a s A).2.1 (Jdm a s A).2.2)∨(Jdm a s A).1=2:=by
  have s0:=Jwa (A:=A) h0 hf
  rw [Jdm]
  dsimp only
  rcases Jh3 (up:=false) s0 with e1 | e1
  · rw [if_neg (by omega)]
    obtain ⟨_,r1⟩:=Jog e1
    have s1:=s0.moved r1
    rcases Jh3 (up:=true) s1 with e2 | e2
    · rw [if_neg (by omega)]
      obtain ⟨_,r2⟩:=Jog e2
      have s2:=s1.moved r2
      rcases Jh3 (up:=false) s2 with e3 | e3
      · rw [if_neg (by omega)]
        obtain ⟨_,r3⟩:=Jog e3
        have s3:=s2.moved r3
        left
        refine ⟨rfl,s3,s2,fun i=>?_,fun i hi hn=>?_,fun i hi hn=>?_⟩
        · have := (Jii s2.hp s2.hl r3).le i
          simpa using this
        · have := Jpz s2.hp s2.hl r3 hi hn
          simpa using this
        · have := Jpz s1.hp s1.hl r2 hi hn
          simpa using this
      · rw [if_pos (by omega)]
        exact .inr e3
    · rw [if_pos (by omega)]
      exact .inr e2
  · rw [if_pos (by omega)]
    exact .inr e1
theorem Solved.accept {a:XAir} {s:XSetting} {A:List Bool} {lo hi:List Int} (h:Solved a s A lo hi) {b:XBounds} (e1:b.low.l=lo) (e2:b.high.l=hi):Accept a s b A:=by
  refine ⟨⟨h.lok.h0,h.lok.hf,by rw [e1];exact h.lok.hl,by rw [e2];exact h.hok.hl,by rw [e1];exact h.lok.hp,by rw [e2];exact h.hok.hp⟩,fun i hi2 hf=>?_,fun i hi2 hf=>?_⟩
  · rw [e1,e2];exact ⟨h.lok.fix i hi2 hf,h.hok.fix i hi2 hf⟩
  · rw [e1,e2];exact ⟨h.high i hi2 hf,h.low i hi2 hf⟩
end Go.Proofs.Ytihompplndcdeaa
end
section
/-
  What is known of the flows of a place below ground can be balanced. By an AI agent; no person has read it.
-/
namespace Go.Proofs.Ytihompplndcdeaa
open Go.Aw Go
theorem Jyp {a:XAir} {s:XSetting} {A:List Bool} (h0:Jat a=0) (hf:Jdl a s=true) (hA:AiryIs a.mine A):
    (Jf8 a s A).1=0∧((Accept a s (Jhv a s A) A∧(∀i:Nat,(Jhv a s A).low.l.getD i 0≤(Jhv a s A).high.l.getD i 0)∧(Jf8 a s A).2=(List.range a.mine.roads.l.length).map (Jby a s (Jhv a s A) A))∨(Jf8 a s A).2=(List.range a.mine.roads.l.length).map (Je0 a)):=by
  have hfn:¬ Jdl a s=false:=by rw [hf];decide
  rw [Jf8,if_neg (by rw [h0];decide),if_neg hfn]
  rcases Juf (A:=A) h0 hf with h | h
  · have hac : Accept a s (Jhv a s A) A := h.2.accept rfl rfl
    rw [if_pos h.1,Jce,if_pos (Jo8.2 hac)]
    exact ⟨rfl,.inl ⟨hac,h.2.le,rfl⟩⟩
  · rw [if_neg (by rw [h]; decide)]
    exact ⟨rfl,.inr rfl⟩
theorem Jlh {a:XAir} {s:XSetting} {A:List Bool} (h0:Jat a=0) (hf:Jdl a s=true) (hA:AiryIs a.mine A):(Jf8 a s A).2.length=a.mine.roads.l.length:=by
  rcases (Jyp h0 hf hA).2 with ⟨_,_,e⟩ | e <;> rw [e] <;> simp
end Go.Proofs.Ytihompplndcdeaa
end
section
/-
  ref01.Spans: two lists of spans are alike. By an AI agent; no person has read it.
-/
namespace Go.Proofs.Ytihompplndcdeaa
open Go.Aw Go
set_option maxRecDepth 20000
attribute [local irreducible] CJ LJ DJ Tri YV Gives Jdn Jaw Jbk Jdo RV Jay OwL.L
abbrev Jrc (x:Arr XSpan):Sl:=x.sl 2 XSpan.cells []
end Go.Proofs.Ytihompplndcdeaa
end
