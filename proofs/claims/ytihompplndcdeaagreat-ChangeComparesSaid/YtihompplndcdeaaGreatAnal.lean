import Derived.Test.YtihompplndcdeaaGreatCflowS
section
/-
  certify.Flows. By an AI agent; no person has read it.
-/
namespace Go.Proofs.YtihompplndcdeaaGreat
open Go.Aw Go
set_option maxRecDepth 20000
attribute [local irreducible] CJ LJ DJ Tri YV Gives Jd5 Jbd Jbz Jd4 RV Jbf OwL.L
section
variable {A9 B9:Prop}
theorem J55 (a:A9) (h:A9→B9:=by exact Jca (Jbh (row:=[_,_,_,_,_,_,_,_,_,_,_,_]) tb rfl rfl rfl (by repeat (first | exact zi0 | apply zi1 | apply zi2)) (by rfl) (by rfl)) rfl rfl rfl rfl):B9:=h a
theorem J7x (a:A9) (h:A9→B9:=by exact Jca (by first | exact Jag tb rfl rfl rfl rfl (by first | assumption | exact zr (by simp)) (i:=P.road.fr.toNat) (by first | rfl | omega | (simp;omega)) (by omega) | exact Jal tb rfl rfl rfl rfl (i:=P.road.fr.toNat) (by first | rfl | omega | (simp;omega)) (by omega)) rfl rfl rfl rfl):B9:=h a
theorem J70 (a:A9) (h:A9→B9:=by exact Jca (by first | exact Jag tb rfl rfl rfl rfl (by first | assumption | exact zr (by simp)) (i:=P.road.to.toNat) (by first | rfl | omega | (simp;omega)) (by omega) | exact Jal tb rfl rfl rfl rfl (i:=P.road.to.toNat) (by first | rfl | omega | (simp;omega)) (by omega)) rfl rfl rfl rfl):B9:=h a
end
theorem Jyx (a:XAir) (s:XSetting) (b:XBounds) (A:List Bool) (L:List Blk) (R:List Sl) (hm:AirR a R) (hs:SetR s R) (hb:BoundsR b R) (hA:Ja4 a=0→AiryIs a.mine A):
    Tri Tryz.prog 54 [a.val,s.val,b.val].toArray L R (fun v L' R'=>∃(p:OwL XSpan) (S:List Sl),v=p.val∧p.ok 2 XSpan.cells∧p.l=Jb5 a s b A∧p.L 46 XSpan.cells ++ L=L'∧S ++ R=R'):=by
  have hmr:=hm.roads
  have hbl:=hb.low
  have hbh:=hb.high
  refine Jae 85 Tryz.call54 Tryz.func54 rfl rfl rfl ?_
  refine Xai ?_
  intro b3
  refine qax ?_
  intro b4
  refine qax ?_
  intro b5
  refine Xa4 ?_
  refine Xck ?_
  refine Jaq rfl (J1t a s b A _ _ hm hs hb hA) rfl ?_
  rintro v L' R' ⟨S1,rfl,rfl,rfl⟩
  have hm1:AirR a (S1 ++ R):=⟨hm.places.mono fun r h=>Jab (by simp [h]),hm.roads.mono fun r h=>Jab (by simp [h]),hm.fans.mono fun r h=>Jab (by simp [h]),hm.doors.mono fun r h=>Jab (by simp [h])⟩
  have hmr1:=hm1.roads
  refine Xaw ?_
  refine q_c (fun hc0=>?_) (fun hc0=>?_)
  ·
   refine Xd5 ?_
   refine qbh ?_
   refine q_r (L':=L) (R':=S1 ++ R) (Jdi rfl (Jah (show _=Value.slice _ _ _ from rfl))) ?_
   exact ⟨OwL.nil,S1,rfl,OwL.nil_ok,by rw [Jb5,if_neg hc0],by rw [Jcl,List.nil_append],rfl⟩
  have hck:Jdb a s b A=0:=by omega
  have hC:=Jpb hck
  have hok:=Jeg hC.h0
  have hfo:=Je4 hC.hf
  have hAA:=hA hC.h0
  have hnr:=hok.mine.roads
  have hln:=hC.hl
  have hhn:=hC.hh
  refine qbv ?_
  refine Xa7 ?_
  refine qc7 ?_
  rintro v L' R' ⟨b20,rfl,rfl,hR20⟩
  replace hR20:=hR20.symm;subst hR20
  refine qc4 ?_
  refine qa4 ?_
  refine Jg5 (Jf1 (f:=XSpan.cells) (x:=⟨0,0⟩) rfl _) ?_
  refine qay ?_
  refine Xbu ?_
  refine Jaq rfl (Jm9 a.mine _ _ hm1.mineR hok.mine (Jh5 hC.h0)) rfl ?_
  rintro v L' R' ⟨p,A2,S2,rfl,hpk,hA2,hpl,rfl,rfl⟩
  obtain rfl:A=A2:=hAA.unique hA2
  have hplen:p.l.length=a.mine.places.l.length:=by rw [hpl,List.length_map];exact hAA.length
  have hm2:AirR a (S2 ++ (S1 ++ R)):=⟨hm1.places.mono fun r h=>Jab (by simp only [List.mem_append];exact .inr (List.mem_append.1 h)),hm1.roads.mono fun r h=>Jab (by simp only [List.mem_append];exact .inr (List.mem_append.1 h)),hm1.fans.mono fun r h=>Jab (by simp only [List.mem_append];exact .inr (List.mem_append.1 h)),hm1.doors.mono fun r h=>Jab (by simp only [List.mem_append];exact .inr (List.mem_append.1 h))⟩
  have hs2:SetR s (S2 ++ (S1 ++ R)):=⟨hs.fans.mono fun r h=>Jab (by simp [h]),hs.doors.mono fun r h=>Jab (by simp [h])⟩
  refine Xa4 ?_
  refine Xap ?_
  refine Jaq rfl (Jr2 a s _ _ hm2 hs2 hok hfo) rfl ?_
  rintro v L' R' ⟨n,rfl,hn,rfl,rfl⟩
  have hpp:InR (Jjb n.pipes) (Jjb n.pipes :: Jik n.at_ :: (S2 ++ (S1 ++ R))):=Jab (.head _)
  have hbl3:InR (isl b.low) (Jjb n.pipes :: Jik n.at_ :: (S2 ++ (S1 ++ R))):=hbl.mono fun r h=>Jab (by simp [h])
  have hbh3:InR (isl b.high) (Jjb n.pipes :: Jik n.at_ :: (S2 ++ (S1 ++ R))):=hbh.mono fun r h=>Jab (by simp [h])
  have hnl:=hn.length
  refine Ja2 (Jli (e:=139) tb rfl (by kernel_rfl) rfl rfl rfl rfl rfl) rfl ?_
  refine qag ?_
  refine Xaz ?_
  refine Jai [(5,Value.pointer _),(7,Value.slice _ _ _),(8,Value.slice _ _ _),(27,Value.slice _ _ _),(28,Value.int _ _),(29,Value.int _ _)] (by repeat' (first | exact trivial | refine And.intro rfl ?_)) fun tq0=>?_
  refine q_p [10,29,30,31,32,33,34,35,36,37,38,39,40,41,42,43,44,45,46,47,48,49,50,51,52,53,54,55,56,57,58,59,60,61,62,63,64,65,66,67,68,69,70,71,72,73,74,75,76,77,78,79,80,81,82,83] ((⟨fun q=>[(29,.int .i64 ((q.1.1:Nat):Int))],fun q=>p.L 4 blc ++ ((⟨.own b20 a.mine.roads.l.length [],q.1.2⟩:OwL XSpan).L 46 XSpan.cells ++ (⟨b5,b.cells,114⟩ :: ⟨b4,s.cells,25⟩ :: ⟨b3,a.cells,35⟩ :: L)),fun _=>Jjb n.pipes :: Jik n.at_ :: (S2 ++ (S1 ++ R)),fun q=>n.pipes.l.length - q.1.1⟩:Head {q:Nat×List XSpan // q.1≤n.pipes.l.length∧FlowTo a s b A n q.1 q.2})) (⟨(0,List.replicate a.mine.roads.l.length ⟨0,0⟩),by dsimp only;omega,FlowTo.zero a s b A n⟩) ?_
  rintro ⟨⟨k,l⟩,w1,w2⟩ junk
  try dsimp only
  dsimp only at w1 w2
  have hll:=w2.len
  have hkq:(⟨.own b20 a.mine.roads.l.length [],l⟩:OwL XSpan).ok 2 XSpan.cells:=by have:=Jen (f:=XSpan.cells) (wd:=2) (b:=b20) (n:=a.mine.roads.l.length) (x:=⟨0,0⟩) (fun _=>rfl) (by simp only [maxLen];omega);exact OwL.len_ok (fun _=>rfl) this (by simp;exact hll)
  refine Xay ?_
  refine q_c (fun hc1=>?_) (fun hc1=>?_)
  ·
   obtain ⟨P,hP⟩:=Ja0 (l:=n.pipes.l) (k:=k) (by omega)
   have hPI:=InR.pipe hpp hP
   obtain ⟨hPn,hPo⟩:=hn.open (List.mem_of_getElem? hP)
   have hPs:=hn.pipe P (List.mem_of_getElem? hP)
   have hPk:=Jsl hok hPn hPs
   have hdr:Jj7 P=Jbr a s ((P.num.toNat:Nat):Int):=funext fun q=>by rw [Jwg hPs q,Int.toNat_of_nonneg hPn.1]
   have hro:=hok.mine.road P.num.toNat _ (Jan default (by omega))
   have hr1:=hro.fr
   have hr2:=hro.to
   have hef:P.road.fr=(a.mine.roads.l.getD P.num.toNat default).fr:=by rw [hPs.road]
   have het:P.road.to=(a.mine.roads.l.getD P.num.toNat default).to:=by rw [hPs.road]
   have hAl:=hAA.length
   have hpg:p.l[P.road.fr.toNat]?=some (!(A.getD P.road.fr.toNat false)):=by rw [hpl,List.getElem?_map,Jan (l:=A) (k:=P.road.fr.toNat) false (by omega)];rfl
   have g1:=Jan (l:=b.low.l) (k:=P.road.fr.toNat) 0 (by omega)
   have g2:=Jan (l:=b.low.l) (k:=P.road.to.toNat) 0 (by omega)
   have g3:=Jan (l:=b.high.l) (k:=P.road.fr.toNat) 0 (by omega)
   have g4:=Jan (l:=b.high.l) (k:=P.road.to.toNat) 0 (by omega)
   have e1:=hC.pl.get P.road.fr.toNat
   have e2:=hC.pl.get P.road.to.toNat
   have e3:=hC.ph.get P.road.fr.toNat
   have e4:=hC.ph.get P.road.to.toNat
   have hlg:=Jan (l:=l) (k:=P.num.toNat) default (by omega)
   refine qbb ?_
   refine Ja2 (by first | exact Jag tb rfl rfl rfl rfl (by first | assumption | exact zr (by simp)) (i:=k) (by first | rfl | omega | (simp;omega)) (by omega) | exact Jal tb rfl rfl rfl rfl (i:=k) (by first | rfl | omega | (simp;omega)) (by omega)) rfl ?_
   refine qdx ?_
   refine qaq ?_
   intro b10
   refine Xbm ?_
   refine qbm ?_
   refine qab ?_
   refine Xaa ?_
   refine Ja2 (Jak tb (p) _ rfl rfl rfl rfl (by assumption) (i:=P.road.fr.toNat) (by first | rfl | omega | (simp;omega)) (by first | omega | (dsimp only;omega) | (dsimp only;rw [List.length_set];omega) | (dsimp only;simp only [List.length_set];omega))) rfl ?_
   refine Ja2 (Jaz tb (p) rfl rfl rfl (by repeat (first | apply OSeg.cons | exact OSeg.here | exact OSeg.last | exact OSeg.at (by assumption) | apply OSeg.app)) (by assumption) (fun _=>rfl) (by assumption) (by rfl)) rfl ?_
   refine qaf ?_
   refine q_c (fun hc2=>?_) (fun hc2=>?_)
   ·
    have hrf:nothingS=Jb2 a s b A P.num.toNat:=by rw [Jb2,if_neg (by rw [hPo];decide),← hef,if_neg (by simpa using hc2)]
    refine qae ?_
    refine Xcw ?_
    refine qcd ?_
    refine Ja2 (Jak tb ((⟨.own b20 a.mine.roads.l.length [],l⟩:OwL XSpan)) _ rfl rfl ((show _=Value.slice _ _ _ from rfl).trans (Jed hll)) rfl (by assumption) (i:=P.num.toNat) (by first | rfl | omega | (simp;omega)) (by first | omega | (dsimp only;omega) | (dsimp only;rw [List.length_set];omega) | (dsimp only;simp only [List.length_set];omega))) rfl ?_
    refine Jfa (Jdv tb ((⟨.own b20 a.mine.roads.l.length [],l⟩:OwL XSpan)) (nothingS) rfl rfl rfl rfl (by repeat (first | apply OSeg.cons | exact OSeg.here | exact OSeg.last | exact OSeg.at (by assumption) | apply OSeg.app)) (by assumption) (fun _=>rfl) (by assumption) (Nat.le_of_ble_eq_true rfl) (by rfl) (by rfl)) ?_
    rintro v L' R' ⟨rfl,rfl⟩
    refine Ja9 (Jaa (Jb6 (Jbk (Ja6 (Jaa (Jaf ?_))))))
    refine Xan ?_
    exact q_k ⟨(k + 1,l.set P.num.toNat _),by dsimp only;omega,w2.next hP (by omega) hrf⟩
   have hrf:(⟨Jb3 (Jj7 P) (b.low.l.getD P.road.fr.toNat 0 - b.high.l.getD P.road.to.toNat 0),Jbs (Jj7 P) (b.high.l.getD P.road.fr.toNat 0 - b.low.l.getD P.road.to.toNat 0)⟩:XSpan)=Jb2 a s b A P.num.toNat:=by rw [Jb2,if_neg (by rw [hPo];decide),← hef,← het,if_pos (by simpa using hc2),hdr]
   refine Ja3 (Jaa ?_)
   refine Ja8 tb [] [0,1,2,3,4,5,6,7,8,9,10,11,12,13,14,15,16,17,18,20,21,22,23,24,25,26,27,28,29,30,31,32,33,34,35,19,36,37,38] [39] ([Blk.mk b10 _ _,Blk.mk b5 _ _]) _ Jbn (by kernel_rfl) (by repeat (first | exact zs0 _ | exact zs1 _ | apply zs2 | apply zs3 | apply zs4 | apply zs5)) (List.Sublist.refl _) ?_
   refine Xdz ?_
   refine J55 ?_
   refine Xaf ?_
   refine Xcz ?_
   refine J7x ?_
   refine qci ?_
   refine Xaf ?_
   refine Xcz ?_
   refine J70 ?_
   refine qci ?_
   refine qcc ?_
   refine J55 ?_
   refine Xaf ?_
   refine Xcz ?_
   refine J7x ?_
   refine qci ?_
   refine Xaf ?_
   refine Xcz ?_
   refine J70 ?_
   refine qci ?_
   refine qcc ?_
   refine Jbl rfl (Jkk P (b.low.l.getD P.road.fr.toNat 0 - b.high.l.getD P.road.to.toNat 0) _ _ hPI hPk) rfl rfl ?_
   rintro v L' R' ⟨rfl,rfl,rfl⟩
   refine qas ?_
   refine Jbl rfl (Jiu P (b.high.l.getD P.road.fr.toNat 0 - b.low.l.getD P.road.to.toNat 0) _ _ hPI hPk) rfl rfl ?_
   rintro v L' R' ⟨rfl,rfl,rfl⟩
   refine qas ?_
   refine qcw ?_
   refine Jca (Jak tb ((⟨.own b20 a.mine.roads.l.length [],l⟩:OwL XSpan)) _ rfl rfl ((show _=Value.slice _ _ _ from rfl).trans (Jed hll)) rfl (by assumption) (i:=P.num.toNat) (by first | rfl | omega | (simp;omega)) (by first | omega | (dsimp only;omega) | (dsimp only;rw [List.length_set];omega) | (dsimp only;simp only [List.length_set];omega))) rfl rfl rfl rfl ?_
   refine qba ?_
   refine Jpj (Jdv tb ((⟨.own b20 a.mine.roads.l.length [],l⟩:OwL XSpan)) (⟨Jb3 (Jj7 P) (b.low.l.getD P.road.fr.toNat 0 - b.high.l.getD P.road.to.toNat 0),Jbs (Jj7 P) (b.high.l.getD P.road.fr.toNat 0 - b.low.l.getD P.road.to.toNat 0)⟩) rfl rfl rfl rfl (by repeat (first | apply OSeg.cons | exact OSeg.here | exact OSeg.last | exact OSeg.at (by assumption) | apply OSeg.app)) (by assumption) (fun _=>rfl) (by assumption) (Nat.le_of_ble_eq_true rfl) (by rfl) (by rfl)) rfl rfl ?_
   rintro v L' R' ⟨rfl,rfl⟩
   refine qa1 ?_
   refine qby ?_
   refine Xan ?_
   exact q_k ⟨(k + 1,l.set P.num.toNat _),by dsimp only;omega,w2.next hP (by omega) hrf⟩
  obtain rfl:k=n.pipes.l.length:=by omega
  refine Xb5 ?_
  refine q_r (L':=(⟨.own b20 a.mine.roads.l.length [],l⟩:OwL XSpan).L 46 XSpan.cells ++ L) (R':=Jjb n.pipes :: Jik n.at_ :: (S2 ++ (S1 ++ R))) (Jdi rfl (Jah (show _=Value.slice _ _ _ from rfl))) ?_
  exact ⟨(⟨.own b20 a.mine.roads.l.length [],l⟩:OwL XSpan),Jjb n.pipes :: Jik n.at_ :: (S2 ++ S1),Jed hll,hkq,by rw [Jb5,if_pos hck];exact w2.done hn,rfl,by simp [List.append_assoc]⟩
end Go.Proofs.YtihompplndcdeaaGreat
end
section
/-
  What is known of the air: airflow.Analyse and the reference's; the direction of a span. By an AI agent; no person has read it.
-/
namespace Go.Proofs.YtihompplndcdeaaGreat
open Go.Aw Go
set_option maxRecDepth 20000
attribute [local irreducible] CJ LJ DJ Tri YV Gives Jd5 Jbd Jbz Jd4 RV Jbf OwL.L
section
variable {A9 B9:Prop}
theorem J81 (h:B9:=by exact ⟨OwL.nil,by rw [Jgi,if_pos hc0];rfl,OwL.nil_ok,by rw [Jgi,if_pos hc0],by rw [Jcl,List.nil_append],rfl⟩):B9:=h
theorem J8y (a:A9) (h:A9→B9:=by exact Ja2 (by first | exact Jag tb rfl rfl rfl rfl (by first | assumption | exact zr (by simp)) (i:=k) (by first | rfl | omega | (simp;omega)) (by omega) | exact Jal tb rfl rfl rfl rfl (i:=k) (by first | rfl | omega | (simp;omega)) (by omega)) rfl):B9:=h a
theorem J54 (a:A9) (h:A9→B9:=by exact Jfo (Jav (qs:=[(0,(Value.agg _).cells.toList)]) (out:=[_,_]) tb rfl rfl rfl rfl rfl rfl rfl) rfl):B9:=h a
theorem J76 (a:A9) (h:A9→B9:=by exact Jfo (Jap (f:=XSpan.cells) (a:=⟨_,_⟩) tb rfl rfl rfl rfl (w2) (by repeat (first | apply OSeg.cons | exact OSeg.here | exact OSeg.last | exact OSeg.at (by assumption) | apply OSeg.app)) (Ja5 (by repeat (first | exact zi0 | apply zi1 | apply zi2)) rfl rfl) rfl (by first | omega | (simp only [List.length_cons,List.length_nil,List.length_append];omega))) rfl):B9:=h a
end
theorem Jie {a:XAir} {s:XSetting} {b b':XBounds} {A:List Bool} (h1:b.low.l=b'.low.l) (h2:b.high.l=b'.high.l):Jb5 a s b A=Jb5 a s b' A:=by
  have e1:Jcp a s b A=Jcp a s b' A:=funext fun i=>by rw [Jcp,Jcp,h1,h2]
  have e2:Jdb a s b A=Jdb a s b' A:=by rw [Jdb,Jdb,h1,h2,e1]
  have e3:Jb2 a s b A=Jb2 a s b' A:=funext fun i=>by rw [Jb2,Jb2,h1,h2]
  rw [Jb5,Jb5,e2,e3]
def Jig (a:XAir) (s:XSetting) (A:List Bool):XBounds:=⟨⟨none,0,(Jc1 a s A).2.1⟩,⟨none,0,(Jc1 a s A).2.2⟩⟩
def Jer (a:XAir) (k:Nat):XSpan:=if (a.mine.roads.l.getD k default).closed=true then ⟨0,0⟩ else nothingS
def Jgi (a:XAir) (s:XSetting) (A:List Bool):Int×List XSpan:=
  if Ja4 a≠0 then (Ja4 a,[]) else if Jdq a s=false then (21,[]) else if (Jc1 a s A).1=0 then (0,Jb5 a s (Jig a s A) A)
  else (0,(List.range a.mine.roads.l.length).map (Jer a))
theorem Jot (L:List Blk) (R:List Sl):
    Tri Tryz.prog 55 [].toArray L R (fun v L' R'=>v=nothingS.val∧L=L'∧R=R'):=by
  refine Jae 2 Tryz.call55 Tryz.func55 rfl rfl rfl ?_
  refine qae ?_
  refine qaq ?_
  intro b0
  refine qam ?_
  refine qcd ?_
  refine Xbh ?_
  refine q_r (L':=L) (R':=R) (Jdi rfl (Jax (row:=[_,_]) tb rfl rfl rfl (by repeat (first | exact zi0 | apply zi1 | apply zi2)) (by rfl) (by rfl))) ?_
  exact ⟨rfl,rfl,rfl⟩
structure BlindTo (a:XAir) (i:Nat) (l:List XSpan):Prop where
  len:l.length=a.mine.roads.l.length
  don:∀j:Nat,j < i→l[j]?=some (Jer a j)
  non:∀j:Nat,i≤j→j < a.mine.roads.l.length→l[j]?=some ⟨0,0⟩
theorem BlindTo.next {a:XAir} {i:Nat} {l:List XSpan} (h:BlindTo a i l) (hi:i < a.mine.roads.l.length) {x:XSpan} (hx:x=Jer a i):BlindTo a (i + 1) (l.set i x):=by
  have hl:=h.len
  refine ⟨by simp [hl],fun j hj=>?_,fun j h1 h2=>?_⟩
  · rw [List.getElem?_set]
    split
    · rename_i e;rw [if_pos (by omega),hx,e]
    · exact h.don j (by omega)
  · rw [List.getElem?_set_ne (by omega)]
    exact h.non j (by omega) h2
theorem BlindTo.stay {a:XAir} {i:Nat} {l:List XSpan} (h:BlindTo a i l) (hi:i < a.mine.roads.l.length) (hx:(⟨0,0⟩:XSpan)=Jer a i):BlindTo a (i + 1) l:=by
  refine ⟨h.len,fun j hj=>?_,fun j h1 h2=>h.non j (by omega) h2⟩
  rcases Nat.lt_or_ge j i with h1 | h1
  · exact h.don j h1
  · obtain rfl : j = i := by omega
    rw [h.non j (Nat.le_refl _) hi,hx]
theorem BlindTo.done {a:XAir} {l:List XSpan} (h:BlindTo a a.mine.roads.l.length l):l=(List.range a.mine.roads.l.length).map (Jer a):=by
  have hl:=h.len
  refine List.ext_getElem? fun j=>?_
  rcases Nat.lt_or_ge j a.mine.roads.l.length with hj | hj
  · rw [h.don j hj,List.getElem?_map,List.getElem?_range hj];rfl
  · rw [List.getElem?_eq_none (by omega),List.getElem?_eq_none (by simp;omega)]
theorem Jj3 (a:XAir) (s:XSetting) (A:List Bool) (L:List Blk) (R:List Sl) (hm:AirR a R) (hs:SetR s R) (hA:Ja4 a=0→AiryIs a.mine A):
    Tri Tryz.prog 32 [a.val,s.val].toArray L R (fun w L' R'=>∃p:OwL XSpan,w=.tuple #[p.val,.int .i64 (Jgi a s A).1]∧p.ok 2 XSpan.cells∧p.l=(Jgi a s A).2∧p.L 46 XSpan.cells ++ L=L'∧R=R'):=by
  have hmr:=hm.roads
  refine Jae 56 Tryz.call32 Tryz.func32 rfl rfl rfl ?_
  refine Xai ?_
  intro b2
  refine qax ?_
  intro b3
  refine Xc2 ?_
  refine qa8 ?_
  refine q_l rfl (Jea a _ _ hm) ?_
  refine Xbt ?_
  refine q_c (fun hc0=>?_) (fun hc0=>?_)
  ·
   refine Xc1 ?_
   refine Xbs ?_
   refine q_r (L':=L) (R':=R) (Jc8 rfl (Jah (show _=Value.slice _ _ _ from rfl)) (Jah (show _=Value.int _ _ from rfl))) ?_
   exact J81
  have h0:Ja4 a=0:=by omega
  have hok:=Jeg h0
  have hnp:=hok.mine.places
  have hnr:=hok.mine.roads
  refine Xdp ?_
  refine q_l rfl (Jfk a s _ _ hm hs) ?_
  refine Xbc ?_
  refine q_c (fun hc1=>?_) (fun hc1=>?_)
  ·
   refine Xcq ?_
   refine q_r (L':=L) (R':=R) (Jc8 rfl (Jah (show _=Value.slice _ _ _ from rfl)) (Jah (show _=Value.int _ _ from rfl))) ?_
   exact ⟨OwL.nil,by rw [Jgi,if_neg hc0,if_pos (by simpa using hc1)];rfl,OwL.nil_ok,by rw [Jgi,if_neg hc0,if_pos (by simpa using hc1)],by rw [Jcl,List.nil_append],rfl⟩
  have hf0:Jdq a s=true:=by simpa using hc1
  have hff:¬ Jdq a s=false:=by rw [hf0];decide
  refine Xdp ?_
  refine Jaq rfl (Jsz a s A _ _ hm hs hA (by omega)) rfl ?_
  rintro v L' R' ⟨lo,hi,rfl,h1,h2,h3,h4,rfl,rfl⟩
  refine Ja2 (Jar rfl) rfl ?_
  refine Xea ?_
  intro b7
  refine Xb1 ?_
  refine qa4 ?_
  refine Jby (A:=[_]) (wd:=1) [] (fun _=>rfl) (by decide) h1 (fun s hs=>by cases hs) ?_
  refine qb1 ?_
  refine Jby (A:=[_]) (wd:=1) [] (fun _=>rfl) (by decide) h2 (fun s hs=>by cases hs) ?_
  refine qb1 ?_
  have hR2:∀r∈R,InR r (isl hi.arr :: isl lo.arr :: R):=fun r hr=>Jab (by simp [hr])
  have hB2:BoundsR ⟨lo.arr,hi.arr⟩ (isl hi.arr :: isl lo.arr :: R):=⟨Jab (.tail _ (.head _)),Jab (.head _)⟩
  have hmr2:=hmr.mono hR2
  refine Xb7 ?_
  refine Xbq ?_
  refine q_c (fun hc2=>?_) (fun hc2=>?_)
  ·
   refine qae ?_
   refine Xck ?_
   refine Jaq rfl (Jyx a s ⟨lo.arr,hi.arr⟩ A _ _ (Jbm hm hR2) (Jbc hs hR2) hB2 hA) rfl ?_
   rintro v L' R' ⟨p,S,rfl,hpk,hpl,rfl,rfl⟩
   refine Xbs ?_
   refine Jbe (L':=p.L 46 XSpan.cells ++ L) (R':=R) (Jc8 rfl (Jah (show _=Value.slice _ _ _ from rfl)) (Jah (show _=Value.int _ _ from rfl))) ?hp ?hL ?hR
   case hp=>
    have ha:Jgi a s A=(0,Jb5 a s (Jig a s A) A):=by rw [Jgi,if_neg hc0,if_neg hff,if_pos hc2]
    exact ⟨p,by rw [ha];rfl,hpk,by rw [ha,hpl];exact Jie h3 h4,rfl,rfl⟩
   case hL=>exact (by repeat (first | exact zs0 _ | exact zs1 _ | apply zs2 | apply zs3 | apply zs4 | apply zs5))
   case hR=>exact fun r h=>Jab (by simp [h])
  refine qbv ?_
  refine Xa7 ?_
  refine qc7 ?_
  rintro v L' R' ⟨b37,rfl,rfl,hR37⟩
  replace hR37:=hR37.symm;subst hR37
  refine Xdo ?_
  refine Jg5 (Jf1 (f:=XSpan.cells) (x:=⟨0,0⟩) rfl _) ?_
  refine qay ?_
  refine Xa7 ?_
  refine Xaz ?_
  refine Jai [(9,Value.slice _ _ _),(40,Value.slice _ _ _),(41,Value.int _ _),(42,Value.int _ _)] (by repeat' (first | exact trivial | refine And.intro rfl ?_)) fun tq0=>?_
  refine q_p [10,11,42,43,44,45,46,47,48,49,50,51,52,53,54] ((⟨fun g=>[(42,.int .i64 ((g.1.1:Nat):Int))],fun g=>(⟨.own b37 a.mine.roads.l.length [],g.1.2⟩:OwL XSpan).L 46 XSpan.cells ++ (⟨b7,[lo.val,hi.val],114⟩ :: ⟨b3,s.cells,25⟩ :: ⟨b2,a.cells,35⟩ :: L),fun _=>isl hi.arr :: isl lo.arr :: R,fun g=>a.mine.roads.l.length - g.1.1⟩:Head {g:Nat×List XSpan // g.1≤a.mine.roads.l.length∧BlindTo a g.1 g.2})) (⟨(0,List.replicate a.mine.roads.l.length ⟨0,0⟩),by dsimp only;omega,⟨by simp,fun j hj=>by omega,fun j _ hj=>by rw [List.getElem?_replicate,if_pos hj]⟩⟩) ?_
  rintro ⟨⟨k,l⟩,w1,w2⟩ junk
  try dsimp only
  dsimp only at w1 w2
  have hll:=w2.len
  have hkq:(⟨.own b37 a.mine.roads.l.length [],l⟩:OwL XSpan).ok 2 XSpan.cells:=by have:=Jen (f:=XSpan.cells) (wd:=2) (b:=b37) (n:=a.mine.roads.l.length) (x:=⟨0,0⟩) (fun _=>rfl) (by simp only [maxLen];omega);exact OwL.len_ok (fun _=>rfl) this (by simp;exact hll)
  refine Xay ?_
  refine q_c (fun hc3=>?_) (fun hc3=>?_)
  ·
   have hrg:=Jan (l:=a.mine.roads.l) (k:=k) default (by omega)
   have hlg:=w2.non k (Nat.le_refl _) (by omega)
   refine Xb3 ?_
   refine J8y ?_
   refine Xda ?_
   intro b11
   refine qad ?_
   refine Xc0 ?_
   refine Xbc ?_
   refine q_c (fun hc4=>?_) (fun hc4=>?_)
   ·
    have hbf:nothingS=Jer a k:=by rw [Jer,if_neg (by simpa using hc4)]
    refine Xby ?_
    refine q_l rfl (Jot _ _) ?_
    refine Ja2 (Jak tb ((⟨.own b37 a.mine.roads.l.length [],l⟩:OwL XSpan)) _ rfl rfl ((show _=Value.slice _ _ _ from rfl).trans (Jed hll)) rfl (by assumption) (i:=k) (by first | rfl | omega | (simp;omega)) (by first | omega | (dsimp only;omega) | (dsimp only;rw [List.length_set];omega) | (dsimp only;simp only [List.length_set];omega))) rfl ?_
    refine Jfa (Jdv tb ((⟨.own b37 a.mine.roads.l.length [],l⟩:OwL XSpan)) (nothingS) rfl rfl rfl rfl (by repeat (first | apply OSeg.cons | exact OSeg.here | exact OSeg.last | exact OSeg.at (by assumption) | apply OSeg.app)) (by assumption) (fun _=>rfl) (by assumption) (Nat.le_of_ble_eq_true rfl) (by rfl) (by rfl)) ?_
    rintro v L' R' ⟨rfl,rfl⟩
    refine Xbj ?_
    exact q_k ⟨(k + 1,l.set k nothingS),by dsimp only;omega,w2.next (by omega) hbf⟩
   have hbf:(⟨0,0⟩:XSpan)=Jer a k:=by rw [Jer,if_pos (by simpa using hc4)]
   refine Xa6 ?_
   exact q_k ⟨(k + 1,l),by dsimp only;omega,w2.stay (by omega) hbf⟩
  obtain rfl:k=a.mine.roads.l.length:=by omega
  refine Xbp ?_
  refine Xce ?_
  refine Jbe (L':=(⟨.own b37 a.mine.roads.l.length [],l⟩:OwL XSpan).L 46 XSpan.cells ++ L) (R':=R) (Jc8 rfl (Jah (show _=Value.slice _ _ _ from rfl)) (Jah (show _=Value.int _ _ from rfl))) ?hp ?hL ?hR
  case hp=>
   have ha:Jgi a s A=(0,(List.range a.mine.roads.l.length).map (Jer a)):=by rw [Jgi,if_neg hc0,if_neg hff,if_neg hc2]
   exact ⟨(⟨.own b37 a.mine.roads.l.length [],l⟩:OwL XSpan),by rw [ha];simp only [OwL.val,Ow.addr,Ow.cap,hll],hkq,by rw [ha];exact w2.done,rfl,rfl⟩
  case hL=>exact (by repeat (first | exact zs0 _ | exact zs1 _ | apply zs2 | apply zs3 | apply zs4 | apply zs5))
  case hR=>exact fun r h=>Jab (by simp [h])
theorem Jjv (a:XAir) (s:XSetting) (A:List Bool) (L:List Blk) (R:List Sl) (hm:AirR a R) (hs:SetR s R) (hA:Ja4 a=0→AiryIs a.mine A):
    Tri Tryz.prog 34 [a.val,s.val].toArray L R (fun w L' R'=>∃p:OwL XSpan,w=.tuple #[p.val,.int .i64 (Jgi a s A).1]∧p.ok 2 XSpan.cells∧p.l=(Jgi a s A).2∧p.L 46 XSpan.cells ++ L=L'∧R=R'):=by
  have hmr:=hm.roads
  refine Jae 56 Tryz.call34 Tryz.func34 rfl rfl rfl ?_
  refine Xai ?_
  intro b2
  refine qax ?_
  intro b3
  refine Xc2 ?_
  refine qa8 ?_
  refine q_l rfl (Jes a _ _ hm) ?_
  refine Xbt ?_
  refine q_c (fun hc0=>?_) (fun hc0=>?_)
  ·
   refine Xc1 ?_
   refine Xbs ?_
   refine q_r (L':=L) (R':=R) (Jc8 rfl (Jah (show _=Value.slice _ _ _ from rfl)) (Jah (show _=Value.int _ _ from rfl))) ?_
   exact J81
  have h0:Ja4 a=0:=by omega
  have hok:=Jeg h0
  have hnp:=hok.mine.places
  have hnr:=hok.mine.roads
  refine Xdp ?_
  refine q_l rfl (Jdg a s _ _ hm hs) ?_
  refine Xbc ?_
  refine q_c (fun hc1=>?_) (fun hc1=>?_)
  ·
   refine Xcq ?_
   refine q_r (L':=L) (R':=R) (Jc8 rfl (Jah (show _=Value.slice _ _ _ from rfl)) (Jah (show _=Value.int _ _ from rfl))) ?_
   have hf1:Jdq a s=false:=by simpa [Jdn,h0] using hc1
   exact ⟨OwL.nil,by rw [Jgi,if_neg hc0,if_pos hf1];rfl,OwL.nil_ok,by rw [Jgi,if_neg hc0,if_pos hf1],by rw [Jcl,List.nil_append],rfl⟩
  have hf0:Jdq a s=true:=by simpa [Jdn,h0] using hc1
  have hff:¬ Jdq a s=false:=by rw [hf0];decide
  refine qbv ?_
  refine Xap ?_
  refine Jaq rfl (Jp2 a s A _ _ hm hs hA (by omega)) rfl ?_
  rintro v L' R' ⟨lo,hi,rfl,h1,h2,h3,h4,rfl,rfl⟩
  refine Ja2 (Jar rfl) rfl ?_
  refine Xea ?_
  intro b7
  refine Xb1 ?_
  refine qco ?_
  refine Jby (A:=[_]) (wd:=1) [] (fun _=>rfl) (by decide) h1 (fun s hs=>by cases hs) ?_
  refine qb1 ?_
  refine Jby (A:=[_]) (wd:=1) [] (fun _=>rfl) (by decide) h2 (fun s hs=>by cases hs) ?_
  refine qb1 ?_
  have hR2:∀r∈R,InR r (isl hi.arr :: isl lo.arr :: R):=fun r hr=>Jab (by simp [hr])
  have hB2:BoundsR ⟨lo.arr,hi.arr⟩ (isl hi.arr :: isl lo.arr :: R):=⟨Jab (.tail _ (.head _)),Jab (.head _)⟩
  have hmr2:=hmr.mono hR2
  refine Xb7 ?_
  refine Xbq ?_
  refine q_c (fun hc2=>?_) (fun hc2=>?_)
  ·
   refine qae ?_
   refine Xck ?_
   refine Jaq rfl (Js9 a s ⟨lo.arr,hi.arr⟩ A _ _ (Jbm hm hR2) (Jbc hs hR2) hB2 hA) rfl ?_
   rintro v L' R' ⟨p,rfl,hpk,hpl,rfl,rfl⟩
   refine Xbs ?_
   refine Jbe (L':=p.L 46 XSpan.cells ++ L) (R':=R) (Jc8 rfl (Jah (show _=Value.slice _ _ _ from rfl)) (Jah (show _=Value.int _ _ from rfl))) ?hp ?hL ?hR
   case hp=>
    have ha:Jgi a s A=(0,Jb5 a s (Jig a s A) A):=by rw [Jgi,if_neg hc0,if_neg hff,if_pos hc2]
    exact ⟨p,by rw [ha];rfl,hpk,by rw [ha,hpl];exact Jie h3 h4,rfl,rfl⟩
   case hL=>exact (by repeat (first | exact zs0 _ | exact zs1 _ | apply zs2 | apply zs3 | apply zs4 | apply zs5))
   case hR=>exact fun r h=>Jab (by simp [h])
  refine qbv ?_
  refine Xc9 ?_
  refine Jai [(2,Value.pointer _),(9,Value.slice _ _ _),(10,Value.int _ _)] (by repeat' (first | exact trivial | refine And.intro rfl ?_)) fun tq0=>?_
  refine Jb0 [9,10,11,33,34,35,36,37,38,39,40,41,42,43,44,45,46,47,48,49,50,51,52,53,54] ((⟨fun g=>[(10,.int .i64 ((g.1.1:Nat):Int)),(9,g.1.2.val)],fun g=>g.1.2.L 46 XSpan.cells ++ (⟨b7,[lo.val,hi.val],114⟩ :: ⟨b3,s.cells,25⟩ :: ⟨b2,a.cells,35⟩ :: L),fun _=>isl hi.arr :: isl lo.arr :: R,fun g=>a.mine.roads.l.length - g.1.1⟩:Head {g:Nat×OwL XSpan // g.1≤a.mine.roads.l.length∧g.2.ok 2 XSpan.cells∧g.2.l=(List.range g.1).map (Jer a)})) (⟨(0,OwL.nil),by dsimp only;omega,OwL.nil_ok,rfl⟩) (by repeat' (first | exact trivial | refine And.intro rfl ?_)) (by dsimp only;rw [Jcl,List.nil_append];exact List.Sublist.refl _) (Jac _) ?_
  rintro ⟨⟨k,q⟩,w1,w2,w3⟩ junk
  try dsimp only
  dsimp only at w1 w2 w3
  have hql:q.l.length=k:=by rw [w3];simp
  refine Xaq ?_
  refine Xa7 ?_
  refine Xao ?_
  refine q_c (fun hc3=>?_) (fun hc3=>?_)
  ·
   have hrg:=Jan (l:=a.mine.roads.l) (k:=k) default (by omega)
   refine qbb ?_
   refine qck ?_
   refine qaq ?_
   intro b11
   refine Xbm ?_
   refine Xd3 ?_
   refine J8y ?_
   refine Xba ?_
   refine Xbc ?_
   refine q_c (fun hc4=>?_) (fun hc4=>?_)
   ·
    have hbf:Jer a k=nothingS:=by rw [Jer,if_neg (by simpa using hc4)]
    refine qay ?_
    refine q_l rfl (Jnx _ _) ?_
    refine qak ?_
    refine Ja9 (Jaa (Jaf ?_))
    refine qbm ?_
    refine qbe ?_
    refine J54 ?_
    rintro v L' R' ⟨b53,rfl,rfl,hR53⟩
    replace hR53:=hR53.symm;subst hR53
    refine J76 ?_
    rintro v L' R' ⟨o54,rfl,hok54,rfl,rfl⟩
    refine Xcd ?_
    exact q_k ⟨(k + 1,(⟨o54,_⟩:OwL XSpan)),by dsimp only;omega,hok54,by dsimp only;rw [List.range_succ,List.map_append,w3];simp only [List.map_cons,List.map_nil,hbf];try rfl⟩
   have hbf:Jer a k=⟨0,0⟩:=by rw [Jer,if_pos (by simpa using hc4)]
   refine Ja3 (Jaa (Jaf ?_))
   refine qbm ?_
   refine qbe ?_
   refine J54 ?_
   rintro v L' R' ⟨b53,rfl,rfl,hR53⟩
   replace hR53:=hR53.symm;subst hR53
   refine J76 ?_
   rintro v L' R' ⟨o54,rfl,hok54,rfl,rfl⟩
   refine Xcd ?_
   exact q_k ⟨(k + 1,(⟨o54,_⟩:OwL XSpan)),by dsimp only;omega,hok54,by dsimp only;rw [List.range_succ,List.map_append,w3];simp only [List.map_cons,List.map_nil,hbf];try rfl⟩
  obtain rfl:k=a.mine.roads.l.length:=by omega
  refine Xbp ?_
  refine Xce ?_
  refine Jbe (L':=q.L 46 XSpan.cells ++ L) (R':=R) (Jc8 rfl (Jah (show _=Value.slice _ _ _ from rfl)) (Jah (show _=Value.int _ _ from rfl))) ?hp ?hL ?hR
  case hp=>
   have ha:Jgi a s A=(0,(List.range a.mine.roads.l.length).map (Jer a)):=by rw [Jgi,if_neg hc0,if_neg hff,if_neg hc2]
   exact ⟨q,by rw [ha];rfl,w2,by rw [ha];exact w3,rfl,rfl⟩
  case hL=>exact (by repeat (first | exact zs0 _ | exact zs1 _ | apply zs2 | apply zs3 | apply zs4 | apply zs5))
  case hR=>exact fun r h=>Jab (by simp [h])
def Jua (x:XSpan):Int:=if x.high < x.low then 0 else if 0 < x.low then 1 else if x.high < 0 then -1 else 0
theorem Jlj (x:XSpan) (L:List Blk) (R:List Sl):
    Tri Tryz.prog 56 [x.val].toArray L R (fun v L' R'=>v=.int .i64 (Jua x)∧L=L'∧R=R'):=by
  refine Jae 17 Tryz.call56 Tryz.func56 rfl rfl rfl ?_
  refine Xai ?_
  intro b1
  refine qad ?_
  refine Ja9 (Jaa (Jam (Ja1 (Jam (Jaf ?_)))))
  refine Xa3 ?_
  refine qa5 ?_
  refine Xbg ?_
  refine q_c (fun hc0=>?_) (fun hc0=>?_)
  ·
   refine Xd1 ?_
   refine q_i (L':=L) (R':=R) ?_
   exact ⟨by rw [Jua,if_pos hc0],rfl,rfl⟩
  refine qae ?_
  refine Xdf ?_
  refine Xbg ?_
  refine q_c (fun hc1=>?_) (fun hc1=>?_)
  ·
   refine Xd1 ?_
   refine q_i (L':=L) (R':=R) ?_
   exact ⟨by rw [Jua,if_neg (by omega),if_pos hc1],rfl,rfl⟩
  refine qae ?_
  refine Xaa ?_
  refine qaj ?_
  refine Xbg ?_
  refine q_c (fun hc2=>?_) (fun hc2=>?_)
  ·
   refine Xd1 ?_
   refine q_i (L':=L) (R':=R) ?_
   exact ⟨by rw [Jua,if_neg (by omega),if_neg (by omega),if_pos hc2],rfl,rfl⟩
  refine Ja3 (Jao (Jaa (Jam (Jaf ?_))))
  refine Xbe ?_
  refine q_i (L':=L) (R':=R) ?_
  exact ⟨by rw [Jua,if_neg (by omega),if_neg (by omega),if_neg (by omega)],rfl,rfl⟩
theorem Jid (x:XSpan) (L:List Blk) (R:List Sl):
    Tri Tryz.prog 35 [x.val].toArray L R (fun v L' R'=>v=.int .i64 (Jua x)∧L=L'∧R=R'):=by
  refine Jae 14 Tryz.call35 Tryz.func35 rfl rfl rfl ?_
  refine Xai ?_
  intro b1
  refine Xa5 ?_
  refine Xa3 ?_
  refine Xb9 ?_
  refine q_c (fun hc0=>?_) (fun hc0=>?_)
  ·
   refine Xbl ?_
   refine q_i (L':=L) (R':=R) ?_
   exact ⟨by rw [Jua,if_pos hc0],rfl,rfl⟩
  refine qbo ?_
  refine Xaa ?_
  refine Xb9 ?_
  refine q_c (fun hc1=>?_) (fun hc1=>?_)
  ·
   refine Xbl ?_
   refine q_i (L':=L) (R':=R) ?_
   exact ⟨by rw [Jua,if_neg (by omega),if_pos hc1],rfl,rfl⟩
  refine qbo ?_
  refine Xaa ?_
  refine Xao ?_
  refine q_c (fun hc2=>?_) (fun hc2=>?_)
  ·
   refine Xbl ?_
   refine q_i (L':=L) (R':=R) ?_
   exact ⟨by rw [Jua,if_neg (by omega),if_neg (by omega),if_pos hc2],rfl,rfl⟩
  refine qbv ?_
  refine Xbe ?_
  refine q_i (L':=L) (R':=R) ?_
  exact ⟨by rw [Jua,if_neg (by omega),if_neg (by omega),if_neg (by omega)],rfl,rfl⟩
end Go.Proofs.YtihompplndcdeaaGreat
end
