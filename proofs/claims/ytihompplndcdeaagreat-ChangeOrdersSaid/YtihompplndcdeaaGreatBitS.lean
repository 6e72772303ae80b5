import Derived.Test.YtihompplndcdeaaGreatJudge
import Derived.Test.YtihompplndcdeaaGreatApp0
section
/-
  change.Compare, and the reference's; the reference's Steps. By an AI agent; no person has read it.
-/
namespace Go.Proofs.YtihompplndcdeaaGreat
open Go.Aw Go
set_option maxRecDepth 20000
attribute [local irreducible] CJ LJ DJ Tri YV Gives Jd5 Jbd Jbz Jd4 RV Jbf OwL.L
section
variable {A9 B9:Prop}
theorem Jyr (a:A9) (h:A9→B9:=by exact Ja2 (Jbx (qs:=[]) (out:=[_,_,_,_]) tb rfl rfl rfl rfl) rfl):B9:=h a
theorem J2n (a:A9) (h:A9→B9:=by exact Jca (Jbh (row:=[_,_]) tb rfl rfl rfl (by repeat (first | exact zi0 | apply zi1 | apply zi2)) (by rfl) (by rfl)) rfl rfl rfl rfl):B9:=h a
theorem J7j (a:A9) (h:A9→B9:=by exact Ja2 (by first | exact Jag tb rfl rfl rfl rfl (by first | assumption | exact zr (by simp)) (i:=i) (by first | rfl | omega | (simp;omega)) (by omega) | exact Jal tb rfl rfl rfl rfl (i:=i) (by first | rfl | omega | (simp;omega)) (by omega)) rfl):B9:=h a
theorem J87 (a:A9) (h:A9→B9:=by exact Jbb tb [0,1,2,3,4,5,6,7,8,9,10] ([Blk.mk b5 _ _,Blk.mk b4 _ _]) Jbn (by kernel_rfl) (by repeat (first | exact zs0 _ | exact zs1 _ | apply zs2 | apply zs3 | apply zs4 | apply zs5))):B9:=h a
theorem J8u (a:A9) (h:A9→B9:=by exact Jbu (by first | exact Jag tb rfl rfl rfl rfl (by first | assumption | exact zr (by simp)) (i:=k2) (by first | rfl | omega | (simp;omega)) (by omega) | exact Jal tb rfl rfl rfl rfl (i:=k2) (by first | rfl | omega | (simp;omega)) (by omega)) rfl rfl rfl):B9:=h a
end
def J1e (a:XAir) (s:XSetting) (b:XAir) (t:XSetting) (fc:List XFace) (A B:List Bool) (Cf Cg:List Int):XVerd:=
  if Jpo a s b t=0 then Jzq a.mine (Jgi a s A).2 b.mine (Jgi b t B).2 fc A B Cf Cg else ⟨[],[],[],[]⟩
theorem Jle {a b:XAir} {s t:XSetting}:Jpo a s b t=0↔Jw6 a s=0∧Jw6 b t=0∧a.mine.places.l.length≤b.mine.places.l.length∧a.mine.roads.l.length≤b.mine.roads.l.length:=by
  rw [Jpo]
  constructor
  · intro h
    split at h
    · omega
    split at h
    · omega
    split at h
    · cases h
    omega
  · rintro ⟨h1, h2, h3, h4⟩
    rw [if_neg (by omega),if_neg (by omega),if_neg (by omega)]
theorem Jjh {a b:XAir} {s t:XSetting} {fc:List XFace} {A B:List Bool} {Cf Cg:List Int} (h:Jpo a s b t≠0):J1e a s b t fc A B Cf Cg=VerdO.nil.get:=by rw [J1e,if_neg h];rfl
theorem Jhc {a:XAir} (h:Ja4 a=0):Jbv a.mine=0:=by
  rw [Ja4] at h
  split at h
  · exact h
  · rename_i h2;exact Decidable.not_not.1 h2
theorem Jkl (a b : XAir) (s t : XSetting) (fc : Arr XFace) (A B : List Bool) (Cf Cg : List Int) (L : List Blk) (R : List Sl) (ha : AirR a R) (hs : SetR s R) (hb : AirR b R) (ht : SetR t R) (hfc : InR (Jqk fc) R)
    (hneed:Jfp fc.l) (hnc:fc.l.length≤1000) (hA:Ja4 a=0→AiryIs a.mine A) (hB:Ja4 b=0→AiryIs b.mine B) (hCf:CircIs a.mine (Jgi a s A).2 Cf) (hCg:CircIs b.mine (Jgi b t B).2 Cg):
    Tri Tryz.prog 11 [a.val,s.val,b.val,t.val,fc.val].toArray L R (fun w L' R'=>∃p:VerdO,w=.tuple #[p.val,.int .i64 (Jpo a s b t)]∧p.Ok∧p.get=J1e a s b t fc.l A B Cf Cg∧p.L L=L'∧R=R'):=by
  refine Jae 64 Tryz.call11 Tryz.func11 rfl rfl rfl ?_
  refine Xai ?_
  intro b5
  refine qax ?_
  intro b6
  refine qax ?_
  intro b7
  refine qax ?_
  intro b8
  refine qaq ?_
  intro b10
  refine Xal ?_
  refine Xap ?_
  refine Jaq rfl (Jj3 a s A _ _ ha hs hA) rfl ?_
  rintro v L' R' ⟨p,rfl,hpk,hpl,rfl,rfl⟩
  rw [Jna]
  refine Ja2 (Jar rfl) rfl ?_
  refine Xau ?_
  refine Xar ?_
  refine qco ?_
  refine Jby (A:=[]) (wd:=2) [] (fun _=>rfl) (by decide) hpk (fun s hs=>by cases hs) ?_
  refine Jg5 (by simp only [List.nil_append];rfl) ?_
  have hR1:∀r∈R,InR r (Jl8 p.arr :: R):=fun r hr=>Jab (.tail _ hr)
  refine Xb7 ?_
  refine Xaw ?_
  refine q_c (fun hc0=>?_) (fun hc0=>?_)
  ·
   refine qae ?_
   refine Jyr ?_
   refine Xc4 ?_
   refine Jbe (L':=L) (R':=R) (Jc8 rfl (Jax (row:=[_,_,_,_]) tb rfl rfl rfl (by repeat (first | exact zi0 | apply zi1 | apply zi2)) (by rfl) (by rfl)) (Jah (show _=Value.int _ _ from rfl))) ?hp ?hL ?hR
   case hp=>
    have he:Jpo a s b t=Jw6 a s:=by rw [Jpo,if_pos hc0]
    exact ⟨VerdO.nil,by rw [he];rfl,VerdO.nil_ok,(Jjh (by rw [he];exact hc0)).symm,VerdO.Lnil,rfl⟩
   case hL=>exact (by repeat (first | exact zs0 _ | exact zs1 _ | apply zs2 | apply zs3 | apply zs4 | apply zs5))
   case hR=>exact hR1
  have ha0:=Jfs.1 (Decidable.not_not.1 hc0)
  refine qbv ?_
  refine Xap ?_
  refine Jaq rfl (Jj3 b t B _ _ (Jbm hb hR1) (Jbc ht hR1) hB) rfl ?_
  rintro v L' R' ⟨q,rfl,hqk,hql,rfl,rfl⟩
  rw [Jna]
  refine Ja2 (Jar rfl) rfl ?_
  refine Xau ?_
  refine Xar ?_
  refine qco ?_
  refine Jby (A:=[]) (wd:=2) [] (fun _=>rfl) (by decide) hqk (fun s hs=>by cases hs) ?_
  refine Jg5 (by simp only [List.nil_append];rfl) ?_
  have hR2:∀r∈R,InR r (Jl8 q.arr :: Jl8 p.arr :: R):=fun r hr=>Jab (.tail _ (.tail _ hr))
  refine Xb7 ?_
  refine Xaw ?_
  refine q_c (fun hc1=>?_) (fun hc1=>?_)
  ·
   refine qae ?_
   refine Jyr ?_
   refine Xc4 ?_
   refine Jbe (L':=L) (R':=R) (Jc8 rfl (Jax (row:=[_,_,_,_]) tb rfl rfl rfl (by repeat (first | exact zi0 | apply zi1 | apply zi2)) (by rfl) (by rfl)) (Jah (show _=Value.int _ _ from rfl))) ?hp ?hL ?hR
   case hp=>
    have he:Jpo a s b t=Jw6 b t:=by rw [Jpo,if_neg hc0,if_pos hc1]
    exact ⟨VerdO.nil,by rw [he];rfl,VerdO.nil_ok,(Jjh (by rw [he];exact hc1)).symm,VerdO.Lnil,rfl⟩
   case hL=>exact (by repeat (first | exact zs0 _ | exact zs1 _ | apply zs2 | apply zs3 | apply zs4 | apply zs5))
   case hR=>exact hR2
  have hb0:=Jfs.1 (Decidable.not_not.1 hc1)
  have ha1:=Jbm ha hR2
  have hb1:=Jbm hb hR2
  refine qbo ?_
  refine Xa7 ?_
  refine Xa7 ?_
  refine Xa9 ?_
  apply Jbw (G:=[_,_,_,_,_,_,_,_,_]) (j:=9) (cj:=44) rfl rfl (by rfl) rfl (show _=Value.bool _ from rfl) rfl
  ·
   intro hg10
   replace hg10:=qb hg10
   refine Xa7 ?_
   refine Xa7 ?_
   refine qaj ?_
   exact qai
  intro junk10
  refine qaf ?_
  refine q_c (fun hc2=>?_) (fun hc2=>?_)
  ·
   refine qae ?_
   refine Jyr ?_
   refine Xcf ?_
   refine Jbe (L':=L) (R':=R) (Jc8 rfl (Jax (row:=[_,_,_,_]) tb rfl rfl rfl (by repeat (first | exact zi0 | apply zi1 | apply zi2)) (by rfl) (by rfl)) (Jah (show _=Value.int _ _ from rfl))) ?hp ?hL ?hR
   case hp=>
    have he:Jpo a s b t=11:=by rw [Jpo,if_neg hc0,if_neg hc1,if_pos (by omega)]
    exact ⟨VerdO.nil,by rw [he];rfl,VerdO.nil_ok,(Jjh (by rw [he];decide)).symm,VerdO.Lnil,rfl⟩
   case hL=>exact (by repeat (first | exact zs0 _ | exact zs1 _ | apply zs2 | apply zs3 | apply zs4 | apply zs5))
   case hR=>exact hR2
  have he:Jpo a s b t=0:=Jle.2 ⟨by omega,by omega,by omega,by omega⟩
  have hpn:p.l.length=a.mine.roads.l.length:=by rw [hpl];exact Jl1 ha0.1 ha0.2 (hA ha0.1)
  have hqn:q.l.length=b.mine.roads.l.length:=by rw [hql];exact Jl1 hb0.1 hb0.2 (hB hb0.1)
  refine qbv ?_
  refine Xbu ?_
  refine qbm ?_
  refine Xbu ?_
  refine qbm ?_
  refine qbm ?_
  refine Jaq rfl (Jtb a.mine b.mine p.arr q.arr fc A B Cf Cg _ _ ha1.mineR hb1.mineR (Jab (.tail _ (.head _))) (Jab (.head _)) (hfc.mono hR2) (Jhc ha0.1) (Jhc hb0.1) hpn hqn (by omega) hneed hnc (hA ha0.1) (hB hb0.1) (by show CircIs a.mine p.l Cf;rw [hpl];exact hCf) (by show CircIs b.mine q.l Cg;rw [hql];exact hCg)) rfl ?_
  rintro v L' R' ⟨z,rfl,hzk,hzg,rfl,rfl⟩
  refine qak ?_
  refine Xbe ?_
  refine Jbe (L':=z.L L) (R':=R) (Jc8 rfl (Jax (row:=[_,_,_,_]) tb rfl rfl rfl (by repeat (first | exact zi0 | apply zi1 | apply zi2)) (by rfl) (by rfl)) (Jah (show _=Value.int _ _ from rfl))) ?hp ?hL ?hR
  case hp=>exact ⟨z,by rw [he],hzk,by rw [hzg,J1e,if_pos he,← hpl,← hql],rfl,rfl⟩
  case hL=>exact (by repeat (first | exact zs0 _ | exact zs1 _ | apply zs2 | apply zs3 | apply zs4 | apply zs5))
  case hR=>exact hR2
theorem Jgz (a b : XAir) (s t : XSetting) (fc : Arr XFace) (A B : List Bool) (Cf Cg : List Int) (L : List Blk) (R : List Sl) (ha : AirR a R) (hs : SetR s R) (hb : AirR b R) (ht : SetR t R) (hfc : InR (Jqk fc) R)
    (hneed:Jfp fc.l) (hnc:fc.l.length≤1000) (hA:Ja4 a=0→AiryIs a.mine A) (hB:Ja4 b=0→AiryIs b.mine B) (hCf:CircIs a.mine (Jgi a s A).2 Cf) (hCg:CircIs b.mine (Jgi b t B).2 Cg):
    Tri Tryz.prog 12 [a.val,s.val,b.val,t.val,fc.val].toArray L R (fun w L' R'=>∃p:VerdO,w=.tuple #[p.val,.int .i64 (Jpo a s b t)]∧p.Ok∧p.get=J1e a s b t fc.l A B Cf Cg∧p.L L=L'∧R=R'):=by
  refine Jae 139 Tryz.call12 Tryz.func12 rfl rfl rfl ?_
  refine Xai ?_
  intro b5
  refine qax ?_
  intro b6
  refine qax ?_
  intro b7
  refine qax ?_
  intro b8
  refine qaq ?_
  intro b10
  refine Xal ?_
  refine Xap ?_
  refine Jaq rfl (Jjv a s A _ _ ha hs hA) rfl ?_
  rintro v L' R' ⟨p,rfl,hpk,hpl,rfl,rfl⟩
  rw [Jna]
  refine Ja2 (Jar rfl) rfl ?_
  refine Xau ?_
  refine Xar ?_
  refine qco ?_
  refine Jby (A:=[]) (wd:=2) [] (fun _=>rfl) (by decide) hpk (fun s hs=>by cases hs) ?_
  refine Jg5 (by simp only [List.nil_append];rfl) ?_
  have hR1:∀r∈R,InR r (Jl8 p.arr :: R):=fun r hr=>Jab (.tail _ hr)
  refine Xb7 ?_
  refine Xaw ?_
  refine q_c (fun hc0=>?_) (fun hc0=>?_)
  ·
   refine qae ?_
   refine Jyr ?_
   refine Xc4 ?_
   refine Jbe (L':=L) (R':=R) (Jc8 rfl (Jax (row:=[_,_,_,_]) tb rfl rfl rfl (by repeat (first | exact zi0 | apply zi1 | apply zi2)) (by rfl) (by rfl)) (Jah (show _=Value.int _ _ from rfl))) ?hp ?hL ?hR
   case hp=>
    have he:Jpo a s b t=Jw6 a s:=by rw [Jpo,if_pos hc0]
    exact ⟨VerdO.nil,by rw [he];rfl,VerdO.nil_ok,(Jjh (by rw [he];exact hc0)).symm,VerdO.Lnil,rfl⟩
   case hL=>exact (by repeat (first | exact zs0 _ | exact zs1 _ | apply zs2 | apply zs3 | apply zs4 | apply zs5))
   case hR=>exact hR1
  have ha0:=Jfs.1 (Decidable.not_not.1 hc0)
  refine qbv ?_
  refine Xap ?_
  refine Jaq rfl (Jjv b t B _ _ (Jbm hb hR1) (Jbc ht hR1) hB) rfl ?_
  rintro v L' R' ⟨q,rfl,hqk,hql,rfl,rfl⟩
  rw [Jna]
  refine Ja2 (Jar rfl) rfl ?_
  refine Xau ?_
  refine Xar ?_
  refine qco ?_
  refine Jby (A:=[]) (wd:=2) [] (fun _=>rfl) (by decide) hqk (fun s hs=>by cases hs) ?_
  refine Jg5 (by simp only [List.nil_append];rfl) ?_
  have hR2:∀r∈R,InR r (Jl8 q.arr :: Jl8 p.arr :: R):=fun r hr=>Jab (.tail _ (.tail _ hr))
  refine Xb7 ?_
  refine Xaw ?_
  refine q_c (fun hc1=>?_) (fun hc1=>?_)
  ·
   refine qae ?_
   refine Jyr ?_
   refine Xc4 ?_
   refine Jbe (L':=L) (R':=R) (Jc8 rfl (Jax (row:=[_,_,_,_]) tb rfl rfl rfl (by repeat (first | exact zi0 | apply zi1 | apply zi2)) (by rfl) (by rfl)) (Jah (show _=Value.int _ _ from rfl))) ?hp ?hL ?hR
   case hp=>
    have he:Jpo a s b t=Jw6 b t:=by rw [Jpo,if_neg hc0,if_pos hc1]
    exact ⟨VerdO.nil,by rw [he];rfl,VerdO.nil_ok,(Jjh (by rw [he];exact hc1)).symm,VerdO.Lnil,rfl⟩
   case hL=>exact (by repeat (first | exact zs0 _ | exact zs1 _ | apply zs2 | apply zs3 | apply zs4 | apply zs5))
   case hR=>exact hR2
  have hb0:=Jfs.1 (Decidable.not_not.1 hc1)
  have ha1:=Jbm ha hR2
  have hb1:=Jbm hb hR2
  refine qbo ?_
  refine Xa7 ?_
  refine Xa7 ?_
  refine Xa9 ?_
  apply Jbw (G:=[_,_,_,_,_,_,_,_,_]) (j:=9) (cj:=50) rfl rfl (by rfl) rfl (show _=Value.bool _ from rfl) rfl
  ·
   intro hg10
   replace hg10:=qb hg10
   refine Xa7 ?_
   refine Xa7 ?_
   refine qaj ?_
   exact qai
  intro junk10
  refine qaf ?_
  refine q_c (fun hc2=>?_) (fun hc2=>?_)
  ·
   refine qae ?_
   refine Jyr ?_
   refine Xcf ?_
   refine Jbe (L':=L) (R':=R) (Jc8 rfl (Jax (row:=[_,_,_,_]) tb rfl rfl rfl (by repeat (first | exact zi0 | apply zi1 | apply zi2)) (by rfl) (by rfl)) (Jah (show _=Value.int _ _ from rfl))) ?hp ?hL ?hR
   case hp=>
    have he:Jpo a s b t=11:=by rw [Jpo,if_neg hc0,if_neg hc1,if_pos (by omega)]
    exact ⟨VerdO.nil,by rw [he];rfl,VerdO.nil_ok,(Jjh (by rw [he];decide)).symm,VerdO.Lnil,rfl⟩
   case hL=>exact (by repeat (first | exact zs0 _ | exact zs1 _ | apply zs2 | apply zs3 | apply zs4 | apply zs5))
   case hR=>exact hR2
  have he:Jpo a s b t=0:=Jle.2 ⟨by omega,by omega,by omega,by omega⟩
  have hpn:p.l.length=a.mine.roads.l.length:=by rw [hpl];exact Jl1 ha0.1 ha0.2 (hA ha0.1)
  have hqn:q.l.length=b.mine.roads.l.length:=by rw [hql];exact Jl1 hb0.1 hb0.2 (hB hb0.1)
  have hva:=Jhc ha0.1
  have hvb:=Jhc hb0.1
  have hra:=(Jd1 hva).roads
  have hrb:=(Jd1 hvb).roads
  have hpa:=(Jd1 hva).places
  have hpb:=(Jd1 hvb).places
  obtain ⟨R1,hR1e⟩:∃R1,R1=Jl8 q.arr :: Jl8 p.arr :: R:=⟨_,rfl⟩
  have hfl:InR (Jl8 p.arr) R1:=Jab (by rw [hR1e];exact .tail _ (.head _))
  have hgl:InR (Jl8 q.arr) R1:=Jab (by rw [hR1e];exact .head _)
  rw [← hR1e] at hR2 ha1 hb1
  have hfc1:=hfc.mono hR2
  have hcl:=hCg.len
  have hll:=Jej B b.mine.places.l.length
  have hCf':CircIs a.mine p.l Cf:=by rw [hpl];exact hCf
  have hCg':CircIs b.mine q.l Cg:=by rw [hql];exact hCg
  have hA':=hA ha0.1
  have hB':=hB hb0.1
  refine qcl ?_
  refine J2x (show _=R1 by rw [hR1e]) ?_
  refine qay ?_
  refine qaq ?_
  intro b15
  refine qaw ?_
  refine Xas ?_
  refine Jai [(4,Value.slice _ _ _),(5,Value.pointer _),(7,Value.pointer _),(10,Value.pointer _),(12,Value.slice _ _ _),(14,Value.slice _ _ _),(15,Value.pointer _),(16,Value.int _ _)] (by repeat' (first | exact trivial | refine And.intro rfl ?_)) fun tq0=>?_
  refine Jb0 [16,17,62,63,64,65,66,67,68,69,70,71,72,73,74,75,76,77,78,79,80,81,82,83,84,85,86,87,88,89] ((⟨fun g=>[(16,.int .i64 ((g.1.1:Nat):Int))],fun g=>g.1.2.L 3 Jad ++ (⟨b15,[g.1.2.val,Value.slice none 0 0,Value.slice none 0 0,Value.slice none 0 0],56⟩ :: ⟨b10,[Value.slice none 0 0,Value.slice none 0 0,Value.slice none 0 0,Value.slice none 0 0],56⟩ :: ⟨b8,t.cells,25⟩ :: ⟨b7,b.cells,35⟩ :: ⟨b6,s.cells,25⟩ :: ⟨b5,a.cells,35⟩ :: L),fun _=>R1,fun g=>p.l.length - g.1.1⟩:Head {g:Nat×OwL Int // g.1≤p.l.length∧g.2.ok 1 Jad∧g.2.l=Jms (Jvy p.l q.l) g.1})) (⟨(0,OwL.nil),by dsimp only;omega,OwL.nil_ok,rfl⟩) (by repeat' (first | exact trivial | refine And.intro rfl ?_)) (by dsimp only;rw [Jcl,List.nil_append];exact List.Sublist.refl _) (Jac _) ?_
  rintro ⟨⟨i,u⟩,w1,w2,w3⟩ junk
  try dsimp only
  dsimp only at w1 w2 w3
  have hul:=Jf4 (P:=Jvy p.l q.l) i
  rw [← w3] at hul
  refine Xcg ?_
  refine q_c (fun hc3=>?_) (fun hc3=>?_)
  ·
   have hg1:=Jan (l:=p.l) (k:=i) default (by omega)
   have hg2:=Jan (l:=q.l) (k:=i) default (by omega)
   refine qbb ?_
   refine Xad ?_
   refine J7j ?_
   refine qdl ?_
   refine q_l rfl (Jid (p.l.getD i default) _ _) ?_
   refine Xav ?_
   refine Xcp ?_
   apply Jcd (G:=[_,_,_,_,_,_,_]) (j:=2) (cj:=75) rfl rfl (by rfl) rfl (show _=Value.bool _ from rfl) rfl
   ·
    intro hg3
    replace hg3:=qb hg3
    refine Xad ?_
    refine J7j ?_
    refine qdl ?_
    refine q_l rfl (Jid (q.l.getD i default) _ _) ?_
    refine qaa ?_
    refine qbq ?_
    exact qai
   intro junk3
   refine qaf ?_
   refine q_c (fun hc4=>?_) (fun hc4=>?_)
   ·
    refine qay ?_
    refine Xak ?_
    refine qcx ?_
    rintro v L' R' ⟨b87,rfl,rfl,hR87⟩
    replace hR87:=hR87.symm;subst hR87
    refine Jfo (Jap (f:=Jad) (p:=u) (a:=(i:Int)) tb rfl rfl rfl rfl (w2) (by repeat (first | apply OSeg.cons | exact OSeg.here | exact OSeg.last | exact OSeg.at (by assumption) | apply OSeg.app)) (Ja5 (by repeat (first | exact zi0 | apply zi1 | apply zi2)) rfl rfl) rfl (by first | omega | (simp only [List.length_cons,List.length_nil,List.length_append];omega))) rfl ?_
    rintro v L' R' ⟨o88,rfl,hok88,rfl,rfl⟩
    refine Xcy ?_
    refine Xa8 ?_
    exact q_k ⟨(i + 1,(⟨o88,_⟩:OwL Int)),by dsimp only;omega,hok88,by dsimp only;rw [Jhy (Jni.2 hc4),w3]⟩
   refine Xa1 ?_
   exact q_k ⟨(i + 1,u),by dsimp only;omega,w2,by dsimp only;rw [Jkt (Jw4 fun h=>by have:=Jni.1 h;omega),w3]⟩
  obtain rfl:i=p.l.length:=by omega
  rw [hpn] at w3
  refine Xbp ?_
  refine qbm ?_
  refine Jaq rfl (Joc p.arr fc _ _ hfl hfc1 hneed hnc (show p.l.length≤1000 by omega)) rfl ?_
  rintro v L' R' ⟨q1,rfl,hq1,hl1,rfl,rfl⟩
  refine qbm ?_
  refine qbm ?_
  refine Jaq rfl (Joc q.arr fc _ _ hgl hfc1 hneed hnc (show q.l.length≤1000 by omega)) rfl ?_
  rintro v L' R' ⟨q2,rfl,hq2,hl2,rfl,rfl⟩
  have hn1:q1.l.length=fc.l.length:=by rw [hl1];simp [Jww]
  have hn2:q2.l.length=fc.l.length:=by rw [hl2];simp [Jww]
  refine qc4 ?_
  refine Xc9 ?_
  refine Jai [(5,Value.pointer _),(7,Value.pointer _),(10,Value.pointer _),(12,Value.slice _ _ _),(14,Value.slice _ _ _),(15,Value.pointer _),(18,Value.slice _ _ _),(19,Value.slice _ _ _),(20,Value.int _ _)] (by repeat' (first | exact trivial | refine And.intro rfl ?_)) fun tq1=>?_
  refine Jb0 [20,96,97,98,99,100,101,102,103,104,105,106,107,108,109,110,111,112,113,114,115,116,117,118,119] ((⟨fun g=>[(20,.int .i64 ((g.1.1:Nat):Int))],fun g=>g.1.2.L 3 Jad ++ (q2.L 3 Jad ++ (q1.L 3 Jad ++ (u.L 3 Jad ++ (⟨b15,[u.val,g.1.2.val,Value.slice none 0 0,Value.slice none 0 0],56⟩ :: ⟨b10,[Value.slice none 0 0,Value.slice none 0 0,Value.slice none 0 0,Value.slice none 0 0],56⟩ :: ⟨b8,t.cells,25⟩ :: ⟨b7,b.cells,35⟩ :: ⟨b6,s.cells,25⟩ :: ⟨b5,a.cells,35⟩ :: L)))),fun _=>R1,fun g=>fc.l.length - g.1.1⟩:Head {g:Nat×OwL Int // g.1≤fc.l.length∧g.2.ok 1 Jad∧g.2.l=Jms (Jva p.l q.l fc.l) g.1})) (⟨(0,OwL.nil),by dsimp only;omega,OwL.nil_ok,rfl⟩) (by repeat' (first | exact trivial | refine And.intro rfl ?_)) (by dsimp only;rw [Jcl,List.nil_append];exact List.Sublist.refl _) (Jac _) ?_
  rintro ⟨⟨j,r⟩,v1,v2,v3⟩ junk
  try dsimp only
  dsimp only at v1 v2 v3
  have hrl:=Jf4 (P:=Jva p.l q.l fc.l) j
  rw [← v3] at hrl
  refine Xcg ?_
  refine q_c (fun hc5=>?_) (fun hc5=>?_)
  ·
   have hg1:=Jan (l:=q1.l) (k:=j) 0 (by omega)
   have hg2:=Jan (l:=q2.l) (k:=j) 0 (by omega)
   refine qbb ?_
   refine Xad ?_
   refine Ja2 (Jak tb (q1) _ rfl rfl rfl rfl (by assumption) (i:=j) (by first | rfl | omega | (simp;omega)) (by first | omega | (dsimp only;omega) | (dsimp only;rw [List.length_set];omega) | (dsimp only;simp only [List.length_set];omega))) rfl ?_
   refine Ja2 (Jaz tb (q1) rfl rfl rfl (by repeat (first | apply OSeg.cons | exact OSeg.here | exact OSeg.last | exact OSeg.at (by assumption) | apply OSeg.app)) (by assumption) (fun _=>rfl) (by assumption) (by rfl)) rfl ?_
   refine qbn ?_
   refine qah ?_
   apply Jcd (G:=[_,_,_,_,_]) (j:=5) (cj:=107) rfl rfl (by rfl) rfl (show _=Value.bool _ from rfl) rfl
   ·
    intro hg6
    replace hg6:=qb hg6
    refine Xad ?_
    refine Ja2 (Jak tb (q2) _ rfl rfl rfl rfl (by assumption) (i:=j) (by first | rfl | omega | (simp;omega)) (by first | omega | (dsimp only;omega) | (dsimp only;rw [List.length_set];omega) | (dsimp only;simp only [List.length_set];omega))) rfl ?_
    refine Ja2 (Jaz tb (q2) rfl rfl rfl (by repeat (first | apply OSeg.cons | exact OSeg.here | exact OSeg.last | exact OSeg.at (by assumption) | apply OSeg.app)) (by assumption) (fun _=>rfl) (by assumption) (by rfl)) rfl ?_
    refine qbq ?_
    exact qai
   intro junk6
   refine qaf ?_
   refine q_c (fun hc6=>?_) (fun hc6=>?_)
   ·
    refine qay ?_
    refine Xak ?_
    refine qcx ?_
    rintro v L' R' ⟨b117,rfl,rfl,hR117⟩
    replace hR117:=hR117.symm;subst hR117
    refine Jfo (Jap (f:=Jad) (p:=r) (a:=(j:Int)) tb rfl rfl rfl rfl (v2) (by repeat (first | apply OSeg.cons | exact OSeg.here | exact OSeg.last | exact OSeg.at (by assumption) | apply OSeg.app)) (Ja5 (by repeat (first | exact zi0 | apply zi1 | apply zi2)) rfl rfl) rfl (by first | omega | (simp only [List.length_cons,List.length_nil,List.length_append];omega))) rfl ?_
    rintro v L' R' ⟨o118,rfl,hok118,rfl,rfl⟩
    refine Xcy ?_
    refine Xa8 ?_
    exact q_k ⟨(j + 1,(⟨o118,_⟩:OwL Int)),by dsimp only;omega,hok118,by dsimp only;rw [Jhy (Jnk.2 (by rw [show Jww p.l fc.l=q1.l from hl1.symm,show Jww q.l fc.l=q2.l from hl2.symm];exact hc6)),v3]⟩
   refine Xa1 ?_
   exact q_k ⟨(j + 1,r),by dsimp only;omega,v2,by dsimp only;rw [Jkt (Jw4 fun h=>by have h':=Jnk.1 h;rw [show Jww p.l fc.l=q1.l from hl1.symm,show Jww q.l fc.l=q2.l from hl2.symm] at h';omega),v3]⟩
  obtain rfl:j=fc.l.length:=by omega
  refine qc3 ?_
  refine Ja8 tb [] [0,1,2,4,5,6,3,7,8,9] [10] ([Blk.mk b7 _ _,Blk.mk b5 _ _]) _ Jbn (by kernel_rfl) (by repeat (first | exact zs0 _ | exact zs1 _ | apply zs2 | apply zs3 | apply zs4 | apply zs5)) (by (repeat (first | apply List.Sublist.cons (a:=Blk.mk b15 _ _) | apply List.Sublist.cons_cons));exact List.Sublist.refl _) ?_
  refine qan ?_
  refine J2n ?_
  refine qct ?_
  refine qan ?_
  refine J2n ?_
  refine qct ?_
  refine Jbl rfl (Jqv b.mine q.arr _ _ hb1.mineR hgl hvb hqn) rfl rfl ?_
  rintro v L' R' ⟨c1,rfl,hc1k,hC1,rfl,rfl⟩
  refine qas ?_
  refine Jbl rfl (Jqv a.mine p.arr _ _ ha1.mineR hfl hva hpn) rfl rfl ?_
  rintro v L' R' ⟨c2,rfl,hc2k,hC2,rfl,rfl⟩
  refine qas ?_
  have e1:=hC1.unique hCg'
  have e2:=hC2.unique hCf'
  refine Jbl rfl (Jn6 (A:=_) (by repeat (first | exact Jaw | apply Jau | apply Jba)) (by repeat (first | exact Jaw | apply Jau | apply Jba)) hc1k hc2k (by rw [e1];omega)) rfl rfl ?_
  rintro v L' R' ⟨c3,rfl,hc3k,hC3,rfl,rfl⟩
  refine qas ?_
  refine Xcb ?_
  refine qbw ?_
  refine qb9 ?_
  refine Ja8 tb [] [0,1,3,4,2,5,6,7] [8] ([Blk.mk b7 _ _,Blk.mk b5 _ _]) _ Jbn (by kernel_rfl) (by repeat (first | exact zs0 _ | exact zs1 _ | apply zs2 | apply zs3 | apply zs4 | apply zs5)) (by (repeat (first | apply List.Sublist.cons (a:=Blk.mk b15 _ _) | apply List.Sublist.cons_cons));exact List.Sublist.refl _) ?_
  refine qan ?_
  refine J2n ?_
  refine qan ?_
  refine J2n ?_
  refine Jbl rfl (Jlf b.mine _ _ hb1.mineR hvb) rfl rfl ?_
  rintro v L' R' ⟨d1,B1,rfl,hd1k,hB1,hD1,rfl,rfl⟩
  refine qas ?_
  refine Jbl rfl (Jlf a.mine _ _ ha1.mineR hva) rfl rfl ?_
  rintro v L' R' ⟨d2,A1,rfl,hd2k,hA1,hD2,rfl,rfl⟩
  refine qas ?_
  rw [Jhn hB' hB1] at hD1
  rw [Jhn hA' hA1] at hD2
  refine Jbl rfl (Jn6 (A:=_) (by repeat (first | exact Jaw | apply Jau | apply Jba)) (by repeat (first | exact Jaw | apply Jau | apply Jba)) hd1k hd2k (by rw [hD1];omega)) rfl rfl ?_
  rintro v L' R' ⟨d3,rfl,hd3k,hD3,rfl,rfl⟩
  refine qas ?_
  refine Xcb ?_
  refine qbw ?_
  refine Jbt (Jaa (Jam (Jaf ?_)))
  refine qa8 ?_
  refine qak ?_
  refine Xbe ?_
  refine Jbe (L':=VerdO.L ⟨u,r,c3,d3⟩ L) (R':=R) (Jc8 rfl (Jax (row:=[_,_,_,_]) tb rfl rfl rfl (by repeat (first | exact zi0 | apply zi1 | apply zi2)) (by rfl) (by rfl)) (Jah (show _=Value.int _ _ from rfl))) ?hp ?hL ?hR
  case hp=>exact ⟨⟨u,r,c3,d3⟩,by rw [he];rfl,⟨w2,v2,hc3k,hd3k⟩,by rw [J1e,if_pos he,← hpl,← hql,VerdO.get,Jzq];dsimp only;rw [w3,v3,hC3,hD3,e1,e2,hD1,hD2],rfl,rfl⟩
  case hL=>exact (by repeat (first | exact zs0 _ | exact zs1 _ | apply zs2 | apply zs3 | apply zs4 | apply zs5))
  case hR=>exact hR2
theorem Jfw (a:XAir) (s t:XSetting) (L:List Blk) (R:List Sl) (hm:AirR a R) (hs:SetR s R) (ht:SetR t R):
    Tri Tryz.prog 22 [a.val,s.val,t.val].toArray L R (fun v L' R'=>∃p:OwL Int,v=p.val∧p.ok 1 Jad∧p.l=Jmp a s t∧p.L 3 Jad ++ L=L'∧R=R'):=by
  have hsf:=hs.fans
  have hsd:=hs.doors
  have htf:=ht.fans
  have htd:=ht.doors
  refine Jae 69 Tryz.call22 Tryz.func22 rfl rfl rfl ?_
  refine Xai ?_
  intro b3
  refine qax ?_
  intro b4
  refine qax ?_
  intro b5
  refine Xa4 ?_
  refine Xap ?_
  refine q_l rfl (Jdg a s _ _ hm hs) ?_
  refine Xdx ?_
  apply Jbw (G:=[_,_,_,_]) (j:=4) (cj:=14) rfl rfl (by rfl) rfl (show _=Value.bool _ from rfl) rfl
  ·
   intro hg5
   replace hg5:=qb hg5
   refine Xap ?_
   refine q_l rfl (Jdg a t _ _ hm ht) ?_
   refine qb4 ?_
   exact qai
  intro junk5
  refine qaf ?_
  refine q_c (fun hc0=>?_) (fun hc0=>?_)
  ·
   refine Xd5 ?_
   refine qbh ?_
   refine q_r (L':=L) (R':=R) (Jdi rfl (Jah (show _=Value.slice _ _ _ from rfl))) ?_
   exact ⟨.nil,rfl,OwL.nil_ok,by rw [Jmp,if_neg (by rintro ⟨h1,h2⟩;rcases hc0 with h | h;rw [h1] at h;cases h;rw [h2] at h;cases h)],by rw [Jcl];rfl,rfl⟩
  have hz:=Jrj hc0.1 hc0.2
  refine qbv ?_
  refine Xc9 ?_
  refine Jai [(4,Value.pointer _),(5,Value.pointer _),(7,Value.slice _ _ _),(8,Value.int _ _)] (by repeat' (first | exact trivial | refine And.intro rfl ?_)) fun tq0=>?_
  refine Jb0 [7,8,20,21,22,23,24,25,26,27,28,29,30,31,32,33,34,35,36,37,38,39,40,41] ((⟨fun g=>[(8,.int .i64 ((g.1.1:Nat):Int)),(7,g.1.2.val)],fun g=>g.1.2.L 3 Jad ++ (⟨b5,t.cells,25⟩ :: ⟨b4,s.cells,25⟩ :: L),fun _=>R,fun g=>s.fans.l.length - g.1.1⟩:Head {g:Nat×OwL Int // g.1≤s.fans.l.length∧g.2.ok 1 Jad∧g.2.l=Jms (Jsh s.fans.l t.fans.l) g.1})) (⟨(0,OwL.nil),by dsimp only;omega,OwL.nil_ok,by rfl⟩) (by repeat' (first | exact trivial | refine And.intro rfl ?_)) (by dsimp only;rw [Jcl,List.nil_append];exact (by repeat (first | exact zs0 _ | exact zs1 _ | apply zs2 | apply zs3 | apply zs4 | apply zs5))) (Jac _) ?_
  rintro ⟨⟨k,p⟩,w1,w2,w3⟩ junk
  try dsimp only
  dsimp only at w1 w2 w3
  have hpl:=Jf4 (P:=Jsh s.fans.l t.fans.l) k
  rw [← w3] at hpl
  refine Xbo ?_
  refine q_c (fun hc1=>?_) (fun hc1=>?_)
  ·
   have hg1:=Jan (l:=s.fans.l) (k:=k) 0 (by omega)
   have hg2:=Jan (l:=t.fans.l) (k:=k) 0 (by omega)
   refine Ja3 (Jaa (Jam (Ja1 (Jam ?_))))
   refine J87 ?_
   refine Xa0 ?_
   refine qds ?_
   refine qbl ?_
   refine Xa0 ?_
   refine qds ?_
   refine qbl ?_
   refine Jbu (Jll rfl rfl) rfl rfl rfl ?_
   refine qbu ?_
   refine q_c (fun hc2=>?_) (fun hc2=>?_)
   ·
    refine Xby ?_
    refine qcx ?_
    rintro v L' R' ⟨b40,rfl,rfl,hR40⟩
    replace hR40:=hR40.symm;subst hR40
    refine Jfo (Jap (f:=Jad) (p:=p) (a:=(k:Int)) tb rfl rfl rfl rfl (w2) (by repeat (first | apply OSeg.cons | exact OSeg.here | exact OSeg.last | exact OSeg.at (by assumption) | apply OSeg.app)) (Ja5 (by repeat (first | exact zi0 | apply zi1 | apply zi2)) rfl rfl) rfl (by first | omega | (simp only [List.length_cons,List.length_nil,List.length_append];omega))) rfl ?_
    rintro v L' R' ⟨o41,rfl,hok41,rfl,rfl⟩
    refine Xcd ?_
    exact q_k ⟨(k + 1,(⟨o41,_⟩:OwL Int)),by dsimp only;omega,hok41,by dsimp only;rw [Jhy (Jio.2 hc2),w3]⟩
   refine Xa1 ?_
   exact q_k ⟨(k + 1,p),by dsimp only;omega,w2,by dsimp only;rw [Jkt (by cases h:Jsh s.fans.l t.fans.l k with | false=>rfl | true=>exact absurd (Jio.1 h) hc2),w3]⟩
  obtain rfl:k=s.fans.l.length:=by omega
  have hp0:p.l=Jvk (Jaj s) (Jaj t) 0:=by rw [w3,Jvk,Jms];simp
  refine qcf ?_
  refine Xas ?_
  refine Jai [(4,Value.pointer _),(5,Value.pointer _),(7,Value.slice _ _ _),(9,Value.int _ _)] (by repeat' (first | exact trivial | refine And.intro rfl ?_)) fun tq1=>?_
  refine q_p [7,9,42,43,44,45,46,47,48,49,50,51,52,53,54,55,56,57,58,59,60,61,62,63,64,65,66,67] ((⟨fun g=>[(9,.int .i64 ((g.1.1:Nat):Int)),(7,g.1.2.val)],fun g=>g.1.2.L 3 Jad ++ (⟨b5,t.cells,25⟩ :: ⟨b4,s.cells,25⟩ :: L),fun _=>R,fun g=>s.doors.l.length - g.1.1⟩:Head {g:Nat×OwL Int // g.1≤s.doors.l.length∧g.2.ok 1 Jad∧g.2.l=Jvk (Jaj s) (Jaj t) g.1})) (⟨(0,p),by dsimp only;omega,w2,hp0⟩) ?_
  rintro ⟨⟨k2,q⟩,v1,v2,v3⟩ junk
  try dsimp only
  dsimp only at v1 v2 v3
  have hql:=Jw5 (Jaj s) (Jaj t) k2
  rw [← v3] at hql
  dsimp only [Jaj] at hql
  refine Xbo ?_
  refine q_c (fun hc3=>?_) (fun hc3=>?_)
  ·
   have hg1:=Jan (l:=s.doors.l) (k:=k2) 0 (by omega)
   have hg2:=Jan (l:=t.doors.l) (k:=k2) 0 (by omega)
   refine Ja3 (Jaa (Jam (Ja1 (Jam ?_))))
   refine J87 ?_
   refine Xa0 ?_
   refine J8u ?_
   refine qbl ?_
   refine Xa0 ?_
   refine J8u ?_
   refine qbl ?_
   refine Jbu (Jll rfl rfl) rfl rfl rfl ?_
   refine qbu ?_
   refine q_c (fun hc4=>?_) (fun hc4=>?_)
   ·
    refine qay ?_
    refine qbm ?_
    refine Xab ?_
    refine qaa ?_
    refine qar ?_
    refine qcx ?_
    rintro v L' R' ⟨b66,rfl,rfl,hR66⟩
    replace hR66:=hR66.symm;subst hR66
    refine Jfo (Jap (f:=Jad) (p:=q) (a:=(s.fans.l.length:Int) + k2) tb rfl rfl rfl rfl (v2) (by repeat (first | apply OSeg.cons | exact OSeg.here | exact OSeg.last | exact OSeg.at (by assumption) | apply OSeg.app)) (Ja5 (by repeat (first | exact zi0 | apply zi1 | apply zi2)) rfl rfl) rfl (by first | omega | (simp only [List.length_cons,List.length_nil,List.length_append];omega))) rfl ?_
    rintro v L' R' ⟨o67,rfl,hok67,rfl,rfl⟩
    refine Xcd ?_
    exact q_k ⟨(k2 + 1,(⟨o67,_⟩:OwL Int)),by dsimp only;omega,hok67,by dsimp only;rw [Jxd (Jio.2 hc4),v3]⟩
   refine Xa1 ?_
   exact q_k ⟨(k2 + 1,q),by dsimp only;omega,v2,by dsimp only;rw [J0m (by cases h:Jsh (Jaj s).2 (Jaj t).2 k2 with | false=>rfl | true=>exact absurd (Jio.1 h) hc4),v3]⟩
  obtain rfl:k2=s.doors.l.length:=by omega
  refine Xb5 ?_
  refine q_r (L':=q.L 3 Jad ++ L) (R':=R) (Jdi rfl (Jah (show _=Value.slice _ _ _ from rfl))) ?_
  exact ⟨q,rfl,v2,by rw [v3,Jmp,if_pos hc0];rfl,rfl,rfl⟩
end Go.Proofs.YtihompplndcdeaaGreat
end
section
/-
  Bits of small numbers: shifts of one, 'and', 'or'. By an AI agent; no person has read it.
-/
namespace Go.Proofs.YtihompplndcdeaaGreat
open Go.Aw Go
theorem J1w:∀d:Fin 8,∀i:Fin 3,IntKind.i64.wrap ((BitVec.ofInt IntKind.i64.bits (d.val:Int) &&& BitVec.ofInt IntKind.i64.bits ((2 ^ i.val:Nat):Int)).toNat:Int)=if Jm0 d.val i.val=true then ((2 ^ i.val:Nat):Int) else 0:=by decide
theorem J4t:∀d:Fin 8,∀i:Fin 3,Jm0 d.val i.val=false→IntKind.i64.wrap ((BitVec.ofInt IntKind.i64.bits (d.val:Int) ||| BitVec.ofInt IntKind.i64.bits ((2 ^ i.val:Nat):Int)).toNat:Int)=((d.val + 2 ^ i.val:Nat):Int):=by decide
theorem J2p:∀i:Fin 8,IntKind.i64.wrap (1 * 2 ^ (min ((i.val:Int)).toNat IntKind.i64.bits))=((2 ^ i.val:Nat):Int):=by decide
section
variable {P:Program} {ρ:Operand→Value} {L:List Blk} {R:List Sl} {dst:Option Tmp} {ty:TypeId} {pos:String} {after:Array Edge} {guard:Option (Nat×Bool)} {T T2:TypeId} {x y z:Operand} {a b c:Int} {k:IntKind}
theorem Jzb:∀i:Fin 8,IntKind.i64.wrap (2 ^ i.val)=((2 ^ i.val:Nat):Int):=by decide
theorem J3s {i:Nat} (hi:i < 8) (hx:ρ x=.int .i64 1) (hy:ρ y=.int k (i:Int)):YV P ⟨dst,.binOp .shl T x y T2,ty,pos,after,guard⟩ ρ L R (.int .i64 ((2 ^ i:Nat):Int)):=fun _ _ _=>by
  have hw:=Jzb ⟨i,hi⟩
  have hb:Op.shift .shl .i64 1 k (i:Int)=(pure (.int .i64 ((2 ^ i:Nat):Int)):Sem Value):=by
    unfold Op.shift
    rw [if_neg (by omega)]
    have:=J2p ⟨i,hi⟩
    dsimp only at this ⊢
    rw [this]
  dsimp only at hw
  generalize ((2 ^ i:Nat):Int)=m at *
  simp [execOp,hx,hy,eqGuard,binOp,hb,hw]
theorem J4p {d i:Nat} (hd:d < 8) (hi:i < 3) (hx:ρ x=.int .i64 (d:Int)) (hy:ρ y=.int .i64 ((2 ^ i:Nat):Int)):YV P ⟨dst,.binOp .and T x y T2,ty,pos,after,guard⟩ ρ L R (.int .i64 (if Jm0 d i=true then ((2 ^ i:Nat):Int) else 0)):=fun _ _ _=>by
  have hb:Op.intBits .and .i64 (d:Int) ((2 ^ i:Nat):Int)=(pure (.int .i64 (if Jm0 d i=true then ((2 ^ i:Nat):Int) else 0)):Sem Value):=by
    unfold Op.intBits
    dsimp only
    rw [J1w ⟨d,hd⟩ ⟨i,hi⟩]
  generalize ((2 ^ i:Nat):Int)=m at *
  simp [execOp,hx,hy,eqGuard,binOp,hb]
theorem J50 {d i:Nat} (hd:d < 8) (hi:i < 3) (hb:Jm0 d i=false) (hx:ρ x=.int .i64 (d:Int)) (hy:ρ y=.int .i64 ((2 ^ i:Nat):Int)):YV P ⟨dst,.binOp .or T x y T2,ty,pos,after,guard⟩ ρ L R (.int .i64 ((d + 2 ^ i:Nat):Int)):=fun _ _ _=>by
  have hb:Op.intBits .or .i64 (d:Int) ((2 ^ i:Nat):Int)=(pure (.int .i64 ((d + 2 ^ i:Nat):Int)):Sem Value):=by
    unfold Op.intBits
    dsimp only
    rw [J4t ⟨d,hd⟩ ⟨i,hi⟩ hb]
  generalize ((d + 2 ^ i:Nat):Int)=m2 at *
  generalize ((2 ^ i:Nat):Int)=m at *
  simp [execOp,hx,hy,eqGuard,binOp,hb]
end
end Go.Proofs.YtihompplndcdeaaGreat
end
