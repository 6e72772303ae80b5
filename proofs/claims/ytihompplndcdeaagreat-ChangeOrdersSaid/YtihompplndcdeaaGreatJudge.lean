import Derived.Test.YtihompplndcdeaaGreatApp0
import Derived.Test.YtihompplndcdeaaGreatHasC
section
/-
  change.news, Harmless, differ, Steps, and the reference's; the reference's places that are cut off. By an AI agent; no person has read it.
-/
namespace Go.Proofs.YtihompplndcdeaaGreat
open Go.Aw Go
set_option maxRecDepth 20000
attribute [local irreducible] CJ LJ DJ Tri YV Gives Jd5 Jbd Jbz Jd4 RV Jbf OwL.L
section
variable {A9 B9:Prop}
theorem J36 (a:A9) (h:A9→B9:=by exact Ja2 (by first | exact Jag tb rfl rfl rfl rfl (by first | assumption | exact zr (by simp)) (i:=k) (by first | rfl | omega | (simp;omega)) (by omega) | exact Jal tb rfl rfl rfl rfl (i:=k) (by first | rfl | omega | (simp;omega)) (by omega)) rfl):B9:=h a
theorem J59 (a:A9) (h:A9→B9:=by exact Jfo (Jap (f:=Jad) (p:=p) (a:=x.l.getD k 0) tb rfl rfl rfl rfl (w2) (by repeat (first | apply OSeg.cons | exact OSeg.here | exact OSeg.last | exact OSeg.at (by assumption) | apply OSeg.app)) (Ja5 (by repeat (first | exact zi0 | apply zi1 | apply zi2)) rfl rfl) rfl (by first | omega | (simp only [List.length_cons,List.length_nil,List.length_append];omega))) rfl):B9:=h a
theorem J7g (h:B9:=by exact Tri.post_perm h2 fun v L'' R' ⟨L',e,⟨z,a1,a2,a3,a4⟩,a5⟩=>⟨z.L 3 Jad ++ A,by rw [← e,← a4,List.append_nil];exact List.perm_append_comm,z,a1,a2,a3,rfl,a5⟩):B9:=h
theorem J7c (a:A9) (h:A9→B9:=by exact Jbb tb [0,1,2,3,4,5,6,7,8,9,10] ([Blk.mk b3 _ _,Blk.mk b2 _ _]) Jbn (by kernel_rfl) (by repeat (first | exact zs0 _ | exact zs1 _ | apply zs2 | apply zs3 | apply zs4 | apply zs5))):B9:=h a
theorem J86 (a:A9) (h:A9→B9:=by exact Jbu (by first | exact Jag tb rfl rfl rfl rfl (by first | assumption | exact zr (by simp)) (i:=k2) (by first | rfl | omega | (simp;omega)) (by omega) | exact Jal tb rfl rfl rfl rfl (i:=k2) (by first | rfl | omega | (simp;omega)) (by omega)) rfl rfl rfl):B9:=h a
end
theorem J2y (x y:Arr Int) (L:List Blk) (R:List Sl) (hx:InR (isl x) R) (hy:InR (isl y) R) (hn:x.l.length≤1000):
    Tri Tryz.prog 58 [x.val,y.val].toArray L R (fun v L' R'=>∃p:OwL Int,v=p.val∧p.ok 1 Jad∧p.l=Jhl x.l y.l∧p.L 3 Jad ++ L=L'∧R=R'):=by
  refine Jae 24 Tryz.call58 Tryz.func58 rfl rfl rfl ?_
  refine qae ?_
  refine Xbn ?_
  refine Xa4 ?_
  refine Xdj ?_
  refine Jai [(1,Value.slice _ _ _),(5,Value.slice _ _ _),(8,Value.slice _ _ _),(9,Value.int _ _),(10,Value.int _ _)] (by repeat' (first | exact trivial | refine And.intro rfl ?_)) fun tq0=>?_
  refine Jb0 [5,7,10,11,12,13,14,15,16,17,18,19,20,21,22] ((⟨fun g=>[(10,.int .i64 ((g.1.1:Nat):Int)),(5,g.1.2.val)],fun g=>g.1.2.L 3 Jad ++ L,fun _=>R,fun g=>x.l.length - g.1.1⟩:Head {g:Nat×OwL Int // g.1≤x.l.length∧g.2.ok 1 Jad∧g.2.l=Jhl (x.l.take g.1) y.l})) (⟨(0,OwL.nil),by dsimp only;omega,OwL.nil_ok,by rfl⟩) (by repeat' (first | exact trivial | refine And.intro rfl ?_)) (by dsimp only;rw [Jcl,List.nil_append];exact List.Sublist.refl _) (Jac _) ?_
  rintro ⟨⟨k,p⟩,w1,w2,w3⟩ junk
  try dsimp only
  dsimp only at w1 w2 w3
  have hpl:=Jtw (x.l.take k) y.l
  rw [← w3,List.length_take] at hpl
  refine Xay ?_
  refine q_c (fun hc0=>?_) (fun hc0=>?_)
  ·
   have hg:=Jan (l:=x.l) (k:=k) 0 (by omega)
   refine qbb ?_
   refine J36 ?_
   refine qa7 ?_
   refine Xal ?_
   refine Xad ?_
   refine q_l rfl (Jt9 y (x.l.getD k 0) _ _ hy) ?_
   refine Xbc ?_
   refine q_c (fun hc1=>?_) (fun hc1=>?_)
   ·
    refine Xby ?_
    refine qcx ?_
    rintro v L' R' ⟨b20,rfl,rfl,hR20⟩
    replace hR20:=hR20.symm;subst hR20
    refine J59 ?_
    rintro v L' R' ⟨o21,rfl,hok21,rfl,rfl⟩
    refine Xdl ?_
    exact q_k ⟨(k + 1,(⟨o21,_⟩:OwL Int)),by dsimp only;omega,hok21,by dsimp only;rw [Jsj hg hc1,w3]⟩
   refine Xa6 ?_
   exact q_k ⟨(k + 1,p),by dsimp only;omega,w2,by dsimp only;rw [Jxo hg hc1,w3]⟩
  obtain rfl:k=x.l.length:=by omega
  rw [List.take_length] at w3
  refine Xb5 ?_
  refine q_r (L':=p.L 3 Jad ++ L) (R':=R) (Jdi rfl (Jah (show _=Value.slice _ _ _ from rfl))) ?_
  exact ⟨p,rfl,w2,w3,rfl,rfl⟩
theorem Jvh (x y:Arr Int) (L:List Blk) (R:List Sl) (hx:InR (isl x) R) (hy:InR (isl y) R) (hn:x.l.length≤1000):
    Tri Tryz.prog 37 [x.val,y.val].toArray L R (fun v L' R'=>∃p:OwL Int,v=p.val∧p.ok 1 Jad∧p.l=Jhl x.l y.l∧p.L 3 Jad ++ L=L'∧R=R'):=by
  refine Jae 28 Tryz.call37 Tryz.func37 rfl rfl rfl ?_
  refine qae ?_
  refine Xbn ?_
  refine Xc9 ?_
  refine Jai [(0,Value.slice _ _ _),(1,Value.slice _ _ _),(5,Value.slice _ _ _),(6,Value.int _ _)] (by repeat' (first | exact trivial | refine And.intro rfl ?_)) fun tq0=>?_
  refine Jb0 [5,6,7,8,9,10,11,12,13,14,15,16,17,18,19,20,21,22,23,24,25,26] ((⟨fun g=>[(6,.int .i64 ((g.1.1:Nat):Int)),(5,g.1.2.val)],fun g=>g.1.2.L 3 Jad ++ L,fun _=>R,fun g=>x.l.length - g.1.1⟩:Head {g:Nat×OwL Int // g.1≤x.l.length∧g.2.ok 1 Jad∧g.2.l=Jhl (x.l.take g.1) y.l})) (⟨(0,OwL.nil),by dsimp only;omega,OwL.nil_ok,by rfl⟩) (by repeat' (first | exact trivial | refine And.intro rfl ?_)) (by dsimp only;rw [Jcl,List.nil_append];exact List.Sublist.refl _) (Jac _) ?_
  rintro ⟨⟨k,p⟩,w1,w2,w3⟩ junk
  try dsimp only
  dsimp only at w1 w2 w3
  have hpl:=Jtw (x.l.take k) y.l
  rw [← w3,List.length_take] at hpl
  refine Xcg ?_
  refine q_c (fun hc0=>?_) (fun hc0=>?_)
  ·
   have hg:=Jan (l:=x.l) (k:=k) 0 (by omega)
   refine qbb ?_
   refine qbm ?_
   refine Xad ?_
   refine J36 ?_
   refine qa7 ?_
   refine q_l rfl (Jzg y (x.l.getD k 0) _ _ hy) ?_
   refine Xbc ?_
   refine q_c (fun hc1=>?_) (fun hc1=>?_)
   ·
    refine qay ?_
    refine qbm ?_
    refine Xad ?_
    refine J36 ?_
    refine qa7 ?_
    refine qcx ?_
    rintro v L' R' ⟨b25,rfl,rfl,hR25⟩
    replace hR25:=hR25.symm;subst hR25
    refine J59 ?_
    rintro v L' R' ⟨o26,rfl,hok26,rfl,rfl⟩
    refine Xcd ?_
    exact q_k ⟨(k + 1,(⟨o26,_⟩:OwL Int)),by dsimp only;omega,hok26,by dsimp only;rw [Jsj hg hc1,w3]⟩
   refine Xa1 ?_
   exact q_k ⟨(k + 1,p),by dsimp only;omega,w2,by dsimp only;rw [Jxo hg hc1,w3]⟩
  obtain rfl:k=x.l.length:=by omega
  rw [List.take_length] at w3
  refine Xb5 ?_
  refine q_r (L':=p.L 3 Jad ++ L) (R':=R) (Jdi rfl (Jah (show _=Value.slice _ _ _ from rfl))) ?_
  exact ⟨p,rfl,w2,w3,rfl,rfl⟩
theorem Jv3 {A:List Blk} {R:List Sl} {p q:OwL Int} (hp:InB (p.L 3 Jad) A) (hq:InB (q.L 3 Jad) A) (okp:p.ok 1 Jad) (okq:q.ok 1 Jad) (hn:p.l.length≤1000):
    Tri Tryz.prog 58 [p.val,q.val].toArray A R (fun v L' R'=>∃z:OwL Int,v=z.val∧z.ok 1 Jad∧z.l=Jhl p.l q.l∧z.L 3 Jad ++ A=L'∧R=R'):=by
  have h:=J2y p.arr q.arr [] ([isl p.arr,isl q.arr] ++ R) (Jab (.head _)) (Jab (.tail _ (.head _))) hn
  have h2:=Tri.lend (S:=[isl p.arr,isl q.arr]) (Post:=fun v L'=>∃z:OwL Int,v=z.val∧z.ok 1 Jad∧z.l=Jhl p.l q.l∧z.L 3 Jad ++ []=L') (Spl.rest (L:=A)) (fun w G hh s hs=>by
    simp only [List.mem_cons,List.not_mem_nil,or_false] at hs
    rcases hs with rfl | rfl
    · exact Jc3 hh hp okp (fun _=>rfl) (by decide) (fun s hs=>by cases hs)
    · exact Jc3 hh hq okq (fun _=>rfl) (by decide) (fun s hs=>by cases hs)) (h.mono fun v L' R' ⟨z,a1,a2,a3,a4,a5⟩=>⟨⟨z,a1,a2,a3,a4⟩,a5⟩)
  exact J7g
theorem Jn6 {A:List Blk} {R:List Sl} {p q:OwL Int} (hp:InB (p.L 3 Jad) A) (hq:InB (q.L 3 Jad) A) (okp:p.ok 1 Jad) (okq:q.ok 1 Jad) (hn:p.l.length≤1000):
    Tri Tryz.prog 37 [p.val,q.val].toArray A R (fun v L' R'=>∃z:OwL Int,v=z.val∧z.ok 1 Jad∧z.l=Jhl p.l q.l∧z.L 3 Jad ++ A=L'∧R=R'):=by
  have h:=Jvh p.arr q.arr [] ([isl p.arr,isl q.arr] ++ R) (Jab (.head _)) (Jab (.tail _ (.head _))) hn
  have h2:=Tri.lend (S:=[isl p.arr,isl q.arr]) (Post:=fun v L'=>∃z:OwL Int,v=z.val∧z.ok 1 Jad∧z.l=Jhl p.l q.l∧z.L 3 Jad ++ []=L') (Spl.rest (L:=A)) (fun w G hh s hs=>by
    simp only [List.mem_cons,List.not_mem_nil,or_false] at hs
    rcases hs with rfl | rfl
    · exact Jc3 hh hp okp (fun _=>rfl) (by decide) (fun s hs=>by cases hs)
    · exact Jc3 hh hq okq (fun _=>rfl) (by decide) (fun s hs=>by cases hs)) (h.mono fun v L' R' ⟨z,a1,a2,a3,a4,a5⟩=>⟨⟨z,a1,a2,a3,a4⟩,a5⟩)
  exact J7g
structure VerdO where
  t:OwL Int
  s:OwL Int
  c:OwL Int
  l:OwL Int
abbrev VerdO.val (v:VerdO):Value:=.agg #[v.t.val,v.s.val,v.c.val,v.l.val]
def VerdO.get (v:VerdO):XVerd:=⟨v.t.l,v.s.l,v.c.l,v.l.l⟩
structure VerdO.Ok (v:VerdO):Prop where
  t:v.t.ok 1 Jad
  s:v.s.ok 1 Jad
  c:v.c.ok 1 Jad
  l:v.l.ok 1 Jad
abbrev VerdO.L (v:VerdO) (X:List Blk):List Blk:=v.l.L 3 Jad ++ (v.c.L 3 Jad ++ (v.s.L 3 Jad ++ (v.t.L 3 Jad ++ X)))
abbrev VerdO.nil:VerdO:=⟨.nil,.nil,.nil,.nil⟩
theorem VerdO.nil_ok:VerdO.nil.Ok:=⟨OwL.nil_ok,OwL.nil_ok,OwL.nil_ok,OwL.nil_ok⟩
theorem VerdO.Lnil {X:List Blk}:VerdO.nil.L X=X:=by simp only [VerdO.L,Jcl,List.nil_append]
theorem Jfx {l:List Int}:decide ((l.length:Int)=0)=l.isEmpty:=by cases l with
  | nil=>rfl
  | cons a r=>simp only [List.length_cons,List.isEmpty_cons,decide_eq_false_iff_not];omega
theorem Jiy (v:VerdO) (L:List Blk) (R:List Sl):
    Tri Tryz.prog 14 [v.val].toArray L R (fun w L' R'=>w=.bool v.get.quiet∧L=L'∧R=R'):=by
  refine Jae 25 Tryz.call14 Tryz.func14 rfl rfl rfl ?_
  refine Xai ?_
  intro b1
  refine Xbr ?_
  refine Xcx ?_
  refine qah ?_
  apply Jcd (G:=[_,_,_,_]) (j:=4) (cj:=7) rfl rfl (by rfl) rfl (show _=Value.bool _ from rfl) rfl
  ·
   intro hg5
   replace hg5:=qb hg5
   refine Xcx ?_
   exact qai
  intro junk5
  refine qah ?_
  apply Jcd (G:=[_,_,_,_]) (j:=10) (cj:=13) rfl rfl (by rfl) rfl (show _=Value.bool _ from rfl) rfl
  ·
   intro hg11
   replace hg11:=qb hg11
   refine Xcx ?_
   exact qai
  intro junk11
  refine qah ?_
  apply Jcd (G:=[_,_,_,_]) (j:=16) (cj:=19) rfl rfl (by rfl) rfl (show _=Value.bool _ from rfl) rfl
  ·
   intro hg17
   replace hg17:=qb hg17
   refine Xcx ?_
   exact qai
  intro junk17
  refine Xbb ?_
  refine q_b (L':=L) (R':=R) ?_
  exact ⟨by rw [Jfx,Jfx,Jfx,Jfx];rfl,rfl,rfl⟩
theorem Jiv (v:VerdO) (L:List Blk) (R:List Sl):
    Tri Tryz.prog 15 [v.val].toArray L R (fun w L' R'=>w=.bool v.get.quiet∧L=L'∧R=R'):=by
  refine Jae 25 Tryz.call15 Tryz.func15 rfl rfl rfl ?_
  refine Xai ?_
  intro b1
  refine Xbr ?_
  refine Xcx ?_
  refine qah ?_
  apply Jcd (G:=[_,_,_,_]) (j:=4) (cj:=7) rfl rfl (by rfl) rfl (show _=Value.bool _ from rfl) rfl
  ·
   intro hg5
   replace hg5:=qb hg5
   refine Xcx ?_
   exact qai
  intro junk5
  refine qah ?_
  apply Jcd (G:=[_,_,_,_]) (j:=10) (cj:=13) rfl rfl (by rfl) rfl (show _=Value.bool _ from rfl) rfl
  ·
   intro hg11
   replace hg11:=qb hg11
   refine Xcx ?_
   exact qai
  intro junk11
  refine qah ?_
  apply Jcd (G:=[_,_,_,_]) (j:=16) (cj:=19) rfl rfl (by rfl) rfl (show _=Value.bool _ from rfl) rfl
  ·
   intro hg17
   replace hg17:=qb hg17
   refine Xcx ?_
   exact qai
  intro junk17
  refine Xbb ?_
  refine q_b (L':=L) (R':=R) ?_
  exact ⟨by rw [Jfx,Jfx,Jfx,Jfx];rfl,rfl,rfl⟩
theorem Jio {s t:List Int} {i:Nat}:Jsh s t i=true↔s.getD i 0≠t.getD i 0:=by simp [Jsh]
def Jvk (s t:Sts) (k:Nat):List Int:=Jms (Jsh s.1 t.1) s.1.length ++ (Jms (Jsh s.2 t.2) k).map (fun i=>(s.1.length:Int) + i)
theorem Jhy {P:Nat→Bool} {k:Nat} (h:P k=true):Jms P (k + 1)=Jms P k ++ [(k:Int)]:=by rw [Jms,if_pos h]
theorem Jkt {P:Nat→Bool} {k:Nat} (h:P k=false):Jms P (k + 1)=Jms P k:=by rw [Jms,if_neg (by rw [h];decide)]
theorem Jxd {s t:Sts} {k:Nat} (h:Jsh s.2 t.2 k=true):Jvk s t (k + 1)=Jvk s t k ++ [(s.1.length:Int) + k]:=by
  rw [Jvk,Jhy h,List.map_append,← List.append_assoc];rfl
theorem J0m {s t:Sts} {k:Nat} (h:Jsh s.2 t.2 k=false):Jvk s t (k + 1)=Jvk s t k:=by rw [Jvk,Jkt h,Jvk]
theorem Jw5 (s t:Sts) (k:Nat):(Jvk s t k).length≤s.1.length + k:=by
  have h1:=Jf4 (P:=Jsh s.1 t.1) s.1.length
  have h2:=Jf4 (P:=Jsh s.2 t.2) k
  simp only [Jvk,List.length_append,List.length_map];omega
theorem Jqz (s t:XSetting) (L:List Blk) (R:List Sl) (hs:SetR s R) (ht:SetR t R) (h1:s.fans.l.length=t.fans.l.length) (h2:s.doors.l.length=t.doors.l.length) (h3:s.fans.l.length≤1000) (h4:s.doors.l.length≤1000):
    Tri Tryz.prog 43 [s.val,t.val].toArray L R (fun v L' R'=>∃p:OwL Int,v=p.val∧p.ok 1 Jad∧p.l=Jn5 (Jaj s) (Jaj t)∧p.L 3 Jad ++ L=L'∧R=R'):=by
  have hsf:=hs.fans
  have hsd:=hs.doors
  have htf:=ht.fans
  have htd:=ht.doors
  refine Jae 57 Tryz.call43 Tryz.func43 rfl rfl rfl ?_
  refine Xai ?_
  intro b2
  refine qax ?_
  intro b3
  refine Xbn ?_
  refine Xa4 ?_
  refine Xbz ?_
  refine Jai [(2,Value.pointer _),(3,Value.pointer _),(5,Value.slice _ _ _),(10,Value.int _ _),(11,Value.int _ _)] (by repeat' (first | exact trivial | refine And.intro rfl ?_)) fun tq0=>?_
  refine Jb0 [5,6,11,12,13,14,15,16,17,18,19,20,21,22,23,24,25,26,27,28,29] ((⟨fun g=>[(11,.int .i64 ((g.1.1:Nat):Int)),(5,g.1.2.val)],fun g=>g.1.2.L 3 Jad ++ (⟨b3,t.cells,25⟩ :: ⟨b2,s.cells,25⟩ :: L),fun _=>R,fun g=>s.fans.l.length - g.1.1⟩:Head {g:Nat×OwL Int // g.1≤s.fans.l.length∧g.2.ok 1 Jad∧g.2.l=Jms (Jsh s.fans.l t.fans.l) g.1})) (⟨(0,OwL.nil),by dsimp only;omega,OwL.nil_ok,by rfl⟩) (by repeat' (first | exact trivial | refine And.intro rfl ?_)) (by dsimp only;rw [Jcl,List.nil_append];exact List.Sublist.refl _) (Jac _) ?_
  rintro ⟨⟨k,p⟩,w1,w2,w3⟩ junk
  try dsimp only
  dsimp only at w1 w2 w3
  have hpl:=Jf4 (P:=Jsh s.fans.l t.fans.l) k
  rw [← w3] at hpl
  refine Xay ?_
  refine q_c (fun hc0=>?_) (fun hc0=>?_)
  ·
   have hg1:=Jan (l:=s.fans.l) (k:=k) 0 (by omega)
   have hg2:=Jan (l:=t.fans.l) (k:=k) 0 (by omega)
   refine qbb ?_
   refine Xa2 ?_
   refine qa4 ?_
   refine J7c ?_
   refine Xa0 ?_
   refine qds ?_
   refine qbl ?_
   refine Xa0 ?_
   refine qds ?_
   refine qbl ?_
   refine Jbu (Jll rfl rfl) rfl rfl rfl ?_
   refine qbu ?_
   refine q_c (fun hc1=>?_) (fun hc1=>?_)
   ·
    refine Xby ?_
    refine qcx ?_
    rintro v L' R' ⟨b27,rfl,rfl,hR27⟩
    replace hR27:=hR27.symm;subst hR27
    refine Jfo (Jap (f:=Jad) (p:=p) (a:=(k:Int)) tb rfl rfl rfl rfl (w2) (by repeat (first | apply OSeg.cons | exact OSeg.here | exact OSeg.last | exact OSeg.at (by assumption) | apply OSeg.app)) (Ja5 (by repeat (first | exact zi0 | apply zi1 | apply zi2)) rfl rfl) rfl (by first | omega | (simp only [List.length_cons,List.length_nil,List.length_append];omega))) rfl ?_
    rintro v L' R' ⟨o28,rfl,hok28,rfl,rfl⟩
    refine Xdl ?_
    exact q_k ⟨(k + 1,(⟨o28,_⟩:OwL Int)),by dsimp only;omega,hok28,by dsimp only;rw [Jhy (Jio.2 hc1),w3]⟩
   refine Xa6 ?_
   exact q_k ⟨(k + 1,p),by dsimp only;omega,w2,by dsimp only;rw [Jkt (by cases h:Jsh s.fans.l t.fans.l k with | false=>rfl | true=>exact absurd (Jio.1 h) hc1),w3]⟩
  obtain rfl:k=s.fans.l.length:=by omega
  have hp0:p.l=Jvk (Jaj s) (Jaj t) 0:=by rw [w3,Jvk,Jms];simp
  refine qcf ?_
  refine Xbz ?_
  refine Jai [(2,Value.pointer _),(3,Value.pointer _),(5,Value.slice _ _ _),(32,Value.int _ _),(33,Value.int _ _)] (by repeat' (first | exact trivial | refine And.intro rfl ?_)) fun tq1=>?_
  refine q_p [5,7,33,34,35,36,37,38,39,40,41,42,43,44,45,46,47,48,49,50,51,52,53,54,55] ((⟨fun g=>[(33,.int .i64 ((g.1.1:Nat):Int)),(5,g.1.2.val)],fun g=>g.1.2.L 3 Jad ++ (⟨b3,t.cells,25⟩ :: ⟨b2,s.cells,25⟩ :: L),fun _=>R,fun g=>s.doors.l.length - g.1.1⟩:Head {g:Nat×OwL Int // g.1≤s.doors.l.length∧g.2.ok 1 Jad∧g.2.l=Jvk (Jaj s) (Jaj t) g.1})) (⟨(0,p),by dsimp only;omega,w2,hp0⟩) ?_
  rintro ⟨⟨k2,q⟩,v1,v2,v3⟩ junk
  try dsimp only
  dsimp only at v1 v2 v3
  have hql:=Jw5 (Jaj s) (Jaj t) k2
  rw [← v3] at hql
  dsimp only [Jaj] at hql
  refine Xay ?_
  refine q_c (fun hc2=>?_) (fun hc2=>?_)
  ·
   have hg1:=Jan (l:=s.doors.l) (k:=k2) 0 (by omega)
   have hg2:=Jan (l:=t.doors.l) (k:=k2) 0 (by omega)
   refine qbb ?_
   refine Xa2 ?_
   refine qa4 ?_
   refine J7c ?_
   refine Xa0 ?_
   refine J86 ?_
   refine qbl ?_
   refine Xa0 ?_
   refine J86 ?_
   refine qbl ?_
   refine Jbu (Jll rfl rfl) rfl rfl rfl ?_
   refine qbu ?_
   refine q_c (fun hc3=>?_) (fun hc3=>?_)
   ·
    refine qay ?_
    refine qbm ?_
    refine Xab ?_
    refine qaa ?_
    refine qar ?_
    refine qcx ?_
    rintro v L' R' ⟨b53,rfl,rfl,hR53⟩
    replace hR53:=hR53.symm;subst hR53
    refine Jfo (Jap (f:=Jad) (p:=q) (a:=(s.fans.l.length:Int) + k2) tb rfl rfl rfl rfl (v2) (by repeat (first | apply OSeg.cons | exact OSeg.here | exact OSeg.last | exact OSeg.at (by assumption) | apply OSeg.app)) (Ja5 (by repeat (first | exact zi0 | apply zi1 | apply zi2)) rfl rfl) rfl (by first | omega | (simp only [List.length_cons,List.length_nil,List.length_append];omega))) rfl ?_
    rintro v L' R' ⟨o54,rfl,hok54,rfl,rfl⟩
    refine Xdl ?_
    exact q_k ⟨(k2 + 1,(⟨o54,_⟩:OwL Int)),by dsimp only;omega,hok54,by dsimp only;rw [Jxd (Jio.2 hc3),v3]⟩
   refine Xa6 ?_
   exact q_k ⟨(k2 + 1,q),by dsimp only;omega,v2,by dsimp only;rw [J0m (by cases h:Jsh (Jaj s).2 (Jaj t).2 k2 with | false=>rfl | true=>exact absurd (Jio.1 h) hc3),v3]⟩
  obtain rfl:k2=s.doors.l.length:=by omega
  refine Xb5 ?_
  refine q_r (L':=q.L 3 Jad ++ L) (R':=R) (Jdi rfl (Jah (show _=Value.slice _ _ _ from rfl))) ?_
  exact ⟨q,rfl,v2,v3,rfl,rfl⟩
theorem Jrj {a:XAir} {s t:XSetting} (h:Jdn a s=true) (h':Jdn a t=true):(s.fans.l.length=t.fans.l.length∧s.doors.l.length=t.doors.l.length)∧s.fans.l.length≤8∧s.doors.l.length≤16:=by
  obtain ⟨h1,h2⟩:=Ji3 h
  obtain ⟨_,h3⟩:=Ji3 h'
  have e1:=h2.lf
  have e2:=h2.ld
  have e3:=h3.lf
  have e4:=h3.ld
  have n1:=h1.nfans
  have n2:=h1.ndoors
  omega
theorem Jk6 (a:XAir) (s t:XSetting) (L:List Blk) (R:List Sl) (hm:AirR a R) (hs:SetR s R) (ht:SetR t R):
    Tri Tryz.prog 21 [a.val,s.val,t.val].toArray L R (fun v L' R'=>∃p:OwL Int,v=p.val∧p.ok 1 Jad∧p.l=Jmp a s t∧p.L 3 Jad ++ L=L'∧R=R'):=by
  refine Jae 20 Tryz.call21 Tryz.func21 rfl rfl rfl ?_
  refine Xai ?_
  intro b3
  refine qax ?_
  intro b4
  refine qax ?_
  intro b5
  refine Xa4 ?_
  refine Xap ?_
  refine q_l rfl (Jtv a s _ _ hm hs) ?_
  refine Xdx ?_
  apply Jbw (G:=[_,_,_,_]) (j:=4) (cj:=11) rfl rfl (by rfl) rfl (show _=Value.bool _ from rfl) rfl
  ·
   intro hg5
   replace hg5:=qb hg5
   refine Xap ?_
   refine q_l rfl (Jtv a t _ _ hm ht) ?_
   refine qb4 ?_
   exact qai
  intro junk5
  refine qaf ?_
  refine q_c (fun hc0=>?_) (fun hc0=>?_)
  ·
   refine Xd5 ?_
   refine qbh ?_
   refine q_r (L':=L) (R':=R) (Jdi rfl (Jah (show _=Value.slice _ _ _ from rfl))) ?_
   exact ⟨.nil,rfl,OwL.nil_ok,by rw [Jmp,if_neg (by rintro ⟨h1,h2⟩;rcases hc0 with h | h;rw [h1] at h;cases h;rw [h2] at h;cases h)],by rw [Jcl];rfl,rfl⟩
  have hr1:=Ji3 hc0.1
  have hr2:=Ji3 hc0.2
  have hz:=Jrj hc0.1 hc0.2
  refine qbv ?_
  refine qbe ?_
  refine qbe ?_
  refine Jaq rfl (Jqz s t _ _ hs ht (by omega) (by omega) (by omega) (by omega)) rfl ?_
  rintro v L' R' ⟨p,rfl,hpk,hpl,rfl,rfl⟩
  refine Xbi ?_
  refine q_r (L':=p.L 3 Jad ++ L) (R':=R) (Jdi rfl (Jah (show _=Value.slice _ _ _ from rfl))) ?_
  exact ⟨p,rfl,hpk,by rw [hpl,Jmp,if_pos hc0],rfl,rfl⟩
end Go.Proofs.YtihompplndcdeaaGreat
end
section
/-
  change.Compare, and the reference's; the reference's Steps. By an AI agent; no person has read it.
-/
namespace Go.Proofs.YtihompplndcdeaaGreat
open Go.Aw Go
set_option maxRecDepth 20000
attribute [local irreducible] CJ LJ DJ Tri YV Gives Jd5 Jbd Jbz Jd4 RV Jbf OwL.L
section
variable {A9 B9:Prop}
theorem J1m (a:A9) (h:A9→B9:=by exact Jca (Jbh (row:=[_,_]) tb rfl rfl rfl (by repeat (first | exact zi0 | apply zi1 | apply zi2)) (by rfl) (by rfl)) rfl rfl rfl rfl):B9:=h a
theorem J7v (a:A9) (h:A9→B9:=by exact Ja2 (by first | exact Jag tb rfl rfl rfl rfl (by first | assumption | exact zr (by simp)) (i:=i) (by first | rfl | omega | (simp;omega)) (by omega) | exact Jal tb rfl rfl rfl rfl (i:=i) (by first | rfl | omega | (simp;omega)) (by omega)) rfl):B9:=h a
end
theorem Jlf (m:XMine) (L:List Blk) (R:List Sl) (hm:MineR m R) (hv:Jbv m=0):
    Tri Tryz.prog 39 [m.val].toArray L R (fun w L' R'=>∃(p:OwL Int) (A:List Bool),w=p.val∧p.ok 1 Jad∧AiryIs m A∧p.l=Jeu A m.places.l.length∧p.L 3 Jad ++ L=L'∧R=R'):=by
  have hok:=Jd1 hv
  have hnp:=hok.places
  refine Jae 27 Tryz.call39 Tryz.func39 rfl rfl rfl ?_
  refine Xai ?_
  intro b1
  refine Xa4 ?_
  refine qbe ?_
  refine q_l rfl (Jep m _ _ hm) ?_
  refine Xaw ?_
  refine q_c (fun hc0=>?_) (fun hc0=>?_)
  ·
   (exfalso;omega)
  refine qbv ?_
  refine Xbn ?_
  refine qbe ?_
  refine Jaq rfl (Jrb m _ _ hm hok) rfl ?_
  rintro v L' R' ⟨q,rfl,hqk,hA,rfl,rfl⟩
  simp only [List.append_assoc,List.cons_append,List.nil_append]
  have hAl:=hA.length
  refine Xc9 ?_
  refine Jai [(3,Value.slice _ _ _),(4,Value.slice _ _ _),(5,Value.int _ _)] (by repeat' (first | exact trivial | refine And.intro rfl ?_)) fun tq0=>?_
  refine Jb0 [3,5,11,12,13,14,15,16,17,18,19,20,21,22,23,24,25] ((⟨fun g=>[(5,.int .i64 ((g.1.1:Nat):Int)),(3,g.1.2.val)],fun g=>g.1.2.L 3 Jad ++ (⟨b1,m.cells,31⟩ :: (L ++ q.L 4 blc)),fun _=>R,fun g=>m.places.l.length - g.1.1⟩:Head {g:Nat×OwL Int // g.1≤m.places.l.length∧g.2.ok 1 Jad∧g.2.l=Jeu q.l g.1})) (⟨(0,OwL.nil),by dsimp only;omega,OwL.nil_ok,rfl⟩) (by repeat' (first | exact trivial | refine And.intro rfl ?_)) (by dsimp only;rw [Jcl,List.nil_append];exact List.Sublist.refl _) (Jac _) ?_
  rintro ⟨⟨k,p⟩,w1,w2,w3⟩ junk
  try dsimp only
  dsimp only at w1 w2 w3
  have hpl:=Jej q.l k
  rw [← w3] at hpl
  refine Xcg ?_
  refine q_c (fun hc1=>?_) (fun hc1=>?_)
  ·
   have hg:=Jan (l:=q.l) (k:=k) false (by omega)
   refine qbb ?_
   refine Xad ?_
   refine Ja2 (Jak tb (q) _ rfl rfl rfl rfl (by assumption) (i:=k) (by first | rfl | omega | (simp;omega)) (by first | omega | (dsimp only;omega) | (dsimp only;rw [List.length_set];omega) | (dsimp only;simp only [List.length_set];omega))) rfl ?_
   refine Ja2 (Jaz tb (q) rfl rfl rfl (by repeat (first | apply OSeg.cons | exact OSeg.here | exact OSeg.last | exact OSeg.at (by assumption) | apply OSeg.app)) (by assumption) (fun _=>rfl) (by assumption) (by rfl)) rfl ?_
   refine Xbc ?_
   refine q_c (fun hc2=>?_) (fun hc2=>?_)
   ·
    refine Xby ?_
    refine qcx ?_
    rintro v L' R' ⟨b24,rfl,rfl,hR24⟩
    replace hR24:=hR24.symm;subst hR24
    refine Jfo (Jap (f:=Jad) (p:=p) (a:=(k:Int)) tb rfl rfl rfl rfl (w2) (by repeat (first | apply OSeg.cons | exact OSeg.here | exact OSeg.last | exact OSeg.at (by assumption) | apply OSeg.app)) (Ja5 (by repeat (first | exact zi0 | apply zi1 | apply zi2)) rfl rfl) rfl (by first | omega | (simp only [List.length_cons,List.length_nil,List.length_append];omega))) rfl ?_
    rintro v L' R' ⟨o25,rfl,hok25,rfl,rfl⟩
    refine Xcd ?_
    exact q_k ⟨(k + 1,(⟨o25,_⟩:OwL Int)),by dsimp only;omega,hok25,by dsimp only;rw [Jeu,if_neg (by rw [hc2];decide),w3]⟩
   refine Xa1 ?_
   exact q_k ⟨(k + 1,p),by dsimp only;omega,w2,by dsimp only;rw [Jeu,if_pos hc2,w3]⟩
  obtain rfl:k=m.places.l.length:=by omega
  refine Xb5 ?_
  refine Jbe (L':=p.L 3 Jad ++ L) (R':=R) (Jdi rfl (Jah (show _=Value.slice _ _ _ from rfl))) ?hp ?hL ?hR
  case hp=>exact ⟨p,q.l,rfl,w2,hA,w3,rfl,rfl⟩
  case hL=>exact (by repeat (first | exact zs0 _ | exact zs1 _ | exact List.sublist_append_left _ _ | apply zs2 | apply zs3 | apply zs4 | apply zs5))
  case hR=>exact Jac _
theorem Jni {fl gl:List XSpan} {i:Nat}:Jvy fl gl i=true↔Jua (fl.getD i default)≠0∧Jua (gl.getD i default)≠Jua (fl.getD i default):=by simp only [Jvy,Bool.and_eq_true,decide_eq_true_eq]
theorem Jnk {fl gl:List XSpan} {fc:List XFace} {i:Nat}:Jva fl gl fc i=true↔(Jww fl fc).getD i 0=1∧(Jww gl fc).getD i 0≠1:=by simp only [Jva,Bool.and_eq_true,decide_eq_true_eq]
theorem Jw4 {b:Bool} (h:¬ b=true):b=false:=by cases b <;> simp_all
theorem Jhn {m:XMine} {A A':List Bool} (h:AiryIs m A) (h':AiryIs m A'):Jeu A' m.places.l.length=Jeu A m.places.l.length:=by rw [h.unique h']
theorem Jtb (ma mb : XMine) (fl gl : Arr XSpan) (fc : Arr XFace) (A B : List Bool) (Cf Cg : List Int) (L : List Blk) (R : List Sl) (ha : MineR ma R) (hb : MineR mb R) (hfl : InR (Jl8 fl) R) (hgl : InR (Jl8 gl) R) (hfc : InR (Jqk fc) R)
    (hva:Jbv ma=0) (hvb:Jbv mb=0) (hnf:fl.l.length=ma.roads.l.length) (hng:gl.l.length=mb.roads.l.length) (hle:ma.roads.l.length≤mb.roads.l.length) (hneed:Jfp fc.l) (hnc:fc.l.length≤1000) (hA:AiryIs ma A) (hB:AiryIs mb B) (hCf:CircIs ma fl.l Cf) (hCg:CircIs mb gl.l Cg):
    Tri Tryz.prog 33 [ma.val,fl.val,mb.val,gl.val,fc.val].toArray L R (fun w L' R'=>∃p:VerdO,w=p.val∧p.Ok∧p.get=Jzq ma fl.l mb gl.l fc.l A B Cf Cg∧p.L L=L'∧R=R'):=by
  have hoka:=Jd1 hva
  have hokb:=Jd1 hvb
  have hra:=hoka.roads
  have hrb:=hokb.roads
  have hpa:=hoka.places
  have hpb:=hokb.places
  have hcl:=hCg.len
  have hll:=Jej B mb.places.l.length
  refine Jae 91 Tryz.call33 Tryz.func33 rfl rfl rfl ?_
  refine Xai ?_
  intro b5
  refine qax ?_
  intro b7
  refine qaq ?_
  intro b10
  refine qam ?_
  refine qaq ?_
  intro b11
  refine qaw ?_
  refine Xbz ?_
  refine Jai [(1,Value.slice _ _ _),(3,Value.slice _ _ _),(4,Value.slice _ _ _),(5,Value.pointer _),(7,Value.pointer _),(10,Value.pointer _),(11,Value.pointer _),(19,Value.int _ _),(20,Value.int _ _)] (by repeat' (first | exact trivial | refine And.intro rfl ?_)) fun tq0=>?_
  refine Jb0 [12,13,20,21,22,23,24,25,26,27,28,29,30,31,32,33,34,35,36,37,38,39,40,41,42,43,44,45] ((⟨fun g=>[(20,.int .i64 ((g.1.1:Nat):Int))],fun g=>g.1.2.L 3 Jad ++ (⟨b11,[g.1.2.val,Value.slice none 0 0,Value.slice none 0 0,Value.slice none 0 0],56⟩ :: ⟨b10,[Value.slice none 0 0,Value.slice none 0 0,Value.slice none 0 0,Value.slice none 0 0],56⟩ :: ⟨b7,mb.cells,31⟩ :: ⟨b5,ma.cells,31⟩ :: L),fun _=>R,fun g=>ma.roads.l.length - g.1.1⟩:Head {g:Nat×OwL Int // g.1≤ma.roads.l.length∧g.2.ok 1 Jad∧g.2.l=Jms (Jvy fl.l gl.l) g.1})) (⟨(0,OwL.nil),by dsimp only;omega,OwL.nil_ok,rfl⟩) (by repeat' (first | exact trivial | refine And.intro rfl ?_)) (by dsimp only;rw [Jcl,List.nil_append];exact List.Sublist.refl _) (Jac _) ?_
  rintro ⟨⟨i,p⟩,w1,w2,w3⟩ junk
  try dsimp only
  dsimp only at w1 w2 w3
  have hpl:=Jf4 (P:=Jvy fl.l gl.l) i
  rw [← w3] at hpl
  refine Xay ?_
  refine q_c (fun hc0=>?_) (fun hc0=>?_)
  ·
   have hg1:=Jan (l:=fl.l) (k:=i) default (by omega)
   have hg2:=Jan (l:=gl.l) (k:=i) default (by omega)
   refine Xb3 ?_
   refine Xal ?_
   refine Xad ?_
   refine J7v ?_
   refine qdl ?_
   refine q_l rfl (Jlj (fl.l.getD i default) _ _) ?_
   refine Xav ?_
   refine Xcp ?_
   apply Jcd (G:=[_,_,_,_,_,_,_]) (j:=2) (cj:=30) rfl rfl (by rfl) rfl (show _=Value.bool _ from rfl) rfl
   ·
    intro hg3
    replace hg3:=qb hg3
    refine Xad ?_
    refine J7v ?_
    refine qdl ?_
    refine q_l rfl (Jlj (gl.l.getD i default) _ _) ?_
    refine qaa ?_
    refine qbq ?_
    exact qai
   intro junk3
   refine qaf ?_
   refine q_c (fun hc1=>?_) (fun hc1=>?_)
   ·
    refine qay ?_
    refine Xak ?_
    refine qcx ?_
    rintro v L' R' ⟨b42,rfl,rfl,hR42⟩
    replace hR42:=hR42.symm;subst hR42
    refine Jfo (Jap (f:=Jad) (p:=p) (a:=(i:Int)) tb rfl rfl rfl rfl (w2) (by repeat (first | apply OSeg.cons | exact OSeg.here | exact OSeg.last | exact OSeg.at (by assumption) | apply OSeg.app)) (Ja5 (by repeat (first | exact zi0 | apply zi1 | apply zi2)) rfl rfl) rfl (by first | omega | (simp only [List.length_cons,List.length_nil,List.length_append];omega))) rfl ?_
    rintro v L' R' ⟨o43,rfl,hok43,rfl,rfl⟩
    refine Xcy ?_
    refine Xbj ?_
    exact q_k ⟨(i + 1,(⟨o43,_⟩:OwL Int)),by dsimp only;omega,hok43,by dsimp only;rw [Jhy (Jni.2 hc1),w3]⟩
   refine Xa6 ?_
   exact q_k ⟨(i + 1,p),by dsimp only;omega,w2,by dsimp only;rw [Jkt (Jw4 fun h=>by have:=Jni.1 h;omega),w3]⟩
  obtain rfl:i=ma.roads.l.length:=by omega
  refine Xbp ?_
  refine qbm ?_
  refine Jaq rfl (Jwe fl fc _ _ hfl hfc hneed hnc (by omega)) rfl ?_
  rintro v L' R' ⟨q1,rfl,hq1,hl1,rfl,rfl⟩
  refine qbm ?_
  refine qbm ?_
  refine Jaq rfl (Jwe gl fc _ _ hgl hfc hneed hnc (by omega)) rfl ?_
  rintro v L' R' ⟨q2,rfl,hq2,hl2,rfl,rfl⟩
  have hn1:q1.l.length=fc.l.length:=by rw [hl1];simp [Jww]
  have hn2:q2.l.length=fc.l.length:=by rw [hl2];simp [Jww]
  refine qc4 ?_
  refine Xa4 ?_
  refine Xdj ?_
  refine Jai [(1,Value.slice _ _ _),(3,Value.slice _ _ _),(5,Value.pointer _),(7,Value.pointer _),(10,Value.pointer _),(11,Value.pointer _),(14,Value.slice _ _ _),(15,Value.slice _ _ _),(53,Value.int _ _),(54,Value.int _ _)] (by repeat' (first | exact trivial | refine And.intro rfl ?_)) fun tq1=>?_
  refine Jb0 [16,54,55,56,57,58,59,60,61,62,63,64,65,66,67,68,69,70,71,72,73,74,75] ((⟨fun g=>[(54,.int .i64 ((g.1.1:Nat):Int))],fun g=>g.1.2.L 3 Jad ++ (q2.L 3 Jad ++ (q1.L 3 Jad ++ (p.L 3 Jad ++ (⟨b11,[p.val,g.1.2.val,Value.slice none 0 0,Value.slice none 0 0],56⟩ :: ⟨b10,[Value.slice none 0 0,Value.slice none 0 0,Value.slice none 0 0,Value.slice none 0 0],56⟩ :: ⟨b7,mb.cells,31⟩ :: ⟨b5,ma.cells,31⟩ :: L)))),fun _=>R,fun g=>fc.l.length - g.1.1⟩:Head {g:Nat×OwL Int // g.1≤fc.l.length∧g.2.ok 1 Jad∧g.2.l=Jms (Jva fl.l gl.l fc.l) g.1})) (⟨(0,OwL.nil),by dsimp only;omega,OwL.nil_ok,rfl⟩) (by repeat' (first | exact trivial | refine And.intro rfl ?_)) (by dsimp only;rw [Jcl,List.nil_append];exact List.Sublist.refl _) (Jac _) ?_
  rintro ⟨⟨j,q⟩,v1,v2,v3⟩ junk
  try dsimp only
  dsimp only at v1 v2 v3
  have hql:=Jf4 (P:=Jva fl.l gl.l fc.l) j
  rw [← v3] at hql
  refine Xay ?_
  refine q_c (fun hc2=>?_) (fun hc2=>?_)
  ·
   have hg1:=Jan (l:=q1.l) (k:=j) 0 (by omega)
   have hg2:=Jan (l:=q2.l) (k:=j) 0 (by omega)
   refine Xb3 ?_
   refine Xal ?_
   refine Xad ?_
   refine Ja2 (Jak tb (q1) _ rfl rfl rfl rfl (by assumption) (i:=j) (by first | rfl | omega | (simp;omega)) (by first | omega | (dsimp only;omega) | (dsimp only;rw [List.length_set];omega) | (dsimp only;simp only [List.length_set];omega))) rfl ?_
   refine Ja2 (Jaz tb (q1) rfl rfl rfl (by repeat (first | apply OSeg.cons | exact OSeg.here | exact OSeg.last | exact OSeg.at (by assumption) | apply OSeg.app)) (by assumption) (fun _=>rfl) (by assumption) (by rfl)) rfl ?_
   refine qbn ?_
   refine qah ?_
   apply Jcd (G:=[_,_,_,_,_]) (j:=5) (cj:=62) rfl rfl (by rfl) rfl (show _=Value.bool _ from rfl) rfl
   ·
    intro hg6
    replace hg6:=qb hg6
    refine Xad ?_
    refine Ja2 (Jak tb (q2) _ rfl rfl rfl rfl (by assumption) (i:=j) (by first | rfl | omega | (simp;omega)) (by first | omega | (dsimp only;omega) | (dsimp only;rw [List.length_set];omega) | (dsimp only;simp only [List.length_set];omega))) rfl ?_
    refine Ja2 (Jaz tb (q2) rfl rfl rfl (by repeat (first | apply OSeg.cons | exact OSeg.here | exact OSeg.last | exact OSeg.at (by assumption) | apply OSeg.app)) (by assumption) (fun _=>rfl) (by assumption) (by rfl)) rfl ?_
    refine qbq ?_
    exact qai
   intro junk6
   refine qaf ?_
   refine q_c (fun hc3=>?_) (fun hc3=>?_)
   ·
    refine qay ?_
    refine Xak ?_
    refine qcx ?_
    rintro v L' R' ⟨b72,rfl,rfl,hR72⟩
    replace hR72:=hR72.symm;subst hR72
    refine Jfo (Jap (f:=Jad) (p:=q) (a:=(j:Int)) tb rfl rfl rfl rfl (v2) (by repeat (first | apply OSeg.cons | exact OSeg.here | exact OSeg.last | exact OSeg.at (by assumption) | apply OSeg.app)) (Ja5 (by repeat (first | exact zi0 | apply zi1 | apply zi2)) rfl rfl) rfl (by first | omega | (simp only [List.length_cons,List.length_nil,List.length_append];omega))) rfl ?_
    rintro v L' R' ⟨o73,rfl,hok73,rfl,rfl⟩
    refine Xcy ?_
    refine Xbj ?_
    exact q_k ⟨(j + 1,(⟨o73,_⟩:OwL Int)),by dsimp only;omega,hok73,by dsimp only;rw [Jhy (Jnk.2 (by rw [← hl1,← hl2];exact hc3)),v3]⟩
   refine Xa6 ?_
   exact q_k ⟨(j + 1,q),by dsimp only;omega,v2,by dsimp only;rw [Jkt (Jw4 fun h=>by have h':=Jnk.1 h;rw [← hl1,← hl2] at h';omega),v3]⟩
  obtain rfl:j=fc.l.length:=by omega
  refine qc3 ?_
  refine Ja8 tb [] [0,1,3,4,2,5,6,7] [8] ([Blk.mk b7 _ _,Blk.mk b5 _ _]) _ Jbn (by kernel_rfl) (by repeat (first | exact zs0 _ | exact zs1 _ | apply zs2 | apply zs3 | apply zs4 | apply zs5)) (by (repeat (first | apply List.Sublist.cons (a:=Blk.mk b11 _ _) | apply List.Sublist.cons_cons));exact List.Sublist.refl _) ?_
  refine J1m ?_
  refine qct ?_
  refine J1m ?_
  refine qct ?_
  refine Jbl rfl (Jw3 mb gl _ _ hb hgl hvb hng) rfl rfl ?_
  rintro v L' R' ⟨c1,S1,rfl,hc1k,hC1,rfl,rfl⟩
  refine qas ?_
  have hR1:∀r∈R,InR r (S1 ++ R):=fun r hr=>Jab (by simp [hr])
  refine Jbl rfl (Jw3 ma fl _ _ ⟨ha.places.mono hR1,ha.roads.mono hR1⟩ (hfl.mono hR1) hva hnf) rfl rfl ?_
  rintro v L' R' ⟨c2,S2,rfl,hc2k,hC2,rfl,rfl⟩
  refine qas ?_
  have e1:=hC1.unique hCg
  have e2:=hC2.unique hCf
  refine Jbl rfl (Jv3 (A:=_) (by repeat (first | exact Jaw | apply Jau | apply Jba)) (by repeat (first | exact Jaw | apply Jau | apply Jba)) hc1k hc2k (by rw [e1];omega)) rfl rfl ?_
  rintro v L' R' ⟨c3,rfl,hc3k,hC3,rfl,rfl⟩
  refine qas ?_
  refine Xcb ?_
  refine qbw ?_
  refine qb9 ?_
  have hR2:∀r∈R,InR r (S2 ++ (S1 ++ R)):=fun r hr=>Jab (by simp [hr])
  refine Ja8 tb [] [0,2,1,3,4,5] [6] ([Blk.mk b7 _ _,Blk.mk b5 _ _]) _ Jbn (by kernel_rfl) (by repeat (first | exact zs0 _ | exact zs1 _ | apply zs2 | apply zs3 | apply zs4 | apply zs5)) (by (repeat (first | apply List.Sublist.cons (a:=Blk.mk b11 _ _) | apply List.Sublist.cons_cons));exact List.Sublist.refl _) ?_
  refine J1m ?_
  refine J1m ?_
  refine Jbl rfl (Jl9 mb _ _ ⟨hb.places.mono hR2,hb.roads.mono hR2⟩ hokb hvb) rfl rfl ?_
  rintro v L' R' ⟨d1,B',S3,rfl,hd1k,hB',hD1,rfl,rfl⟩
  refine qas ?_
  have hR3:∀r∈R,InR r (S3 ++ (S2 ++ (S1 ++ R))):=fun r hr=>Jab (by simp [hr])
  refine Jbl rfl (Jl9 ma _ _ ⟨ha.places.mono hR3,ha.roads.mono hR3⟩ hoka hva) rfl rfl ?_
  rintro v L' R' ⟨d2,A',S4,rfl,hd2k,hA',hD2,rfl,rfl⟩
  refine qas ?_
  rw [Jhn hB hB'] at hD1
  rw [Jhn hA hA'] at hD2
  refine Jbl rfl (Jv3 (A:=_) (by repeat (first | exact Jaw | apply Jau | apply Jba)) (by repeat (first | exact Jaw | apply Jau | apply Jba)) hd1k hd2k (by rw [hD1];omega)) rfl rfl ?_
  rintro v L' R' ⟨d3,rfl,hd3k,hD3,rfl,rfl⟩
  refine qas ?_
  refine Xcb ?_
  refine qbw ?_
  refine Jbt (Jaa (Jam (Jaf ?_)))
  refine qa8 ?_
  refine Xbh ?_
  refine Jbe (L':=VerdO.L ⟨p,q,c3,d3⟩ L) (R':=R) (Jdi rfl (Jax (row:=[_,_,_,_]) tb rfl rfl rfl (by repeat (first | exact zi0 | apply zi1 | apply zi2)) (by rfl) (by rfl))) ?hp ?hL ?hR
  case hp=>exact ⟨⟨p,q,c3,d3⟩,rfl,⟨w2,v2,hc3k,hd3k⟩,by rw [VerdO.get,Jzq];dsimp only;rw [w3,v3,hC3,hD3,e1,e2,hD1,hD2],rfl,rfl⟩
  case hL=>exact (by repeat (first | exact zs0 _ | exact zs1 _ | apply zs2 | apply zs3 | apply zs4 | apply zs5))
  case hR=>exact fun r hr=>Jab (by simp [hr])
end Go.Proofs.YtihompplndcdeaaGreat
end
