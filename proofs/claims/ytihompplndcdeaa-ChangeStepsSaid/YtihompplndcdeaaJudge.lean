import Derived.Test.YtihompplndcdeaaCflowR
import Derived.Test.YtihompplndcdeaaSeqS
import Derived.Test.YtihompplndcdeaaCircC
set_option linter.unusedVariables false
set_option linter.unusedSimpArgs false
section
/-
  Whether a list has a number: slices.Index, Contains, the reference's Has. By an AI agent; no person has read it.
-/
namespace Go.Proofs.Ytihompplndcdeaa
open Go.Aw Go
section
variable {A9 B9:Prop}
theorem J43 (a:A9) (h:A9→B9:=by exact Jax (by first | exact Jaf tb rfl rfl rfl rfl (by first | assumption | exact zr (by simp)) (i:=k) (by first | rfl | omega | (simp;omega)) (by omega) | exact Jah tb rfl rfl rfl rfl (i:=k) (by first | rfl | omega | (simp;omega)) (by omega)) rfl):B9:=h a
end
theorem Tri.lendU {P : Program} {f : FuncId} {args : Array Value} {A : List Blk} {R S : List Sl} {u : Value}
    (hS:∀w,∀G:Nat→Prop,Holds (A ++ []) G R w→∀s∈S,Rep w (fun b=>G b∨∃e∈A,e.b=b) s)
    (h:Tri P f args [] (S ++ R) (fun v L' R'=>v=u∧[]=L'∧S ++ R=R')):Tri P f args A R (fun v L' R'=>v=u∧A=L'∧R=R'):=by
  have h2:=Tri.lend (S:=S) (Post:=fun v L'=>v=u∧[]=L') (Spl.rest (L:=A)) hS (h.mono fun v L' R' ⟨a1,a2,a3⟩=>⟨⟨a1,a2⟩,a3⟩)
  exact h2.mono fun v L'' R' ⟨L',e,⟨a1,a2⟩,a3⟩=>⟨a1,by rw [← a2,List.append_nil] at e;exact e,a3⟩
set_option maxRecDepth 20000
attribute [local irreducible] CJ LJ DJ Tri YV Gives Jdn Jaw Jbk Jdo RV Jay OwL.L
theorem Jyg (x:Arr Int) (a:Int) (L:List Blk) (R:List Sl) (hx:InR (isl x) R):
    Tri Try.prog 86 [x.val,.int .i64 a].toArray L R (fun v L' R'=>∃r:Int,v=.int .i64 r∧(0≤r↔a∈x.l)∧L=L'∧R=R'):=by
  refine Jy6 Try.call86 hx fun hcap=>?_
  refine Jae 19 Try.call86 Try.func86 rfl rfl rfl ?_
  refine Xaf ?_
  refine qaw ?_
  refine Xcl ?_
  refine Jag [(0,Value.slice _ _ _),(1,Value.int _ _),(7,Value.int _ _),(8,Value.int _ _)] (by repeat' (first | exact trivial | refine And.intro rfl ?_)) fun tq0=>?_
  refine q_s [4,5,8,9,10,11,12,13,14,15,16,17,18] (fun g:{k:Nat // k≤x.l.length∧∀j:Nat,j < k→x.l.getD j 0≠a}=>[(8,.int .i64 ((g.1:Nat):Int))]) (fun g=>x.l.length - g.1) (⟨0,by omega,fun j hj=>by omega⟩) ?_
  rintro ⟨k,hk,hal⟩ junk
  try dsimp only
  refine Xar ?_
  refine q_c (fun hc0=>?_) (fun hc0=>?_)
  ·
   have hg:=Jai (l:=x.l) (k:=k) 0 (by omega)
   refine Xa8 ?_
   refine Xax ?_
   refine Xal ?_
   refine J43 ?_
   refine qa7 ?_
   refine Xb2 ?_
   refine q_c (fun hc1=>?_) (fun hc1=>?_)
   ·
    refine Xbb ?_
    refine qad ?_
    refine qbt ?_
    refine q_i (L':=L) (R':=R) ?_
    exact ⟨k,rfl,⟨fun _=>by rw [hc1];exact List.mem_of_getElem? hg,fun _=>by omega⟩,rfl,rfl⟩
   refine Xay ?_
   exact Jau (⟨k + 1,by omega,fun j hj=>by
   rcases Nat.lt_or_ge j k with h | h
   · exact hal j h
   · obtain rfl : j = k := by omega
     exact fun h=>hc1 h.symm⟩) (by repeat (first | exact Off.refl | apply Off.upd rfl | apply Off.havoc rfl | apply Off.updL rfl | apply Off.left rfl)) (by repeat' (first | exact trivial | refine And.intro rfl ?_)) (by repeat (first | exact zs0 _ | exact zs1 _ | apply zs2 | apply zs3 | apply zs4 | apply zs5)) (Jac _) (by dsimp only;omega)
  refine Xce ?_
  refine q_i (L':=L) (R':=R) ?_
  refine ⟨-1,rfl,⟨fun h=>by omega,fun h=>?_⟩,rfl,rfl⟩
  obtain ⟨j,hj,rfl⟩:=List.getElem_of_mem h
  have:=hal j (by omega)
  rw [List.getD_eq_getElem?_getD,List.getElem?_eq_getElem hj] at this
  exact absurd rfl this
theorem Jrq (x:Arr Int) (a:Int) (L:List Blk) (R:List Sl) (hx:InR (isl x) R):
    Tri Try.prog 71 [x.val,.int .i64 a].toArray L R (fun v L' R'=>v=.bool (decide (a∈x.l))∧L=L'∧R=R'):=by
  refine Jae 9 Try.call71 Try.func71 rfl rfl rfl ?_
  refine Xbh ?_
  refine qam ?_
  refine Xal ?_
  refine Jaq rfl (Jyg x a _ _ hx) rfl ?_
  rintro v L' R' ⟨r,rfl,hr,rfl,rfl⟩
  refine qbz ?_
  refine Xa9 ?_
  refine q_b (L':=L) (R':=R) ?_
  exact ⟨congrArg Value.bool (decide_eq_decide.2 hr),rfl,rfl⟩
theorem Jrj (l:Arr Int) (n:Int) (L:List Blk) (R:List Sl) (hl:InR (isl l) R):
    Tri Try.prog 14 [l.val,.int .i64 n].toArray L R (fun v L' R'=>v=.bool (decide (n∈l.l))∧L=L'∧R=R'):=by
  refine Jb7 Try.call14 hl fun hln=>?_
  refine Jae 18 Try.call14 Try.func14 rfl rfl rfl ?_
  refine Xbh ?_
  refine qaw ?_
  refine Xav ?_
  refine Jag [(0,Value.slice _ _ _),(1,Value.int _ _),(5,Value.int _ _)] (by repeat' (first | exact trivial | refine And.intro rfl ?_)) fun tq0=>?_
  refine q_s [4,5,6,7,8,9,10,11,12,13,14,15,16,17] (fun g:{k:Nat // k≤l.l.length∧∀j:Nat,j < k→l.l.getD j 0≠n}=>[(5,.int .i64 ((g.1:Nat):Int))]) (fun g=>l.l.length - g.1) (⟨0,by omega,fun j hj=>by omega⟩) ?_
  rintro ⟨k,hk,hal⟩ junk
  try dsimp only
  refine Xap ?_
  refine Xcy ?_
  refine q_c (fun hc0=>?_) (fun hc0=>?_)
  ·
   have hlg:=Jai (l:=l.l) (k:=k) 0 (by omega)
   refine qbb ?_
   refine Xal ?_
   refine J43 ?_
   refine qa7 ?_
   refine qaa ?_
   refine Xb2 ?_
   refine q_c (fun hc1=>?_) (fun hc1=>?_)
   ·
    refine Xbh ?_
    refine qbt ?_
    refine q_b (L':=L) (R':=R) ?_
    exact ⟨by rw [decide_eq_true (by rw [← hc1];exact List.mem_of_getElem? hlg)],rfl,rfl⟩
   refine Xbg ?_
   exact Jau (⟨k + 1,by omega,fun j hj=>by
   rcases Nat.lt_or_ge j k with h | h
   · exact hal j h
   · obtain rfl : j = k := by omega
     exact hc1⟩) (by repeat (first | exact Off.refl | apply Off.upd rfl | apply Off.havoc rfl | apply Off.updL rfl | apply Off.left rfl)) (by repeat' (first | exact trivial | refine And.intro rfl ?_)) (by repeat (first | exact zs0 _ | exact zs1 _ | apply zs2 | apply zs3 | apply zs4 | apply zs5)) (Jac _) (by dsimp only;omega)
  refine qbk ?_
  refine Xa9 ?_
  refine q_b (L':=L) (R':=R) ?_
  exact ⟨by
  rw [decide_eq_false]
  intro hm
  obtain ⟨j,hj⟩:=List.mem_iff_getElem?.1 hm
  have hjl:=(List.getElem?_eq_some_iff.1 hj).1
  exact hal j (by omega) (getD_some hj),rfl,rfl⟩
end Go.Proofs.Ytihompplndcdeaa
end
section
/-
  change.news, Harmless, differ, Steps, and the reference's; the reference's places that are cut off. By an AI agent; no person has read it.
-/
namespace Go.Proofs.Ytihompplndcdeaa
open Go.Aw Go
set_option maxRecDepth 20000
attribute [local irreducible] CJ LJ DJ Tri YV Gives Jdn Jaw Jbk Jdo RV Jay OwL.L
section
variable {A9 B9:Prop}
theorem J5c (a:A9) (h:A9→B9:=by exact Ja5 tb [0,1,2,3,4,5,6,7,8,9,10] ([Blk.mk b3 _ _,Blk.mk b2 _ _]) Jbh (by kernel_rfl) (by repeat (first | exact zs0 _ | exact zs1 _ | apply zs2 | apply zs3 | apply zs4 | apply zs5))):B9:=h a
theorem J5k (a:A9) (h:A9→B9:=by exact Jbx (by first | exact Jaf tb rfl rfl rfl rfl (by first | assumption | exact zr (by simp)) (i:=k2) (by first | rfl | omega | (simp;omega)) (by omega) | exact Jah tb rfl rfl rfl rfl (i:=k2) (by first | rfl | omega | (simp;omega)) (by omega)) rfl rfl rfl):B9:=h a
end
theorem J1c (x y:Arr Int) (L:List Blk) (R:List Sl) (hx:InR (isl x) R) (hy:InR (isl y) R) (hn:x.l.length≤1000):
    Tri Try.prog 53 [x.val,y.val].toArray L R (fun v L' R'=>∃p:OwL Int,v=p.val∧p.ok 1 Jad∧p.l=Jim x.l y.l∧p.L 3 Jad ++ L=L'∧R=R'):=by
  refine Jae 24 Try.call53 Try.func53 rfl rfl rfl ?_
  refine Xbf ?_
  refine qam ?_
  refine Xbo ?_
  refine Xcl ?_
  refine Jag [(1,Value.slice _ _ _),(5,Value.slice _ _ _),(8,Value.slice _ _ _),(9,Value.int _ _),(10,Value.int _ _)] (by repeat' (first | exact trivial | refine And.intro rfl ?_)) fun tq0=>?_
  refine Jcc [5,7,10,11,12,13,14,15,16,17,18,19,20,21,22] ((⟨fun g=>[(10,.int .i64 ((g.1.1:Nat):Int)),(5,g.1.2.val)],fun g=>g.1.2.L 3 Jad ++ L,fun _=>R,fun g=>x.l.length - g.1.1⟩:Head {g:Nat×OwL Int // g.1≤x.l.length∧g.2.ok 1 Jad∧g.2.l=Jim (x.l.take g.1) y.l})) (⟨(0,OwL.nil),by dsimp only;omega,OwL.nil_ok,by rfl⟩) (by repeat' (first | exact trivial | refine And.intro rfl ?_)) (by dsimp only;rw [Jc7,List.nil_append];exact List.Sublist.refl _) (Jac _) ?_
  rintro ⟨⟨k,p⟩,w1,w2,w3⟩ junk
  try dsimp only
  dsimp only at w1 w2 w3
  have hpl:=Jy1 (x.l.take k) y.l
  rw [← w3,List.length_take] at hpl
  refine Xar ?_
  refine q_c (fun hc0=>?_) (fun hc0=>?_)
  ·
   have hg:=Jai (l:=x.l) (k:=k) 0 (by omega)
   refine qbb ?_
   refine Jax (by first | exact Jaf tb rfl rfl rfl rfl (by first | assumption | exact zr (by simp)) (i:=k) (by first | rfl | omega | (simp;omega)) (by omega) | exact Jah tb rfl rfl rfl rfl (i:=k) (by first | rfl | omega | (simp;omega)) (by omega)) rfl ?_
   refine qa7 ?_
   refine Xai ?_
   refine Xal ?_
   refine q_l rfl (Jrq y (x.l.getD k 0) _ _ hy) ?_
   refine Xbu ?_
   refine q_c (fun hc1=>?_) (fun hc1=>?_)
   ·
    refine Xcg ?_
    refine qcx ?_
    rintro v L' R' ⟨b20,rfl,rfl,hR20⟩
    replace hR20:=hR20.symm;subst hR20
    refine Jh0 (Jam (f:=Jad) (p:=p) (a:=x.l.getD k 0) tb rfl rfl rfl rfl (w2) (by repeat (first | apply OSeg.cons | exact OSeg.here | exact OSeg.last | exact OSeg.at (by assumption) | apply OSeg.app)) (Ja1 (by repeat (first | exact zi0 | apply zi1 | apply zi2)) rfl rfl) rfl (by first | omega | (simp only [List.length_cons,List.length_nil,List.length_append];omega))) rfl ?_
    rintro v L' R' ⟨o21,rfl,hok21,rfl,rfl⟩
    refine Xcz ?_
    exact q_k ⟨(k + 1,(⟨o21,_⟩:OwL Int)),by dsimp only;omega,hok21,by dsimp only;rw [Jxf hg hc1,w3]⟩
   refine Xay ?_
   exact q_k ⟨(k + 1,p),by dsimp only;omega,w2,by dsimp only;rw [Jz9 hg hc1,w3]⟩
  obtain rfl:k=x.l.length:=by omega
  rw [List.take_length] at w3
  refine Xco ?_
  refine q_r (L':=p.L 3 Jad ++ L) (R':=R) (Jd4 rfl (Jal (show _=Value.slice _ _ _ from rfl))) ?_
  exact ⟨p,rfl,w2,w3,rfl,rfl⟩
theorem Jvk {A:List Blk} {R:List Sl} {p q:OwL Int} (hp:InB (p.L 3 Jad) A) (hq:InB (q.L 3 Jad) A) (okp:p.ok 1 Jad) (okq:q.ok 1 Jad) (hn:p.l.length≤1000):
    Tri Try.prog 53 [p.val,q.val].toArray A R (fun v L' R'=>∃z:OwL Int,v=z.val∧z.ok 1 Jad∧z.l=Jim p.l q.l∧z.L 3 Jad ++ A=L'∧R=R'):=by
  have h:=J1c p.arr q.arr [] ([isl p.arr,isl q.arr] ++ R) (Jab (.head _)) (Jab (.tail _ (.head _))) hn
  have h2:=Tri.lend (S:=[isl p.arr,isl q.arr]) (Post:=fun v L'=>∃z:OwL Int,v=z.val∧z.ok 1 Jad∧z.l=Jim p.l q.l∧z.L 3 Jad ++ []=L') (Spl.rest (L:=A)) (fun w G hh s hs=>by
    simp only [List.mem_cons,List.not_mem_nil,or_false] at hs
    rcases hs with rfl | rfl
    · exact Jdr hh hp okp (fun _=>rfl) (by decide) (fun s hs=>by cases hs)
    · exact Jdr hh hq okq (fun _=>rfl) (by decide) (fun s hs=>by cases hs)) (h.mono fun v L' R' ⟨z,a1,a2,a3,a4,a5⟩=>⟨⟨z,a1,a2,a3,a4⟩,a5⟩)
  exact Tri.post_perm h2 fun v L'' R' ⟨L',e,⟨z,a1,a2,a3,a4⟩,a5⟩=>⟨z.L 3 Jad ++ A,by rw [← e,← a4,List.append_nil];exact List.perm_append_comm,z,a1,a2,a3,rfl,a5⟩
structure VerdO where
  t:OwL Int
  s:OwL Int
  c:OwL Int
  l:OwL Int
abbrev VerdO.val (v:VerdO):Value:=.agg #[v.t.val,v.s.val,v.c.val,v.l.val]
def VerdO.get (v:VerdO):XVerd:=⟨v.t.l,v.s.l,v.c.l,v.l.l⟩
structure VerdO.Ok (v:VerdO):Prop where
  t:v.t.ok 1 Jad
  s:v.s.ok 1 Jad
  c:v.c.ok 1 Jad
  l:v.l.ok 1 Jad
abbrev VerdO.L (v:VerdO) (X:List Blk):List Blk:=v.l.L 3 Jad ++ (v.c.L 3 Jad ++ (v.s.L 3 Jad ++ (v.t.L 3 Jad ++ X)))
abbrev VerdO.nil:VerdO:=⟨.nil,.nil,.nil,.nil⟩
theorem VerdO.nil_ok:VerdO.nil.Ok:=⟨OwL.nil_ok,OwL.nil_ok,OwL.nil_ok,OwL.nil_ok⟩
theorem VerdO.Lnil {X:List Blk}:VerdO.nil.L X=X:=by simp only [VerdO.L,Jc7,List.nil_append]
theorem Jkp {l:List Int}:decide ((l.length:Int)=0)=l.isEmpty:=by cases l with
  | nil=>rfl
  | cons a r=>simp only [List.length_cons,List.isEmpty_cons,decide_eq_false_iff_not];omega
theorem Jf9 (v:VerdO) (L:List Blk) (R:List Sl):
    Tri Try.prog 19 [v.val].toArray L R (fun w L' R'=>w=.bool v.get.quiet∧L=L'∧R=R'):=by
  refine Jae 25 Try.call19 Try.func19 rfl rfl rfl ?_
  refine Xaj ?_
  intro b1
  refine Xct ?_
  refine Xab ?_
  refine Xcr ?_
  apply Jb3 (G:=[_,_,_,_]) (j:=4) (cj:=7) rfl rfl (by rfl) rfl (show _=Value.bool _ from rfl) rfl
  ·
   intro hg5
   replace hg5:=qb hg5
   refine Xab ?_
   refine qbn ?_
   exact qai
  intro junk5
  refine qah ?_
  apply Jb3 (G:=[_,_,_,_]) (j:=10) (cj:=13) rfl rfl (by rfl) rfl (show _=Value.bool _ from rfl) rfl
  ·
   intro hg11
   replace hg11:=qb hg11
   refine Xab ?_
   refine qbn ?_
   exact qai
  intro junk11
  refine qah ?_
  apply Jb3 (G:=[_,_,_,_]) (j:=16) (cj:=19) rfl rfl (by rfl) rfl (show _=Value.bool _ from rfl) rfl
  ·
   intro hg17
   replace hg17:=qb hg17
   refine Xab ?_
   refine qbn ?_
   exact qai
  intro junk17
  refine Xa9 ?_
  refine q_b (L':=L) (R':=R) ?_
  exact ⟨by rw [Jkp,Jkp,Jkp,Jkp];rfl,rfl,rfl⟩
theorem Jgt {s t:List Int} {i:Nat}:Js4 s t i=true↔s.getD i 0≠t.getD i 0:=by simp [Js4]
def Jxd (s t:Sts) (k:Nat):List Int:=Jjg (Js4 s.1 t.1) s.1.length ++ (Jjg (Js4 s.2 t.2) k).map (fun i=>(s.1.length:Int) + i)
theorem Jml {P:Nat→Bool} {k:Nat} (h:P k=true):Jjg P (k + 1)=Jjg P k ++ [(k:Int)]:=by rw [Jjg,if_pos h]
theorem Jon {P:Nat→Bool} {k:Nat} (h:P k=false):Jjg P (k + 1)=Jjg P k:=by rw [Jjg,if_neg (by rw [h];decide)]
theorem J1o {s t:Sts} {k:Nat} (h:Js4 s.2 t.2 k=true):Jxd s t (k + 1)=Jxd s t k ++ [(s.1.length:Int) + k]:=by
  rw [Jxd,Jml h,List.map_append,← List.append_assoc];rfl
theorem J3b {s t:Sts} {k:Nat} (h:Js4 s.2 t.2 k=false):Jxd s t (k + 1)=Jxd s t k:=by rw [Jxd,Jon h,Jxd]
theorem J00 (s t:Sts) (k:Nat):(Jxd s t k).length≤s.1.length + k:=by
  have h1:=Ji1 (P:=Js4 s.1 t.1) s.1.length
  have h2:=Ji1 (P:=Js4 s.2 t.2) k
  simp only [Jxd,List.length_append,List.length_map];omega
theorem Jo3 (s t:XSetting) (L:List Blk) (R:List Sl) (hs:SetR s R) (ht:SetR t R) (h1:s.fans.l.length=t.fans.l.length) (h2:s.doors.l.length=t.doors.l.length) (h3:s.fans.l.length≤1000) (h4:s.doors.l.length≤1000):
    Tri Try.prog 38 [s.val,t.val].toArray L R (fun v L' R'=>∃p:OwL Int,v=p.val∧p.ok 1 Jad∧p.l=Jmm (Jak s) (Jak t)∧p.L 3 Jad ++ L=L'∧R=R'):=by
  have hsf:=hs.fans
  have hsd:=hs.doors
  have htf:=ht.fans
  have htd:=ht.doors
  refine Jae 57 Try.call38 Try.func38 rfl rfl rfl ?_
  refine Xaj ?_
  intro b2
  refine qax ?_
  intro b3
  refine Xcf ?_
  refine Xbo ?_
  refine Xbm ?_
  refine Jag [(2,Value.pointer _),(3,Value.pointer _),(5,Value.slice _ _ _),(10,Value.int _ _),(11,Value.int _ _)] (by repeat' (first | exact trivial | refine And.intro rfl ?_)) fun tq0=>?_
  refine Jcc [5,6,11,12,13,14,15,16,17,18,19,20,21,22,23,24,25,26,27,28,29] ((⟨fun g=>[(11,.int .i64 ((g.1.1:Nat):Int)),(5,g.1.2.val)],fun g=>g.1.2.L 3 Jad ++ (⟨b3,t.cells,35⟩ :: ⟨b2,s.cells,35⟩ :: L),fun _=>R,fun g=>s.fans.l.length - g.1.1⟩:Head {g:Nat×OwL Int // g.1≤s.fans.l.length∧g.2.ok 1 Jad∧g.2.l=Jjg (Js4 s.fans.l t.fans.l) g.1})) (⟨(0,OwL.nil),by dsimp only;omega,OwL.nil_ok,by rfl⟩) (by repeat' (first | exact trivial | refine And.intro rfl ?_)) (by dsimp only;rw [Jc7,List.nil_append];exact List.Sublist.refl _) (Jac _) ?_
  rintro ⟨⟨k,p⟩,w1,w2,w3⟩ junk
  try dsimp only
  dsimp only at w1 w2 w3
  have hpl:=Ji1 (P:=Js4 s.fans.l t.fans.l) k
  rw [← w3] at hpl
  refine Xar ?_
  refine q_c (fun hc0=>?_) (fun hc0=>?_)
  ·
   have hg1:=Jai (l:=s.fans.l) (k:=k) 0 (by omega)
   have hg2:=Jai (l:=t.fans.l) (k:=k) 0 (by omega)
   refine Xa8 ?_
   refine Xb3 ?_
   refine J5c ?_
   refine Xa0 ?_
   refine qds ?_
   refine qbl ?_
   refine Xa0 ?_
   refine qds ?_
   refine qbl ?_
   refine Jbx (Jlo rfl rfl) rfl rfl rfl ?_
   refine qbu ?_
   refine q_c (fun hc1=>?_) (fun hc1=>?_)
   ·
    refine Xcg ?_
    refine qcx ?_
    rintro v L' R' ⟨b27,rfl,rfl,hR27⟩
    replace hR27:=hR27.symm;subst hR27
    refine Jh0 (Jam (f:=Jad) (p:=p) (a:=(k:Int)) tb rfl rfl rfl rfl (w2) (by repeat (first | apply OSeg.cons | exact OSeg.here | exact OSeg.last | exact OSeg.at (by assumption) | apply OSeg.app)) (Ja1 (by repeat (first | exact zi0 | apply zi1 | apply zi2)) rfl rfl) rfl (by first | omega | (simp only [List.length_cons,List.length_nil,List.length_append];omega))) rfl ?_
    rintro v L' R' ⟨o28,rfl,hok28,rfl,rfl⟩
    refine Xcz ?_
    exact q_k ⟨(k + 1,(⟨o28,_⟩:OwL Int)),by dsimp only;omega,hok28,by dsimp only;rw [Jml (Jgt.2 hc1),w3]⟩
   refine Xay ?_
   exact q_k ⟨(k + 1,p),by dsimp only;omega,w2,by dsimp only;rw [Jon (by cases h:Js4 s.fans.l t.fans.l k with | false=>rfl | true=>exact absurd (Jgt.1 h) hc1),w3]⟩
  obtain rfl:k=s.fans.l.length:=by omega
  have hp0:p.l=Jxd (Jak s) (Jak t) 0:=by rw [w3,Jxd,Jjg];simp
  refine qcf ?_
  refine Xbm ?_
  refine Jag [(2,Value.pointer _),(3,Value.pointer _),(5,Value.slice _ _ _),(32,Value.int _ _),(33,Value.int _ _)] (by repeat' (first | exact trivial | refine And.intro rfl ?_)) fun tq1=>?_
  refine q_p [5,7,33,34,35,36,37,38,39,40,41,42,43,44,45,46,47,48,49,50,51,52,53,54,55] ((⟨fun g=>[(33,.int .i64 ((g.1.1:Nat):Int)),(5,g.1.2.val)],fun g=>g.1.2.L 3 Jad ++ (⟨b3,t.cells,35⟩ :: ⟨b2,s.cells,35⟩ :: L),fun _=>R,fun g=>s.doors.l.length - g.1.1⟩:Head {g:Nat×OwL Int // g.1≤s.doors.l.length∧g.2.ok 1 Jad∧g.2.l=Jxd (Jak s) (Jak t) g.1})) (⟨(0,p),by dsimp only;omega,w2,hp0⟩) ?_
  rintro ⟨⟨k2,q⟩,v1,v2,v3⟩ junk
  try dsimp only
  dsimp only at v1 v2 v3
  have hql:=J00 (Jak s) (Jak t) k2
  rw [← v3] at hql
  dsimp only [Jak] at hql
  refine Xar ?_
  refine q_c (fun hc2=>?_) (fun hc2=>?_)
  ·
   have hg1:=Jai (l:=s.doors.l) (k:=k2) 0 (by omega)
   have hg2:=Jai (l:=t.doors.l) (k:=k2) 0 (by omega)
   refine Xa8 ?_
   refine Xb3 ?_
   refine J5c ?_
   refine Xa0 ?_
   refine J5k ?_
   refine qbl ?_
   refine Xa0 ?_
   refine J5k ?_
   refine qbl ?_
   refine Jbx (Jlo rfl rfl) rfl rfl rfl ?_
   refine qbu ?_
   refine q_c (fun hc3=>?_) (fun hc3=>?_)
   ·
    refine qay ?_
    refine qbm ?_
    refine Xab ?_
    refine Xam ?_
    refine qcx ?_
    rintro v L' R' ⟨b53,rfl,rfl,hR53⟩
    replace hR53:=hR53.symm;subst hR53
    refine Jh0 (Jam (f:=Jad) (p:=q) (a:=(s.fans.l.length:Int) + k2) tb rfl rfl rfl rfl (v2) (by repeat (first | apply OSeg.cons | exact OSeg.here | exact OSeg.last | exact OSeg.at (by assumption) | apply OSeg.app)) (Ja1 (by repeat (first | exact zi0 | apply zi1 | apply zi2)) rfl rfl) rfl (by first | omega | (simp only [List.length_cons,List.length_nil,List.length_append];omega))) rfl ?_
    rintro v L' R' ⟨o54,rfl,hok54,rfl,rfl⟩
    refine Xcz ?_
    exact q_k ⟨(k2 + 1,(⟨o54,_⟩:OwL Int)),by dsimp only;omega,hok54,by dsimp only;rw [J1o (Jgt.2 hc3),v3]⟩
   refine Xay ?_
   exact q_k ⟨(k2 + 1,q),by dsimp only;omega,v2,by dsimp only;rw [J3b (by cases h:Js4 (Jak s).2 (Jak t).2 k2 with | false=>rfl | true=>exact absurd (Jgt.1 h) hc3),v3]⟩
  obtain rfl:k2=s.doors.l.length:=by omega
  refine Xco ?_
  refine q_r (L':=q.L 3 Jad ++ L) (R':=R) (Jd4 rfl (Jal (show _=Value.slice _ _ _ from rfl))) ?_
  exact ⟨q,rfl,v2,v3,rfl,rfl⟩
theorem Ju0 {a:XAir} {s t:XSetting} (h:Jea a s=true) (h':Jea a t=true):(s.fans.l.length=t.fans.l.length∧s.doors.l.length=t.doors.l.length)∧s.fans.l.length≤8∧s.doors.l.length≤16:=by
  obtain ⟨h1,h2⟩:=Jfr h
  obtain ⟨_,h3⟩:=Jfr h'
  have e1:=h2.lf
  have e2:=h2.ld
  have e3:=h3.lf
  have e4:=h3.ld
  have n1:=h1.nfans
  have n2:=h1.ndoors
  omega
theorem Jxj (a:XAir) (s t:XSetting) (L:List Blk) (R:List Sl) (hm:AirR a R) (hs:SetR s R) (ht:SetR t R):
    Tri Try.prog 21 [a.val,s.val,t.val].toArray L R (fun v L' R'=>∃p:OwL Int,v=p.val∧p.ok 1 Jad∧p.l=Jsp a s t∧p.L 3 Jad ++ L=L'∧R=R'):=by
  refine Jae 20 Try.call21 Try.func21 rfl rfl rfl ?_
  refine Xaj ?_
  intro b3
  refine qax ?_
  intro b4
  refine qax ?_
  intro b5
  refine Xbo ?_
  refine Xaz ?_
  refine q_l rfl (Jrp a s _ _ hm hs) ?_
  refine qb4 ?_
  refine qah ?_
  apply Jbi (G:=[_,_,_,_]) (j:=4) (cj:=11) rfl rfl (by rfl) rfl (show _=Value.bool _ from rfl) rfl
  ·
   intro hg5
   replace hg5:=qb hg5
   refine Xaz ?_
   refine q_l rfl (Jrp a t _ _ hm ht) ?_
   refine qb4 ?_
   exact qai
  intro junk5
  refine qaf ?_
  refine q_c (fun hc0=>?_) (fun hc0=>?_)
  ·
   refine Xbf ?_
   refine qbh ?_
   refine q_r (L':=L) (R':=R) (Jd4 rfl (Jal (show _=Value.slice _ _ _ from rfl))) ?_
   exact ⟨.nil,rfl,OwL.nil_ok,by rw [Jsp,if_neg (by rintro ⟨h1,h2⟩;rcases hc0 with h | h;rw [h1] at h;cases h;rw [h2] at h;cases h)],by rw [Jc7];rfl,rfl⟩
  have hr1:=Jfr hc0.1
  have hr2:=Jfr hc0.2
  have hz:=Ju0 hc0.1 hc0.2
  refine qbv ?_
  refine qbe ?_
  refine qbe ?_
  refine Jaq rfl (Jo3 s t _ _ hs ht (by omega) (by omega) (by omega) (by omega)) rfl ?_
  rintro v L' R' ⟨p,rfl,hpk,hpl,rfl,rfl⟩
  refine qc4 ?_
  refine qa0 ?_
  refine q_r (L':=p.L 3 Jad ++ L) (R':=R) (Jd4 rfl (Jal (show _=Value.slice _ _ _ from rfl))) ?_
  exact ⟨p,rfl,hpk,by rw [hpl,Jsp,if_pos hc0],rfl,rfl⟩
end Go.Proofs.Ytihompplndcdeaa
end
section
/-
  change.Compare, and the reference's; the reference's Steps. By an AI agent; no person has read it.
-/
namespace Go.Proofs.Ytihompplndcdeaa
open Go.Aw Go
set_option maxRecDepth 20000
attribute [local irreducible] CJ LJ DJ Tri YV Gives Jdn Jaw Jbk Jdo RV Jay OwL.L
section
variable {A9 B9:Prop}
theorem J1v (a:A9) (h:A9→B9:=by exact Jb1 (Jba (row:=[_,_]) tb rfl rfl rfl (by repeat (first | exact zi0 | apply zi1 | apply zi2)) (by rfl) (by rfl)) rfl rfl rfl rfl):B9:=h a
theorem J5u (a:A9) (h:A9→B9:=by exact Jax (by first | exact Jaf tb rfl rfl rfl rfl (by first | assumption | exact zr (by simp)) (i:=i) (by first | rfl | omega | (simp;omega)) (by omega) | exact Jah tb rfl rfl rfl rfl (i:=i) (by first | rfl | omega | (simp;omega)) (by omega)) rfl):B9:=h a
end
theorem Jmc {fl gl:List XSpan} {i:Nat}:Jso fl gl i=true↔Jl8 (fl.getD i default)≠0∧Jl8 (gl.getD i default)≠Jl8 (fl.getD i default):=by simp only [Jso,Bool.and_eq_true,decide_eq_true_eq]
theorem Jmg {fl gl:List XSpan} {fc:List XFace} {i:Nat}:Jsf fl gl fc i=true↔(Jww fl fc).getD i 0=1∧(Jww gl fc).getD i 0≠1:=by simp only [Jsf,Bool.and_eq_true,decide_eq_true_eq]
theorem J1w {b:Bool} (h:¬ b=true):b=false:=by cases b <;> simp_all
theorem Jms {m:XMine} {A A':List Bool} (h:AiryIs m A) (h':AiryIs m A'):Jff A' m.places.l.length=Jff A m.places.l.length:=by rw [h.unique h']
theorem Jry (ma mb : XMine) (fl gl : Arr XSpan) (fc : Arr XFace) (A B : List Bool) (Cf Cg : List Int) (L : List Blk) (R : List Sl) (ha : MineR ma R) (hb : MineR mb R) (hfl : InR (Jrc fl) R) (hgl : InR (Jrc gl) R) (hfc : InR (Jty fc) R)
    (hva:Jbs ma=0) (hvb:Jbs mb=0) (hnf:fl.l.length=ma.roads.l.length) (hng:gl.l.length=mb.roads.l.length) (hle:ma.roads.l.length≤mb.roads.l.length) (hneed:Jhn fc.l) (hnc:fc.l.length≤1000) (hA:AiryIs ma A) (hB:AiryIs mb B) (hCf:CircIs ma fl.l Cf) (hCg:CircIs mb gl.l Cg):
    Tri Try.prog 32 [ma.val,fl.val,mb.val,gl.val,fc.val].toArray L R (fun w L' R'=>∃p:VerdO,w=p.val∧p.Ok∧p.get=Jwx ma fl.l mb gl.l fc.l A B Cf Cg∧p.L L=L'∧R=R'):=by
  have hoka:=Jip hva
  have hokb:=Jip hvb
  have hra:=hoka.roads
  have hrb:=hokb.roads
  have hpa:=hoka.places
  have hpb:=hokb.places
  have hcl:=hCg.len
  have hll:=Jfp B mb.places.l.length
  refine Jae 91 Try.call32 Try.func32 rfl rfl rfl ?_
  refine Xaj ?_
  intro b5
  refine qax ?_
  intro b7
  refine qaq ?_
  intro b10
  refine qam ?_
  refine qaq ?_
  intro b11
  refine qaw ?_
  refine Xbm ?_
  refine Jag [(1,Value.slice _ _ _),(3,Value.slice _ _ _),(4,Value.slice _ _ _),(5,Value.pointer _),(7,Value.pointer _),(10,Value.pointer _),(11,Value.pointer _),(19,Value.int _ _),(20,Value.int _ _)] (by repeat' (first | exact trivial | refine And.intro rfl ?_)) fun tq0=>?_
  refine Jcc [12,13,20,21,22,23,24,25,26,27,28,29,30,31,32,33,34,35,36,37,38,39,40,41,42,43,44,45] ((⟨fun g=>[(20,.int .i64 ((g.1.1:Nat):Int))],fun g=>g.1.2.L 3 Jad ++ (⟨b11,[g.1.2.val,Value.slice none 0 0,Value.slice none 0 0,Value.slice none 0 0],46⟩ :: ⟨b10,[Value.slice none 0 0,Value.slice none 0 0,Value.slice none 0 0,Value.slice none 0 0],46⟩ :: ⟨b7,mb.cells,28⟩ :: ⟨b5,ma.cells,28⟩ :: L),fun _=>R,fun g=>ma.roads.l.length - g.1.1⟩:Head {g:Nat×OwL Int // g.1≤ma.roads.l.length∧g.2.ok 1 Jad∧g.2.l=Jjg (Jso fl.l gl.l) g.1})) (⟨(0,OwL.nil),by dsimp only;omega,OwL.nil_ok,rfl⟩) (by repeat' (first | exact trivial | refine And.intro rfl ?_)) (by dsimp only;rw [Jc7,List.nil_append];exact List.Sublist.refl _) (Jac _) ?_
  rintro ⟨⟨i,p⟩,w1,w2,w3⟩ junk
  try dsimp only
  dsimp only at w1 w2 w3
  have hpl:=Ji1 (P:=Jso fl.l gl.l) i
  rw [← w3] at hpl
  refine Xar ?_
  refine q_c (fun hc0=>?_) (fun hc0=>?_)
  ·
   have hg1:=Jai (l:=fl.l) (k:=i) default (by omega)
   have hg2:=Jai (l:=gl.l) (k:=i) default (by omega)
   refine Xa8 ?_
   refine Xai ?_
   refine Xal ?_
   refine J5u ?_
   refine qdl ?_
   refine q_l rfl (Jj3 (fl.l.getD i default) _ _) ?_
   refine Xax ?_
   refine Xb5 ?_
   apply Jb3 (G:=[_,_,_,_,_,_,_]) (j:=2) (cj:=30) rfl rfl (by rfl) rfl (show _=Value.bool _ from rfl) rfl
   ·
    intro hg3
    replace hg3:=qb hg3
    refine Xal ?_
    refine J5u ?_
    refine qdl ?_
    refine q_l rfl (Jj3 (gl.l.getD i default) _ _) ?_
    refine qaa ?_
    refine qbq ?_
    exact qai
   intro junk3
   refine qaf ?_
   refine q_c (fun hc1=>?_) (fun hc1=>?_)
   ·
    refine qay ?_
    refine Xah ?_
    refine qcx ?_
    rintro v L' R' ⟨b42,rfl,rfl,hR42⟩
    replace hR42:=hR42.symm;subst hR42
    refine Jh0 (Jam (f:=Jad) (p:=p) (a:=(i:Int)) tb rfl rfl rfl rfl (w2) (by repeat (first | apply OSeg.cons | exact OSeg.here | exact OSeg.last | exact OSeg.at (by assumption) | apply OSeg.app)) (Ja1 (by repeat (first | exact zi0 | apply zi1 | apply zi2)) rfl rfl) rfl (by first | omega | (simp only [List.length_cons,List.length_nil,List.length_append];omega))) rfl ?_
    rintro v L' R' ⟨o43,rfl,hok43,rfl,rfl⟩
    refine qab ?_
    refine qcy ?_
    refine Xa5 ?_
    exact q_k ⟨(i + 1,(⟨o43,_⟩:OwL Int)),by dsimp only;omega,hok43,by dsimp only;rw [Jml (Jmc.2 hc1),w3]⟩
   refine Xay ?_
   exact q_k ⟨(i + 1,p),by dsimp only;omega,w2,by dsimp only;rw [Jon (J1w fun h=>by have:=Jmc.1 h;omega),w3]⟩
  obtain rfl:i=ma.roads.l.length:=by omega
  refine qbk ?_
  refine qbm ?_
  refine qbm ?_
  refine Jaq rfl (Ju2 fl fc _ _ hfl hfc hneed hnc (by omega)) rfl ?_
  rintro v L' R' ⟨q1,rfl,hq1,hl1,rfl,rfl⟩
  refine qbm ?_
  refine qbm ?_
  refine Jaq rfl (Ju2 gl fc _ _ hgl hfc hneed hnc (by omega)) rfl ?_
  rintro v L' R' ⟨q2,rfl,hq2,hl2,rfl,rfl⟩
  have hn1:q1.l.length=fc.l.length:=by rw [hl1];simp [Jww]
  have hn2:q2.l.length=fc.l.length:=by rw [hl2];simp [Jww]
  refine qc4 ?_
  refine Xbo ?_
  refine Xcl ?_
  refine Jag [(1,Value.slice _ _ _),(3,Value.slice _ _ _),(5,Value.pointer _),(7,Value.pointer _),(10,Value.pointer _),(11,Value.pointer _),(14,Value.slice _ _ _),(15,Value.slice _ _ _),(53,Value.int _ _),(54,Value.int _ _)] (by repeat' (first | exact trivial | refine And.intro rfl ?_)) fun tq1=>?_
  refine Jcc [16,54,55,56,57,58,59,60,61,62,63,64,65,66,67,68,69,70,71,72,73,74,75] ((⟨fun g=>[(54,.int .i64 ((g.1.1:Nat):Int))],fun g=>g.1.2.L 3 Jad ++ (q2.L 3 Jad ++ (q1.L 3 Jad ++ (p.L 3 Jad ++ (⟨b11,[p.val,g.1.2.val,Value.slice none 0 0,Value.slice none 0 0],46⟩ :: ⟨b10,[Value.slice none 0 0,Value.slice none 0 0,Value.slice none 0 0,Value.slice none 0 0],46⟩ :: ⟨b7,mb.cells,28⟩ :: ⟨b5,ma.cells,28⟩ :: L)))),fun _=>R,fun g=>fc.l.length - g.1.1⟩:Head {g:Nat×OwL Int // g.1≤fc.l.length∧g.2.ok 1 Jad∧g.2.l=Jjg (Jsf fl.l gl.l fc.l) g.1})) (⟨(0,OwL.nil),by dsimp only;omega,OwL.nil_ok,rfl⟩) (by repeat' (first | exact trivial | refine And.intro rfl ?_)) (by dsimp only;rw [Jc7,List.nil_append];exact List.Sublist.refl _) (Jac _) ?_
  rintro ⟨⟨j,q⟩,v1,v2,v3⟩ junk
  try dsimp only
  dsimp only at v1 v2 v3
  have hql:=Ji1 (P:=Jsf fl.l gl.l fc.l) j
  rw [← v3] at hql
  refine Xar ?_
  refine q_c (fun hc2=>?_) (fun hc2=>?_)
  ·
   have hg1:=Jai (l:=q1.l) (k:=j) 0 (by omega)
   have hg2:=Jai (l:=q2.l) (k:=j) 0 (by omega)
   refine Xa8 ?_
   refine Xai ?_
   refine Xal ?_
   refine Jax (Jao tb (q1) _ rfl rfl rfl rfl (by assumption) (i:=j) (by first | rfl | omega | (simp;omega)) (by first | omega | (dsimp only;omega) | (dsimp only;rw [List.length_set];omega) | (dsimp only;simp only [List.length_set];omega))) rfl ?_
   refine Jax (Jbe tb (q1) rfl rfl rfl (by repeat (first | apply OSeg.cons | exact OSeg.here | exact OSeg.last | exact OSeg.at (by assumption) | apply OSeg.app)) (by assumption) (fun _=>rfl) (by assumption) (by rfl)) rfl ?_
   refine Xcr ?_
   apply Jb3 (G:=[_,_,_,_,_]) (j:=5) (cj:=62) rfl rfl (by rfl) rfl (show _=Value.bool _ from rfl) rfl
   ·
    intro hg6
    replace hg6:=qb hg6
    refine Xal ?_
    refine Jax (Jao tb (q2) _ rfl rfl rfl rfl (by assumption) (i:=j) (by first | rfl | omega | (simp;omega)) (by first | omega | (dsimp only;omega) | (dsimp only;rw [List.length_set];omega) | (dsimp only;simp only [List.length_set];omega))) rfl ?_
    refine Jax (Jbe tb (q2) rfl rfl rfl (by repeat (first | apply OSeg.cons | exact OSeg.here | exact OSeg.last | exact OSeg.at (by assumption) | apply OSeg.app)) (by assumption) (fun _=>rfl) (by assumption) (by rfl)) rfl ?_
    refine qbq ?_
    exact qai
   intro junk6
   refine qaf ?_
   refine q_c (fun hc3=>?_) (fun hc3=>?_)
   ·
    refine qay ?_
    refine Xah ?_
    refine qcx ?_
    rintro v L' R' ⟨b72,rfl,rfl,hR72⟩
    replace hR72:=hR72.symm;subst hR72
    refine Jh0 (Jam (f:=Jad) (p:=q) (a:=(j:Int)) tb rfl rfl rfl rfl (v2) (by repeat (first | apply OSeg.cons | exact OSeg.here | exact OSeg.last | exact OSeg.at (by assumption) | apply OSeg.app)) (Ja1 (by repeat (first | exact zi0 | apply zi1 | apply zi2)) rfl rfl) rfl (by first | omega | (simp only [List.length_cons,List.length_nil,List.length_append];omega))) rfl ?_
    rintro v L' R' ⟨o73,rfl,hok73,rfl,rfl⟩
    refine qab ?_
    refine qcy ?_
    refine Xa5 ?_
    exact q_k ⟨(j + 1,(⟨o73,_⟩:OwL Int)),by dsimp only;omega,hok73,by dsimp only;rw [Jml (Jmg.2 (by rw [← hl1,← hl2];exact hc3)),v3]⟩
   refine Xay ?_
   exact q_k ⟨(j + 1,q),by dsimp only;omega,v2,by dsimp only;rw [Jon (J1w fun h=>by have h':=Jmg.1 h;rw [← hl1,← hl2] at h';omega),v3]⟩
  obtain rfl:j=fc.l.length:=by omega
  refine qc3 ?_
  refine Jaz tb [] [0,1,3,4,2,5,6,7] [8] ([Blk.mk b7 _ _,Blk.mk b5 _ _]) _ Jbh (by kernel_rfl) (by repeat (first | exact zs0 _ | exact zs1 _ | apply zs2 | apply zs3 | apply zs4 | apply zs5)) (by (repeat (first | apply List.Sublist.cons (a:=Blk.mk b11 _ _) | apply List.Sublist.cons_cons));exact List.Sublist.refl _) ?_
  refine J1v ?_
  refine qct ?_
  refine J1v ?_
  refine qct ?_
  refine Jbt rfl (Juz mb gl _ _ hb hgl hvb hng) rfl rfl ?_
  rintro v L' R' ⟨c1,S1,rfl,hc1k,hC1,rfl,rfl⟩
  refine qas ?_
  have hR1:∀r∈R,InR r (S1 ++ R):=fun r hr=>Jab (by simp [hr])
  refine Jbt rfl (Juz ma fl _ _ ⟨ha.places.mono hR1,ha.roads.mono hR1⟩ (hfl.mono hR1) hva hnf) rfl rfl ?_
  rintro v L' R' ⟨c2,S2,rfl,hc2k,hC2,rfl,rfl⟩
  refine qas ?_
  have e1:=hC1.unique hCg
  have e2:=hC2.unique hCf
  refine Jbt rfl (Jvk (A:=_) (by repeat (first | exact Jcj | apply Jcl | apply Jdh)) (by repeat (first | exact Jcj | apply Jcl | apply Jdh)) hc1k hc2k (by rw [e1];omega)) rfl rfl ?_
  rintro v L' R' ⟨c3,rfl,hc3k,hC3,rfl,rfl⟩
  refine qas ?_
  refine qan ?_
  refine qba ?_
  refine qbw ?_
  refine qb9 ?_
  have hR2:∀r∈R,InR r (S2 ++ (S1 ++ R)):=fun r hr=>Jab (by simp [hr])
  refine Jaz tb [] [0,2,1,3,4,5] [6] ([Blk.mk b7 _ _,Blk.mk b5 _ _]) _ Jbh (by kernel_rfl) (by repeat (first | exact zs0 _ | exact zs1 _ | apply zs2 | apply zs3 | apply zs4 | apply zs5)) (by (repeat (first | apply List.Sublist.cons (a:=Blk.mk b11 _ _) | apply List.Sublist.cons_cons));exact List.Sublist.refl _) ?_
  refine J1v ?_
  refine J1v ?_
  refine Jbt rfl (Jk2 mb _ _ ⟨hb.places.mono hR2,hb.roads.mono hR2⟩ hokb hvb) rfl rfl ?_
  rintro v L' R' ⟨d1,B',S3,rfl,hd1k,hB',hD1,rfl,rfl⟩
  refine qas ?_
  have hR3:∀r∈R,InR r (S3 ++ (S2 ++ (S1 ++ R))):=fun r hr=>Jab (by simp [hr])
  refine Jbt rfl (Jk2 ma _ _ ⟨ha.places.mono hR3,ha.roads.mono hR3⟩ hoka hva) rfl rfl ?_
  rintro v L' R' ⟨d2,A',S4,rfl,hd2k,hA',hD2,rfl,rfl⟩
  refine qas ?_
  rw [Jms hB hB'] at hD1
  rw [Jms hA hA'] at hD2
  refine Jbt rfl (Jvk (A:=_) (by repeat (first | exact Jcj | apply Jcl | apply Jdh)) (by repeat (first | exact Jcj | apply Jcl | apply Jdh)) hd1k hd2k (by rw [hD1];omega)) rfl rfl ?_
  rintro v L' R' ⟨d3,rfl,hd3k,hD3,rfl,rfl⟩
  refine qas ?_
  refine qan ?_
  refine qba ?_
  refine qbw ?_
  refine Jb8 (Jaa (Jan (Jaj ?_)))
  refine qa8 ?_
  refine Xbp ?_
  refine Jbj (L':=VerdO.L ⟨p,q,c3,d3⟩ L) (R':=R) (Jd4 rfl (Ja0 (row:=[_,_,_,_]) tb rfl rfl rfl (by repeat (first | exact zi0 | apply zi1 | apply zi2)) (by rfl) (by rfl))) ?hp ?hL ?hR
  case hp=>exact ⟨⟨p,q,c3,d3⟩,rfl,⟨w2,v2,hc3k,hd3k⟩,by rw [VerdO.get,Jwx];dsimp only;rw [w3,v3,hC3,hD3,e1,e2,hD1,hD2],rfl,rfl⟩
  case hL=>exact (by repeat (first | exact zs0 _ | exact zs1 _ | apply zs2 | apply zs3 | apply zs4 | apply zs5))
  case hR=>exact fun r hr=>Jab (by simp [hr])
end Go.Proofs.Ytihompplndcdeaa
end
