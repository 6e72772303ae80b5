import Derived.Test.YtchfclmokpbldaaGreatStaE
import Derived.Test.YtchfclmokpbldaaGreatStaG
import Derived.Test.YtchfclmokpbldaaGreatLaw22a
import Derived.Test.YtchfclmokpbldaaGreatFits
import Derived.Test.YtchfclmokpbldaaGreatRows
set_option linter.unusedVariables false
set_option linter.unusedSimpArgs false
section
/-
  Statements about chapter 22: what an act does. By an AI agent; no person has read it.
-/
namespace Go.Proofs.YtchfclmokpbldaaGreat
open Go.Aw Go
set_option maxRecDepth 20000
attribute [local irreducible] CJ LJ DJ Tri YV Gives Jcj Ja1 Jbg Jci RV Ja2 OwL.L
section
variable {A9 B9:Prop}
theorem J0q (a:A9) (h:A9→B9:=by exact Jax (Jal (row:=[_,_,_,_,_,_,_,_,_,_,_,_,_,_,_,_,_,_,_,_,_,_,_]) tb rfl rfl rfl (by repeat (first | exact zi0 | apply zi1 | apply zi2)) (by rfl) (by rfl)) rfl):B9:=h a
end
structure PAct where
  kind:Int
  n:Int
  m:Int
  wait:Int
  bytes:List Int
structure XAct where
  kind:Int
  n:Int
  m:Int
  wait:Int
  bytes:Arr Int
def XAct.cells (x:XAct):List Value:=[.int .i64 x.kind,.int .i64 x.n,.int .i64 x.m,.int .i64 x.wait,x.bytes.val]
abbrev XAct.val (x:XAct):Value:=.agg #[.int .i64 x.kind,.int .i64 x.n,.int .i64 x.m,.int .i64 x.wait,x.bytes.val]
def XAct.p (x:XAct):PAct:=⟨x.kind,x.n,x.m,x.wait,x.bytes.l⟩
instance:Inhabited XAct:=⟨⟨0,0,0,0,⟨none,0,[]⟩⟩⟩
instance:Inhabited PAct:=⟨⟨0,0,0,0,[]⟩⟩
structure ActOk (a:PAct):Prop where
  n:-1000≤a.n∧a.n≤1000
  m:-1000≤a.m∧a.m≤1000
  wait:-2147483648≤a.wait∧a.wait≤2147483648
  bytes:BytesOk a.bytes
  len:a.bytes.length≤100000
def Jmu (a:PAct):Prop:=a.kind=0∨a.kind=1∨a.kind=2
instance (a:PAct):Decidable (Jmu a):=by unfold Jmu;infer_instance
theorem J71 {a:PAct} (h0:¬ a.kind=0) (h1:¬ a.kind=1):decide (a.kind=2)=decide (Jmu a):=by
  rcases Classical.em (a.kind=2) with h | h
  · rw [decide_eq_true h,decide_eq_true (p:=Jmu a) (.inr (.inr h))]
  · rw [decide_eq_false h,decide_eq_false (p:=Jmu a) (by unfold Jmu;omega)]
def Jjd (g:PSite) (p:PSta) (a:PAct):PSta×Int:=
  if Jmu a then Ju0 g p a.bytes (p.time + a.wait)
  else if a.kind=3 then Jhp g p a.n (a.m - 1) (p.time + a.wait)
  else if a.kind=4 then J04 g p a.n a.m (p.time + a.wait)
  else if a.kind=5 then Jfy g p a.n (p.time + a.wait)
  else if a.kind=6 then Jkm g p (p.time + a.wait)
  else Jnm g p (p.time + a.wait)
set_option maxHeartbeats 1000000 in
theorem J4c (g:PSite) (p:PSta) (x:XSta) (a:XAct) (L:List Blk) (R:List Sl) (hI:Inv g p) (hx:StaIs g p x) (hR:StaR x R) (haR:InR (bsl a.bytes) R) (ha:ActOk a.p) (hdr:0≤p.dropped∧p.dropped≤1152921504606846976):
    Tri Tryz.prog 62 [x.val,a.val].toArray L R (Jic g (Jjd g p a.p) L R):=by
  have htm:=hI.time
  have hxt:=hx.time
  have hw:-2147483648≤a.wait∧a.wait≤2147483648:=ha.wait
  have hm:-1000≤a.m∧a.m≤1000:=ha.m
  have hak:a.p.kind=a.kind:=rfl
  refine Jad 69 Tryz.call62 Tryz.func62 rfl rfl rfl ?_
  refine Xaf ?_
  intro b2
  refine qax ?_
  intro b3
  refine qaq ?_
  intro b4
  refine Xag ?_
  refine Xa1 ?_
  refine qar ?_
  refine Xas ?_
  refine Xaa ?_
  refine Ja6 (Jab (Jbd (Jam (Jam (Jah ?_)))))
  refine Xaz ?_
  refine Jj1 [14,16,17] ((⟨fun q=>[(14,.bool q.1)],fun _=>⟨b4,staZ.cells,54⟩ :: ⟨b3,a.cells,144⟩ :: ⟨b2,x.cells,54⟩ :: L,fun _=>R,fun _=>0⟩:Head {b:Bool // b=decide (Jmu a.p)})) ?_ ?_
  ·
   skip
   refine q_c (fun hc0=>?_) (fun hc0=>?_)
   ·
    refine Ja4 ?_
    exact q_j ⟨decide (a.kind=0),by rw [decide_eq_true hc0];exact (decide_eq_true (p:=Jmu a.p) (.inl hc0)).symm⟩
   refine Xbf ?_
   refine q_c (fun hc1=>?_) (fun hc1=>?_)
   ·
    refine Ja4 ?_
    exact q_j ⟨decide (a.kind=1),by rw [decide_eq_true hc1];exact (decide_eq_true (p:=Jmu a.p) (.inr (.inl hc1))).symm⟩
   refine qay ?_
   refine qbn ?_
   refine qaz ?_
   refine qav ?_
   exact q_j ⟨decide (a.kind=2),J71 (a:=a.p) hc0 hc1⟩
  rintro ⟨bb,hbb⟩ junk
  try dsimp only
  have hxa:((Jmu a.p:Prop)↔bb=true):=by rw [hbb];simp
  refine q_c (fun hc2=>?_) (fun hc2=>?_)
  ·
   have hfa:Jmu a.p:=by simpa [hbb] using hc2
   have hdo:Jjd g p a.p=Ju0 g p a.bytes.l (x.time + a.wait):=by rw [Jjd,if_pos hfa,hxt];rfl
   refine qae ?_
   refine J0q ?_
   refine Xal ?_
   refine Jaw rfl (Jxc g p x a.bytes (x.time + a.wait) _ _ hI hx hR haR ha.bytes ha.len hdr) rfl ?_
   rintro v L' R' ⟨y,S,rfl,hy,hyR,rfl,rfl⟩
   refine Xa5 ?_
   refine Xdm ?_
   refine qdb ?_
   refine q_r (L':=L) (R':=S ++ R) (Jcf rfl (Jao (row:=[_,_,_,_,_,_,_,_,_,_,_,_,_,_,_,_,_,_,_,_,_,_,_]) tb rfl rfl rfl (by repeat (first | exact zi0 | apply zi1 | apply zi2)) (by rfl) (by rfl)) (Jaf (show _=Value.int _ _ from rfl))) ?_
   exact ⟨y,S,by rw [hdo],by rw [hdo];exact hy,hyR,rfl,rfl⟩
  have hfa:¬ Jmu a.p:=by simpa [hbb] using hc2
  refine Xbf ?_
  refine q_c (fun hc3=>?_) (fun hc3=>?_)
  ·
   have hdo:Jjd g p a.p=Jhp g p a.n (a.m - 1) (x.time + a.wait):=by rw [Jjd,if_neg hfa,if_pos (show a.p.kind=3 from hc3),hxt];rfl
   refine qae ?_
   refine J0q ?_
   refine Xa1 ?_
   refine qa9 ?_
   refine qaa ?_
   refine Jaw rfl (Jsl g p x a.n (a.m - 1) (x.time + a.wait) _ _ hI hx hR) rfl ?_
   rintro v L' R' ⟨y,S,rfl,hy,hyR,rfl,rfl⟩
   refine Xa5 ?_
   refine Xdm ?_
   refine qdb ?_
   refine q_r (L':=L) (R':=S ++ R) (Jcf rfl (Jao (row:=[_,_,_,_,_,_,_,_,_,_,_,_,_,_,_,_,_,_,_,_,_,_,_]) tb rfl rfl rfl (by repeat (first | exact zi0 | apply zi1 | apply zi2)) (by rfl) (by rfl)) (Jaf (show _=Value.int _ _ from rfl))) ?_
   exact ⟨y,S,by rw [hdo],by rw [hdo];exact hy,hyR,rfl,rfl⟩
  refine Xbf ?_
  refine q_c (fun hc4=>?_) (fun hc4=>?_)
  ·
   have hdo:Jjd g p a.p=J04 g p a.n a.m (x.time + a.wait):=by rw [Jjd,if_neg hfa,if_neg (show ¬ a.p.kind=3 from hc3),if_pos (show a.p.kind=4 from hc4),hxt];rfl
   refine qae ?_
   refine J0q ?_
   refine Xaa ?_
   refine Xal ?_
   refine Jaw rfl (Jq0 g p x a.n a.m (x.time + a.wait) _ _ hI hx hR) rfl ?_
   rintro v L' R' ⟨y,S,rfl,hy,hyR,rfl,rfl⟩
   refine Xa5 ?_
   refine Xdm ?_
   refine qdb ?_
   refine q_r (L':=L) (R':=S ++ R) (Jcf rfl (Jao (row:=[_,_,_,_,_,_,_,_,_,_,_,_,_,_,_,_,_,_,_,_,_,_,_]) tb rfl rfl rfl (by repeat (first | exact zi0 | apply zi1 | apply zi2)) (by rfl) (by rfl)) (Jaf (show _=Value.int _ _ from rfl))) ?_
   exact ⟨y,S,by rw [hdo],by rw [hdo];exact hy,hyR,rfl,rfl⟩
  refine Xbf ?_
  refine q_c (fun hc5=>?_) (fun hc5=>?_)
  ·
   have hdo:Jjd g p a.p=Jfy g p a.n (x.time + a.wait):=by rw [Jjd,if_neg hfa,if_neg (show ¬ a.p.kind=3 from hc3),if_neg (show ¬ a.p.kind=4 from hc4),if_pos (show a.p.kind=5 from hc5),hxt];rfl
   refine qae ?_
   refine J0q ?_
   refine Xal ?_
   refine Jaw rfl (Jp4 g p x a.n (x.time + a.wait) _ _ hI hx hR) rfl ?_
   rintro v L' R' ⟨y,S,rfl,hy,hyR,rfl,rfl⟩
   refine Xa5 ?_
   refine Xdm ?_
   refine qdb ?_
   refine q_r (L':=L) (R':=S ++ R) (Jcf rfl (Jao (row:=[_,_,_,_,_,_,_,_,_,_,_,_,_,_,_,_,_,_,_,_,_,_,_]) tb rfl rfl rfl (by repeat (first | exact zi0 | apply zi1 | apply zi2)) (by rfl) (by rfl)) (Jaf (show _=Value.int _ _ from rfl))) ?_
   exact ⟨y,S,by rw [hdo],by rw [hdo];exact hy,hyR,rfl,rfl⟩
  refine Xbf ?_
  refine q_c (fun hc6=>?_) (fun hc6=>?_)
  ·
   have hdo:Jjd g p a.p=Jkm g p (x.time + a.wait):=by rw [Jjd,if_neg hfa,if_neg (show ¬ a.p.kind=3 from hc3),if_neg (show ¬ a.p.kind=4 from hc4),if_neg (show ¬ a.p.kind=5 from hc5),if_pos (show a.p.kind=6 from hc6),hxt];rfl
   refine qae ?_
   refine J0q ?_
   refine qaa ?_
   refine Jaw rfl (Jvi g p x (x.time + a.wait) _ _ hI hx hR) rfl ?_
   rintro v L' R' ⟨y,S,rfl,hy,hyR,rfl,rfl⟩
   refine Xa5 ?_
   refine Xdm ?_
   refine qdb ?_
   refine q_r (L':=L) (R':=S ++ R) (Jcf rfl (Jao (row:=[_,_,_,_,_,_,_,_,_,_,_,_,_,_,_,_,_,_,_,_,_,_,_]) tb rfl rfl rfl (by repeat (first | exact zi0 | apply zi1 | apply zi2)) (by rfl) (by rfl)) (Jaf (show _=Value.int _ _ from rfl))) ?_
   exact ⟨y,S,by rw [hdo],by rw [hdo];exact hy,hyR,rfl,rfl⟩
  have hdo:Jjd g p a.p=Jnm g p (x.time + a.wait):=by rw [Jjd,if_neg hfa,if_neg (show ¬ a.p.kind=3 from hc3),if_neg (show ¬ a.p.kind=4 from hc4),if_neg (show ¬ a.p.kind=5 from hc5),if_neg (show ¬ a.p.kind=6 from hc6),hxt];rfl
  refine Ja4 (Jag (Jab (Jam (Jah ?_))))
  refine J0q ?_
  refine qaa ?_
  refine Jaw rfl (Jpf g p x (x.time + a.wait) _ _ hI hx hR) rfl ?_
  rintro v L' R' ⟨y,S,rfl,hy,hyR,rfl,rfl⟩
  refine Xa5 ?_
  refine Xbl ?_
  refine q_r (L':=L) (R':=S ++ R) (Jcf rfl (Jao (row:=[_,_,_,_,_,_,_,_,_,_,_,_,_,_,_,_,_,_,_,_,_,_,_]) tb rfl rfl rfl (by repeat (first | exact zi0 | apply zi1 | apply zi2)) (by rfl) (by rfl)) (Jaf (show _=Value.int _ _ from rfl))) ?_
  exact ⟨y,S,by rw [hdo],by rw [hdo];exact hy,hyR,rfl,rfl⟩
end Go.Proofs.YtchfclmokpbldaaGreat
end
section
/-
  Statements about chapter 22: times that are refused. By an AI agent; no person has read it.
-/
namespace Go.Proofs.YtchfclmokpbldaaGreat
open Go.Aw Go
section
variable {A9 B9:Prop}
theorem J4j (a:A9) (h:A9→B9:=by exact Jax (Jal (row:=[_,_,_,_,_,_,_,_,_,_,_,_,_,_,_,_,_,_,_,_,_,_,_]) tb rfl rfl rfl (by repeat (first | exact zi0 | apply zi1 | apply zi2)) (by rfl) (by rfl)) rfl):B9:=h a
end
theorem J1u {g:PSite} {p:PSta} {a:PAct} (h:Jfl p (p.time + a.wait)):Jjd g p a=(p,8):=by
  rw [Jjd]
  split
  · rw [Ju0,if_pos h]
  split
  · rw [Jhp,if_pos h]
  split
  · rw [J04,if_pos h]
  split
  · rw [Jfy,if_pos h]
  split
  · rw [Jkm,if_pos h]
  · rw [Jnm,if_pos h]
set_option maxRecDepth 20000
attribute [local irreducible] CJ LJ DJ Tri YV Gives Jcj Ja1 Jbg Jci RV Ja2 OwL.L
set_option maxHeartbeats 1000000 in
theorem Jno (y:Arr Int) (back kind:Int) (R:List Sl) (hy:CodesR y R) (hb:0≤back∧back≤65535) (hkd:0≤kind∧kind≤255):
    Tri Tryz.prog 8 [y.val,.int .u16 back,.int .u8 kind].toArray [] R (fun v L' R'=>v=.bool true∧[]=L'∧R=R'):=by
  refine Jad 72 Tryz.call8 Tryz.func8 rfl rfl rfl ?_
  refine Xax ?_
  refine Xcy ?_
  refine Jaw rfl (J1k y _ _ hy) rfl ?_
  rintro v L' R' ⟨c,rfl,hx,rfl,rfl⟩
  refine qc1 ?_
  refine qam ?_
  refine qa6 ?_
  refine Jaw rfl (Jtq c _ 0 _ hx (Nat.zero_le _)) rfl ?_
  rintro v L' R' ⟨s,len,dl,ho,f,n,k1,rfl,hE,hN,⟨hk1,_⟩,⟨hs,hf,hR0⟩,rfl⟩
  refine Jax (Jav rfl) rfl ?_
  refine Xcs ?_
  intro b8
  refine qaq ?_
  intro b9
  refine qak ?_
  refine Xcw ?_
  have hRR:∀r∈R,InR r R':=fun r hr=>hR0 r (.tail _ hr)
  obtain ⟨A,hA⟩:=J3z s.air.mine
  have h0:=Jmj (f:=f) hE hN.rng hN.sw hN.zn hN.rp
  have hI:=Jsf (A:=A) h0 hA
  refine Jc3 (L':=⟨b9,f.cells,42⟩ :: ⟨b8,s.cells,38⟩ :: []) (by repeat (first | exact zs0 _ | exact zs1 _ | apply zs2 | apply zs3 | apply zs4 | apply zs5)) (Jac _) ?_
  refine qay ?_
  refine Jax (Jal (row:=[_,_,_,_,_,_,_,_]) tb rfl rfl rfl (by repeat (first | exact zi0 | apply zi1 | apply zi2)) (by rfl) (by rfl)) rfl ?_
  refine Jax (Jal (row:=[_,_,_]) tb rfl rfl rfl (by repeat (first | exact zi0 | apply zi1 | apply zi2)) (by rfl) (by rfl)) rfl ?_
  refine Jaw rfl (Jn8 s f A _ _ hs hf hA) rfl ?_
  rintro v L' R' ⟨x,S1,rfl,hxR,hx0,_,rfl,rfl⟩
  rw [h0]
  have hx:=hx0 h0
  refine Jax (Jav rfl) rfl ?_
  refine Xcs ?_
  intro b10
  refine qak ?_
  refine Xag ?_
  refine J4j ?_
  refine Jaw rfl (Jpf (gOf s f A) (Jo1 s f) x 1000 _ _ hI hx hxR) rfl ?_
  rintro v L' R' ⟨x1,S2,rfl,hx1,hx1R,rfl,rfl⟩
  have hI1:=hI.tick 1000
  have e1:Jnm (gOf s f A) (Jo1 s f) 1000=(Jaj (gOf s f A) (Jo1 s f) 1000,0):=by rw [Jnm,if_neg];show ¬ ((1000:Int) < 0∨_);decide
  rw [e1] at hx1 hI1 ⊢
  obtain ⟨q,hqe⟩:∃q,q=Jaj (gOf s f A) (Jo1 s f) 1000:=⟨_,rfl⟩
  dsimp only at hx1 hI1 ⊢
  have hqt:q.time=1000:=by rw [hqe];exact Jxo ..
  have hqd:q.dropped=0:=by rw [hqe];exact (Jv4 (g:=gOf s f A) (p:=Jo1 s f) 1000).dropped
  rw [← hqe] at hx1 hI1
  refine Jax (Jav rfl) rfl ?_
  refine Xa5 ?_
  refine qak ?_
  refine Xc0 ?_
  refine Xbu ?_
  apply Ja7 (G:=[_,_]) (j:=2) (cj:=37) rfl rfl (by rfl) rfl (show _=Value.bool _ from rfl) rfl
  ·
   intro hg3
   replace hg3:=qb hg3
   refine qaa ?_
   refine qbq ?_
   exact qai
  intro junk3
  refine qaf ?_
  refine q_c (fun hc0=>?_) (fun hc0=>?_)
  ·
   refine Xch ?_
   refine Jbw (L':=[]) (R':=R) (Jec rfl (Jaf (show _=Value.bool _ from rfl))) ?hp ?hL ?hR
   case hp=>exact absurd hc0 (by simp)
   case hL=>exact (by repeat (first | exact zs0 _ | exact zs1 _ | apply zs2 | apply zs3 | apply zs4 | apply zs5))
   case hR=>exact fun r hr=>(hRR r hr).mono fun r hr=>Jaa (by simp [hr])
  refine Ja4 (Jab (Jam (Jam ?_)))
  obtain ⟨w0,hw0⟩:∃w0,w0= -1 - back.tmod 900:=⟨_,rfl⟩
  have hw0b:-1000≤w0∧w0≤ -1:=by rw [hw0,Int.tmod_eq_emod_of_nonneg hb.1];omega
  refine Xa4 ?_
  refine qdg ?_
  refine qda ?_
  refine qa9 ?_
  refine Jgl (Ja0 (qs:=[(0,(Value.int _ _).cells.toList),(1,(Value.int _ _).cells.toList)]) (out:=[_,_]) tb rfl rfl rfl rfl rfl rfl rfl) rfl ?_
  rintro v L' R' ⟨b45,rfl,rfl,hR45⟩
  replace hR45:=hR45.symm;subst hR45
  refine Jhr (wd:=1) (len:=2) (cap:=2) (rows:=[Jap w0,Jap 2147483648]) (subs:=[]) (by rw [hw0];rfl) (by decide) (by decide) (fun r hr=>by rcases List.mem_cons.1 hr with rfl | hr;rfl;rw [List.mem_singleton.1 hr];rfl) (by decide) (by rw [hw0];rfl) (fun s hs=>by cases hs) ?_
  refine Xdg ?_
  refine Jan [(2,Value.int _ _),(10,Value.pointer _),(45,Value.slice _ _ _),(46,Value.int _ _),(47,Value.int _ _)] (by repeat' (first | exact trivial | refine And.intro rfl ?_)) fun tq0=>?_
  obtain ⟨R2,hR2e⟩:∃R2,R2=isl (⟨some ⟨b45,0,none⟩,2,[w0,2147483648]⟩:Arr Int) :: (S2 ++ (S1 ++ R')):=⟨_,rfl⟩
  have hwlR:InR (isl (⟨some ⟨b45,0,none⟩,2,[w0,2147483648]⟩:Arr Int)) R2:=Jaa (by rw [hR2e];exact .head _)
  have hR2:∀r∈S2 ++ (S1 ++ R'),InR r R2:=fun r hr=>Jaa (by rw [hR2e];exact .tail _ hr)
  have hx2:=hx1R.mono hR2
  have hRR2:∀r∈R,InR r R2:=fun r hr=>(hRR r hr).mono fun r hr=>hR2 r (by simp [hr])
  refine Jsd (show _=R2 by rw [hR2e];rfl) ?_
  refine q_p [6,14,15,16,47,48,49,50,51,52,53,54,55,56,57,58,59,60,61,62,63,64,65,66,67,68,69,70] ((⟨fun g=>[(47,.int .i64 ((g.1:Nat):Int))],fun _=>⟨b10,x1.cells,54⟩ :: ⟨b9,f.cells,42⟩ :: ⟨b8,s.cells,38⟩ :: [],fun _=>R2,fun g=>2 - g.1⟩:Head {k:Nat // k≤2})) (⟨0,by omega⟩) ?_
  rintro ⟨k,hk⟩ junk
  try dsimp only
  refine Xak ?_
  refine q_c (fun hc1=>?_) (fun hc1=>?_)
  ·
   obtain ⟨w,hw⟩:∃w,w=[w0,2147483648].getD k 0:=⟨_,rfl⟩
   have hwg:[w0,2147483648][k]?=some w:=by rw [hw];exact Jau (l:=[w0,2147483648]) 0 (by simp;omega)
   have hwll:[w0,2147483648].length=2:=rfl
   have hwb:w=w0∨w=2147483648:=by
     have:=List.mem_of_getElem? hwg
     simpa using this
   have haok:ActOk (⟨kind.tmod 8,0,2,w,[1]⟩:PAct):=⟨by dsimp only;omega,by dsimp only;omega,by dsimp only;omega,fun x hx=>by rw [List.mem_singleton.1 hx];omega,by simp⟩
   have hdl:Jjd (gOf s f A) q ⟨kind.tmod 8,0,2,w,[1]⟩=(q,8):=J1u (by rw [Jfl];dsimp only;omega)
   refine qbb ?_
   refine Jax (by first | exact Jae tb rfl rfl rfl rfl (by first | assumption | exact zr (by simp)) (i:=k) (by first | rfl | omega | (simp;omega)) (by omega) | exact Jak tb rfl rfl rfl rfl (i:=k) (by first | rfl | omega | (simp;omega)) (by omega)) rfl ?_
   refine qa7 ?_
   refine Xag ?_
   refine J4j ?_
   refine qaa ?_
   refine qdg ?_
   refine qda ?_
   refine qaa ?_
   refine qcx ?_
   rintro v L' R' ⟨b57,rfl,rfl,hR57⟩
   replace hR57:=hR57.symm;subst hR57
   refine Jhr (wd:=1) (len:=1) (cap:=1) (rows:=[Jkz 1]) (subs:=[]) rfl (by decide) (by decide) (fun r hr=>by rw [List.mem_singleton.1 hr];rfl) (by decide) rfl (fun s hs=>by cases hs) ?_
   refine Jax (Jbc (qs:=[(0,(Value.int _ _).cells.toList),(3,(Value.int _ _).cells.toList),(4,(Value.slice _ _ _).cells.toList),(2,(Value.int _ _).cells.toList)]) (out:=[_,_,_,_,_]) tb rfl rfl rfl rfl) rfl ?_
   refine Jaw rfl (J4c (gOf s f A) q x1 (⟨kind.tmod 8,0,2,w,⟨some ⟨b57,0,none⟩,1,[1]⟩⟩:XAct) _ (bsl (⟨kind.tmod 8,0,2,w,⟨some ⟨b57,0,none⟩,1,[1]⟩⟩:XAct).bytes :: R2) hI1 hx1 (hx2.mono fun r hr=>Jaa (.tail _ hr)) (Jaa (.head _)) haok (by rw [hqd];decide)) rfl ?_
   rintro v L' R' ⟨y1,S3,rfl,hy1,hy1R,rfl,rfl⟩
   rw [show Jjd (gOf s f A) q ((⟨kind.tmod 8,0,2,w,⟨some ⟨b57,0,none⟩,1,[1]⟩⟩:XAct)).p=(q,8) from hdl] at hy1 ⊢
   dsimp only at hy1 ⊢
   refine Jax (Jav rfl) rfl ?_
   refine Xcs ?_
   intro b15
   refine qak ?_
   refine Xat ?_
   refine Xbu ?_
   apply Ja7 (G:=[_,_,_,_]) (j:=2) (cj:=64) rfl rfl (by rfl) rfl (show _=Value.bool _ from rfl) rfl
   ·
    intro hg3
    replace hg3:=qb hg3
    refine J4j ?_
    refine J4j ?_
    refine q_l rfl (StaIs.same hI1 hx1 hy1 (hx2.mono fun r hr=>Jaa (List.mem_append_right _ (.tail _ hr))) hy1R) ?_
    refine qb4 ?_
    exact qai
   intro junk3
   refine qaf ?_
   refine q_c (fun hc2=>?_) (fun hc2=>?_)
   ·
    refine Xca ?_
    refine Jbw (L':=[]) (R':=R) (Jec rfl (Jaf (show _=Value.bool _ from rfl))) ?hp ?hL ?hR
    case hp=>exact absurd hc2 (by simp)
    case hL=>exact (by repeat (first | exact zs0 _ | exact zs1 _ | apply zs2 | apply zs3 | apply zs4 | apply zs5))
    case hR=>exact fun r hr=>(hRR2 r hr).mono fun r hr=>Jaa (List.mem_append_right _ (.tail _ hr))
   refine Xay ?_
   exact Jbl ⟨k + 1,by omega⟩ (by repeat (first | exact Off.refl | apply Off.upd rfl | apply Off.havoc rfl | apply Off.updL rfl | apply Off.left rfl)) (by repeat' (first | exact trivial | refine And.intro rfl ?_)) (by repeat (first | exact zs0 _ | exact zs1 _ | apply zs2 | apply zs3 | apply zs4 | apply zs5)) (fun r hr=>Jaa (List.mem_append_right _ (.tail _ hr))) (by dsimp only;omega)
  refine qbk ?_
  refine q_l rfl (Jxp _ _) ?_
  refine Xa3 ?_
  refine Jbw (L':=[]) (R':=R) (Jec rfl (Jaf (show _=Value.bool _ from rfl))) ?hp ?hL ?hR
  case hp=>exact ⟨rfl,rfl,rfl⟩
  case hL=>exact (by repeat (first | exact zs0 _ | exact zs1 _ | apply zs2 | apply zs3 | apply zs4 | apply zs5))
  case hR=>exact hRR2
end Go.Proofs.YtchfclmokpbldaaGreat
end
section
/-
  The statement StationTimes: it returns true for all inputs, and the inputs read as they did. No conditions.
-/
namespace Go.Proofs.YtchfclmokpbldaaGreat
open Go.Aw Go
open Go.ChangeShapes Go.WideShapes Go.ChangeAt Go.RowKit
namespace stationTimes
theorem walk (a0:Arr Int) (a1:Int) (a2:Int) (w:World) (w0:∀n∈a0.l,(Lit.int .u8 n).wf=true) (r0:∀s∈[bsl a0],Rep w (Old w) s) (w1:(Lit.int .u16 a1).wf=true) (w2:(Lit.int .u8 a2).wf=true):
    Calls Tryz.prog 8 #[a0.val,.int .u16 a1,.int .u8 a2] w fun e w'=>e=.returned (.bool true)∧Below w.heap.size w w':=by
  have h:=(Jno a0 a1 a2 [bsl a0] ⟨Jaa (by simp),fun i b hb=>Kag (w0 b (List.mem_of_getElem? hb))⟩ (Kaa w1) (Kag w2)).2 w (Old w) (J25 fun r hr=>by
    simp only [List.mem_cons,List.not_mem_nil,or_false] at hr
    rcases hr with rfl
    · exact r0 _ (by simp))
  exact h.mono fun e w' ⟨v,L',R',he,⟨hv,_,_⟩,hst⟩=>⟨by rw [he,hv],J58 hst⟩
set_option maxRecDepth 100000 in
theorem Ka4 (os:Os) (started:os.Started) (H:Type) (enc:TypeId×Value→H):
    ReturnsInHanded {} Tryz.checked os 8 .any (Rows.stationTimesSpec.pre6 enc Tryz.prog Tryz.f8 Rows.stationTimesRow.domain false) (Rows.stationTimesSpec.post enc Tryz.prog Tryz.f8 false true false false):=by
  refine returnsInHanded_of_change (C := Tryz.checked) J56 started (by kernel_rfl) Tryz.func8
    (ChangeSpec.witness6 (enc:=enc) (C:=Tryz.checked) false ⟨#[],#[.slice none 0 0,.int .u16 0,.int .u8 0],[]⟩ 8 (by kernel_rfl) (by kernel_rfl) (by kernel_rfl) (by kernel_rfl)) ?_
  intro W base args ds gs before hval0 hW hcnd _
  have hval:∀(j:Nat) t v,Tryz.f8.params[j]?=some t→args[j]?=some v→Value.okWide Tryz.prog W .any base t v:=hval0
  have hW':=hW
  obtain ⟨p,q,hA0,hV,rfl,hfz,hnd⟩:=hW
  have hA:DataW.TrodAll enc Tryz.prog W 0 (fun _=>true) true Tryz.f8.params.toList args.toList ds p:=hA0
  rw [Tryz.params8] at hA hval
  obtain ⟨v0,vs0,d0,ds0,p0,q0,hargs,rfl,rfl,h0,t0⟩:=trodAll_cons hA
  obtain ⟨v1,vs1,d1,ds1,p1,q1,rfl,rfl,rfl,h1,t1⟩:=trodAll_cons t0
  obtain ⟨v2,vs2,d2,ds2,p2,q2,rfl,rfl,rfl,h2,t2⟩:=trodAll_cons t1
  obtain ⟨rfl,rfl,rfl⟩:=trodAll_nil t2
  obtain rfl:args=#[v0,v1,v2]:=by cases args;simp_all
  obtain ⟨rfl,rfl⟩:=trodVars_none hV
  obtain ⟨x0,y0,z0,rfl⟩:=okWide_slice Tryz.underlying22 (hval 0 22 v0 rfl rfl)
  have k0:=h0
  have lt0:∀x∈p0,x.block < W.heap.size:=by obtain ⟨m,hm⟩:=k0;exact DataW.trod_lt m _ _ _ hm
  obtain ⟨a0,e0,w0,r0⟩:∃a:Arr Int,_:=J4k W _ (by obtain ⟨m,hm⟩:=h0;exact ⟨_,_,m,_,hm⟩)
  obtain ⟨rfl,rfl,rfl⟩:x0=a0.a∧y0=a0.l.length∧z0=a0.cap:=by simpa [Value.cells,Arr.val] using e0
  obtain ⟨a1,rfl,rfl,rfl,w1⟩:=open_int Tryz.underlying141 (hval 1 141 v1 rfl rfl) h1
  obtain ⟨a2,rfl,rfl,rfl,w2⟩:=open_int Tryz.underlying5 (hval 2 5 v2 rfl rfl) h2
  clear hA0 hval0
  refine (walk a0 a1 a2 W w0 r0 w1 w2).mono fun e W' ⟨he,bel⟩=>?_
  subst he
  exact ⟨_,rfl,_,_,_,[],_,[],hW',trodAll_mk1 (shut_bool Tryz.underlying4 _),(trodAll_cons_mk (Below.trod J8l (by kernel_rfl) (of_decide_eq_true (by kernel_rfl)) k0 bel lt0) (trodAll_cons_mk (shut_int Tryz.underlying141 w1) (trodAll_cons_mk (shut_int Tryz.underlying5 w2) trodAll_mk0))),rfl,bel.frame _,fun h=>by cases h⟩
end stationTimes
end Go.Proofs.YtchfclmokpbldaaGreat
end
