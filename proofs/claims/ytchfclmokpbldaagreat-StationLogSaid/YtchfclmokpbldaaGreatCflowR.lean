/-
  Texts of one chapter, merged. By an AI agent; no person has read it.
-/
import Derived.Test.YtchfclmokpbldaaGreatPart
import Derived.Test.YtchfclmokpbldaaGreatFits
set_option linter.unusedVariables false
set_option linter.unusedSimpArgs false
set_option maxRecDepth 20000
namespace Go.Proofs.YtchfclmokpbldaaGreat
open Go.Aw Go
section
attribute [local irreducible] CJ LJ DJ Tri YV Gives Ui J0 Ke Uh RV J2 OwL.L
section
variable {A9 B9:Prop}
theorem Ugf (a:A9) (h:A9→B9:=by exact Jx (Ju tb (p) _ rfl rfl rfl rfl zh (i:=k) zk zu) rfl):B9:=h a
theorem Ktf (a:A9) (h:A9→B9:=by exact Jx zub rfl):B9:=h a
theorem Vhf (a:A9) (h:A9→B9:=by exact Jx (Ju tb ((⟨.own b19 N [],fr⟩:OwL Bool)) _ rfl rfl ((show _=Value.slice _ _ _ from rfl).trans (Us hfl)) rfl zh (i:=(lb p.l k).toNat) zk zu) rfl):B9:=h a
end
theorem Y0d (m:XMine) (L:List Blk) (R:List Sl) (hm:MineR m R):
    Tri Tryz.prog 196 [m.val].toArray L R (fun v L' R'=>v=.bool (decide (Vf m=0))∧L=L'∧R=R'):=by
  refine Jg 6 Tryz.call196 Tryz.func196 rfl rfl rfl ?_
  refine Xag ?_
  intro b1
  refine qaz ?_
  refine qam ?_
  refine qbe ?_
  refine q_l rfl (Jgb m _ _ hm) ?_
  refine qbn ?_
  refine Xba ?_
  refine q_b (L':=L) (R':=R) ?_
  exact zpd
structure FrOk (m:XMine) (f:List Int) (fr:List Bool) (N k:Nat):Prop where
  len:fr.length=N
  iff:∀c:Nat,fr.getD c false=true↔∃j:Nat,j < k∧(m.places.l.getD j default).surface=true∧lb f j=(c:Int)
theorem FrOk.zero (m:XMine) (f:List Int) (N:Nat):FrOk m f (List.replicate N false) N 0:=by
  refine ⟨by simp,fun c=>⟨fun h=>?_,fun ⟨j,hj,_⟩=>by omega⟩⟩
  rw [List.getD_eq_getElem?_getD,List.getElem?_replicate] at h
  split at h <;> simp at h
theorem FrOk.stay {m:XMine} {f:List Int} {fr:List Bool} {N k:Nat} (h:FrOk m f fr N k) (hs:¬ (m.places.l.getD k default).surface=true):FrOk m f fr N (k + 1):=by
  refine ⟨h.len,fun c=>(h.iff c).trans ⟨fun ⟨j,h1,h2,h3⟩=>⟨j,by omega,h2,h3⟩,fun ⟨j,h1,h2,h3⟩=>?_⟩⟩
  rcases Nat.lt_or_ge j k with h4 | h4
  · exact ⟨j,h4,h2,h3⟩
  · obtain rfl : j = k := by omega
    exact absurd h2 hs
theorem FrOk.next {m:XMine} {f:List Int} {fr:List Bool} {N k:Nat} (h:FrOk m f fr N k) (hs:(m.places.l.getD k default).surface=true) (h0:0≤lb f k∧lb f k < (N:Int)):FrOk m f (fr.set (lb f k).toNat true) N (k + 1):=by
  have hl:=h.len
  refine ⟨by simp [hl],fun c=>?_⟩
  rw [V6c za]
  split
  · rename_i e
    exact ⟨fun _=>⟨k,by omega,hs,by omega⟩,fun _=>rfl⟩
  · rename_i e
    refine (h.iff c).trans ⟨fun ⟨j,h1,h2,h3⟩=>⟨j,by omega,h2,h3⟩,fun ⟨j,h1,h2,h3⟩=>?_⟩
    rcases Nat.lt_or_ge j k with h4 | h4
    · exact ⟨j,h4,h2,h3⟩
    · obtain rfl : j = k := by omega
      exact absurd za e
def Ukc (f:List Int) (fr:List Bool) (n:Nat):List Bool:=(List.range n).map fun i=>fr.getD (lb f i).toNat false
theorem Zzb {f:List Int} {fr:List Bool} {n i:Nat} (h:i < n):(Ukc f fr n).getD i false=fr.getD (lb f i).toNat false:=by
  rw [List.getD_eq_getElem?_getD,Ukc,List.getElem?_map,List.getElem?_range h];rfl
theorem J0d {m:XMine} {j:Nat} (h:j < m.places.l.length):(Ure m).getD j false=(m.places.l.getD j default).surface:=by
  rw [List.getD_eq_getElem?_getD,Ure,List.getElem?_map,Jw (l:=m.places.l) (k:=j) default h];rfl
theorem FrOk.airy {m:XMine} {f:List Int} {fr:List Bool} {N:Nat} (h:FrOk m f fr N m.places.l.length) (hp:PartIs m f (N:Int)):AiryIs m (Ukc f fr m.places.l.length):=by
  have hsl:(Ure m).length=m.places.l.length:=by simp [Ure]
  refine ⟨by simp [Ukc,hsl],fun i hi=>?_⟩
  have hi':i < m.places.l.length:=by omega
  have hr:=hp.rng i hi'
  rw [Zzb hi',h.iff]
  refine ⟨fun ⟨j,h1,h2,h3⟩=>⟨j,by omega,by rw [J0d h1];exact h2,(hp.iff j i h1 hi').1 za⟩,fun ⟨j,h1,h2,h3⟩=>?_⟩
  have h1':j < m.places.l.length:=by omega
  rw [J0d h1'] at h2
  exact ⟨j,h1',h2,by rw [(hp.iff j i h1' hi').2 h3];omega⟩
def Kza (A : List Bool) : Nat → List Int
  | 0=>[]
  | k + 1=>if A.getD k false=true then Kza A k else Kza A k ++ [(k:Int)]
theorem U5a (A : List Bool) : ∀ k, (Kza A k).length ≤ k
  | 0=>by simp [Kza]
  | k + 1=>by
    have:=U5a A k
    rw [Kza]
    split
    · omega
    · simp only [List.length_append,List.length_singleton];omega
theorem Jvb {A : List Bool} {e : Int} : ∀ {k : Nat}, e ∈ Kza A k ↔ ∃ i : Nat, e = (i : Int) ∧ i < k ∧ ¬ A.getD i false = true
  | 0=>⟨fun h=>(by simp [Kza] at h),fun ⟨i,_,h,_⟩=>za⟩
  | k + 1=>by
    have ih:=Jvb (A:=A) (e:=e) (k:=k)
    rw [Kza]
    split
    · rename_i h
      refine ih.trans ⟨fun ⟨i,h1,h2,h3⟩=>⟨i,h1,by omega,h3⟩,fun ⟨i,h1,h2,h3⟩=>⟨i,h1,?_,h3⟩⟩
      rcases Nat.lt_or_ge i k with h4 | h4
      · exact h4
      · obtain rfl : i = k := by omega
        exact absurd h h3
    · rename_i h
      rw [List.mem_append,ih,List.mem_singleton]
      refine ⟨fun h0=>?_,fun ⟨i,h1,h2,h3⟩=>?_⟩
      · rcases h0 with ⟨i, h1, h2, h3⟩ | h0
        · exact ⟨i,h1,by omega,h3⟩
        · exact ⟨k,h0,by omega,h⟩
      · rcases Nat.lt_or_ge i k with h4 | h4
        · exact .inl ⟨i,h1,h4,h3⟩
        · obtain rfl : i = k := by omega
          exact .inr h1
theorem Vsd (m:XMine) (L:List Blk) (R:List Sl) (hm:MineR m R) (hok:MineOk m) (hv:Vf m=0):
    Tri Tryz.prog 243 [m.val].toArray L R (fun w L' R'=>∃(p:OwL Int) (A:List Bool) (S:List Sl),w=p.val∧p.ok 1 Jp∧AiryIs m A∧p.l=Kza A m.places.l.length∧p.L 3 Jp ++ L=L'∧S ++ R=R'):=by
  have hmp:=hm.places
  have hnp:=hok.places
  refine Jg 57 Tryz.call243 Tryz.func243 rfl rfl rfl ?_
  refine Xag ?_
  intro b1
  refine Xb9 ?_
  refine qbe ?_
  refine q_l rfl (Y0d m _ _ hm) ?_
  refine Xbd ?_
  refine q_c (fun hc0=>?_) (fun hc0=>?_)
  ·
   refine Xcw ?_
   refine qbh ?_
   refine q_r (L':=L) (R':=R) zSc ?_
   exact absurd hv zC
  refine qbv ?_
  refine qbe ?_
  refine Js rfl (Une m _ _ hm hok) rfl ?_
  rintro v L' R' ⟨p,N,S,rfl,hpk,hP,rfl,rfl⟩
  have hpl:=hP.len
  have hpn:=hP.n
  have hmp2:InR (psl m.places) (S ++ R):=hmp.mono fun r h=>Ja (by simp [h])
  refine Jx zDb rfl ?_
  refine Xa4 ?_
  refine qc4 ?_
  refine Xat ?_
  refine qc7 ?_
  rintro v L' R' ⟨b19,rfl,rfl,hR19⟩
  replace hR19:=hR19.symm;subst hR19
  refine Xb9 ?_
  refine Xaw ?_
  refine Jo [(1,Value.pointer _),(3,Value.slice _ _ _),(5,Value.slice _ _ _),(21,Value.slice _ _ _),(22,Value.int _ _),(23,Value.int _ _)] zg fun tq0=>?_
  refine Uv zUb ?_
  refine q_p [6,7,23,24,25,26,27,28,29,30,31,32,33,34,35,36] ((⟨fun q=>[(23,.int .i64 ((q.1.1:Nat):Int))],fun q=>(⟨.own b19 N [],q.1.2⟩:OwL Bool).L 4 blc ++ (p.L 3 Jp ++ (⟨b1,m.cells,28⟩ :: L)),fun _=>S ++ R,fun q=>m.places.l.length - q.1.1⟩:Head {q:Nat×List Bool // q.1≤m.places.l.length∧FrOk m p.l q.2 N q.1})) (⟨(0,List.replicate N false),by dsimp only;omega,FrOk.zero m p.l N⟩) ?_
  rintro ⟨⟨k,fr⟩,q1,q2⟩ junk
  try dsimp only
  dsimp only at q1 q2
  have hfl:=q2.len
  have hkf:(⟨.own b19 N [],fr⟩:OwL Bool).ok 1 blc:=by have:=Ze (f:=blc) (wd:=1) (b:=b19) (n:=N) (x:=false) Kwa zE;exact OwL.len_ok Kwa this (by simp;exact hfl)
  refine Xak ?_
  refine q_c (fun hc1=>?_) (fun hc1=>?_)
  ·
   have hpg:=Jw (l:=m.places.l) (k:=k) default za
   have hlg:=U9c (f:=p.l) (v:=k) za
   have hrk:=hP.rng k za
   have hfg:=Jw (l:=fr) (k:=(lb p.l k).toNat) false za
   refine Xa2 ?_
   refine qa3 ?_
   refine Xdq ?_
   intro b7
   refine qad ?_
   refine Xb2 ?_
   refine qaf ?_
   refine q_c (fun hc2=>?_) (fun hc2=>?_)
   ·
    refine Xcy ?_
    refine Xau ?_
    refine Ugf ?_
    refine Ktf ?_
    refine Vhf ?_
    refine Ye (Jr tb ((⟨.own b19 N [],fr⟩:OwL Bool)) (true) rfl rfl rfl rfl zj zh (fun _=>rfl) zh zc zb zb) ?_
    rintro v L' R' ⟨rfl,rfl⟩
    refine Xa8 ?_
    exact q_k ⟨(k + 1,_),by dsimp only;omega,q2.next zJ hrk⟩
   refine Xax ?_
   exact q_k ⟨(k + 1,fr),by dsimp only;omega,q2.stay zJ⟩
  obtain rfl:k=m.places.l.length:=by omega
  have hA:=q2.airy hP
  obtain ⟨A,hAe⟩:∃A,A=Ukc p.l fr m.places.l.length:=⟨_,rfl⟩
  rw [← hAe] at hA
  refine qbk ?_
  refine Xb9 ?_
  refine Xaw ?_
  refine Jo [(3,Value.slice _ _ _),(5,Value.slice _ _ _),(8,Value.slice _ _ _),(39,Value.int _ _),(40,Value.int _ _)] zg fun tq1=>?_
  refine Vm [8,9,40,41,42,43,44,45,46,47,48,49,50,51,52,53,54,55] ((⟨fun q=>[(40,.int .i64 ((q.1.1:Nat):Int)),(8,q.1.2.val)],fun q=>q.1.2.L 3 Jp ++ ((⟨.own b19 N [],fr⟩:OwL Bool).L 4 blc ++ (p.L 3 Jp ++ (⟨b1,m.cells,28⟩ :: L))),fun _=>S ++ R,fun q=>m.places.l.length - q.1.1⟩:Head {q:Nat×OwL Int // q.1≤m.places.l.length∧q.2.ok 1 Jp∧q.2.l=Kza A q.1})) (⟨(0,OwL.nil),by dsimp only;omega,OwL.nil_ok,rfl⟩) zg zxa zqb ?_
  rintro ⟨⟨k,q⟩,w1,w2,w3⟩ junk
  try dsimp only
  dsimp only at w1 w2 w3
  refine Xak ?_
  refine q_c (fun hc3=>?_) (fun hc3=>?_)
  ·
   have hlg:=U9c (f:=p.l) (v:=k) za
   have hrk:=hP.rng k za
   have hfg:=Jw (l:=fr) (k:=(lb p.l k).toNat) false za
   have hAk:A.getD k false=fr.getD (lb p.l k).toNat false:=by rw [hAe];exact Zzb za
   have hql:=U5a A k
   rw [← w3] at hql
   refine Xa2 ?_
   refine Xaf ?_
   refine qbm ?_
   refine Xau ?_
   refine Ugf ?_
   refine Ktf ?_
   refine Vhf ?_
   refine Jx (Kk tb ((⟨.own b19 N [],fr⟩:OwL Bool)) rfl rfl rfl zj zh (fun _=>rfl) zh zb) rfl ?_
   refine Xbd ?_
   refine q_c (fun hc4=>?_) (fun hc4=>?_)
   ·
    refine Xca ?_
    refine qcx ?_
    rintro v L' R' ⟨b53,rfl,rfl,hR53⟩
    replace hR53:=hR53.symm;subst hR53
    refine Y9 (J8 (f:=Jp) (a:=(k:Int)) tb rfl rfl rfl rfl (w2) zj zsb rfl zy) rfl ?_
    rintro v L' R' ⟨o54,rfl,hok54,rfl,rfl⟩
    refine qc4 ?_
    refine Xa8 ?_
    exact q_k ⟨(k + 1,⟨o54,q.l ++ [(k:Int)]⟩),by dsimp only;omega,hok54,by dsimp only;rw [Kza,if_neg (by rw [hAk];simpa using hc4),w3]⟩
   refine Xax ?_
   exact q_k ⟨(k + 1,q),by dsimp only;omega,w2,by dsimp only;rw [Kza,if_pos (by rw [hAk];simpa using hc4),w3]⟩
  obtain rfl:k=m.places.l.length:=by omega
  refine Xcp ?_
  refine Xcq ?_
  refine q_r (L':=q.L 3 Jp ++ L) (R':=S ++ R) zSc ?_
  exact ⟨q,A,S,rfl,w2,hA,w3,rfl,rfl⟩
end
section
attribute [local irreducible] CJ LJ DJ Tri YV Gives Ui J0 Ke Uh RV J2 OwL.L
end
section
attribute [local irreducible] CJ LJ DJ Tri YV Gives Ui J0 Ke Uh RV J2 OwL.L
theorem AiryIs.length {m:XMine} {A:List Bool} (h:AiryIs m A):A.length=m.places.l.length:=by rw [h.len];simp [Ure]
theorem Ube {m:XMine} {A l:List Bool} (hA:AiryIs m A) (hl:l.length=m.places.l.length) (h:∀i:Nat,l.getD i false=true↔(i:Int)∈Kza A m.places.l.length):l=A.map (!·):=by
  have hAl:=hA.length
  refine List.ext_getElem? fun i=>?_
  rcases Nat.lt_or_ge i m.places.l.length with hi | hi
  · rw [Jw (l := l) (k := i) false za, List.getElem?_map, Jw (l := A) (k := i) false za]
    have h1:=h i
    rw [Jvb] at h1
    have h2:l.getD i false=true↔¬ A.getD i false=true:=h1.trans ⟨fun ⟨j,e,_,h3⟩=>by rw [show i=j from by omega];exact h3,fun h3=>⟨i,rfl,hi,h3⟩⟩
    simp only [Option.map_some,Option.some.injEq]
    cases ha:A.getD i false <;> cases hb:l.getD i false <;> simp_all
  · rw [List.getElem?_eq_none za,List.getElem?_eq_none zD]
theorem Ujb (m:XMine) (L:List Blk) (R:List Sl) (hm:MineR m R) (hok:MineOk m) (hv:Vf m=0):
    Tri Tryz.prog 189 [m.val].toArray L R (fun w L' R'=>∃(p:OwL Bool) (A:List Bool) (S:List Sl),w=p.val∧p.ok 1 blc∧AiryIs m A∧p.l=A.map (!·)∧p.L 4 blc ++ L=L'∧S ++ R=R'):=by
  have hmp:=hm.places
  have hnp:=hok.places
  refine Jg 22 Tryz.call189 Tryz.func189 rfl rfl rfl ?_
  refine Xag ?_
  intro b1
  refine qc4 ?_
  refine qam ?_
  refine Xac ?_
  refine qc7 ?_
  rintro v L' R' ⟨b9,rfl,rfl,hR9⟩
  replace hR9:=hR9.symm;subst hR9
  refine qc4 ?_
  refine qco ?_
  refine Uv zUb ?_
  refine qay ?_
  refine qbe ?_
  refine Js rfl (Vsd m _ _ hm hok hv) rfl ?_
  rintro v L' R' ⟨p,A,S,rfl,hpk,hA,hpl,rfl,rfl⟩
  have hpn:=U5a A m.places.l.length
  rw [← hpl] at hpn
  refine Xc1 ?_
  refine Jo [(3,Value.slice _ _ _),(11,Value.slice _ _ _),(12,Value.int _ _),(13,Value.int _ _)] zg fun tq0=>?_
  refine q_p [5,13,14,15,16,17,18,19,20] ((⟨fun q=>[(13,.int .i64 ((q.1.1:Nat):Int))],fun q=>p.L 3 Jp ++ ((⟨.own b9 m.places.l.length [],q.1.2⟩:OwL Bool).L 4 blc ++ (⟨b1,m.cells,28⟩ :: L)),fun _=>S ++ R,fun q=>p.l.length - q.1.1⟩:Head {q:Nat×List Bool // q.1≤p.l.length∧q.2.length=m.places.l.length∧∀i:Nat,q.2.getD i false=true↔∃j:Nat,j < q.1∧p.l[j]?=some (i:Int)})) (⟨(0,List.replicate m.places.l.length false),by dsimp only;omega,by simp,fun i=>⟨fun h=>(by simp [List.getD_eq_getElem?_getD,List.getElem?_replicate] at h;split at h <;> simp at h),fun ⟨j,hj,_⟩=>za⟩⟩) ?_
  rintro ⟨⟨k,l⟩,q1,hll,q3⟩ junk
  try dsimp only
  dsimp only at q1 hll q3
  have hkf:(⟨.own b9 m.places.l.length [],l⟩:OwL Bool).ok 1 blc:=by have:=Ze (f:=blc) (wd:=1) (b:=b9) (n:=m.places.l.length) (x:=false) Kwa zE;exact OwL.len_ok Kwa this (by simp;exact hll)
  refine Xak ?_
  refine q_c (fun hc0=>?_) (fun hc0=>?_)
  ·
   have hg:=Jw (l:=p.l) (k:=k) 0 za
   have hmem:=List.mem_of_getElem? hg
   rw [hpl] at hmem
   obtain ⟨u,hve,hvl,hvA⟩:=Jvb.1 hmem
   rw [← hpl] at hve
   rw [hve] at hg
   have hlg:=Jw (l:=l) (k:=u) false za
   refine qbb ?_
   refine Jx (Ju tb (p) _ rfl rfl rfl rfl zh (i:=k) zk zu) rfl ?_
   refine Jx zub rfl ?_
   refine qad ?_
   refine J6 (Jb (Jh ?_))
   refine Xau ?_
   refine Jx (Ju tb ((⟨.own b9 m.places.l.length [],l⟩:OwL Bool)) _ rfl rfl ((show _=Value.slice _ _ _ from rfl).trans (Us hll)) rfl zh (i:=u) zk zu) rfl ?_
   refine Ye (Jr tb ((⟨.own b9 m.places.l.length [],l⟩:OwL Bool)) (true) rfl rfl rfl rfl zj zh (fun _=>rfl) zh zc zb zb) ?_
   rintro v L' R' ⟨rfl,rfl⟩
   refine Xa8 ?_
   exact Kf ⟨(k + 1,l.set u true),by dsimp only;omega,by simp;exact hll,fun i=>by
   dsimp only
   rw [V6c za]
   split
   · rename_i e
     exact ⟨fun _=>⟨k,by omega,by rw [e];exact hg⟩,fun _=>rfl⟩
   · rename_i e
     refine (q3 i).trans ⟨fun ⟨j,h1,h2⟩=>⟨j,by omega,h2⟩,fun ⟨j,h1,h2⟩=>?_⟩
     rcases Nat.lt_or_ge j k with h4 | h4
     · exact ⟨j,h4,h2⟩
     · obtain rfl : j = k := by omega
       rw [hg] at h2
       exact absurd (by have:=Option.some.inj h2;omega) e⟩ zm zg zi zqb zx
  obtain rfl:k=p.l.length:=by omega
  have hlm:=Ube hA hll (fun i=>by
    rw [q3 i,← hpl,List.mem_iff_getElem?]
    exact ⟨fun ⟨j,_,h⟩=>⟨j,h⟩,fun ⟨j,h⟩=>⟨j,(List.getElem?_eq_some_iff.1 h).1,h⟩⟩)
  refine Xcp ?_
  refine Xcq ?_
  refine q_r (L':=(⟨.own b9 m.places.l.length [],l⟩:OwL Bool).L 4 blc ++ L) (R':=S ++ R) zSc ?_
  exact ⟨(⟨.own b9 m.places.l.length [],l⟩:OwL Bool),A,S,Us hll,hkf,hA,hlm,rfl,rfl⟩
end
section
attribute [local irreducible] CJ LJ DJ Tri YV Gives Ui J0 Ke Uh RV J2 OwL.L
structure XBounds where
  low:Arr Int
  high:Arr Int
def XBounds.cells (s:XBounds):List Value:=[s.low.val,s.high.val]
abbrev XBounds.val (s:XBounds):Value:=.agg #[s.low.val,s.high.val]
structure BoundsR (s:XBounds) (R:List Sl):Prop where
  low:InR (isl s.low) R
  high:InR (isl s.high) R
def U0 (a:XAir) (s:XSetting) (b:XBounds) (A:List Bool) (i:Nat):Option Int:=
  if (!(A.getD i false) || (a.mine.places.l.getD i default).surface)=true then (if b.low.l.getD i 0≠0∨b.high.l.getD i 0≠0 then some 12 else none)
  else (if K4c a s b.high.l (i:Int) < 0∨0 < Vfa a s b.low.l (i:Int) then some 12 else none)
def Ys (a:XAir) (s:XSetting) (b:XBounds) (A:List Bool):Int:=
  if Ky a≠0 then Ky a
  else if Vja a s=false then 21
  else if b.low.l.length≠a.mine.places.l.length∨b.high.l.length≠a.mine.places.l.length then 11
  else if (b.low.l.findSome? U3).isSome=true∨(b.high.l.findSome? U3).isSome=true then 1
  else ((List.range a.mine.places.l.length).findSome? (U0 a s b A)).getD 0
end
section
attribute [local irreducible] CJ LJ DJ Tri YV Gives Ui J0 Ke Uh RV J2 OwL.L
section
variable {A9 B9:Prop}
theorem Zxe (a:A9) (h:A9→B9:=by exact Jx zIa rfl):B9:=h a
theorem Ype (h:B9:=by exact ⟨[Yla n.pipes,Via n.at_] ++ S,by rw [hck,Vv hp2 za (hnb.trans (if_pos za))];rfl,rfl,rfl⟩):B9:=h
theorem U6f (a:A9) (h:A9→B9:=by exact Kv zW rfl rfl rfl):B9:=h a
end
def Uoa (b:XBounds) (i:Nat):Option Int:=[b.low.l.getD i 0,b.high.l.getD i 0].findSome? U3
theorem Uza {a:XAir} (h:Ky a=0):Vf a.mine=0:=by
  unfold Ky at h
  split at h
  · rename_i h1;exact absurd h h1
  · rename_i h1;omega
theorem Joc {b:XBounds} {n:Nat} (h1:b.low.l.length=n) (h2:b.high.l.length=n) (h:(List.range n).findSome? (Uoa b)=none):b.low.l.findSome? U3=none∧b.high.l.findSome? U3=none:=by
  rw [List.findSome?_eq_none_iff] at h
  have h':∀i:Nat,i < n→U3 (b.low.l.getD i 0)=none∧U3 (b.high.l.getD i 0)=none:=fun i hi=>by
    have:=h i (List.mem_range.2 hi)
    rw [Uoa,List.findSome?_eq_none_iff] at this
    exact ⟨this _ zo,this _ zo⟩
  constructor
  · rw [List.findSome?_eq_none_iff]
    intro x hx
    obtain ⟨i,hi⟩:=List.mem_iff_getElem?.1 hx
    have hl:=(List.getElem?_eq_some_iff.1 hi).1
    rw [← (show b.low.l.getD i 0=x from getD_some hi)]
    exact (h' i za).1
  · rw [List.findSome?_eq_none_iff]
    intro x hx
    obtain ⟨i,hi⟩:=List.mem_iff_getElem?.1 hx
    have hl:=(List.getElem?_eq_some_iff.1 hi).1
    rw [← (show b.high.l.getD i 0=x from getD_some hi)]
    exact (h' i za).2
theorem Kmc {b:XBounds} {n k:Nat} (h1:b.low.l.length=n) (h2:b.high.l.length=n) (hk:k < n) {e:Int} (h:Uoa b k=some e):(b.low.l.findSome? U3).isSome=true∨(b.high.l.findSome? U3).isSome=true:=by
  cases e1:b.low.l.findSome? U3 with
  | some x=>exact .inl rfl
  | none=>
    cases e2:b.high.l.findSome? U3 with
    | some x=>exact .inr rfl
    | none=>
      rw [List.findSome?_eq_none_iff] at e1 e2
      rw [Uoa] at h
      have:[b.low.l.getD k 0,b.high.l.getD k 0].findSome? U3=none:=by
        rw [List.findSome?_eq_none_iff]
        intro x hx
        simp only [List.mem_cons,List.not_mem_nil,or_false] at hx
        rcases hx with rfl | rfl
        · exact e1 _ (List.mem_of_getElem? (Jw (l:=b.low.l) (k:=k) 0 za))
        · exact e2 _ (List.mem_of_getElem? (Jw (l:=b.high.l) (k:=k) 0 za))
      rw [this] at h
      cases h
theorem Vwe (a:XAir) (s:XSetting) (b:XBounds) (A:List Bool) (L:List Blk) (R:List Sl) (hm:AirR a R) (hs:SetR s R) (hb:BoundsR b R) (hA:Ky a=0→AiryIs a.mine A):
    Tri Tryz.prog 188 [a.val,s.val,b.val].toArray L R (fun v L' R'=>∃S:List Sl,v=.int .i64 (Ys a s b A)∧L=L'∧S ++ R=R'):=by
  have hmp:=hm.places
  have hbl:=hb.low
  have hbh:=hb.high
  refine U8 Tryz.call188 hbl fun hbln=>?_
  refine U8 Tryz.call188 hbh fun hbhn=>?_
  refine U8 Tryz.call188 hmp fun hmpn=>?_
  refine Jg 124 Tryz.call188 Tryz.func188 rfl rfl rfl ?_
  refine Xag ?_
  intro b3
  refine qax ?_
  intro b4
  refine qax ?_
  intro b5
  refine Xas ?_
  refine qa8 ?_
  refine q_l rfl (Zi a _ _ hm) ?_
  refine Xa7 ?_
  refine q_c (fun hc0=>?_) (fun hc0=>?_)
  ·
   refine Xdl ?_
   refine q_i (L':=L) (R':=R) ?_
   exact ⟨[],by rw [Ys,if_pos hc0],rfl,rfl⟩
  have h0:Ky a=0:=by omega
  have hok:=Zs h0
  have hAA:=hA h0
  have hmn:=hok.mine.places
  refine qbo ?_
  refine Xcb ?_
  refine q_l rfl (Zga a s _ _ hm hs) ?_
  refine Xbd ?_
  refine q_c (fun hc1=>?_) (fun hc1=>?_)
  ·
   refine Xa5 ?_
   refine q_i (L':=L) (R':=R) ?_
   exact ⟨[],by rw [Ys,if_neg hc0,if_pos zH],rfl,rfl⟩
  have hf0:Vja a s=true:=by simpa using hc1
  have hfo:=Kjc hf0
  have hff:¬ Vja a s=false:=by rw [hf0];decide
  refine qbo ?_
  refine Xac ?_
  refine Xck ?_
  refine Xbx ?_
  apply J9 (G:=[_,_,_,_,_,_,_,_]) (j:=8) (cj:=32) rfl rfl zb rfl zdb rfl
  ·
   intro hg9
   replace hg9:=qb hg9
   refine Xac ?_
   refine Xck ?_
   exact zfd
  intro junk9
  refine qaf ?_
  refine q_c (fun hc2=>?_) (fun hc2=>?_)
  ·
   refine Xa5 ?_
   refine q_i (L':=L) (R':=R) ?_
   exact ⟨[],by rw [Ys,if_neg hc0,if_neg hff,if_pos za],rfl,rfl⟩
  have hln:b.low.l.length=a.mine.places.l.length:=by omega
  have hhn:b.high.l.length=a.mine.places.l.length:=by omega
  refine Xcl ?_
  refine Jo [(3,Value.pointer _),(4,Value.pointer _),(5,Value.pointer _),(44,Value.int _ _),(45,Value.int _ _)] zg fun tq0=>?_
  refine q_s [6,8,10,45,46,47,48,49,50,51,52,53,54,55,56,57,58,59,60,61,62,63,64,65,66,67,68,69,70,71] (fun g:FSR (Uoa b) (b.low.l.length)=>[(45,.int .i64 ((g.1:Nat):Int))]) (fun g=>(b.low.l.length) - g.1) ⟨0,Jxa _ _⟩ ?_
  rintro ⟨k0,hk0,hp0⟩ junk
  try dsimp only
  refine Xak ?_
  refine q_c (fun hc3=>?_) (fun hc3=>?_)
  ·
   have hlg:=Jw (l:=b.low.l) (k:=k0) 0 za
   have hhg:=Jw (l:=b.high.l) (k:=k0) 0 za
   refine Xa2 ?_
   refine Xb3 ?_
   refine Kn tb [0,1,2,3,4,5,6,7,8,9,12,10,11] ([Blk.mk b5 _ _]) K1 ze zi ?_
   refine Xb1 ?_
   refine U6f ?_
   refine qbl ?_
   refine Xb1 ?_
   refine U6f ?_
   refine qbl ?_
   refine qao ?_
   refine Yjb znb rfl rfl rfl ?_
   rintro v L' R' ⟨b58,rfl,rfl,hR58⟩
   replace hR58:=hR58.symm;subst hR58
   refine qa1 ?_
   refine Kv ztb rfl rfl rfl ?_
   refine J1 (Jb (Kg ?_))
   refine Y4 [6,8,10,45,46,47,48,49,50,51,52,53,54,55,56,57,58,59,60,61,62,63,64,65,66,67,68,69,70,71] zK [(45,Value.int _ _),(58,Value.slice _ _ _),(59,Value.int _ _),(60,Value.int _ _)] zg fun tq1=>?_
   refine Uv (L':=(⟨.own b58 2 [],[b.low.l.getD k0 0,b.high.l.getD k0 0]⟩:OwL Int).L 3 Jp ++ (⟨b5,b.cells,214⟩ :: ⟨b4,s.cells,80⟩ :: ⟨b3,a.cells,32⟩ :: L)) (by simp only [OwL.L,Ow.L,List.flatMap_cons,List.flatMap_nil,Jp,List.append_nil,List.cons_append,List.nil_append];rfl) ?_
   refine q_s [6,10,60,61,62,63,64,65,66,67,68,69,70] (fun g:FS (U3) ([b.low.l.getD k0 0,b.high.l.getD k0 0])=>[(60,.int .i64 ((g.1:Nat):Int))]) (fun g=>([b.low.l.getD k0 0,b.high.l.getD k0 0]).length - g.1) ⟨0,Kia _ _⟩ ?_
   rintro ⟨k1,hk1,hp1⟩ junk
   try dsimp only
   have hk58:(⟨.own b58 2 [],[b.low.l.getD k0 0,b.high.l.getD k0 0]⟩:OwL Int).ok 1 Jp:=⟨rfl,Nat.le_refl _,by simp only [maxLen];omega,rfl⟩
   have hl2:[b.low.l.getD k0 0,b.high.l.getD k0 0].length=2:=rfl
   refine Xak ?_
   refine q_c (fun hc4=>?_) (fun hc4=>?_)
   ·
    obtain ⟨y,hy⟩:=Kr (l:=[b.low.l.getD k0 0,b.high.l.getD k0 0]) (k:=k1) za
    refine qbb ?_
    refine Jx (Ju tb ((⟨.own b58 2 [],[b.low.l.getD k0 0,b.high.l.getD k0 0]⟩:OwL Int)) _ rfl rfl rfl rfl zh (i:=k1) zk zu) rfl ?_
    refine Jx (Kk tb ((⟨.own b58 2 [],[b.low.l.getD k0 0,b.high.l.getD k0 0]⟩:OwL Int)) rfl rfl rfl zj zh (fun _=>rfl) zh zb) rfl ?_
    refine Xat ?_
    refine Xav ?_
    apply J9 (G:=[_,_]) (j:=2) (cj:=66) rfl rfl zb rfl zdb rfl
    ·
     exact zdd
    intro junk3
    refine qaf ?_
    refine q_c (fun hc5=>?_) (fun hc5=>?_)
    ·
     refine Xab ?_
     refine J6 (Jb (Uo (J3 (J7 (Va (J3 (J3 (J7 (Va (J3 (J7 ?_)))))))))))
     refine q_i (L':=L) (R':=R) ?_
     have hpb:Uoa b k0=some 1:=by rw [Uoa];exact Y0 hp1 hy (if_pos za)
     exact ⟨[],by rw [Ys,if_neg hc0,if_neg hff,if_neg za,if_pos (Kmc rfl za za hpb)],rfl,rfl⟩
    refine Xax ?_
    exact q_k ⟨k1 + 1,Jta hp1 hy (if_neg za)⟩
   have hn1:=Jra hp1 za
   refine K8 (Kq (Uf (Kc (Ji (Jb (Jh ?_))))))
   refine Xae ?_
   exact q_k ⟨k0 + 1,Yz hp0 za hn1⟩
  have hn0:=Jba hp0 za
  have hrb:=Joc (b:=b) rfl za hn0
  have hplb:PresOk b.low.l:=Vwa hrb.1
  have hphb:PresOk b.high.l:=Vwa hrb.2
  have hck:Ys a s b A=((List.range a.mine.places.l.length).findSome? (U0 a s b A)).getD 0:=by rw [Ys,if_neg hc0,if_neg hff,if_neg za,if_neg (by rw [hrb.1,hrb.2];simp)]
  refine qbk ?_
  refine Xdp ?_
  refine Js rfl (Ujb a.mine _ _ hm.mineR hok.mine (Uza h0)) rfl ?_
  rintro v L' R' ⟨p,A2,S,rfl,hpk,hA2,hpl,rfl,rfl⟩
  obtain rfl:A=A2:=hAA.unique hA2
  have hfx:p.l.length=a.mine.places.l.length:=by rw [hpl,List.length_map];exact hAA.length
  have hm2:AirR a (S ++ R):=⟨hm.places.mono fun r h=>Ja (by simp [h]),hm.roads.mono fun r h=>Ja (by simp [h]),hm.fans.mono fun r h=>Ja (by simp [h]),hm.doors.mono fun r h=>Ja (by simp [h])⟩
  have hs2:SetR s (S ++ R):=⟨hs.fans.mono fun r h=>Ja (by simp [h]),hs.doors.mono fun r h=>Ja (by simp [h])⟩
  refine qc4 ?_
  refine qam ?_
  refine Xcb ?_
  refine Js rfl (J3c a s _ _ hm2 hs2 hok hfo) rfl ?_
  rintro v L' R' ⟨n,rfl,hn,rfl,rfl⟩
  have hpp:InR (Yla n.pipes) (Yla n.pipes :: Via n.at_ :: (S ++ R)):=Ja (.head _)
  have haa:InR (Via n.at_) (Yla n.pipes :: Via n.at_ :: (S ++ R)):=Ja (.tail _ (.head _))
  have hmp3:InR (psl a.mine.places) (Yla n.pipes :: Via n.at_ :: (S ++ R)):=hmp.mono fun r h=>Ja (by simp [h])
  have hbl3:InR (isl b.low) (Yla n.pipes :: Via n.at_ :: (S ++ R)):=hbl.mono fun r h=>Ja (by simp [h])
  have hbh3:InR (isl b.high) (Yla n.pipes :: Via n.at_ :: (S ++ R)):=hbh.mono fun r h=>Ja (by simp [h])
  refine qaq ?_
  intro b12
  refine Xa9 ?_
  refine qab ?_
  refine Xaw ?_
  refine Jo [(5,Value.pointer _),(11,Value.slice _ _ _),(12,Value.pointer _),(80,Value.slice _ _ _),(81,Value.int _ _),(82,Value.int _ _)] zg fun tq2=>?_
  refine q_s [6,13,14,82,83,84,85,86,87,88,89,90,91,92,93,94,95,96,97,98,99,100,101,102,103,104,105,106,107,108,109,110,111,112,113,114,115,116,117,118,119,120,121,122,123] (fun g:FSR (U0 a s b A) (a.mine.places.l.length)=>[(82,.int .i64 ((g.1:Nat):Int))]) (fun g=>(a.mine.places.l.length) - g.1) ⟨0,Jxa _ _⟩ ?_
  rintro ⟨k2,hk2,hp2⟩ junk
  try dsimp only
  refine Xak ?_
  refine q_c (fun hc6=>?_) (fun hc6=>?_)
  ·
   have hmg:=Jw (l:=a.mine.places.l) (k:=k2) default za
   have hpg:p.l[k2]?=some (!(A.getD k2 false)):=by
     have:=hAA.length
     rw [hpl,List.getElem?_map,Jw (l:=A) (k:=k2) false za];rfl
   have hlg:=Jw (l:=b.low.l) (k:=k2) 0 za
   have hhg:=Jw (l:=b.high.l) (k:=k2) 0 za
   refine Xa2 ?_
   refine Zxe ?_
   refine Xdq ?_
   intro b14
   refine qad ?_
   refine Xb2 ?_
   refine qah ?_
   apply J9 (G:=[_,_,_,_]) (j:=2) (cj:=89) rfl rfl zb rfl zdb rfl
   ·
    intro hg3
    replace hg3:=qb hg3
    refine Xau ?_
    refine Jx (Ju tb (p) _ rfl rfl rfl rfl zh (i:=k2) zk zu) rfl ?_
    refine Jx zub rfl ?_
    exact qai
   intro junk3
   refine qaf ?_
   refine q_c (fun hc7=>?_) (fun hc7=>?_)
   ·
    have hnb:U0 a s b A k2=if b.low.l.getD k2 0≠0∨b.high.l.getD k2 0≠0 then some 12 else none:=by rw [U0,if_pos (by simpa [or_comm] using hc7)]
    refine qae ?_
    refine Xam ?_
    refine Zxe ?_
    refine qa7 ?_
    refine Xbx ?_
    apply J9 (G:=[_,_,_,_,_,_]) (j:=6) (cj:=101) rfl rfl zb rfl zdb rfl
    ·
     intro hg7
     replace hg7:=qb hg7
     refine Xam ?_
     refine Zxe ?_
     refine qa7 ?_
     exact zfd
    intro junk7
    refine qaf ?_
    refine q_c (fun hc8=>?_) (fun hc8=>?_)
    ·
     exact ztd
    refine Xax ?_
    exact q_k ⟨k2 + 1,Yz hp2 za (hnb.trans (if_neg za))⟩
   have hnb:U0 a s b A k2=if K4c a s b.high.l (k2:Int) < 0∨0 < Vfa a s b.low.l (k2:Int) then some 12 else none:=by rw [U0,if_neg (by simpa [and_comm] using hc7)]
   refine qae ?_
   refine qbe ?_
   refine Xam ?_
   refine q_l rfl (Zsb n a s b.high _ _ _ hpp haa hbh3 hn hok hhn hphb za) ?_
   refine Xav ?_
   refine Jsa (k:=115) zdb (fun hg7=>?_) (fun hg7=>?_)
   ·
    replace hg7:=qb hg7
    iterate 6 refine Vjb rfl rfl ?_
    refine Jx zL rfl ?_
    refine qaf ?_
    refine K3 rfl ?_
    exact ztd
   replace hg7:=qb hg7
   refine Vp zEb rfl rfl ?_
   refine Vp zzb rfl rfl ?_
   refine Vp zKb rfl rfl ?_
   refine Vp (Jy zeb) rfl rfl ?_
   refine Udb rfl (Vfb n a s b.low _ _ _ hpp haa hbl3 hn hok hln hplb za) rfl rfl ?_
   rintro v L' R' ⟨rfl,rfl,rfl⟩
   refine Vp (U0c rfl rfl) rfl rfl ?_
   refine Jx zL rfl ?_
   refine qaf ?_
   refine q_c (fun hc9=>?_) (fun hc9=>?_)
   ·
    exact ztd
   refine Xax ?_
   exact q_k ⟨k2 + 1,Yz hp2 za (hnb.trans (if_neg za))⟩
  have hn2:=Jba hp2 za
  refine Xb7 ?_
  refine q_i (L':=L) (R':=Yla n.pipes :: Via n.at_ :: (S ++ R)) ?_
  exact ⟨[Yla n.pipes,Via n.at_] ++ S,by rw [hck,hn2];rfl,rfl,rfl⟩
end
section
attribute [local irreducible] CJ LJ DJ Tri YV Gives Ui J0 Ke Uh RV J2 OwL.L
def nothingS:XSpan:=⟨-1125899906842624,1125899906842624⟩
def Ux (a:XAir) (s:XSetting) (b:XBounds) (A:List Bool) (k:Nat):XSpan:=
  if (a.mine.roads.l.getD k default).closed=true then ⟨0,0⟩
  else if A.getD (a.mine.roads.l.getD k default).fr.toNat false=true then
    ⟨Vk (Uk a s k) (b.low.l.getD (a.mine.roads.l.getD k default).fr.toNat 0 - b.high.l.getD (a.mine.roads.l.getD k default).to.toNat 0),
     Up (Uk a s k) (b.high.l.getD (a.mine.roads.l.getD k default).fr.toNat 0 - b.low.l.getD (a.mine.roads.l.getD k default).to.toNat 0)⟩
  else nothingS
def Uq (a:XAir) (s:XSetting) (b:XBounds) (A:List Bool):List XSpan:=
  if Ys a s b A=0 then (List.range a.mine.roads.l.length).map (Ux a s b A) else []
end
section
attribute [local irreducible] CJ LJ DJ Tri YV Gives Ui J0 Ke Uh RV J2 OwL.L
structure CheckOk (a:XAir) (s:XSetting) (b:XBounds):Prop where
  h0:Ky a=0
  hf:Vja a s=true
  hl:b.low.l.length=a.mine.places.l.length
  hh:b.high.l.length=a.mine.places.l.length
  pl:PresOk b.low.l
  ph:PresOk b.high.l
theorem Utc {a:XAir} {s:XSetting} {b:XBounds} {A:List Bool} (h:Ys a s b A=0):CheckOk a s b:=by
  unfold Ys at h
  split at h
  · rename_i h1;exact absurd h h1
  rename_i h1
  split at h
  · cases h
  rename_i h2
  split at h
  · cases h
  rename_i h3
  split at h
  · cases h
  rename_i h4
  refine ⟨by omega,by simpa using h2,by omega,by omega,Vwa ?_,Vwa ?_⟩
  · cases e:b.low.l.findSome? U3 with
    | none=>rfl
    | some x=>exact absurd (.inl (by rw [e];rfl)) h4
  · cases e:b.high.l.findSome? U3 with
    | none=>rfl
    | some x=>exact absurd (.inr (by rw [e];rfl)) h4
end
end Go.Proofs.YtchfclmokpbldaaGreat
