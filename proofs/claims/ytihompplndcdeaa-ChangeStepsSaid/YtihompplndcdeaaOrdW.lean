/-
  change.Sequence: the first order of steps. By an AI agent; no person has read it.
-/
import Derived.Test.YtihompplndcdeaaSeqW
import Derived.Test.YtihompplndcdeaaApp0
set_option linter.unusedVariables false
set_option linter.unusedSimpArgs false
namespace Go.Proofs.Ytihompplndcdeaa
open Go.Aw Go
section
variable {P:Program} {ρ:Operand→Value} {L:List Blk} {R:List Sl} {dst:Option Tmp} {ty:TypeId} {pos:String} {after:Array Edge} {guard:Option (Nat×Bool)} {T T2:TypeId} {x y:Operand} {k:IntKind}
theorem Jy0 {i N:Nat} (hN:N=2 ^ i) (hi:i < 8) (hx:ρ x=.int .i64 1) (hy:ρ y=.int k (i:Int)):YV P ⟨dst,.binOp .shl T x y T2,ty,pos,after,guard⟩ ρ L R (.int .i64 (N:Int)):=by
  rw [hN];exact J3h hi hx hy
theorem J2t {d i N:Nat} (hN:N=2 ^ i) (hd:d < 8) (hi:i < 3) (hx:ρ x=.int .i64 (d:Int)) (hy:ρ y=.int .i64 (N:Int)):YV P ⟨dst,.binOp .and T x y T2,ty,pos,after,guard⟩ ρ L R (.int .i64 (if Jl4 d i=true then (N:Int) else 0)):=by
  subst hN;exact J3j hd hi hx hy
theorem J1y {d i N:Nat} (hN:N=2 ^ i) (hd:d < 8) (hi:i < 3) (hb:Jl4 d i=false) (hx:ρ x=.int .i64 (d:Int)) (hy:ρ y=.int .i64 (N:Int)):YV P ⟨dst,.binOp .or T x y T2,ty,pos,after,guard⟩ ρ L R (.int .i64 ((d + N:Nat):Int)):=by
  subst hN;exact J4d hd hi hb hx hy
end
structure OrdF (a:XAir) (t:XSetting) (fc:Arr XFace) (st:Arr Int) (s0:Sts) (A:List Bool) (K:List XSpan→List Int):Prop where
  err:Jat a=0
  fs:Jdl a (mkS s0)=true
  ft:Jdl a (mkS (Jak t))=true
  airy:AiryIs a.mine A
  circ:∀fl,CircIs a.mine fl (K fl)
  need:Jhn fc.l
  nfc:fc.l.length≤1000
  st3:st.l.length≤3
  rng:∀k∈st.l,0≤k∧k < s0.1.length + s0.2.length
structure OrdR (a:XAir) (t:XSetting) (fc:Arr XFace) (st:Arr Int) (R:List Sl):Prop where
  air:AirR a R
  set:SetR t R
  faces:InR (Jty fc) R
  steps:InR (isl st) R
theorem OrdR.mono {a:XAir} {t:XSetting} {fc:Arr XFace} {st:Arr Int} {R R':List Sl} (h:OrdR a t fc st R) (k:∀r∈R,InR r R'):OrdR a t fc st R':=⟨Jcd h.air k,Jbu h.set k,h.faces.mono k,h.steps.mono k⟩
def DdOk (nx:Sts→Int→Option Sts) (t:Sts) (l:List Int) (s0:Sts) (dm:List (Int×Value)):Prop:=
  ∀(d:Nat) (v:Value),Jqr dm (d:Int)=some v→v=.bool true∧Jgk nx (Jj2 t l d s0) (Jck l d)=none
theorem DdOk.nil {nx:Sts→Int→Option Sts} {t:Sts} {l:List Int} {s0:Sts}:DdOk nx t l s0 []:=fun d v h=>by cases h
theorem DdOk.put {nx:Sts→Int→Option Sts} {t:Sts} {l:List Int} {s0:Sts} {dm:List (Int×Value)} (h:DdOk nx t l s0 dm) {d:Nat} (he:Jgk nx (Jj2 t l d s0) (Jck l d)=none):DdOk nx t l s0 (Ju5 dm (d:Int) (.bool true)):=fun e v hv=>by
  rw [Jvs] at hv
  split at hv
  · rename_i hd
    obtain rfl:e=d:=by omega
    exact ⟨(Option.some.inj hv).symm,he⟩
  · exact h e v hv
theorem DdOk.look {nx:Sts→Int→Option Sts} {t:Sts} {l:List Int} {s0:Sts} {dm:List (Int×Value)} (h:DdOk nx t l s0 dm) (d:Nat):∃b:Bool,(Jqr dm (d:Int)).getD (.bool false)=.bool b∧(b=true→Jgk nx (Jj2 t l d s0) (Jck l d)=none):=by
  cases hm:Jqr dm (d:Int) with
  | none=>exact ⟨false,rfl,fun h=>by cases h⟩
  | some v=>
    obtain ⟨rfl,h2⟩:=h d v hm
    exact ⟨true,rfl,fun _=>h2⟩
theorem J63 {n:Nat} (h:n≤3):1≤2 ^ n∧2 ^ n≤8:=by
  match n,h with
  | 0,_=>decide
  | 1,_=>decide
  | 2,_=>decide
  | 3,_=>decide
set_option maxRecDepth 20000
attribute [local irreducible] CJ LJ DJ Tri YV Gives Jdn Jaw Jbk Jdo RV Jay OwL.L
theorem Jkx (a : XAir) (t : XSetting) (fc : Arr XFace) (st : Arr Int) (s0 : Sts) (A : List Bool) (K : List XSpan → List Int) (bx bf bd : Nat) (hO : OrdF a t fc st s0 A K) (d : Nat) (s : XSetting) (fm dm : List (Int × Value)) (R : List Sl)
    (ih:∀d':Nat,(Jck st.l d').length + 1=(Jck st.l d).length→∀(s:XSetting) (fm dm:List (Int×Value)) (R:List Sl),OrdR a t fc st R→SetR s R→d' < 2 ^ st.l.length→Jak s=Jj2 (Jak t) st.l d' s0→FlOk a A (Jak t) st.l s0 fm R→DdOk (nxS a A K fc.l (Jak t)) (Jak t) st.l s0 dm→
      Tri Try.prog 39 [.pointer (some ⟨bx,0,none⟩),.int .i64 (d':Int),s.val].toArray (Jr6 bx bf bd (Jmf a t fc st bf bd) fm dm) R
      (fun w L' R'=>∃(p:OwL Int) (fm' dm':List (Int×Value)) (S:List Sl),w=.tuple #[p.val,.bool (Jgk (nxS a A K fc.l (Jak t)) (Jak s) (Jck st.l d')).isSome]∧p.ok 1 Jad∧p.l=(Jgk (nxS a A K fc.l (Jak t)) (Jak s) (Jck st.l d')).getD []∧FlOk a A (Jak t) st.l s0 fm' (S ++ R)∧DdOk (nxS a A K fc.l (Jak t)) (Jak t) st.l s0 dm'∧p.L 3 Jad ++ Jr6 bx bf bd (Jmf a t fc st bf bd) fm' dm'=L'∧S ++ R=R'))
    (hR:OrdR a t fc st R) (hs:SetR s R) (hd:d < 2 ^ st.l.length) (hsd:Jak s=Jj2 (Jak t) st.l d s0) (hF:FlOk a A (Jak t) st.l s0 fm R) (hD:DdOk (nxS a A K fc.l (Jak t)) (Jak t) st.l s0 dm):
    Tri Try.prog 39 [.pointer (some ⟨bx, 0, none⟩), .int .i64 (d : Int), s.val].toArray (Jr6 bx bf bd (Jmf a t fc st bf bd) fm dm) R
      (fun w L' R'=>∃(p:OwL Int) (fm' dm':List (Int×Value)) (S:List Sl),w=.tuple #[p.val,.bool (Jgk (nxS a A K fc.l (Jak t)) (Jak s) (Jck st.l d)).isSome]∧p.ok 1 Jad∧p.l=(Jgk (nxS a A K fc.l (Jak t)) (Jak s) (Jck st.l d)).getD []∧FlOk a A (Jak t) st.l s0 fm' (S ++ R)∧DdOk (nxS a A K fc.l (Jak t)) (Jak t) st.l s0 dm'∧p.L 3 Jad ++ Jr6 bx bf bd (Jmf a t fc st bf bd) fm' dm'=L'∧S ++ R=R'):=by
  have h3:=hO.st3
  obtain ⟨N,hN⟩:∃N,N=2 ^ st.l.length:=⟨_,rfl⟩
  have hN8:=J63 h3
  rw [← hN] at hN8
  have hd8:d < 8:=by omega
  obtain ⟨b,hb1,hb2⟩:=hD.look d
  have hfl:=Jpo st.l d hd
  rw [← hN] at hfl
  have hfs:=hO.fs
  have hft:=hO.ft
  have hfd:=Jmo hft st.l d s0 hfs
  have hln:=Ju3 (Jak t) st.l d s0
  rw [← hsd] at hfd hln
  have hok:=Jey hO.err
  have hf1:=Jf3 hfd
  have hf2:=Jf3 hft
  have l1:=hf1.lf
  have l2:=hf1.ld
  have l3:=hf2.lf
  have l4:=hf2.ld
  have n1:=hok.nfans
  have n2:=hok.ndoors
  dsimp only [mkS,Jak] at l1 l2 l3 l4 hln
  refine Jae 106 Try.call39 Try.func39 rfl rfl rfl ?_
  refine Xaj ?_
  intro b5
  refine qc4 ?_
  refine Xc3 ?_
  refine qaa ?_
  refine qa6 ?_
  refine Jax (Ja3 rfl) rfl ?_
  refine Xab ?_
  refine qdg ?_
  refine Jax (Jy0 hN (by omega) rfl rfl) rfl ?_
  refine qa9 ?_
  refine Xb2 ?_
  refine q_c (fun hc0=>?_) (fun hc0=>?_)
  ·
   refine Xbf ?_
   refine qaz ?_
   refine qbh ?_
   refine q_r (L':=Jr6 bx bf bd (Jmf a t fc st bf bd) fm dm) (R':=R) (Jfb rfl (Jal (show _=Value.slice _ _ _ from rfl)) (Jal (show _=Value.bool _ from rfl))) ?_
   have hl0:Jck st.l d=[]:=hfl.2 (by omega)
   exact ⟨.nil,fm,dm,[],by rw [hl0,Jj8];rfl,OwL.nil_ok,by rw [hl0,Jj8];rfl,hF,hD,by rw [Jc7];rfl,rfl⟩
  have hne:Jck st.l d≠[]:=fun h=>by have:=hfl.1 h;omega
  refine qbo ?_
  refine qa6 ?_
  refine Jax (Ja3 rfl) rfl ?_
  refine Xah ?_
  refine Jax (J0w J60 rfl rfl (show In1 (mpB bd dm) _ from (by repeat (first | exact zi0 | apply zi1 | apply zi2))) hb1) rfl ?_
  refine qaf ?_
  refine q_c (fun hc1=>?_) (fun hc1=>?_)
  ·
   refine Xbf ?_
   refine qaz ?_
   refine qbh ?_
   refine q_r (L':=Jr6 bx bf bd (Jmf a t fc st bf bd) fm dm) (R':=R) (Jfb rfl (Jal (show _=Value.slice _ _ _ from rfl)) (Jal (show _=Value.bool _ from rfl))) ?_
   have hsn:Jgk (nxS a A K fc.l (Jak t)) (Jak s) (Jck st.l d)=none:=by rw [hsd];exact hb2 hc1
   exact ⟨.nil,fm,dm,[],by rw [hsn];rfl,OwL.nil_ok,by rw [hsn];rfl,hF,hD,by rw [Jc7];rfl,rfl⟩
  refine qbo ?_
  refine qa6 ?_
  refine Jax (Ja3 rfl) rfl ?_
  refine Xbm ?_
  refine Jag [(0,Value.pointer _),(1,Value.int _ _),(5,Value.pointer _),(34,Value.slice _ _ _),(35,Value.int _ _),(36,Value.int _ _)] (by repeat' (first | exact trivial | refine And.intro rfl ?_)) fun tq0=>?_
  refine q_p [6,7,8,9,10,11,12,13,14,36,37,38,39,40,41,42,43,44,45,46,47,48,49,50,51,52,53,54,55,56,57,58,59,60,61,62,63,64,65,66,67,68,69,70,71,72,73,74,75,76,77,78,79,80,81,82,83,84,85,86,87,88,89,90,91,92,93,94,95,96,97,98,99,100] ((⟨fun g=>[(36,.int .i64 ((g.1.1:Nat):Int))],fun g=>⟨b5,s.cells,35⟩ :: Jr6 bx bf bd (Jmf a t fc st bf bd) g.1.2.1 g.1.2.2.1,fun g=>g.1.2.2.2 ++ R,fun g=>st.l.length - g.1.1⟩:Head {g:Nat×List (Int×Value)×List (Int×Value)×List Sl // g.1≤st.l.length∧FlOk a A (Jak t) st.l s0 g.2.1 (g.2.2.2 ++ R)∧DdOk (nxS a A K fc.l (Jak t)) (Jak t) st.l s0 g.2.2.1∧Jgk (nxS a A K fc.l (Jak t)) (Jak s) (Jck st.l d)=((List.range (Jck st.l d).length).drop (Jp3 g.1 d)).findSome? (Joq (nxS a A K fc.l (Jak t)) (Jgk (nxS a A K fc.l (Jak t))) (Jak s) (Jck st.l d))})) (⟨(0,fm,dm,[]),by dsimp only;omega,hF,hD,by dsimp only;rw [Jp3,List.drop_zero];exact Jgo hne⟩) ?_
  rintro ⟨⟨i,fm0,dm0,S0⟩,w1,w2,w3,w4⟩ junk
  try dsimp only
  dsimp only at w1 w2 w3 w4
  have hR0:∀r∈R,InR r (S0 ++ R):=fun r hr=>Jab (by simp [hr])
  have hRo:=hR.mono hR0
  have hsR:=Jbu hs hR0
  have hst:=hRo.steps
  refine Xar ?_
  refine q_c (fun hc2=>?_) (fun hc2=>?_)
  ·
   have hi:i < st.l.length:=by omega
   have hkr:=hO.rng _ (List.mem_of_getElem? (Jai 0 hi))
   obtain ⟨k,hk⟩:∃k:Nat,st.l.getD i 0=(k:Int):=⟨(st.l.getD i 0).toNat,by omega⟩
   have hkg:st.l[i]?=some (k:Int):=by rw [← hk];exact Jai 0 hi
   obtain ⟨M,hM⟩:∃M,M=2 ^ i:=⟨_,rfl⟩
   have hM8:=J63 (n:=i) (by omega)
   rw [← hM] at hM8
   refine Xa8 ?_
   refine Jax (by first | exact Jaf tb rfl rfl rfl rfl (by first | assumption | exact zr (by simp)) (i:=i) (by first | rfl | omega | (simp;omega)) (by omega) | exact Jah tb rfl rfl rfl rfl (i:=i) (by first | rfl | omega | (simp;omega)) (by omega)) rfl ?_
   refine qa7 ?_
   refine qad ?_
   refine Xax ?_
   refine qdg ?_
   refine Jax (Jy0 hM (by omega) rfl rfl) rfl ?_
   refine Xcm ?_
   refine qaa ?_
   refine Jax (J2t hM hd8 (by omega) rfl rfl) rfl ?_
   refine Xa3 ?_
   refine q_c (fun hc3=>?_) (fun hc3=>?_)
   ·
    have hbt:Jl4 d i=true:=by cases hz:Jl4 d i with | true=>rfl | false=>rw [hz] at hc3;simp at hc3
    refine Jcs (Jbv (Jbf (Jaa (Jaj ?_))))
    refine Xag ?_
    exact q_k ⟨(i + 1,fm0,dm0,S0),by dsimp only;omega,w2,w3,by dsimp only;rw [Jnj,if_pos hbt,Nat.add_zero];exact w4⟩
   have hbt:Jl4 d i=false:=by
     cases hz:Jl4 d i with
     | false=>rfl
     | true=>rw [hz] at hc3;simp only [if_true] at hc3;omega
   obtain ⟨q1,q2,q3⟩:=Jma st.l d i hi hbt
   have hdM:d + M < N:=by rw [hM,hN];exact Jpq _ _ _ hd hi hbt
   have hsM:=Jvg (Jak t) st.l d i s0 hi hbt
   rw [← hM,← hsd,hk] at hsM
   have hty:=J6k (nx:=(nxS a A K fc.l (Jak t))) (s:=Jak s) hi hbt
   rw [hk,← hM] at hty
   refine qbv ?_
   refine qa6 ?_
   refine qbe ?_
   refine qaa ?_
   refine Jaq rfl (Tri.spl (.consB (.consL (.consB (.consB .nil)))) (J4e a t s fc st bx bf bd k _ hRo.air hRo.set hsR (by omega) (by omega) (by omega) (by omega))) rfl ?_
   rintro v L' R' ⟨_,rfl,pf,pd,rfl,⟨hpf,hpd⟩,hput,rfl,rfl⟩
   simp only [List.append_assoc,List.cons_append,List.nil_append]
   refine Jax (Jap rfl) rfl ?_
   refine Xa6 ?_
   refine qaq ?_
   intro b11
   refine qak ?_
   refine qaz ?_
   refine qco ?_
   refine Jbn (A:=[_,_,_,_]) (wd:=1) [] (fun _=>rfl) (by decide) hpd (fun s hs=>by cases hs) ?_
   refine qb1 ?_
   refine Jbn (A:=[_,_,_,_]) (wd:=1) [] (fun _=>rfl) (by decide) hpf (fun s hs=>by cases hs) ?_
   refine qb1 ?_
   obtain ⟨nxt,hnxt⟩:∃nxt:XSetting,nxt=⟨pf.arr,pd.arr⟩:=⟨_,rfl⟩
   obtain ⟨R1,hR1e⟩:∃R1,R1=isl pf.arr :: isl pd.arr :: (S0 ++ R):=⟨_,rfl⟩
   have hR1:∀r∈S0 ++ R,InR r R1:=fun r hr=>Jab (by rw [hR1e];exact .tail _ (.tail _ hr))
   have hnR:SetR nxt R1:=by rw [hnxt,hR1e];exact ⟨Jab (.head _),Jab (.tail _ (.head _))⟩
   refine Jz1 (show _=R1 by rw [hR1e]) ?_
   refine Jq4 (L':=⟨b11,nxt.cells,35⟩ :: ⟨b5,s.cells,35⟩ :: Jr6 bx bf bd (Jmf a t fc st bf bd) fm0 dm0) (by rw [hnxt];exact .cons _ (.cons _ (List.perm_append_comm (l₁:=[_,_]) (l₂:=[_])))) ?_
   have hRo1:=hRo.mono hR1
   have hF1:=w2.mono hR1
   refine Ja5 tb [0,1,2,3,4,5,6,7,8,9,10,12,13,14,15,16,17,18,19,20,21,23,24,25,26,11,22,27,28,29,30] ([Blk.mk b11 _ _,Blk.mk b5 _ _,Blk.mk bx _ _]) Jbh (by kernel_rfl) (by repeat (first | exact zs0 _ | exact zs1 _ | apply zs2 | apply zs3 | apply zs4 | apply zs5)) ?_
   refine qb2 ?_
   refine Jbx (Jpy rfl) rfl rfl rfl ?_
   refine qb2 ?_
   refine Jep (k:=57) (show _=Value.bool _ from rfl) (fun hg2=>?_) (fun hg2=>?_)
   ·
    replace hg2:=qb hg2
    have hnx:(nxS a A K fc.l (Jak t)) (Jak s) (k:Int)=none:=by rw [nxS,if_neg (by rw [hg2];decide)]
    iterate 27 refine qap ?_
    refine Xbi ?_
    refine Jco rfl ?_
    refine Jcs (Jbv (Jbf (Jaa (Jaj ?_))))
    refine Xag ?_
    first
      | (have hz:=hnx;exact Jau ⟨(i + 1,fm0,dm0,S0),by dsimp only;omega,w2,w3,Jnr hi hbt w4 (by rw [hty,hnx];rfl)⟩ (by repeat (first | exact Off.refl | apply Off.upd rfl | apply Off.havoc rfl | apply Off.updL rfl | apply Off.left rfl)) (by repeat' (first | exact trivial | refine And.intro rfl ?_)) (by repeat (first | exact zs0 _ | exact zs1 _ | apply zs2 | apply zs3 | apply zs4 | apply zs5)) hR1 (by dsimp only;omega))
      | (have hz := hvc
         have hnx:(nxS a A K fc.l (Jak t)) (Jak s) (k:Int)=none:=by rw [nxS,if_pos hg2,← hvc,if_neg (by rw [hc4];decide)]
         exact Jau ⟨(i + 1,fm2,dm0,S2 ++ (S1 ++ (isl pf.arr :: isl pd.arr :: S0))),by dsimp only;omega,hF3.mono (fun r hr=>Jab (by simpa [hR1e] using hr)),w3,Jnr hi hbt w4 (by rw [hty,hnx];rfl)⟩ (by repeat (first | exact Off.refl | apply Off.upd rfl | apply Off.havoc rfl | apply Off.updL rfl | apply Off.left rfl)) (by repeat' (first | exact trivial | refine And.intro rfl ?_)) (by repeat (first | exact zs0 _ | exact zs1 _ | apply zs2 | apply zs3 | apply zs4 | apply zs5)) (fun r hr=>Jab (by simpa [hR1e] using hr)) (by dsimp only;omega))
   replace hg2:=qb hg2
   have hput1:=hput hg2
   have hns:Jak nxt=Jgs (Jak t) (Jak s) (k:Int):=by rw [hnxt,← hput1]
   have hnd:Jak nxt=Jj2 (Jak t) st.l (d + M) s0:=hns.trans hsM.symm
   have hfn:=Jmo hft st.l (d + M) s0 hfs
   rw [← hnd] at hfn
   refine Xbr ?_
   refine qal ?_
   refine qal ?_
   refine qbd ?_
   refine qb8 ?_
   refine qao ?_
   refine qbd ?_
   refine Xbr ?_
   refine qal ?_
   refine qal ?_
   refine qbd ?_
   refine qb8 ?_
   refine qao ?_
   refine qao ?_
   refine Jbx (J1y hM hd8 (by omega) hbt rfl rfl) rfl rfl rfl ?_
   refine qbd ?_
   refine Xc5 ?_
   refine Jdx rfl (Tri.spl (.consB (.consB (.consL (.consL (.consL .nil))))) (Jv7 a t s fc st s0 A bx bf bd d fm0 dm0 _ hRo1.air (Jbu hsR hR1) (fun _=>hO.airy) hsd hF1)) rfl rfl ?_
   rintro v L' R' ⟨_,rfl,x1,fm1,S1,rfl,hx1,hxl1,hF2,rfl,rfl⟩
   simp only [List.append_assoc,List.cons_append,List.nil_append]
   refine qas ?_
   have hR2:∀r∈R1,InR r (S1 ++ R1):=fun r hr=>Jab (by simp [hr])
   have hRo2:=hRo1.mono hR2
   refine Jdx rfl (Tri.spl (.consB (.consB (.consL (.consL (.consL .nil))))) (Jv7 a t nxt fc st s0 A bx bf bd (d + M) fm1 dm0 _ hRo2.air (Jbu hnR hR2) (fun _=>hO.airy) hnd hF2)) rfl rfl ?_
   rintro v L' R' ⟨_,rfl,x2,fm2,S2,rfl,hx2,hxl2,hF3,rfl,rfl⟩
   simp only [List.append_assoc,List.cons_append,List.nil_append]
   refine qas ?_
   have hR3:∀r∈S1 ++ R1,InR r (S2 ++ (S1 ++ R1)):=fun r hr=>Jab (by
     rcases List.mem_append.1 hr with h | h
     · exact List.mem_append_right _ (List.mem_append_left _ h)
     · exact List.mem_append_right _ (List.mem_append_right _ h))
   have hRo3:=hRo2.mono hR3
   have hv0:=Jk7 hO.err
   have hn1:x1.l.length=a.mine.roads.l.length:=by rw [hxl1];exact Jlh (s:=mkS (Jak s)) hO.err hfd hO.airy
   have hn2:x2.l.length=a.mine.roads.l.length:=by rw [hxl2];exact Jlh (s:=mkS (Jak nxt)) hO.err hfn hO.airy
   refine Jdx rfl (Jry a.mine a.mine x1 x2 fc A A (K x1.l) (K x2.l) _ _ hRo3.air.mineR hRo3.air.mineR (hx1.mono hR3) hx2 hRo3.faces hv0 hv0 hn1 hn2 (Nat.le_refl _) hO.need hO.nfc hO.airy hO.airy (hO.circ _) (hO.circ _)) rfl rfl ?_
   rintro v L' R' ⟨v1,rfl,hvk,hvg,rfl,rfl⟩
   refine qas ?_
   have hvc:v1.get=J6o a A K fc.l (Jak s) (Jgs (Jak t) (Jak s) (k:Int)):=by rw [hvg,J6o,← hns,← hxl1,← hxl2]
   have hR4:∀r∈R,InR r (S2 ++ (S1 ++ R1)):=fun r hr=>((hR0 r hr).mono hR1).mono hR2 |>.mono hR3
   refine q_d rfl (Jf9 v1 _ _) ?_
   refine Jbx (Jpy rfl) rfl rfl rfl ?_
   refine Xbi ?_
   refine q_c (fun hc4=>?_) (fun hc4=>?_)
   ·
    refine Jcs (Jbv (Jbf (Jaa (Jaj ?_))))
    refine Xag ?_
    first
      | (have hz:=hnx;exact Jau ⟨(i + 1,fm0,dm0,S0),by dsimp only;omega,w2,w3,Jnr hi hbt w4 (by rw [hty,hnx];rfl)⟩ (by repeat (first | exact Off.refl | apply Off.upd rfl | apply Off.havoc rfl | apply Off.updL rfl | apply Off.left rfl)) (by repeat' (first | exact trivial | refine And.intro rfl ?_)) (by repeat (first | exact zs0 _ | exact zs1 _ | apply zs2 | apply zs3 | apply zs4 | apply zs5)) hR1 (by dsimp only;omega))
      | (have hz := hvc
         have hnx:(nxS a A K fc.l (Jak t)) (Jak s) (k:Int)=none:=by rw [nxS,if_pos hg2,← hvc,if_neg (by rw [hc4];decide)]
         exact Jau ⟨(i + 1,fm2,dm0,S2 ++ (S1 ++ (isl pf.arr :: isl pd.arr :: S0))),by dsimp only;omega,hF3.mono (fun r hr=>Jab (by simpa [hR1e] using hr)),w3,Jnr hi hbt w4 (by rw [hty,hnx];rfl)⟩ (by repeat (first | exact Off.refl | apply Off.upd rfl | apply Off.havoc rfl | apply Off.updL rfl | apply Off.left rfl)) (by repeat' (first | exact trivial | refine And.intro rfl ?_)) (by repeat (first | exact zs0 _ | exact zs1 _ | apply zs2 | apply zs3 | apply zs4 | apply zs5)) (fun r hr=>Jab (by simpa [hR1e] using hr)) (by dsimp only;omega))
   have hnx:(nxS a A K fc.l (Jak t)) (Jak s) (k:Int)=some (Jak nxt):=by rw [nxS,if_pos hg2,← hvc,if_pos hc4,hns]
   have hlq:(Jck st.l (d + M)).length + 1=(Jck st.l d).length:=by rw [hM,← q3,List.length_eraseIdx,if_pos q1];omega
   refine qcl ?_
   refine Jmw (L':=⟨b11,nxt.cells,35⟩ :: ⟨b5,s.cells,35⟩ :: Jr6 bx bf bd (Jmf a t fc st bf bd) fm2 dm0) (by repeat (first | exact zs0 _ | exact zs1 _ | apply zs2 | apply zs3 | apply zs4 | apply zs5)) (Jac _) ?_
   refine qay ?_
   refine qa6 ?_
   refine qaa ?_
   refine qaa ?_
   refine Jax (J1y hM hd8 (by omega) hbt rfl rfl) rfl ?_
   refine qbe ?_
   refine Jaq rfl (Tri.spl (.consB (.consB (.consL (.consL (.consL .nil))))) (ih (d + M) hlq nxt fm2 dm0 _ hRo3 (Jbu (Jbu hnR hR2) hR3) (by rw [← hN];exact hdM) hnd hF3 w3)) rfl ?_
   rintro v L' R' ⟨_,rfl,p,fm3,dm3,S3,rfl,hpk,hpl,hF4,hD4,rfl,rfl⟩
   simp only [List.append_assoc,List.cons_append,List.nil_append]
   refine Jax (Jap rfl) rfl ?_
   refine Xbw ?_
   refine Xct ?_
   refine qah ?_
   refine qaf ?_
   refine q_c (fun hc5=>?_) (fun hc5=>?_)
   ·
    obtain ⟨r,hr⟩:=Option.isSome_iff_exists.1 hc5
    rw [hr,Option.getD_some] at hpl
    have hsn:Jgk (nxS a A K fc.l (Jak t)) (Jak s) (Jck st.l d)=some ((k:Int) :: r):=by
      rw [w4,Jd2 (Jkv q1),List.findSome?_cons,hty,hnx,Option.bind_some,hr];rfl
    have hrl:=Jvn _ rfl hr
    have hlm:=Jrr st.l (d + M)
    refine Xbb ?_
    refine qcx ?_
    rintro v L' R' ⟨b97,rfl,rfl,hR97⟩
    replace hR97:=hR97.symm;subst hR97
    refine qbm ?_
    have hbk:(⟨.own b97 1 [],[(k:Int)]⟩:OwL Int).ok 1 Jad:=Jkg Jci rfl (by decide)
    refine J6w (Jmi (f:=Jad) (n:=1) [(k:Int)] rfl _) ?_
    refine Jhu (Jqn tb (⟨.own b97 1 [],[(k:Int)]⟩:OwL Int) p rfl rfl rfl rfl rfl hbk hpk Jci OSeg.here (by repeat (first | exact Jcj | apply Jcl | apply Jdh)) (Nat.succ_pos 0) (fun _=>rfl) (by rw [hpl];simp;omega)) rfl rfl ?_
    rintro v L' R' ⟨o99,rfl,hok99,rfl,rfl⟩
    refine qc4 ?_
    refine qaz ?_
    refine qbt ?_
    refine q_r (L':=(⟨o99,[(k:Int)] ++ p.l⟩:OwL Int).L 3 Jad ++ Jr6 bx bf bd (Jmf a t fc st bf bd) fm3 dm3) (R':=S3 ++ (S2 ++ (S1 ++ R1))) (Jfb rfl (Jal (show _=Value.slice _ _ _ from rfl)) (Jal (show _=Value.bool _ from rfl))) ?_
    exact ⟨⟨o99,[(k:Int)] ++ p.l⟩,fm3,dm3,S3 ++ (S2 ++ (S1 ++ (isl pf.arr :: isl pd.arr :: S0))),by rw [hsn];rfl,hok99,by rw [hsn,hpl];rfl,hF4.mono (fun r hr=>Jab (by simpa [hR1e] using hr)),hD4,rfl,by simp [hR1e]⟩
   refine Xay ?_
   have hrn:Jgk (nxS a A K fc.l (Jak t)) (Jak nxt) (Jck st.l (d + M))=none:=by cases hz:Jgk (nxS a A K fc.l (Jak t)) (Jak nxt) (Jck st.l (d + M)) with | none=>rfl | some r=>rw [hz] at hc5;cases hc5
   exact Jau ⟨(i + 1,fm3,dm3,S3 ++ (S2 ++ (S1 ++ (isl pf.arr :: isl pd.arr :: S0)))),by dsimp only;omega,hF4.mono (fun r hr=>Jab (by simpa [hR1e] using hr)),hD4,Jnr hi hbt w4 (by rw [hty,hnx,Option.bind_some,hrn];rfl)⟩ (by repeat (first | exact Off.refl | apply Off.upd rfl | apply Off.havoc rfl | apply Off.updL rfl | apply Off.left rfl)) (by repeat' (first | exact trivial | refine And.intro rfl ?_)) (by repeat (first | exact zs0 _ | exact zs1 _ | apply zs2 | apply zs3 | apply zs4 | apply zs5)) (fun r hr=>Jab (by simpa [hR1e] using hr)) (by dsimp only;omega)
  obtain rfl:i=st.l.length:=by omega
  have hsn:Jgk (nxS a A K fc.l (Jak t)) (Jak s) (Jck st.l d)=none:=by
    rw [w4,Jvy,List.drop_eq_nil_of_le (by simp)];rfl
  refine qbk ?_
  refine qa6 ?_
  refine Jax (Ja3 rfl) rfl ?_
  refine Xah ?_
  refine Jhu (Jpn (v:=.bool true) J60 rfl rfl rfl (show UpdM bd dm0 _ _ _ from (by repeat (first | exact UpdM.here | apply UpdM.cons | apply UpdM.app)))) rfl rfl ?_
  rintro v L' R' ⟨rfl,rfl⟩
  refine qam ?_
  refine qc4 ?_
  refine Xa9 ?_
  refine q_r (L':=Jr6 bx bf bd (Jmf a t fc st bf bd) fm0 (Ju5 dm0 (d:Int) (.bool true))) (R':=S0 ++ R) (Jfb rfl (Jal (show _=Value.slice _ _ _ from rfl)) (Jal (show _=Value.bool _ from rfl))) ?_
  exact ⟨.nil,fm0,Ju5 dm0 (d:Int) (.bool true),S0,by rw [hsn];rfl,OwL.nil_ok,by rw [hsn];rfl,w2,w3.put (by rw [← hsd];exact hsn),by rw [Jc7];rfl,rfl⟩
theorem Jxs (a:XAir) (t:XSetting) (fc:Arr XFace) (st:Arr Int) (s0:Sts) (A:List Bool) (K:List XSpan→List Int) (bx bf bd:Nat) (hO:OrdF a t fc st s0 A K):∀(n d:Nat) (s:XSetting) (fm dm:List (Int×Value)) (R:List Sl),n=(Jck st.l d).length→OrdR a t fc st R→SetR s R→d < 2 ^ st.l.length→Jak s=Jj2 (Jak t) st.l d s0→FlOk a A (Jak t) st.l s0 fm R→DdOk (nxS a A K fc.l (Jak t)) (Jak t) st.l s0 dm→
    Tri Try.prog 39 [.pointer (some ⟨bx, 0, none⟩), .int .i64 (d : Int), s.val].toArray (Jr6 bx bf bd (Jmf a t fc st bf bd) fm dm) R
      (fun w L' R'=>∃(p:OwL Int) (fm' dm':List (Int×Value)) (S:List Sl),w=.tuple #[p.val,.bool (Jgk (nxS a A K fc.l (Jak t)) (Jak s) (Jck st.l d)).isSome]∧p.ok 1 Jad∧p.l=(Jgk (nxS a A K fc.l (Jak t)) (Jak s) (Jck st.l d)).getD []∧FlOk a A (Jak t) st.l s0 fm' (S ++ R)∧DdOk (nxS a A K fc.l (Jak t)) (Jak t) st.l s0 dm'∧p.L 3 Jad ++ Jr6 bx bf bd (Jmf a t fc st bf bd) fm' dm'=L'∧S ++ R=R'):=by
  intro n
  induction n with
  | zero=>exact fun d s fm dm R hn=>Jkx a t fc st s0 A K bx bf bd hO d s fm dm R (fun d' hd'=>by omega)
  | succ n ih=>exact fun d s fm dm R hn=>Jkx a t fc st s0 A K bx bf bd hO d s fm dm R (fun d' hd' s fm dm R=>ih d' s fm dm R (by omega))
end Go.Proofs.Ytihompplndcdeaa
