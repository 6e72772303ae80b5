/-
  Flows: RefFits, PipeOf, Mono, Spec, Codes, in one text. By an AI agent; no person has read it.
-/
import Derived.Test.YtihompplndcdeaaFans
set_option linter.unusedVariables false
set_option linter.unusedSimpArgs false
section
variable {A9 B9:Prop}
theorem J0c (a:A9) (h:A9→B9:=by exact Jax (by first | exact Jaf tb rfl rfl rfl rfl (by first | assumption | exact zr (by simp)) (i:=k3) (by first | rfl | omega | (simp;omega)) (by omega) | exact Jah tb rfl rfl rfl rfl (i:=k3) (by first | rfl | omega | (simp;omega)) (by omega)) rfl):B9:=h a
theorem J3c (a:A9) (h:A9→B9:=by exact Ja5 tb [0,1,2,3,4,5,6,7,8,9,10,11,12,13] _ Jbh (by kernel_rfl) (List.Sublist.refl _)):B9:=h a
theorem J4q (a:A9) (h:A9→B9:=by exact Jax (by first | exact Jaf tb rfl rfl rfl rfl (by first | assumption | exact zr (by simp)) (i:=k0) (by first | rfl | omega | (simp;omega)) (by omega) | exact Jah tb rfl rfl rfl rfl (i:=k0) (by first | rfl | omega | (simp;omega)) (by omega)) rfl):B9:=h a
theorem J5o (a:A9) (h:A9→B9:=by exact Jax (by first | exact Jaf tb rfl rfl rfl rfl (by first | assumption | exact zr (by simp)) (i:=k1) (by first | rfl | omega | (simp;omega)) (by omega) | exact Jah tb rfl rfl rfl rfl (i:=k1) (by first | rfl | omega | (simp;omega)) (by omega)) rfl):B9:=h a
theorem J4h (a:A9) (h:A9→B9:=by exact Jaz tb [] [0,1,2,3,4,5,6,7,8,9,10,11] [12] (_) _ Jbh (by kernel_rfl) (by repeat (first | exact zs0 _ | exact zs1 _ | apply zs2 | apply zs3 | apply zs4 | apply zs5)) (by (repeat (first | apply List.Sublist.cons (a:=Blk.mk b88 _ _) | apply List.Sublist.cons_cons));exact List.Sublist.refl _)):B9:=h a
theorem J4j (a:A9) (h:A9→B9:=by exact Jb1 (Jah tb rfl rfl rfl rfl (i:=(a.mine.roads.l.getD k2 default).fr.toNat) (by first | rfl | omega | (simp;omega)) (by omega)) rfl rfl rfl rfl):B9:=h a
theorem J4t (a:A9) (h:A9→B9:=by exact Jb1 (Jah tb rfl rfl rfl rfl (i:=(a.mine.roads.l.getD k2 default).to.toNat) (by first | rfl | omega | (simp;omega)) (by omega)) rfl rfl rfl rfl):B9:=h a
end
section
namespace Go.Proofs.Ytihompplndcdeaa
open Go.Aw Go
set_option maxRecDepth 20000
attribute [local irreducible] CJ LJ DJ Tri YV Gives Jdn Jaw Jbk Jdo RV Jay
def Jb5 (p:Int):Option Int:=if p < -70368744177664∨70368744177664 < p then some 1 else none
def Jhr (q:Int):Option Int:=if q < -1048576∨1048576 < q then some 1 else none
def Jdw (a : XAir) (x : XState) : Nat → List Int
  | 0=>List.replicate x.pres.l.length 0
  | k + 1=>
    let l1:=(Jdw a x k).set (a.mine.roads.l.getD k default).fr.toNat ((Jdw a x k).getD (a.mine.roads.l.getD k default).fr.toNat 0 + x.flows.l.getD k 0)
    l1.set (a.mine.roads.l.getD k default).to.toNat (l1.getD (a.mine.roads.l.getD k default).to.toNat 0 - x.flows.l.getD k 0)
def Jdc (a:XAir) (s:XSetting) (x:XState) (i:Nat):Option Int:=
  let r:=a.mine.roads.l.getD i default
  let d:=x.pres.l.getD r.fr.toNat 0 - x.pres.l.getD r.to.toNat 0
  if (r.closed=true∧x.flows.l.getD i 0≠0)∨(r.closed=false∧(d < (Ja8 a s i (x.flows.l.getD i 0)).low∨(Ja8 a s i (x.flows.l.getD i 0)).high < d)) then some 10 else none
def Jcu (a:XAir) (x:XState) (net:List Int) (i:Nat):Option Int:=
  if ((a.mine.places.l.getD i default).surface=true∧x.pres.l.getD i 0≠0)∨((a.mine.places.l.getD i default).surface=false∧net.getD i 0≠0) then some 10 else none
def Joz (a:XAir) (s:XSetting) (x:XState):Int:=
  if Jat a≠0 then Jat a else if Jdl a s=false then 21
  else if x.pres.l.length≠a.mine.places.l.length∨x.flows.l.length≠a.mine.roads.l.length then 11
  else match x.pres.l.findSome? Jb5 with
    | some e=>e
    | none=>match x.flows.l.findSome? Jhr with
      | some e=>e
      | none=>match (List.range x.flows.l.length).findSome? (Jdc a s x) with
        | some e=>e
        | none=>((List.range x.pres.l.length).findSome? (Jcu a x (Jdw a x x.flows.l.length))).getD 0
theorem Jgd (a : XAir) (x : XState) : ∀ k, (Jdw a x k).length = x.pres.l.length
  | 0=>by simp [Jdw]
  | k + 1=>by simp only [Jdw,List.length_set];exact Jgd a x k
theorem Jlj {l:List Int} {i:Nat} {v B:Int} (hl:∀(j:Nat) (y:Int),l[j]?=some y→-B≤y∧y≤B) (hv:-B≤v∧v≤B):∀(j:Nat) (y:Int),(l.set i v)[j]?=some y→-B≤y∧y≤B:=by
  intro j y hy
  rw [List.getElem?_set] at hy
  split at hy
  · split at hy
    · cases hy;exact hv
    · cases hy
  · exact hl j y hy
theorem Jin {a : XAir} {x : XState} (hf : ∀ (i : Nat) (q : Int), x.flows.l[i]? = some q → -1048576 ≤ q ∧ q ≤ 1048576) : ∀ k, k ≤ x.flows.l.length → ∀ (j : Nat) (y : Int), (Jdw a x k)[j]? = some y → -(2097152 * (k : Int)) ≤ y ∧ y ≤ 2097152 * (k : Int)
  | 0,_,j,y,hy=>by
    simp only [Jdw,List.getElem?_replicate] at hy
    split at hy
    · cases hy;omega
    · cases hy
  | k + 1,hk,j,y,hy=>by
    have ih:=Jin (a:=a) hf k (by omega)
    have hq:=hf k _ (Jai 0 (by omega))
    have gd:∀(l:List Int) (B:Int) (i:Nat),0≤B→(∀(j:Nat) (y:Int),l[j]?=some y→-B≤y∧y≤B)→-B≤l.getD i 0∧l.getD i 0≤B:=by
      intro l B i hB h
      rcases Nat.lt_or_ge i l.length with h' | h'
      · exact h i _ (Jai 0 h')
      · rw [List.getD_eq_getElem?_getD,List.getElem?_eq_none h'];simp;omega
    have ih1:∀(j:Nat) (y:Int),(Jdw a x k)[j]?=some y→-(2097152 * (k:Int) + 1048576)≤y∧y≤2097152 * (k:Int) + 1048576:=fun j y h=>by have:=ih j y h;omega
    have h0:=gd (Jdw a x k) (2097152 * (k:Int)) (a.mine.roads.l.getD k default).fr.toNat (by omega) ih
    have s1:=Jlj (i:=(a.mine.roads.l.getD k default).fr.toNat) (v:=(Jdw a x k).getD (a.mine.roads.l.getD k default).fr.toNat 0 + x.flows.l.getD k 0) ih1 (by omega)
    have h1:=gd _ _ (a.mine.roads.l.getD k default).to.toNat (by omega) s1
    have s1':∀(j:Nat) (y:Int),((Jdw a x k).set (a.mine.roads.l.getD k default).fr.toNat ((Jdw a x k).getD (a.mine.roads.l.getD k default).fr.toNat 0 + x.flows.l.getD k 0))[j]?=some y→-(2097152 * (k:Int) + 2097152)≤y∧y≤2097152 * (k:Int) + 2097152:=fun j y h=>by have:=s1 j y h;omega
    have s2:=Jlj (i:=(a.mine.roads.l.getD k default).to.toNat) (v:=((Jdw a x k).set (a.mine.roads.l.getD k default).fr.toNat ((Jdw a x k).getD (a.mine.roads.l.getD k default).fr.toNat 0 + x.flows.l.getD k 0)).getD (a.mine.roads.l.getD k default).to.toNat 0 - x.flows.l.getD k 0) s1' (by omega)
    have:=s2 j y hy
    push_cast
    omega
theorem Jqu {a:XAir} {s:XSetting} {x:XState} (h0:Jat a=0) (h1:Jdl a s=true) (h2:¬ (x.pres.l.length≠a.mine.places.l.length∨x.flows.l.length≠a.mine.roads.l.length)):
    Joz a s x=match x.pres.l.findSome? Jb5 with
    | some e=>e
    | none=>match x.flows.l.findSome? Jhr with
      | some e=>e
      | none=>match (List.range x.flows.l.length).findSome? (Jdc a s x) with
        | some e=>e
        | none=>((List.range x.pres.l.length).findSome? (Jcu a x (Jdw a x x.flows.l.length))).getD 0:=by
  rw [Joz,if_neg (by simp [h0]),if_neg (by simp [h1]),if_neg h2]
theorem Jqy (a:XAir) (s:XSetting) (x:XState) (L:List Blk) (R:List Sl) (hm:AirR a R) (hs:SetR s R) (hx:StateR x R):
    Tri Try.prog 10 [a.val,s.val,x.val].toArray L R (fun v L' R'=>v=.int .i64 (Joz a s x)∧L=L'∧R=R'):=by
  have hmp:=hm.places
  have hmr:=hm.roads
  have hxp:=hx.pres
  have hxf:=hx.flows
  refine Jb7 Try.call10 hxp fun hpn=>?_
  refine Jb7 Try.call10 hxf fun hfn=>?_
  refine Jae 211 Try.call10 Try.func10 rfl rfl rfl ?_
  refine Xaj ?_
  intro b3
  refine qax ?_
  intro b4
  refine qax ?_
  intro b5
  refine Xaw ?_
  refine qa8 ?_
  refine q_l rfl (Jjh a _ _ hm) ?_
  refine Xbv ?_
  refine q_c (fun hc0=>?_) (fun hc0=>?_)
  ·
   refine Xbb ?_
   refine Xa4 ?_
   refine q_i (L':=L) (R':=R) ?_
   exact ⟨by rw [Joz,if_pos hc0],rfl,rfl⟩
  simp only [Decidable.not_not] at hc0
  have hrf:Jea a s=Jdl a s:=by simp [Jea,hc0]
  refine qbo ?_
  refine Xaz ?_
  refine q_l rfl (Jjc a s _ _ hm hs) ?_
  refine Xbu ?_
  refine q_c (fun hc1=>?_) (fun hc1=>?_)
  ·
   refine Xbn ?_
   refine q_i (L':=L) (R':=R) ?_
   exact ⟨by rw [Joz,if_neg (by simp [hc0]),if_pos (by rw [← hrf];exact hc1)],rfl,rfl⟩
  have hfb:Jdl a s=true:=by rw [← hrf];simpa using hc1
  obtain ⟨ha,hf⟩:=Jfr (by simpa using hc1)
  have hap:=ha.mine.places
  have har:=ha.mine.roads
  refine qbo ?_
  refine Xab ?_
  refine Xa7 ?_
  refine Xb5 ?_
  apply Jbi (G:=[_,_,_,_,_,_,_,_]) (j:=8) (cj:=33) rfl rfl (by rfl) rfl (show _=Value.bool _ from rfl) rfl
  ·
   intro hg9
   replace hg9:=qb hg9
   refine Xab ?_
   refine Xa7 ?_
   refine qbq ?_
   exact qai
  intro junk9
  refine qaf ?_
  refine q_c (fun hc2=>?_) (fun hc2=>?_)
  ·
   refine Xbn ?_
   refine q_i (L':=L) (R':=R) ?_
   exact ⟨by rw [Joz,if_neg (by simp [hc0]),if_neg (by simp [hfb]),if_pos (by omega)],rfl,rfl⟩
  have hfa:=Jqu (s:=s) hc0 hfb (x:=x) (by omega)
  refine Xcq ?_
  refine Jag [(3,Value.pointer _),(4,Value.pointer _),(5,Value.pointer _),(8,Value.int _ _)] (by repeat' (first | exact trivial | refine And.intro rfl ?_)) fun tq0=>?_
  refine q_s [6,8,43,44,45,46,47,48,49,50,51,52,53,54,55,56,57,58,59,60,61,62,63] (fun g:FS (Jb5) (x.pres.l)=>[(8,.int .i64 ((g.1:Nat):Int))]) (fun g=>(x.pres.l).length - g.1) ⟨0,Jec _ _⟩ ?_
  rintro ⟨k0,hk0,hp0⟩ junk
  try dsimp only
  refine Xbq ?_
  refine q_c (fun hc3=>?_) (fun hc3=>?_)
  ·
   obtain ⟨p,hp⟩:=Jar (l:=x.pres.l) (k:=k0) (by omega)
   refine Xci ?_
   refine J4q ?_
   refine qa7 ?_
   refine Xa2 ?_
   apply Jbi (G:=[_,_,_,_,_,_]) (j:=6) (cj:=56) rfl rfl (by rfl) rfl (show _=Value.bool _ from rfl) rfl
   ·
    intro hg7
    replace hg7:=qb hg7
    refine Xah ?_
    refine J4q ?_
    refine qa7 ?_
    refine qa5 ?_
    exact qai
   intro junk7
   refine qaf ?_
   refine q_c (fun hc4=>?_) (fun hc4=>?_)
   ·
    refine Xbj ?_
    refine q_i (L':=L) (R':=R) ?_
    exact ⟨by rw [hfa,Jc3 hp0 hp (if_pos (by omega))],rfl,rfl⟩
   refine Xbg ?_
   exact q_k ⟨k0 + 1,Jd3 hp0 hp (if_neg (by omega))⟩
  have hn0:=Jdv hp0 (by omega)
  refine qcf ?_
  refine Xav ?_
  refine Jag [(3,Value.pointer _),(4,Value.pointer _),(5,Value.pointer _),(9,Value.int _ _)] (by repeat' (first | exact trivial | refine And.intro rfl ?_)) fun tq1=>?_
  refine q_s [6,9,64,65,66,67,68,69,70,71,72,73,74,75,76,77,78,79,80,81,82,83,84] (fun g:FS (Jhr) (x.flows.l)=>[(9,.int .i64 ((g.1:Nat):Int))]) (fun g=>(x.flows.l).length - g.1) ⟨0,Jec _ _⟩ ?_
  rintro ⟨k1,hk1,hp1⟩ junk
  try dsimp only
  refine Xbq ?_
  refine q_c (fun hc5=>?_) (fun hc5=>?_)
  ·
   obtain ⟨q,hq⟩:=Jar (l:=x.flows.l) (k:=k1) (by omega)
   refine Xci ?_
   refine J5o ?_
   refine qa7 ?_
   refine Xa2 ?_
   apply Jbi (G:=[_,_,_,_,_,_]) (j:=6) (cj:=77) rfl rfl (by rfl) rfl (show _=Value.bool _ from rfl) rfl
   ·
    intro hg7
    replace hg7:=qb hg7
    refine Xah ?_
    refine J5o ?_
    refine qa7 ?_
    refine qa5 ?_
    exact qai
   intro junk7
   refine qaf ?_
   refine q_c (fun hc6=>?_) (fun hc6=>?_)
   ·
    refine Xbj ?_
    refine q_i (L':=L) (R':=R) ?_
    exact ⟨by rw [hfa,hn0,Jc3 hp1 hq (if_pos (by omega))],rfl,rfl⟩
   refine Xbg ?_
   exact q_k ⟨k1 + 1,Jd3 hp1 hq (if_neg (by omega))⟩
  have hn1:=Jdv hp1 (by omega)
  rw [hn0,hn1] at hfa
  dsimp only at hfa
  have hpb:∀(i:Nat) (p:Int),x.pres.l[i]?=some p→-70368744177664≤p∧p≤70368744177664:=fun i p hp=>by
    have:=List.findSome?_eq_none_iff.1 hn0 p (List.mem_of_getElem? hp)
    unfold Jb5 at this
    split at this
    · cases this
    · omega
  have hqb:∀(i:Nat) (q:Int),x.flows.l[i]?=some q→-1048576≤q∧q≤1048576:=fun i q hq=>by
    have:=List.findSome?_eq_none_iff.1 hn1 q (List.mem_of_getElem? hq)
    unfold Jhr at this
    split at this
    · cases this
    · omega
  refine qbk ?_
  refine Xab ?_
  refine qc7 ?_
  rintro v L' R' ⟨b88,rfl,rfl,hR88⟩
  replace hR88:=hR88.symm;subst hR88
  refine qc4 ?_
  refine qco ?_
  rw [J0q]
  refine qay ?_
  refine Xav ?_
  refine Jag [(3,Value.pointer _),(4,Value.pointer _),(5,Value.pointer _),(10,Value.slice _ _ _),(11,Value.int _ _)] (by repeat' (first | exact trivial | refine And.intro rfl ?_)) fun tq2=>?_
  refine q_p [6,11,12,13,14,89,90,91,92,93,94,95,96,97,98,99,100,101,102,103,104,105,106,107,108,109,110,111,112,113,114,115,116,117,118,119,120,121,122,123,124,125,126,127,128,129,130,131,132,133,134,135,136,137,138,139,140,141,142,143,144,145,146,147,148,149,150,151,152,153,154,155,156,157,158,159,160,161,162,163,164,165,166,167,168,169,170,171,172] ((⟨fun g=>[(11,.int .i64 ((g.1:Nat):Int))],fun g=>⟨b88,J3w (Jdw a x g.1),3⟩ :: ⟨b5,x.cells,37⟩ :: ⟨b4,s.cells,35⟩ :: ⟨b3,a.cells,32⟩ :: L,fun _=>R,fun g=>x.flows.l.length - g.1⟩:Head (FSR (Jdc a s x) x.flows.l.length))) (⟨0,Jet _ _⟩) ?_
  rintro ⟨k2,hk2,hp2⟩ junk
  try dsimp only
  refine Xbq ?_
  refine q_c (fun hc7=>?_) (fun hc7=>?_)
  ·
   have hro:=Jai (l:=a.mine.roads.l) (k:=k2) default (by omega)
   have hfl:=Jai (l:=x.flows.l) (k:=k2) 0 (by omega)
   have hrk:=ha.mine.road _ _ hro
   have hr1:=hrk.fr
   have hr2:=hrk.to
   have hpf:=Jai (l:=x.pres.l) (k:=(a.mine.roads.l.getD k2 default).fr.toNat) 0 (by omega)
   have hpt:=Jai (l:=x.pres.l) (k:=(a.mine.roads.l.getD k2 default).to.toNat) 0 (by omega)
   have hpfb:=hpb _ _ hpf
   have hptb:=hpb _ _ hpt
   have hqk:=hqb _ _ hfl
   have hnl:=Jgd a x k2
   have hg1:=Jai (l:=Jdw a x k2) (k:=(a.mine.roads.l.getD k2 default).fr.toNat) 0 (by omega)
   have hg1b:=Jin hqb k2 (by omega) _ _ hg1
   refine qbb ?_
   refine Xc2 ?_
   refine qa3 ?_
   refine qc8 ?_
   refine qaq ?_
   intro b12
   refine Xcv ?_
   refine qah ?_
   apply Jb3 (G:=[_,_,_,_,_,_]) (j:=2) (cj:=104) rfl rfl (by rfl) rfl (show _=Value.bool _ from rfl) rfl
   ·
    intro hg3
    replace hg3:=qb hg3
    refine Xah ?_
    refine Xc1 ?_
    refine qbq ?_
    exact qai
   intro junk3
   refine qaf ?_
   refine q_c (fun hc8=>?_) (fun hc8=>?_)
   ·
    refine Xcj ?_
    refine q_i (L':=L) (R':=R) ?_
    exact ⟨by rw [hfa,Jfc hp2 (by omega) (if_pos (.inl hc8))],rfl,rfl⟩
   refine qcl ?_
   refine J3c ?_
   refine Xad ?_
   refine Xad ?_
   refine Jbx (by first | exact Jaf tb rfl rfl rfl rfl (by first | assumption | exact zr (by simp)) (i:=(a.mine.roads.l.getD k2 default).fr.toNat) (by first | rfl | omega | (simp;omega)) (by omega) | exact Jah tb rfl rfl rfl rfl (i:=(a.mine.roads.l.getD k2 default).fr.toNat) (by first | rfl | omega | (simp;omega)) (by omega)) rfl rfl rfl ?_
   refine qbl ?_
   refine Xad ?_
   refine Xad ?_
   refine Jbx (by first | exact Jaf tb rfl rfl rfl rfl (by first | assumption | exact zr (by simp)) (i:=(a.mine.roads.l.getD k2 default).to.toNat) (by first | rfl | omega | (simp;omega)) (by omega) | exact Jah tb rfl rfl rfl rfl (i:=(a.mine.roads.l.getD k2 default).to.toNat) (by first | rfl | omega | (simp;omega)) (by omega)) rfl rfl rfl ?_
   refine qbl ?_
   refine qb7 ?_
   refine qcg ?_
   refine Jb8 (Jaa (Jan (Jan ?_)))
   refine Ja5 tb [0,1,2,3,4,5,6,7,8,9,10] _ Jbh (by kernel_rfl) (List.Sublist.refl _) ?_
   refine qbc ?_
   refine qbd ?_
   refine qao ?_
   refine Xb6 ?_
   refine qbl ?_
   refine q_d rfl (Jq9 a s k2 (x.flows.l.getD k2 0) _ _ hm hs) ?_
   refine qbr ?_
   intro b14
   refine qbg ?_
   refine qb9 ?_
   have hdr:(a.mine.roads.l.getD k2 default).closed=false→Jyx a s k2 (x.flows.l.getD k2 0)=Ja8 a s k2 (x.flows.l.getD k2 0):=fun hcl=>by
     have ho:Jwv a s k2=true:=by
       have h1:Jea a s=true:=by simpa using hc1
       simp only [Jwv,h1,Int.toNat_natCast,hcl,Bool.true_and,Bool.and_eq_true,decide_eq_true_eq,Bool.not_false,and_true]
       omega
     rw [Jyx,if_neg]
     rw [ho]
     simp only [Bool.true_eq_false,false_or]
     omega
   refine qay ?_
   refine Xaa ?_
   refine qb4 ?_
   refine qah ?_
   apply Jb3 (G:=[_,_,_,_,_,_,_,_,_,_]) (j:=3) (cj:=137) rfl rfl (by rfl) rfl (show _=Value.bool _ from rfl) rfl
   ·
    intro hg4
    replace hg4:=qb hg4
    refine qaa ?_
    refine Xaa ?_
    refine Xa2 ?_
    apply Jbi (G:=[_,_,_,_]) (j:=8) (cj:=142) rfl rfl (by rfl) rfl (show _=Value.bool _ from rfl) rfl
    ·
     intro hg9
     replace hg9:=qb hg9
     refine qaa ?_
     refine Xcp ?_
     exact qai
    intro junk9
    exact qai
   intro junk4
   refine qaf ?_
   refine q_c (fun hc9=>?_) (fun hc9=>?_)
   ·
    rw [hdr hc9.1] at hc9
    refine Xcj ?_
    refine q_i (L':=L) (R':=R) ?_
    exact ⟨by rw [hfa,Jfc hp2 (by omega) (if_pos (.inr hc9))],rfl,rfl⟩
   have hru:Jdc a s x k2=none:=if_neg (by
     rintro (h | ⟨h,h'⟩)
     · rcases hc8 with h8 | h8
       · rw [h.1] at h8;cases h8
       · exact h.2 (by simpa using h8)
     · rw [hdr h] at hc9
       rcases hc9 with h9 | h9
       · rw [h] at h9;cases h9
       · rcases h' with h' | h'
         · exact h9.1 h'
         · exact h9.2 h')
   refine qcl ?_
   refine J4h ?_
   refine Xcx ?_
   refine J4j ?_
   refine qcr ?_
   refine Xba ?_
   refine qc5 ?_
   refine qci ?_
   refine qcj ?_
   refine J4j ?_
   refine Xck ?_
   refine qbu ?_
   have hsl:((Jdw a x k2).set (a.mine.roads.l.getD k2 default).fr.toNat ((Jdw a x k2).getD (a.mine.roads.l.getD k2 default).fr.toNat 0 + x.flows.l.getD k2 0)).length=x.pres.l.length:=by rw [List.length_set,hnl]
   have hg2:=Jai (l:=(Jdw a x k2).set (a.mine.roads.l.getD k2 default).fr.toNat ((Jdw a x k2).getD (a.mine.roads.l.getD k2 default).fr.toNat 0 + x.flows.l.getD k2 0)) (k:=(a.mine.roads.l.getD k2 default).to.toNat) 0 (by omega)
   have hg2b:=Jlj (B:=2097152 * (k2:Int) + 1048576) (fun j y hy=>by have:=Jin hqb k2 (by omega) j y hy;omega) (by omega) _ _ hg2
   refine J4h ?_
   refine Xcx ?_
   refine J4t ?_
   refine qcr ?_
   refine Xba ?_
   refine qc5 ?_
   refine qci ?_
   refine qcc ?_
   refine J4t ?_
   refine Xck ?_
   refine Xb7 ?_
   exact q_k ⟨k2 + 1,Jds hp2 (by omega) hru⟩
  have hn2:=Je1 hp2 (by omega)
  rw [hn2] at hfa
  dsimp only at hfa
  obtain rfl:k2=x.flows.l.length:=by omega
  have hnl:=Jgd a x x.flows.l.length
  refine qcf ?_
  refine Xav ?_
  refine Jag [(3,Value.pointer _),(5,Value.pointer _),(10,Value.slice _ _ _),(15,Value.int _ _)] (by repeat' (first | exact trivial | refine And.intro rfl ?_)) fun tq3=>?_
  refine q_s [6,15,173,174,175,176,177,178,179,180,181,182,183,184,185,186,187,188,189,190,191,192,193,194,195,196,197,198,199,200,201,202,203,204,205,206,207,208,209,210] (fun g:FSR (Jcu a x (Jdw a x x.flows.l.length)) (x.pres.l.length)=>[(15,.int .i64 ((g.1:Nat):Int))]) (fun g=>(x.pres.l.length) - g.1) ⟨0,Jet _ _⟩ ?_
  rintro ⟨k3,hk3,hp3⟩ junk
  try dsimp only
  refine Xap ?_
  refine Xcy ?_
  refine q_c (fun hc10=>?_) (fun hc10=>?_)
  ·
   have hpl:=Jai (l:=a.mine.places.l) (k:=k3) default (by omega)
   have hpr:=Jai (l:=x.pres.l) (k:=k3) 0 (by omega)
   have hnt:=Jai (l:=Jdw a x x.flows.l.length) (k:=k3) 0 (by omega)
   refine qbb ?_
   refine Xc2 ?_
   refine J0c ?_
   refine Xbc ?_
   refine qah ?_
   apply Jb3 (G:=[_,_,_,_,_,_]) (j:=7) (cj:=186) rfl rfl (by rfl) rfl (show _=Value.bool _ from rfl) rfl
   ·
    intro hg8
    replace hg8:=qb hg8
    refine Xah ?_
    refine J0c ?_
    refine qa7 ?_
    refine qbq ?_
    exact qai
   intro junk8
   refine qah ?_
   apply Jbi (G:=[_,_,_,_,_,_,_,_,_,_,_,_,_,_,_]) (j:=15) (cj:=194) rfl rfl (by rfl) rfl (show _=Value.bool _ from rfl) rfl
   ·
    intro hg16
    replace hg16:=qb hg16
    refine Xc2 ?_
    refine J0c ?_
    refine Xbc ?_
    refine qb4 ?_
    refine qah ?_
    apply Jb3 (G:=[_,_,_,_,_]) (j:=24) (cj:=203) rfl rfl (by rfl) rfl (show _=Value.bool _ from rfl) rfl
    ·
     intro hg25
     replace hg25:=qb hg25
     refine Xal ?_
     refine J0c ?_
     refine qa7 ?_
     refine qbq ?_
     exact qai
    intro junk25
    exact qai
   intro junk16
   refine qaf ?_
   refine q_c (fun hc11=>?_) (fun hc11=>?_)
   ·
    refine Xbj ?_
    refine q_i (L':=L) (R':=R) ?_
    exact ⟨by rw [hfa,Jfc hp3 (by omega) (if_pos hc11)];rfl,rfl,rfl⟩
   refine Xbg ?_
   exact q_k ⟨k3 + 1,Jds hp3 (by omega) (if_neg (fun h=>h.elim (fun h=>hc11.1.elim (fun e=>Bool.noConfusion (e.symm.trans h.1)) (fun e=>e h.2)) (fun h=>hc11.2.elim (fun e=>Bool.noConfusion (e.symm.trans h.1)) (fun e=>e h.2))))⟩
  have hn3:=Je1 hp3 (by omega)
  refine Xce ?_
  refine q_i (L':=L) (R':=R) ?_
  exact ⟨by rw [hfa,hn3];rfl,rfl,rfl⟩
end Go.Proofs.Ytihompplndcdeaa
end
section
namespace Go.Proofs.Ytihompplndcdeaa
open Go.Aw Go
def blowsTo (a : XAir) (s : XSetting) (r : Int) : Nat → List XBlow
  | 0=>[]
  | k + 1=>if s.fans.l.getD k 0≠0∧(a.fans.l.getD k default).road=r then blowsTo a s r k ++ [⟨a.fans.l.getD k default,s.fans.l.getD k 0⟩] else blowsTo a s r k
structure PipeIs (a:XAir) (s:XSetting) (r:Int) (p:XPipe):Prop where
  road:p.road={ a.mine.roads.l.getD r.toNat default with rest:=Jbq a s r a.doors.l.length }
  num:p.num=r
  fans:p.fans.l=blowsTo a s r a.fans.l.length
def J61 (q:Int) (s:XSpan) (b:XBlow):XSpan:=⟨s.low - (Jb9 b.fan b.state q).high,s.high - (Jb9 b.fan b.state q).low⟩
theorem Jmv (p : XPipe) (q : Int) : ∀ k, k ≤ p.fans.l.length → Je3 p q k = (p.fans.l.take k).foldl (J61 q) (Je3 p q 0)
  | 0,_=>by simp
  | k + 1,hk=>by
    have hx:=Jai (l:=p.fans.l) (k:=k) default (by omega)
    have e:p.fans.l.take (k + 1)=p.fans.l.take k ++ [p.fans.l.getD k default]:=by
      rw [List.take_add_one,hx];rfl
    rw [e,List.foldl_append,← Jmv p q k (by omega)]
    rfl
theorem J1e (f:XFan) (q:Int):Jb9 f 0 q=⟨0,0⟩:=by
  rw [Jb9,if_neg (by decide),if_neg (by decide),if_neg (by decide)]
theorem Jl2 (a : XAir) (s : XSetting) (r q : Int) : ∀ k, innerTo a s r q k = (blowsTo a s r k).foldl (J61 q) (innerTo a s r q 0)
  | 0=>rfl
  | k + 1=>by
    have ih:=Jl2 a s r q k
    rw [innerTo.eq_2,blowsTo.eq_2]
    by_cases hr:(a.fans.l.getD k default).road=r
    · by_cases h0 : s.fans.l.getD k 0 = 0
      · rw [if_pos hr, if_neg (fun h => h.1 h0), h0, J1e, ← ih]
        simp only [Int.sub_zero]
      · rw [if_pos hr, if_pos ⟨h0, hr⟩, List.foldl_append, ← ih]
        rfl
    · rw [if_neg hr,if_neg (fun h=>hr h.2),← ih]
theorem Ju9 {a:XAir} {s:XSetting} {r:Int} {p:XPipe} (h:PipeIs a s r p) (q:Int):Jjn p q=Ja8 a s r q:=by
  have e0:Je3 p q 0=innerTo a s r q 0:=by
    by_cases hq:q < 0
    · rw [Jla hq,Jhs hq,h.road,Int.neg_mul,Int.neg_mul,Int.mul_assoc,Int.mul_assoc]
    · rw [Jlk hq,Jg2 hq,h.road,Int.mul_assoc,Int.mul_assoc]
  rw [Jjn,Jmv p q _ (Nat.le_refl _),List.take_length,e0,h.fans,Ja8,Jl2 a s r q a.fans.l.length]
theorem Jhb {a : XAir} {s : XSetting} {r : Int} : ∀ (k : Nat), k ≤ a.fans.l.length → ∀ b ∈ blowsTo a s r k, ∃ i : Nat, a.fans.l[i]? = some b.fan
  | 0,_,b,hb=>by simp [blowsTo] at hb
  | k + 1,hk,b,hb=>by
    rw [blowsTo] at hb
    split at hb
    · rcases List.mem_append.1 hb with h | h
      · exact Jhb k (by omega) b h
      · rw [List.mem_singleton.1 h];exact ⟨k,Jai default (by omega)⟩
    · exact Jhb k (by omega) b hb
theorem Jgj {a : XAir} {s : XSetting} {r : Int} : ∀ (k : Nat), (blowsTo a s r k).length ≤ k
  | 0=>by simp [blowsTo]
  | k + 1=>by
    have:=Jgj (a:=a) (s:=s) (r:=r) k
    rw [blowsTo]
    split
    · simp;omega
    · omega
theorem Jr2 {a:XAir} {s:XSetting} {r:Int} {p:XPipe} (ha:AirOk a) (hr:0≤r∧r < a.mine.roads.l.length) (h:PipeIs a s r p):PipeOk p:=by
  have hro:=ha.mine.road r.toNat _ (Jai default (by omega))
  have hrb:=Jcz (s:=s) ha hr a.doors.l.length (Nat.le_refl _)
  have hnd:=ha.ndoors
  have hnf:=ha.nfans
  have hl:=Jgj (a:=a) (s:=s) (r:=r) a.fans.l.length
  refine ⟨?_,?_,?_,fun i b hb=>?_⟩
  · rw [h.road];dsimp only;omega
  · rw [h.road];exact hro.lift
  · rw [h.fans];omega
  · rw [h.fans] at hb
    obtain ⟨j,hj⟩:=Jhb a.fans.l.length (Nat.le_refl _) b (List.mem_of_getElem? hb)
    exact (ha.fan j _ hj).1
def Rises (f:Int→Int):Prop:=∀x y:Int,-1048577≤x→x < y→y≤1048577→f x < f y
end Go.Proofs.Ytihompplndcdeaa
end
section
namespace Go.Proofs.Ytihompplndcdeaa
open Go.Aw Go
def LeS (s t:XSpan):Prop:=s.low≤t.low∧s.high≤t.high
theorem Jnq {a b:XPoint} {q:Int} (hw:a.flow < b.flow):(Jch a b q).low=a.pres + (-((a.pres - b.pres) * (q - a.flow))) / (b.flow - a.flow):=by
  rw [Joi (by omega)];unfold Jch;dsimp only;omega
theorem Jsz {a b:XPoint} {q q':Int} (hp:b.pres≤a.pres) (hw:a.flow < b.flow) (h:q≤q'):LeS (Jch a b q') (Jch a b q):=by
  have hm:(a.pres - b.pres) * (q - a.flow)≤(a.pres - b.pres) * (q' - a.flow):=Int.mul_le_mul_of_nonneg_left (by omega) (by omega)
  constructor
  · rw [Jnq hw, Jnq hw]
    have:=Int.ediv_le_ediv (a:= -((a.pres - b.pres) * (q' - a.flow))) (b:= -((a.pres - b.pres) * (q - a.flow))) (c:=b.flow - a.flow) (by omega) (by omega)
    omega
  · have := Int.ediv_le_ediv (a := (a.pres - b.pres) * (q - a.flow)) (b := (a.pres - b.pres) * (q' - a.flow)) (c := b.flow - a.flow) (by omega) hm
    unfold Jch;dsimp only;omega
theorem Jlm : ∀ (l : List XPoint) (p : XPoint) (q q' : Int), CurveOk (p :: l) → p.flow ≤ q → q ≤ q' → LeS (Jdp p l q') (Jdp p l q)
  | [],p,q,q',_,_,_=>⟨Int.le_refl _,Int.le_refl _⟩
  | r :: rest,p,q,q',h,hq,hqq=>by
    have h0:=h.pt 0 p rfl
    have h1:=h.pt 1 r rfl
    have h2:=h.st 0 p r rfl rfl
    have ok':CurveOk (r :: rest):=⟨fun i=>h.pt (i + 1),fun i=>h.st (i + 1)⟩
    unfold Jdp
    by_cases c1:q≤r.flow
    · by_cases c2 : q' ≤ r.flow
      · rw [if_pos c1,if_pos c2];exact Jsz h2.2 h2.1 hqq
      · rw [if_pos c1, if_neg c2]
        have b1:=Jjd (a:=p) (b:=r) (q:=q) (by omega) (by omega)
        have b2:=Jef rest r q' ok' (by omega)
        exact ⟨by omega,by omega⟩
    · rw [if_neg c1, if_neg (by omega)]
      exact Jlm rest r q q' ok' (by omega) hqq
theorem Jng {l:List XPoint} (h:CurveOk l) {q q':Int} (hqq:q≤q'):LeS (Jc6 l q') (Jc6 l q):=by
  cases l with
  | nil=>exact ⟨Int.le_refl _,Int.le_refl _⟩
  | cons p rest=>
    unfold Jc6
    dsimp only
    by_cases c1:q≤p.flow
    · by_cases c2 : q' ≤ p.flow
      · rw [if_pos c1,if_pos c2];exact ⟨Int.le_refl _,Int.le_refl _⟩
      · rw [if_pos c1, if_neg c2]
        have b2:=Jef rest p q' h (by omega)
        exact ⟨by dsimp only;omega,by dsimp only;omega⟩
    · rw [if_neg c1, if_neg (by omega)]
      exact Jlm rest p q q' h (by omega) hqq
theorem Jht {l:List XPoint} (h:CurveOk l) (back:Bool) {q q':Int} (hqq:q≤q'):LeS (Jdg l back q') (Jdg l back q):=by
  unfold Jdg
  cases back with
  | false=>exact Jng h hqq
  | true=>
    have:=Jng h (q:= -q') (q':= -q) (by omega)
    exact ⟨by simp only [if_true,J2m];have:=this.2;omega,by simp only [if_true,J2m];have:=this.1;omega⟩
theorem Jtb {f:XFan} (h:CurveOk f.curve.l) (s:Int) {q q':Int} (hqq:q≤q'):LeS (Jb9 f s q') (Jb9 f s q):=by
  have m1:=Jht h f.back hqq
  have m2:=Jht h (!f.back) hqq
  have m3:=Jht h false hqq
  have m4:=Jht h true hqq
  unfold LeS at *
  unfold Jb9
  split
  · exact m1
  · split
    · exact m2
    · split
      · dsimp only;omega
      · exact ⟨Int.le_refl _,Int.le_refl _⟩
def LtS (s t:XSpan):Prop:=s.low < t.low∧s.high < t.high
theorem Jwy {r x y:Int} (hr:0 < r) (hx:0≤x) (h:x < y):r * x * x < r * y * y:=by
  have h1:r * x≤r * y:=Int.mul_le_mul_of_nonneg_left (by omega) (by omega)
  have h0:0≤r * x:=Int.mul_nonneg (by omega) hx
  have h2:r * x * x≤r * x * y:=Int.mul_le_mul_of_nonneg_left (by omega) h0
  have h3:r * x < r * y:=Int.mul_lt_mul_of_pos_left h hr
  have h4:r * x * y < r * y * y:=Int.mul_lt_mul_of_pos_right h3 (by omega)
  omega
theorem Jw2 {rest lift:XSpan} (hr:1≤rest.low∧rest.low≤rest.high) {q q':Int} (h:q < q'):LtS (Jlb rest lift q) (Jlb rest lift q'):=by
  unfold Jlb LtS
  have neg:∀(r x:Int),r * x * x=r * (-x) * (-x):=fun r x=>by rw [Int.mul_neg (r * -x),Int.mul_neg r,Int.neg_mul,Int.neg_neg]
  by_cases c1:q < 0
  · by_cases c2 : q' < 0
    · rw [if_pos c1, if_pos c2]
      have a1:=Jwy (r:=rest.high) (x:= -q') (y:= -q) (by omega) (by omega) (by omega)
      have a2:=Jwy (r:=rest.low) (x:= -q') (y:= -q) (by omega) (by omega) (by omega)
      rw [← neg,← neg] at a1 a2
      dsimp only;omega
    · rw [if_pos c1, if_neg c2]
      have a1:=Jwy (r:=rest.high) (x:=0) (y:= -q) (by omega) (by omega) (by omega)
      have a2:=Jwy (r:=rest.low) (x:=0) (y:= -q) (by omega) (by omega) (by omega)
      rw [← neg] at a1 a2
      have b1:0≤rest.low * q' * q':=Int.mul_nonneg (Int.mul_nonneg (by omega) (by omega)) (by omega)
      have b2:0≤rest.high * q' * q':=Int.mul_nonneg (Int.mul_nonneg (by omega) (by omega)) (by omega)
      simp only [Int.mul_zero] at a1 a2
      dsimp only;omega
  · rw [if_neg c1, if_neg (by omega)]
    have a1:=Jwy (r:=rest.high) (x:=q) (y:=q') (by omega) (by omega) h
    have a2:=Jwy (r:=rest.low) (x:=q) (y:=q') (by omega) (by omega) h
    dsimp only;omega
theorem Jl1 {a : XAir} {s : XSetting} (ha : AirOk a) {r : Int} (hr : 0 ≤ r ∧ r < a.mine.roads.l.length) {q q' : Int} (h : q < q') : ∀ k, k ≤ a.fans.l.length → LtS (innerTo a s r q k) (innerTo a s r q' k)
  | 0,_=>by
    have hb:=Jcz (s:=s) ha hr a.doors.l.length (Nat.le_refl _)
    exact Jw2 ⟨hb.1,hb.2.1⟩ h
  | k + 1,hk=>by
    have ih:=Jl1 (s:=s) ha hr h k (by omega)
    have m:=Jtb (ha.fan k _ (Jai default (by omega))).1.ok (s.fans.l.getD k 0) (show q≤q' by omega)
    unfold LtS LeS at *
    rw [innerTo.eq_2,innerTo.eq_2]
    split
    · dsimp only;omega
    · exact ih
theorem Jgu {a:XAir} {s:XSetting} (ha:AirOk a) {r:Int} (hr:0≤r∧r < a.mine.roads.l.length) {q q':Int} (h:q < q'):LtS (Ja8 a s r q) (Ja8 a s r q'):=Jl1 ha hr h _ (Nat.le_refl _)
end Go.Proofs.Ytihompplndcdeaa
end
section
namespace Go.Proofs.Ytihompplndcdeaa
open Go.Aw Go
theorem Rises.le {f:Int→Int} (h:Rises f) {x y:Int} (h1:-1048577≤x) (h2:x≤y) (h3:y≤1048577):f x≤f y:=by
  rcases Int.lt_or_eq_of_le h2 with h' | h'
  · exact Int.le_of_lt (h x y h1 h' h3)
  · rw [h'];exact Int.le_refl _
theorem Jq7 {f:Int→Int} {pr:Int} (hf:Rises f):∀(n:Nat) (lo hi:Int),(hi - lo).toNat=n→-1048577≤lo→lo≤hi→hi≤1048577→
    lo≤Js5 f pr lo hi∧Js5 f pr lo hi≤hi∧(∀x,lo < x→x≤Js5 f pr lo hi→f x≤pr)∧(∀x,Js5 f pr lo hi < x→x≤hi→pr < f x)
  | n,lo,hi,hn,h1,hle,h2=>by
    by_cases h:lo < hi
    · have he := Jih (x := hi - lo + 1) (by omega)
      by_cases hc:f (lo + (hi - lo + 1).tdiv 2)≤pr
      · rw [Jzg h hc]
        obtain ⟨a1,a2,a3,a4⟩:=Jq7 (pr:=pr) hf _ (lo + (hi - lo + 1).tdiv 2) hi rfl (by omega) (by omega) h2
        refine ⟨by omega,a2,fun x hx1 hx2=>?_,a4⟩
        rcases Int.lt_or_le (lo + (hi - lo + 1).tdiv 2) x with hx | hx
        · exact a3 x hx hx2
        · exact Int.le_trans (hf.le (by omega) hx (by omega)) hc
      · rw [Jxq h hc]
        obtain ⟨a1,a2,a3,a4⟩:=Jq7 (pr:=pr) hf _ lo (lo + (hi - lo + 1).tdiv 2 - 1) rfl h1 (by omega) (by omega)
        refine ⟨a1,by omega,a3,fun x hx1 hx2=>?_⟩
        rcases Int.lt_or_le (lo + (hi - lo + 1).tdiv 2 - 1) x with hx | hx
        · have := hf.le (x := lo + (hi - lo + 1).tdiv 2) (y := x) (by omega) (by omega) (by omega)
          omega
        · exact a4 x hx1 hx
    · rw [Jvt h]
      exact ⟨by omega,by omega,fun x _ _=>by omega,fun x _ _=>by omega⟩
termination_by n=>n
decreasing_by all_goals (have:=Jih (x:=hi - lo + 1) (by omega);omega)
theorem Jn4 {f:Int→Int} {pr:Int} (hf:Rises f):∀(n:Nat) (lo hi:Int),(hi - lo).toNat=n→-1048577≤lo→lo≤hi→hi≤1048577→
    lo≤Ji4 f pr lo hi∧Ji4 f pr lo hi≤hi∧(∀x,lo≤x→x < Ji4 f pr lo hi→f x < pr)∧(∀x,Ji4 f pr lo hi≤x→x < hi→pr≤f x)
  | n,lo,hi,hn,h1,hle,h2=>by
    by_cases h:lo < hi
    · have he := Jih (x := hi - lo) (by omega)
      by_cases hc:pr≤f (lo + (hi - lo).tdiv 2)
      · rw [Jvl h hc]
        obtain ⟨a1,a2,a3,a4⟩:=Jn4 (pr:=pr) hf _ lo (lo + (hi - lo).tdiv 2) rfl h1 (by omega) (by omega)
        refine ⟨a1,by omega,a3,fun x hx1 hx2=>?_⟩
        rcases Int.lt_or_le x (lo + (hi - lo).tdiv 2) with hx | hx
        · exact a4 x hx1 hx
        · exact Int.le_trans hc (hf.le (by omega) hx (by omega))
      · rw [Juw h hc]
        obtain ⟨a1,a2,a3,a4⟩:=Jn4 (pr:=pr) hf _ (lo + (hi - lo).tdiv 2 + 1) hi rfl (by omega) (by omega) h2
        refine ⟨by omega,a2,fun x hx1 hx2=>?_,a4⟩
        rcases Int.lt_or_le x (lo + (hi - lo).tdiv 2 + 1) with hx | hx
        · have := hf.le (x := x) (y := lo + (hi - lo).tdiv 2) (by omega) (by omega) (by omega)
          omega
        · exact a3 x hx hx2
    · rw [Jro h]
      exact ⟨by omega,by omega,fun x _ _=>by omega,fun x _ _=>by omega⟩
termination_by n=>n
decreasing_by all_goals (have:=Jih (x:=hi - lo) (by omega);omega)
theorem Jyy {a:XAir} {s:XSetting} (ha:AirOk a) {r:Int} (hr:0≤r∧r < a.mine.roads.l.length):Rises fun q=>(Ja8 a s r q).low:=fun _ _ _ h _=>(Jgu ha hr h).1
theorem Jwe {a:XAir} {s:XSetting} (ha:AirOk a) {r:Int} (hr:0≤r∧r < a.mine.roads.l.length):Rises fun q=>(Ja8 a s r q).high:=fun _ _ _ h _=>(Jgu ha hr h).2
end Go.Proofs.Ytihompplndcdeaa
end
section
namespace Go.Proofs.Ytihompplndcdeaa
open Go.Aw Go
set_option maxRecDepth 20000
attribute [local irreducible] CJ LJ DJ Tri YV Gives Jdn Jaw Jbk Jdo RV Jay
def J6y (n:Int):List Value:=[.int .u8 n]
abbrev bsl (x:Arr Int):Sl:=x.sl 1 J6y []
abbrev cblk (c:Nat) (x:Arr Int) (k:Nat):Blk:=⟨c,[x.val,.int .i64 (k:Int)],68⟩
structure CodesR (x:Arr Int) (R:List Sl):Prop where
  sl:InR (bsl x) R
  byte:∀(i:Nat) (b:Int),x.l[i]?=some b→0≤b∧b≤255
theorem Jsv (c:Nat) (x:Arr Int) (k:Nat) (n:Int) (R:List Sl) (hx:CodesR x R) (hk:k≤x.l.length) (hn:n≤1000000):
    Tri Try.prog 23 [.pointer (some ⟨c, 0, none⟩), .int .i64 n].toArray [cblk c x k] R
      (fun v L' R'=>∃(r:Int) (k':Nat),v=.int .i64 r∧0≤r∧(1≤n→r < n)∧(n < 1→r=0)∧k'≤x.l.length∧(x.l.length≤k→r=0∧k'=k)∧[cblk c x k']=L'∧R=R'):=by
  have hsl:=hx.sl
  refine Jb7 Try.call23 hsl fun hxn=>?_
  refine Jae 77 Try.call23 Try.func23 rfl rfl rfl ?_
  refine Xaf ?_
  refine qco ?_
  refine J3c ?_
  refine qao ?_
  refine Jbx (Jna rfl rfl) rfl rfl rfl ?_
  refine qb2 ?_
  refine Jep (k:=8) (show _=Value.bool _ from rfl) (fun hg2=>?_) (fun hg2=>?_)
  ·
   replace hg2:=qb hg2
   iterate 10 refine qap ?_
   refine Xbi ?_
   refine Jco rfl ?_
   refine Xbn ?_
   refine q_i (L':=[cblk c x k]) (R':=R) ?_
   exact ⟨0,k,rfl,by omega,fun _=>by omega,fun _=>rfl,hk,fun _=>⟨rfl,rfl⟩,rfl,rfl⟩
  replace hg2:=qb hg2
  refine Xc5 ?_
  refine Xc5 ?_
  refine Jbx (Jew tb rfl rfl rfl) rfl rfl rfl ?_
  refine Jbx (Jkw rfl rfl) rfl rfl rfl ?_
  refine Xbi ?_
  refine q_c (fun hc0=>?_) (fun hc0=>?_)
  ·
   refine Xbn ?_
   refine q_i (L':=[cblk c x k]) (R':=R) ?_
   exact ⟨0,k,rfl,by omega,fun _=>by omega,fun _=>rfl,hk,fun _=>⟨rfl,rfl⟩,rfl,rfl⟩
  have hb:=Jai (l:=x.l) (k:=k) 0 (by omega)
  have hbb:=hx.byte _ _ hb
  refine qbv ?_
  refine qa6 ?_
  refine Jax (Ja3 rfl) rfl ?_
  refine Xaa ?_
  refine qar ?_
  refine Jax (Ja3 rfl) rfl ?_
  refine Xb1 ?_
  refine qa4 ?_
  refine Ja5 tb [0,1,2,3,4,5,6,7,8,9,10,11,12] _ Jbh (by kernel_rfl) (List.Sublist.refl _) ?_
  refine Xc5 ?_
  refine Xc5 ?_
  refine qb7 ?_
  refine qds ?_
  refine qbl ?_
  refine qdm ?_
  refine qcg ?_
  refine Jb8 (Jaa (Jan (Jan ?_)))
  refine J3c ?_
  refine qao ?_
  refine Jbx (Jnf rfl rfl) rfl rfl rfl ?_
  refine qb2 ?_
  refine Jep (k:=41) (show _=Value.bool _ from rfl) (fun hg2=>?_) (fun hg2=>?_)
  ·
   replace hg2:=qb hg2
   refine Xc5 ?_
   refine Xc5 ?_
   refine Jbx (Jew tb rfl rfl rfl) rfl rfl rfl ?_
   refine Jbx (Jna rfl rfl) rfl rfl rfl ?_
   refine Xbi ?_
   refine q_c (fun hc1=>?_) (fun hc1=>?_)
   ·
    obtain ⟨kk,hkk⟩:∃kk,kk=k + 2:=⟨_,rfl⟩
    have hb2:=Jai (l:=x.l) (k:=k + 1) 0 (by omega)
    have hbb2:=hx.byte _ _ hb2
    refine Jan ?_
    refine Ja5 tb [0,1,2,3,4,5,6,7,8,9,10,11,12,13,14] _ Jbh (by kernel_rfl) (List.Sublist.refl _) ?_
    refine qao ?_
    refine qdh ?_
    refine Xc5 ?_
    refine Xc5 ?_
    refine qdy ?_
    refine qbl ?_
    refine qdm ?_
    refine qc2 ?_
    refine qcg ?_
    refine Jb8 (Jaa (Jaj ?_))
    refine qa6 ?_
    refine Jax (Ja3 rfl) rfl ?_
    refine Xaa ?_
    refine qar ?_
    refine Jax (Ja3 rfl) rfl ?_
    refine Xb1 ?_
    refine qam ?_
    refine qaa ?_
    refine qaa ?_
    refine qda ?_
    refine Xau ?_
    have htm:=fun y (h:0≤y)=>And.intro (Int.tmod_nonneg n h) (Int.tmod_lt_of_pos y (show 0 < n by omega))
    refine Jbj (L':=[cblk c x kk]) (R':=R) (Jd4 rfl (Jal (show _=Value.int _ _ from rfl))) ?hp ?hL ?hR
    case hp=>exact ⟨_,kk,rfl,(htm _ (by omega)).1,fun _=>(htm _ (by omega)).2,fun _=>by omega,by omega,fun h=>by omega,rfl,rfl⟩
    case hL=>subst hkk;exact (by repeat (first | exact zs0 _ | exact zs1 _ | apply zs2 | apply zs3 | apply zs4 | apply zs5))
    case hR=>exact Jac _
   obtain ⟨kk,hkk⟩:∃kk,kk=k + 1:=⟨_,rfl⟩
   refine qbv ?_
   refine qaa ?_
   refine qaa ?_
   refine qda ?_
   refine Xau ?_
   have htm:=fun y (h:0≤y)=>And.intro (Int.tmod_nonneg n h) (Int.tmod_lt_of_pos y (show 0 < n by omega))
   refine Jbj (L':=[cblk c x kk]) (R':=R) (Jd4 rfl (Jal (show _=Value.int _ _ from rfl))) ?hp ?hL ?hR
   case hp=>exact ⟨_,kk,rfl,(htm _ (by omega)).1,fun _=>(htm _ (by omega)).2,fun _=>by omega,by omega,fun h=>by omega,rfl,rfl⟩
   case hL=>subst hkk;exact (by repeat (first | exact zs0 _ | exact zs1 _ | apply zs2 | apply zs3 | apply zs4 | apply zs5))
   case hR=>exact Jac _
  replace hg2:=qb hg2
  obtain ⟨kk,hkk⟩:∃kk,kk=k + 1:=⟨_,rfl⟩
  iterate 10 refine qap ?_
  refine Xbi ?_
  refine Jb0 rfl ?_
  refine qbv ?_
  refine qaa ?_
  refine qaa ?_
  refine qda ?_
  refine Xau ?_
  have htm:=fun y (h:0≤y)=>And.intro (Int.tmod_nonneg n h) (Int.tmod_lt_of_pos y (show 0 < n by omega))
  refine Jbj (L':=[cblk c x kk]) (R':=R) (Jd4 rfl (Jal (show _=Value.int _ _ from rfl))) ?hp ?hL ?hR
  case hp=>exact ⟨_,kk,rfl,(htm _ (by omega)).1,fun _=>(htm _ (by omega)).2,fun _=>by omega,by omega,fun h=>by omega,rfl,rfl⟩
  case hL=>subst hkk;exact (by repeat (first | exact zs0 _ | exact zs1 _ | apply zs2 | apply zs3 | apply zs4 | apply zs5))
  case hR=>exact Jac _
theorem Jvh (c:Nat) (x:Arr Int) (k:Nat) (n:Int) (R:List Sl) (hx:CodesR x R) (hk:k≤x.l.length) (hn:n≤1000000):
    Tri Try.prog 23 [.pointer (some ⟨c, 0, none⟩), .int .i64 n].toArray [cblk c x k] R
      (fun v L' R'=>∃(r:Int) (k':Nat),v=.int .i64 r∧0≤r∧(1≤n→r < n)∧(n < 1→r=0)∧k'≤x.l.length∧[cblk c x k']=L'∧R=R'):=
  (Jsv c x k n R hx hk hn).mono fun v L' R' ⟨r,k',h1,h2,h3,h4,h5,_,h6,h7⟩=>⟨r,k',h1,h2,h3,h4,h5,h6,h7⟩
theorem J28 (c:Nat) (x:Arr Int) (k:Nat) (n:Int) (R:List Sl) (hx:CodesR x R) (hk:k≤x.l.length) (hn:-1000000≤n∧n≤1000000):
    Tri Try.prog 22 [.pointer (some ⟨c, 0, none⟩), .int .i64 n].toArray [cblk c x k] R
      (fun v L' R'=>∃(b:Bool) (k':Nat),v=.bool b∧k'≤x.l.length∧[cblk c x k']=L'∧R=R'):=by
  refine Jae 11 Try.call22 Try.func22 rfl rfl rfl ?_
  refine Xbh ?_
  refine qam ?_
  refine qa6 ?_
  refine qaa ?_
  refine Jaq rfl (Jvh c x k n _ hx hk (by omega)) rfl ?_
  rintro v L' R' ⟨r,k',rfl,h1,h2,h3,hk',rfl,rfl⟩
  refine Xcb ?_
  refine qbn ?_
  refine Xa9 ?_
  refine q_b (L':=[cblk c x k']) (R':=R) ?_
  exact ⟨_,k',rfl,hk',rfl,rfl⟩
theorem Jwd (c:Nat) (x:Arr Int) (k:Nat) (lo hi:Int) (R:List Sl) (hx:CodesR x R) (hk:k≤x.l.length) (hl:-400000≤lo∧lo≤hi∧hi≤400000):
    Tri Try.prog 24 [.pointer (some ⟨c, 0, none⟩), .int .i64 lo, .int .i64 hi].toArray [cblk c x k] R
      (fun v L' R'=>∃(r:Int) (k':Nat),v=.int .i64 r∧lo≤r∧r≤hi∧k'≤x.l.length∧(x.l.length≤k→r=lo∧k'=k)∧[cblk c x k']=L'∧R=R'):=by
  refine Jae 15 Try.call24 Try.func24 rfl rfl rfl ?_
  refine Xaf ?_
  refine qam ?_
  refine qaa ?_
  refine qa6 ?_
  refine qaa ?_
  refine Xcb ?_
  refine qar ?_
  refine Jaq rfl (Jsv c x k (hi - lo + 1) _ hx hk (by omega)) rfl ?_
  rintro v L' R' ⟨r,k',rfl,h1,h2,h3,hk',he,rfl,rfl⟩
  have h4:=h2 (by omega)
  refine qar ?_
  refine Xau ?_
  refine q_i (L':=[cblk c x k']) (R':=R) ?_
  exact ⟨_,k',rfl,by omega,by omega,hk',fun h=>by have:=he h;omega,rfl,rfl⟩
theorem Jzr (c:Nat) (x:Arr Int) (k:Nat) (lo hi:Int) (R:List Sl) (hx:CodesR x R) (hk:k≤x.l.length) (hl:-400000≤lo∧lo≤hi∧hi≤400000):
    Tri Try.prog 24 [.pointer (some ⟨c, 0, none⟩), .int .i64 lo, .int .i64 hi].toArray [cblk c x k] R
      (fun v L' R'=>∃(r:Int) (k':Nat),v=.int .i64 r∧lo≤r∧r≤hi∧k'≤x.l.length∧[cblk c x k']=L'∧R=R'):=
  (Jwd c x k lo hi R hx hk hl).mono fun v L' R' ⟨r,k',h1,h2,h3,h5,_,h6,h7⟩=>⟨r,k',h1,h2,h3,h5,h6,h7⟩
abbrev Je5 (x:Arr Int) (k:Nat):List Value:=[x.val,.int .i64 (k:Int)]
theorem Jgz {c:Nat} {x:Arr Int} {k:Nat} {n:Int} {L:List Blk} {F:List Value→List Blk} {R:List Sl} (hu:USeg c (Je5 x k) 68 L F) (hx:CodesR x R) (hk:k≤x.l.length) (hn:n≤1000000):
    Tri Try.prog 23 [.pointer (some ⟨c, 0, none⟩), .int .i64 n].toArray L R
      (fun v L' R'=>∃(r:Int) (k':Nat),v=.int .i64 r∧0≤r∧(1≤n→r < n)∧(n < 1→r=0)∧k'≤x.l.length∧F (Je5 x k')=L'∧R=R'):=
  (Tri.at1 (Post' := fun v cs' R' => ∃ (r : Int) (k' : Nat), v = .int .i64 r ∧ 0 ≤ r ∧ (1 ≤ n → r < n) ∧ (n < 1 → r = 0) ∧ k' ≤ x.l.length ∧ cs' = Je5 x k' ∧ R = R') hu (Jvh c x k n R hx hk hn)
    (fun v L' R' ⟨r,k',h1,h2,h3,h4,h5,h6,h7⟩=>⟨_,h6,r,k',h1,h2,h3,h4,h5,rfl,h7⟩)).mono
    (fun v L' R' ⟨cs',h0,r,k',h1,h2,h3,h4,h5,h6,h7⟩=>⟨r,k',h1,h2,h3,h4,h5,by rw [← h6];exact h0,h7⟩)
theorem J25 {c:Nat} {x:Arr Int} {k:Nat} {n:Int} {L:List Blk} {F:List Value→List Blk} {R:List Sl} (hu:USeg c (Je5 x k) 68 L F) (hx:CodesR x R) (hk:k≤x.l.length) (hn:-1000000≤n∧n≤1000000):
    Tri Try.prog 22 [.pointer (some ⟨c, 0, none⟩), .int .i64 n].toArray L R
      (fun v L' R'=>∃(b:Bool) (k':Nat),v=.bool b∧k'≤x.l.length∧F (Je5 x k')=L'∧R=R'):=
  (Tri.at1 (Post' := fun v cs' R' => ∃ (b : Bool) (k' : Nat), v = .bool b ∧ k' ≤ x.l.length ∧ cs' = Je5 x k' ∧ R = R') hu (J28 c x k n R hx hk hn)
    (fun v L' R' ⟨b,k',h1,h5,h6,h7⟩=>⟨_,h6,b,k',h1,h5,rfl,h7⟩)).mono
    (fun v L' R' ⟨cs',h0,b,k',h1,h5,h6,h7⟩=>⟨b,k',h1,h5,by rw [← h6];exact h0,h7⟩)
theorem Jlt {c:Nat} {x:Arr Int} {k:Nat} {lo hi:Int} {L:List Blk} {F:List Value→List Blk} {R:List Sl} (hu:USeg c (Je5 x k) 68 L F) (hx:CodesR x R) (hk:k≤x.l.length) (hl:-400000≤lo∧lo≤hi∧hi≤400000):
    Tri Try.prog 24 [.pointer (some ⟨c, 0, none⟩), .int .i64 lo, .int .i64 hi].toArray L R
      (fun v L' R'=>∃(r:Int) (k':Nat),v=.int .i64 r∧lo≤r∧r≤hi∧k'≤x.l.length∧F (Je5 x k')=L'∧R=R'):=
  (Tri.at1 (Post' := fun v cs' R' => ∃ (r : Int) (k' : Nat), v = .int .i64 r ∧ lo ≤ r ∧ r ≤ hi ∧ k' ≤ x.l.length ∧ cs' = Je5 x k' ∧ R = R') hu (Jzr c x k lo hi R hx hk hl)
    (fun v L' R' ⟨r,k',h1,h2,h3,h5,h6,h7⟩=>⟨_,h6,r,k',h1,h2,h3,h5,rfl,h7⟩)).mono
    (fun v L' R' ⟨cs',h0,r,k',h1,h2,h3,h5,h6,h7⟩=>⟨r,k',h1,h2,h3,h5,by rw [← h6];exact h0,h7⟩)
end Go.Proofs.Ytihompplndcdeaa
end
