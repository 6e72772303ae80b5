import Derived.Test.YtihompplndcdeaaGreatRefSeq
import Derived.Test.YtihompplndcdeaaGreatCopyR
import Derived.Test.YtihompplndcdeaaGreatDraw13
import Derived.Test.YtihompplndcdeaaGreatChangeS
section
/-
  The reference's Sequence. By an AI agent; no person has read it.
-/
namespace Go.Proofs.YtihompplndcdeaaGreat
open Go.Aw Go
set_option maxRecDepth 20000
attribute [local irreducible] CJ LJ DJ Tri YV Gives Jd5 Jbd Jbz Jd4 RV Jbf OwL.L
theorem Jk4 (a:XAir) (t:XSetting) (fc:Arr XFace) (A:List Bool) (K:List XSpan→List Int) (h0:Ja4 a=0) (hft:Jdq a t=true) (hA:AiryIs a.mine A) (hK:∀fl,CircIs a.mine fl (K fl)) (hneed:Jfp fc.l) (hnc:fc.l.length≤1000):∀(n:Nat) (left:Arr Int) (s:XSetting) (L:List Blk) (R:List Sl),left.l.length=n→n≤1000→AirR a R→SetR s R→SetR t R→InR (Jqk fc) R→InR (isl left) R→Jdq a s=true→(∀k∈left.l,0≤k∧k < t.fans.l.length + t.doors.l.length)→
    Tri Tryz.prog 47 [a.val,s.val,t.val,left.val,fc.val].toArray L R (fun w L' R'=>∃p:OwL Int,w=.tuple #[p.val,.bool (Jfg (nxS a A K fc.l (Jaj t)) (Jaj s) left.l).isSome]∧p.ok 1 Jad∧p.l=(Jfg (nxS a A K fc.l (Jaj t)) (Jaj s) left.l).getD []∧p.L 3 Jad ++ L=L'∧R=R')
  | 0,left,s,L,R,hn,hb,ha,hs,ht,hfc,hle,hf,hr=>Jhf a t fc A K h0 hft hA hK hneed hnc left s L R (fun _ h=>by omega) ha hs ht hfc hle hf hr (by omega)
  | n + 1,left,s,L,R,hn,hb,ha,hs,ht,hfc,hle,hf,hr=>Jhf a t fc A K h0 hft hA hK hneed hnc left s L R (fun left' hl s L R ha hs ht hfc hle hf hr=>Jk4 a t fc A K h0 hft hA hK hneed hnc n left' s L R (by omega) (by omega) ha hs ht hfc hle hf hr) ha hs ht hfc hle hf hr (by omega)
theorem Jyt {a:XAir} {s t:XSetting} (h0:Ja4 a=0) (h:Jdq a s=true) (h':Jdq a t=true):Jmp a s t=Jn5 (Jaj s) (Jaj t):=by
  rw [Jmp,if_pos ⟨by rw [Jdn,h0,h];rfl,by rw [Jdn,h0,h'];rfl⟩]
theorem Jjf {a:XAir} {s:XSetting} (h0:Ja4 a=0):Jdn a s=Jdq a s:=by rw [Jdn,h0];rfl
theorem Jgm (a:XAir) (s t:XSetting) (fc:Arr XFace) (A:List Bool) (K:List XSpan→List Int) (L:List Blk) (R:List Sl) (ha:AirR a R) (hs:SetR s R) (ht:SetR t R) (hfc:InR (Jqk fc) R) (hneed:Jfp fc.l) (hnc:fc.l.length≤1000) (hA:Ja4 a=0→AiryIs a.mine A) (hK:∀fl,CircIs a.mine fl (K fl)):
    Tri Tryz.prog 19 [a.val,s.val,t.val,fc.val].toArray L R (fun w L' R'=>∃p:OwL Int,w=.tuple #[p.val,.int .i64 (Jyj a s t fc.l A K).1]∧p.ok 1 Jad∧p.l=(Jyj a s t fc.l A K).2∧p.L 3 Jad ++ L=L'∧R=R'):=by
  refine Jae 48 Tryz.call19 Tryz.func19 rfl rfl rfl ?_
  refine Xai ?_
  intro b4
  refine qax ?_
  intro b5
  refine qax ?_
  intro b6
  refine Xc2 ?_
  refine qa8 ?_
  refine q_l rfl (Jes a _ _ ha) ?_
  refine Xbt ?_
  refine q_c (fun hc0=>?_) (fun hc0=>?_)
  ·
   refine Xc1 ?_
   refine Xbs ?_
   refine Jbe (L':=L) (R':=R) (Jc8 rfl (Jah (show _=Value.slice _ _ _ from rfl)) (Jah (show _=Value.int _ _ from rfl))) ?hp ?hL ?hR
   case hp=>exact ⟨.nil,by rw [Jm4 hc0];rfl,OwL.nil_ok,by rw [Jm4 hc0],by rw [Jcl];rfl,rfl⟩
   case hL=>exact (by repeat (first | exact zs0 _ | exact zs1 _ | apply zs2 | apply zs3 | apply zs4 | apply zs5))
   case hR=>exact Jac _
  have h0:Ja4 a=0:=Decidable.not_not.1 hc0
  refine Xdp ?_
  refine q_l rfl (Jdg a s _ _ ha hs) ?_
  refine Xdx ?_
  apply Jbw (G:=[_,_,_,_]) (j:=4) (cj:=23) rfl rfl (by rfl) rfl (show _=Value.bool _ from rfl) rfl
  ·
   intro hg5
   replace hg5:=qb hg5
   refine Xap ?_
   refine q_l rfl (Jdg a t _ _ ha ht) ?_
   refine qb4 ?_
   exact qai
  intro junk5
  refine qaf ?_
  refine q_c (fun hc1=>?_) (fun hc1=>?_)
  ·
   rw [Jjf h0,Jjf h0] at hc1
   refine Xcq ?_
   refine Jbe (L':=L) (R':=R) (Jc8 rfl (Jah (show _=Value.slice _ _ _ from rfl)) (Jah (show _=Value.int _ _ from rfl))) ?hp ?hL ?hR
   case hp=>exact ⟨.nil,by rw [Jnl h0 hc1];rfl,OwL.nil_ok,by rw [Jnl h0 hc1],by rw [Jcl];rfl,rfl⟩
   case hL=>exact (by repeat (first | exact zs0 _ | exact zs1 _ | apply zs2 | apply zs3 | apply zs4 | apply zs5))
   case hR=>exact Jac _
  rw [Jjf h0,Jjf h0] at hc1
  have hln:=Jpa h0 hc1.1 hc1.2
  refine qbv ?_
  refine Xck ?_
  refine Jaq rfl (Jfw a s t _ _ ha hs ht) rfl ?_
  rintro v L' R' ⟨p,rfl,hpk,hpl,rfl,rfl⟩
  rw [Jyt h0 hc1.1 hc1.2] at hpl
  refine Xdo ?_
  refine Jby (A:=[]) (wd:=1) [] (fun _=>rfl) (by decide) hpk (fun s hs=>by cases hs) ?_
  refine Jg5 (by simp only [List.nil_append];rfl) ?_
  have hR1:∀r∈R,InR r (isl p.arr :: R):=fun r hr=>Jab (.tail _ hr)
  refine qay ?_
  refine Xat ?_
  refine Xb9 ?_
  refine q_c (fun hc2=>?_) (fun hc2=>?_)
  ·
   refine Xcq ?_
   refine Jbe (L':=L) (R':=R) (Jc8 rfl (Jah (show _=Value.slice _ _ _ from rfl)) (Jah (show _=Value.int _ _ from rfl))) ?hp ?hL ?hR
   case hp=>
    have hlg:3 < (Jn5 (Jaj s) (Jaj t)).length:=by rw [← hpl];omega
    exact ⟨.nil,by rw [Jlq h0 hc1 hlg];rfl,OwL.nil_ok,by rw [Jlq h0 hc1 hlg],by rw [Jcl];rfl,rfl⟩
   case hL=>exact (by repeat (first | exact zs0 _ | exact zs1 _ | apply zs2 | apply zs3 | apply zs4 | apply zs5))
   case hR=>exact hR1
  have hlg:¬ 3 < (Jn5 (Jaj s) (Jaj t)).length:=by rw [← hpl];omega
  have hgo:=Jvs (fc:=fc.l) (A:=A) (K:=K) h0 hc1 hlg
  have hpn:p.arr.l.length≤1000:=by show p.l.length≤1000;omega
  refine qbv ?_
  refine Xdv ?_
  refine qbm ?_
  refine Jaq rfl (Jk4 a t fc A K h0 hc1.2 (hA h0) hK hneed hnc _ p.arr s _ _ rfl hpn (Jbm ha hR1) (Jbc hs hR1) (Jbc ht hR1) (hfc.mono hR1) (Jab (.head _)) hc1.1 (fun k hk=>by have:=Jv4 (s:=Jaj s) (t:=Jaj t) (k:=k) (by rw [← hpl];exact hk);dsimp only [Jaj] at this;omega)) rfl ?_
  rintro v L' R' ⟨q,rfl,hqk,hql,rfl,rfl⟩
  rw [show p.arr.l=Jn5 (Jaj s) (Jaj t) from hpl] at hql ⊢
  refine Ja2 (Jar rfl) rfl ?_
  refine Xcr ?_
  refine Xb2 ?_
  refine Xc3 ?_
  refine q_c (fun hc3=>?_) (fun hc3=>?_)
  ·
   refine Xcq ?_
   refine Jbe (L':=L) (R':=R) (Jc8 rfl (Jah (show _=Value.slice _ _ _ from rfl)) (Jah (show _=Value.int _ _ from rfl))) ?hp ?hL ?hR
   case hp=>
    have hn:Jfg (nxS a A K fc.l (Jaj t)) (Jaj s) (Jn5 (Jaj s) (Jaj t))=none:=by cases hz:Jfg (nxS a A K fc.l (Jaj t)) (Jaj s) (Jn5 (Jaj s) (Jaj t)) with | none=>rfl | some r=>rw [hz] at hc3;cases hc3
    rw [hn] at hgo
    exact ⟨.nil,by rw [hgo];rfl,OwL.nil_ok,by rw [hgo],by rw [Jcl];rfl,rfl⟩
   case hL=>exact (by repeat (first | exact zs0 _ | exact zs1 _ | apply zs2 | apply zs3 | apply zs4 | apply zs5))
   case hR=>exact hR1
  refine Xdc ?_
  refine Xce ?_
  refine Jbe (L':=q.L 3 Jad ++ L) (R':=R) (Jc8 rfl (Jah (show _=Value.slice _ _ _ from rfl)) (Jah (show _=Value.int _ _ from rfl))) ?hp ?hL ?hR
  case hp=>
   obtain ⟨r,hr⟩:=Option.isSome_iff_exists.1 hc3
   rw [hr] at hgo hql
   exact ⟨q,by rw [hgo] <;> rfl,hqk,by rw [hgo];exact hql,rfl,rfl⟩
  case hL=>exact (by repeat (first | exact zs0 _ | exact zs1 _ | apply zs2 | apply zs3 | apply zs4 | apply zs5))
  case hR=>exact hR1
end Go.Proofs.YtihompplndcdeaaGreat
end
section
/-
  Statements about chapter 15: the steps between two settings, and their order. By an AI agent; no person has read it.
-/
namespace Go.Proofs.YtihompplndcdeaaGreat
open Go.Aw Go
set_option maxRecDepth 20000
attribute [local irreducible] CJ LJ DJ Tri YV Gives Jd5 Jbd Jbz Jd4 RV Jbf OwL.L
section
variable {A9 B9:Prop}
theorem J2i (a:A9) (h:A9→B9:=by exact Jbu (Jar (show _=Value.slice _ _ _ from rfl)) rfl rfl rfl):B9:=h a
theorem J5p (a:A9) (h:A9→B9:=by exact Jbb tb [0,1,3,4,2,5,6,7,8] ([Blk.mk b6 _ _]) Jbn (by kernel_rfl) (by repeat (first | exact zs0 _ | exact zs1 _ | apply zs2 | apply zs3 | apply zs4 | apply zs5))):B9:=h a
theorem J6m (a:A9) (h:A9→B9:=by exact Jcw rfl (Jxk (a:=a1) (.consB (.consB (.consB (.consB (.consL .nil))))) hx2 hk2 hA2.doors (by omega) (by omega) hres) rfl rfl):B9:=h a
theorem J5q (a:A9) (h:A9→B9:=by exact Jcw rfl (Tri.spl (.consB (.consB (.consB (.consB (.consL .rest))))) (Jk8 c (Jdr y) k3 a1 _ hx2 hk3 (by omega))) rfl rfl):B9:=h a
theorem J8r (a:A9) (h:A9→B9:=by exact Jaq rfl (Jgp a1 s1 ⟨tf.arr,td.arr⟩ f.arr A K _ _ hA3 hT3 hU hfR hfo hfl (fun _=>hAA) hK) rfl):B9:=h a
theorem J6y (a:A9) (h:A9→B9:=by exact Jaq rfl (Jgm a1 s1 ⟨tf.arr,td.arr⟩ f.arr A K _ _ hA3 hT3 hU hfR hfo hfl (fun _=>hAA) hK) rfl):B9:=h a
theorem J7b (a:A9) (h:A9→B9:=by exact Jbb tb [0,1,2,4,5,6,3,7,8,9,10,11,12,14,15,16,13,17,18,19,20,21,22,23,24,25,26,27,28,29,30,31,32,33,34,35,36,37,38] ([Blk.mk b9 _ _,Blk.mk b7 _ _,Blk.mk b6 _ _,Blk.mk b3 _ _]) Jbn (by kernel_rfl) (by repeat (first | exact zs0 _ | exact zs1 _ | apply zs2 | apply zs3 | apply zs4 | apply zs5))):B9:=h a
end
theorem Jm1 (y:Arr Int) (raw:XSetting) (R:List Sl) (hy:CodesR y R) (hraw:SetR raw R):
    Tri Tryz.prog 4 [y.val,raw.val].toArray [] R (fun v L' R'=>v=.bool true∧[]=L'∧R=R'):=by
  refine Jae 119 Tryz.call4 Tryz.func4 rfl rfl rfl ?_
  refine Xai ?_
  intro b3
  refine Xbr ?_
  refine qbm ?_
  refine Jaq rfl (Jy1 y _ _ hy) rfl ?_
  rintro v L' R' ⟨c,rfl,hx,rfl,rfl⟩
  refine qc1 ?_
  refine qam ?_
  refine qa6 ?_
  refine Jaq rfl (J7l (.consL (.consB .nil)) hx (Nat.zero_le _)) rfl ?_
  rintro v L' R' ⟨m,k1,S,rfl,hm,hMA,hif,hid,hk1,rfl,rfl⟩
  simp only [List.append_assoc,List.cons_append,List.nil_append]
  refine Ja2 (Jar rfl) rfl ?_
  iterate 3 refine qbs ?_
  refine qaq ?_
  intro b6
  refine qaq ?_
  intro b7
  refine qaq ?_
  intro b8
  iterate 3 refine qak ?_
  refine qco ?_
  refine J0n (A:=[_]) hm hMA (fun f hf=>(hif f hf).mono fun r hr=>Jab (by simp [hr])) (fun f hf=>(hid f hf).mono fun r hr=>Jab (by simp [hr])) fun a s x R1 hMA hA hT hX hR1=>?_
  refine qb1 ?_
  obtain ⟨_,hae,hF,hri,hfo⟩:=hMA.b
  have hx1:CodesR (Jdr y) R1:=hx.mono fun r hr=>hR1 r (by simp [hr])
  have hR0:∀r∈R,InR r R1:=fun r hr=>hR1 r (by simp [hr])
  have hnp:=hMA.nplaces
  have hnr:=hMA.nroads
  have hnf:=hMA.nfans
  have hnd:=hMA.ndoors
  refine qay ?_
  refine Xcx ?_
  refine qah ?_
  refine Jfl (k:=31) (show _=Value.bool _ from rfl) (fun hg5=>?_) (fun hg5=>?_)
  ·
   replace hg5:=qb hg5
   refine Jct (Jcq tb rfl rfl rfl) rfl rfl ?_
   refine Jct (Jcq tb rfl rfl rfl) rfl rfl ?_
   refine Jct (Jbo tb rfl rfl rfl (by repeat (first | exact zi0 | apply zi1 | apply zi2)) (by rfl)) rfl rfl ?_
   refine Jct (Je0 tb rfl rfl rfl) rfl rfl ?_
   refine Jct (Jlh rfl rfl) rfl rfl ?_
   refine Ja2 (by first | exact Jco rfl rfl | exact Jb9 rfl rfl | exact Je9 rfl) rfl ?_
   refine qaf ?_
   refine Jd8 [38,39,40,41,42] ((⟨fun _=>[],fun g=>⟨b8,x.cells,37⟩ :: ⟨b7,g.1.2.1.cells,25⟩ :: ⟨b6,g.1.1.cells,35⟩ :: ⟨b3,raw.cells,25⟩ :: cblk c (Jdr y) g.1.2.2.1 :: [],fun g=>g.1.2.2.2,fun _=>0⟩:Head {g:XAir×XSetting×Nat×List Sl // AirR g.1 g.2.2.2∧SetR g.2.1 g.2.2.2∧g.2.2.1≤(Jdr y).l.length∧(∀r∈R1,InR r g.2.2.2)∧g.1.mine=a.mine∧g.1.fans=a.fans∧g.1.doors.l.length≤2∧∀(i:Nat) (d:XDoor),g.1.doors.l[i]?=some d→d.rests.l.length≤100})) ?_ ?_
   ·
    skip
    refine q_c (fun hc0=>?_) (fun hc0=>?_)
    ·
     refine qae ?_
     refine qa6 ?_
     refine Jaq rfl (Tri.spl (.consB (.consB (.consB (.consB (.consL .nil))))) (Jpp c (Jdr y) k1 0 1 _ hx1 hk1)) rfl ?_
     rintro v L' R' ⟨_,rfl,D,k2,S',rfl,hDD,hDR,hk2,rfl,rfl⟩
     simp only [List.append_assoc,List.cons_append,List.nil_append]
     refine Xcy ?_
     refine Ja9 (Jaa (Jaf ?_))
     refine Jfo (Jav (qs:=[(0,(Value.int _ _).cells.toList),(1,(Value.int _ _).cells.toList)]) (out:=[_,_]) tb rfl rfl rfl rfl rfl rfl rfl) rfl ?_
     rintro v L' R' ⟨b41,rfl,rfl,hR41⟩
     replace hR41:=hR41.symm;subst hR41
     refine Jnq (wd:=1) (len:=2) (cap:=2) (rows:=[Jad 0,Jad 0]) (subs:=[]) rfl (by decide) (by decide) (fun r hr=>by simp only [List.mem_cons,List.not_mem_nil,or_false] at hr;rcases hr with rfl | rfl <;> rfl) (by decide) rfl (fun s hs=>by cases hs) ?_
     refine Xcy ?_
     refine qav ?_
     obtain ⟨d1,d2,hd1,hd2,hDl⟩:=hDD.ex
     have hsub:∀r∈R1,InR r (isl ⟨some ⟨b41,0,none⟩,2,[0,0]⟩ :: (S' ++ R1)):=fun r hr=>Jab (by simp [hr])
     exact Jeh ⟨(⟨a.mine,a.fans,D⟩,⟨s.fans,⟨some ⟨b41,0,none⟩,2,[0,0]⟩⟩,k2,isl ⟨some ⟨b41,0,none⟩,2,[0,0]⟩ :: (S' ++ R1)),⟨hA.places.mono hsub,hA.roads.mono hsub,hA.fans.mono hsub,hDR.mono fun r hr=>Jab (.tail _ hr)⟩,⟨hT.fans.mono hsub,Jab (.head _)⟩,hk2,hsub,rfl,rfl,by show D.l.length≤2;rw [hDl];exact Nat.le_refl 2,fun i d hd=>by
       have hm:=List.mem_of_getElem? hd
       rw [show (⟨a.mine,a.fans,D⟩:XAir).doors.l=D.l from rfl,hDl] at hm
       simp only [List.mem_cons,List.not_mem_nil,or_false] at hm
       rcases hm with rfl | rfl
       · have:=hd1.len;dsimp only;omega
       · have:=hd2.len;dsimp only;omega⟩ (by repeat (first | exact Off.refl | apply Off.upd rfl | apply Off.havoc rfl | apply Off.updL rfl | apply Off.left rfl)) (by repeat' (first | exact trivial | refine And.intro rfl ?_)) (List.Sublist.refl _) (Jac _)
    refine Ja3 ?_
    exact q_j ⟨(a,s,k1,R1),hA,hT,hk1,fun r hr=>Jab hr,rfl,rfl,hnd,hae.rests⟩
   rintro ⟨⟨a1,s1,k2,R2⟩,hA2,hT2,hk2,hR12,hm1,hf1,hnd1,hres⟩ junk
   try dsimp only
   dsimp only at hA2 hT2 hk2 hR12 hm1 hf1 hnd1 hres ⊢
   have hraw2:=Jbc (Jbc hraw hR0) hR12
   have hx2:=hx1.mono hR12
   obtain ⟨A,hAA⟩:=Jrd a1.mine
   obtain ⟨K,hK⟩:=Jgj a1.mine
   have hnr1:a1.mine.roads.l.length≤9:=by rw [hm1];exact hnr
   have hnf1:a1.fans.l.length≤2:=by rw [hf1];exact hnf
   refine Jam ?_
   refine J5p ?_
   refine qb8 ?_
   refine qbc ?_
   refine qb8 ?_
   refine qbc ?_
   refine J6m ?_
   rintro v L' R' ⟨tf,td,k3,rfl,⟨ht1,ht2⟩,hAS,hk3,rfl,rfl⟩
   simp only [List.append_assoc,List.cons_append,List.nil_append]
   refine qas ?_
   refine J5q ?_
   rintro v L' R' ⟨_,rfl,f,k4,rfl,hfk,hfd,hk4,rfl,rfl⟩
   simp only [List.append_assoc,List.cons_append,List.nil_append]
   refine qas ?_
   refine qbr ?_
   intro b9
   refine qbg ?_
   refine Jbu (Jcg (show _=Value.slice _ _ _ from rfl)) rfl rfl rfl ?_
   refine qb9 ?_
   refine Jby (A:=[_,_,_,_,_]) (wd:=1) [] (fun _=>rfl) (by decide) ht1 (fun s hs=>by cases hs) ?_
   refine qb1 ?_
   refine Jby (A:=[_,_,_,_,_]) (wd:=1) [] (fun _=>rfl) (by decide) ht2 (fun s hs=>by cases hs) ?_
   refine qb1 ?_
   refine Jby (A:=[_,_,_,_,_]) (wd:=2) [] (fun _=>rfl) (by decide) hfk (fun s hs=>by cases hs) ?_
   refine qb1 ?_
   obtain ⟨R3,hR3e⟩:∃R3,R3=Jqk f.arr :: isl td.arr :: isl tf.arr :: R2:=⟨_,rfl⟩
   have hR3:∀r∈R2,InR r R3:=fun r hr=>Jab (by simp [hR3e,hr])
   have hU:SetR ⟨tf.arr,td.arr⟩ R3:=⟨Jab (by simp [hR3e]),Jab (by simp [hR3e])⟩
   have hfR:InR (Jqk f.arr) R3:=Jab (by simp [hR3e])
   have hfo:Jfp f.arr.l:=fun y hy=>by have:=(hfd.at_ y hy).2;omega
   have hfl:f.arr.l.length≤1000:=by have:=hfd.len;show f.l.length≤1000;omega
   have hA3:=Jbm hA2 hR3
   have hT3:=Jbc hT2 hR3
   have hraw3:=Jbc hraw2 hR3
   have hRR3:∀r∈R,InR r R3:=fun r hr=>((hR0 r hr).mono hR12).mono hR3
   refine J2x (show _=R3 by rw [hR3e]) ?_
   refine qay ?_
   refine Xdv ?_
   refine J8r ?_
   rintro v L' R' ⟨p1,rfl,ok1,e1,rfl,rfl⟩
   refine Ja2 (Jar rfl) rfl ?_
   refine Xcr ?_
   refine Xal ?_
   refine Xdv ?_
   refine J6y ?_
   rintro v L' R' ⟨p2,rfl,ok2,e2,rfl,rfl⟩
   refine Ja2 (Jar rfl) rfl ?_
   refine Xcr ?_
   refine Xal ?_
   refine Xdv ?_
   refine Jaq rfl (Jgp a1 s1 raw f.arr A K _ _ hA3 hT3 hraw3 hfR hfo hfl (fun _=>hAA) hK) rfl ?_
   rintro v L' R' ⟨p3,rfl,ok3,e3,rfl,rfl⟩
   refine Ja2 (Jar rfl) rfl ?_
   refine Xcr ?_
   refine Xal ?_
   refine Xdv ?_
   refine Jaq rfl (Jgm a1 s1 raw f.arr A K _ _ hA3 hT3 hraw3 hfR hfo hfl (fun _=>hAA) hK) rfl ?_
   rintro v L' R' ⟨p4,rfl,ok4,e4,rfl,rfl⟩
   refine Ja2 (Jar rfl) rfl ?_
   refine Xau ?_
   refine Xar ?_
   refine qa4 ?_
   refine J7b ?_
   refine Xef ?_
   refine Xef ?_
   refine Jcw rfl (Jk6 a1 s1 ⟨tf.arr,td.arr⟩ _ _ hA3 hT3 hU) rfl rfl ?_
   rintro v L' R' ⟨q1,rfl,gk1,g1,rfl,rfl⟩
   refine qas ?_
   refine Jcw rfl (Jfw a1 s1 ⟨tf.arr,td.arr⟩ _ _ hA3 hT3 hU) rfl rfl ?_
   rintro v L' R' ⟨q2,rfl,gk2,g2,rfl,rfl⟩
   refine qas ?_
   refine q_d rfl (Jd6 (by repeat (first | exact Jaw | apply Jau | apply Jba)) (by repeat (first | exact Jaw | apply Jau | apply Jba)) gk1 gk2 (g1.trans g2.symm)) ?_
   refine qb2 ?_
   refine Jcz (k:=90) (show _=Value.bool _ from rfl) (fun hg9=>?_) (fun hg9=>?_)
   ·
    replace hg9:=qb hg9
    refine Xef ?_
    refine Xef ?_
    refine Jcw rfl (Jk6 a1 raw ⟨tf.arr,td.arr⟩ _ _ hA3 hraw3 hU) rfl rfl ?_
    rintro v L' R' ⟨q3,rfl,gk3,g3,rfl,rfl⟩
    refine qas ?_
    refine Jcw rfl (Jfw a1 raw ⟨tf.arr,td.arr⟩ _ _ hA3 hraw3 hU) rfl rfl ?_
    rintro v L' R' ⟨q4,rfl,gk4,g4,rfl,rfl⟩
    refine qas ?_
    refine q_d rfl (Jd6 (by repeat (first | exact Jaw | apply Jau | apply Jba)) (by repeat (first | exact Jaw | apply Jau | apply Jba)) gk3 gk4 (g3.trans g4.symm)) ?_
    refine Xcs ?_
    refine Jcz (k:=101) (show _=Value.bool _ from rfl) (fun hg20=>?_) (fun hg20=>?_)
    ·
     replace hg20:=qb hg20
     refine Xeb ?_
     refine Jbu (Jjw rfl rfl) rfl rfl rfl ?_
     refine Xcs ?_
     refine Jcz (k:=106) (show _=Value.bool _ from rfl) (fun hg25=>?_) (fun hg25=>?_)
     ·
      replace hg25:=qb hg25
      refine J2i ?_
      refine J2i ?_
      refine q_d rfl (Jd6 (by repeat (first | exact Jaw | apply Jau | apply Jba)) (by repeat (first | exact Jaw | apply Jau | apply Jba)) ok1 ok2 (e1.trans e2.symm)) ?_
      refine Xcs ?_
      refine Jcz (k:=111) (show _=Value.bool _ from rfl) (fun hg30=>?_) (fun hg30=>?_)
      ·
       replace hg30:=qb hg30
       refine Xeb ?_
       refine Jbu (Jjw rfl rfl) rfl rfl rfl ?_
       refine Xcs ?_
       refine Jcz (k:=116) (show _=Value.bool _ from rfl) (fun hg35=>?_) (fun hg35=>?_)
       ·
        replace hg35:=qb hg35
        refine q_d rfl (Jku _ _) ?_
        refine qbp ?_
        refine Jbu (Jcg (show _=Value.bool _ from rfl)) rfl rfl rfl ?_
        refine Jbt (Jaa (Jc5 ?_))
        refine Jbe (L':=[]) (R':=R) (Jdi rfl (Jah (show _=Value.bool _ from rfl))) ?hp ?hL ?hR
        case hp=>exact ⟨rfl,rfl,rfl⟩
        case hL=>exact List.nil_sublist _
        case hR=>exact hRR3
       replace hg35:=qb hg35
       simp at hg35
      replace hg30:=qb hg30
      simp at hg30
     replace hg25:=qb hg25
     simp at hg25
    replace hg20:=qb hg20
    simp at hg20
   replace hg9:=qb hg9
   simp at hg9
  replace hg5:=qb hg5
  iterate 5 refine Jfv rfl rfl ?_
  refine Ja2 (by first | exact Jco rfl rfl | exact Jb9 rfl rfl | exact Je9 rfl) rfl ?_
  refine qaf ?_
  refine Jd8 [38,39,40,41,42] ((⟨fun _=>[],fun g=>⟨b8,x.cells,37⟩ :: ⟨b7,g.1.2.1.cells,25⟩ :: ⟨b6,g.1.1.cells,35⟩ :: ⟨b3,raw.cells,25⟩ :: cblk c (Jdr y) g.1.2.2.1 :: [],fun g=>g.1.2.2.2,fun _=>0⟩:Head {g:XAir×XSetting×Nat×List Sl // AirR g.1 g.2.2.2∧SetR g.2.1 g.2.2.2∧g.2.2.1≤(Jdr y).l.length∧(∀r∈R1,InR r g.2.2.2)∧g.1.mine=a.mine∧g.1.fans=a.fans∧g.1.doors.l.length≤2∧∀(i:Nat) (d:XDoor),g.1.doors.l[i]?=some d→d.rests.l.length≤100})) ?_ ?_
  ·
   skip
   refine Jcr rfl ?_
   refine Ja3 ?_
   exact q_j ⟨(a,s,k1,R1),hA,hT,hk1,fun r hr=>Jab hr,rfl,rfl,hnd,hae.rests⟩
  rintro ⟨⟨a1,s1,k2,R2⟩,hA2,hT2,hk2,hR12,hm1,hf1,hnd1,hres⟩ junk
  try dsimp only
  dsimp only at hA2 hT2 hk2 hR12 hm1 hf1 hnd1 hres ⊢
  have hraw2:=Jbc (Jbc hraw hR0) hR12
  have hx2:=hx1.mono hR12
  obtain ⟨A,hAA⟩:=Jrd a1.mine
  obtain ⟨K,hK⟩:=Jgj a1.mine
  have hnr1:a1.mine.roads.l.length≤9:=by rw [hm1];exact hnr
  have hnf1:a1.fans.l.length≤2:=by rw [hf1];exact hnf
  refine Jam ?_
  refine J5p ?_
  refine qb8 ?_
  refine qbc ?_
  refine qb8 ?_
  refine qbc ?_
  refine J6m ?_
  rintro v L' R' ⟨tf,td,k3,rfl,⟨ht1,ht2⟩,hAS,hk3,rfl,rfl⟩
  simp only [List.append_assoc,List.cons_append,List.nil_append]
  refine qas ?_
  refine J5q ?_
  rintro v L' R' ⟨_,rfl,f,k4,rfl,hfk,hfd,hk4,rfl,rfl⟩
  simp only [List.append_assoc,List.cons_append,List.nil_append]
  refine qas ?_
  refine qbr ?_
  intro b9
  refine qbg ?_
  refine Jbu (Jcg (show _=Value.slice _ _ _ from rfl)) rfl rfl rfl ?_
  refine qb9 ?_
  refine Jby (A:=[_,_,_,_,_]) (wd:=1) [] (fun _=>rfl) (by decide) ht1 (fun s hs=>by cases hs) ?_
  refine qb1 ?_
  refine Jby (A:=[_,_,_,_,_]) (wd:=1) [] (fun _=>rfl) (by decide) ht2 (fun s hs=>by cases hs) ?_
  refine qb1 ?_
  refine Jby (A:=[_,_,_,_,_]) (wd:=2) [] (fun _=>rfl) (by decide) hfk (fun s hs=>by cases hs) ?_
  refine qb1 ?_
  obtain ⟨R3,hR3e⟩:∃R3,R3=Jqk f.arr :: isl td.arr :: isl tf.arr :: R2:=⟨_,rfl⟩
  have hR3:∀r∈R2,InR r R3:=fun r hr=>Jab (by simp [hR3e,hr])
  have hU:SetR ⟨tf.arr,td.arr⟩ R3:=⟨Jab (by simp [hR3e]),Jab (by simp [hR3e])⟩
  have hfR:InR (Jqk f.arr) R3:=Jab (by simp [hR3e])
  have hfo:Jfp f.arr.l:=fun y hy=>by have:=(hfd.at_ y hy).2;omega
  have hfl:f.arr.l.length≤1000:=by have:=hfd.len;show f.l.length≤1000;omega
  have hA3:=Jbm hA2 hR3
  have hT3:=Jbc hT2 hR3
  have hraw3:=Jbc hraw2 hR3
  have hRR3:∀r∈R,InR r R3:=fun r hr=>((hR0 r hr).mono hR12).mono hR3
  refine J2x (show _=R3 by rw [hR3e]) ?_
  refine qay ?_
  refine Xdv ?_
  refine J8r ?_
  rintro v L' R' ⟨p1,rfl,ok1,e1,rfl,rfl⟩
  refine Ja2 (Jar rfl) rfl ?_
  refine Xcr ?_
  refine Xal ?_
  refine Xdv ?_
  refine J6y ?_
  rintro v L' R' ⟨p2,rfl,ok2,e2,rfl,rfl⟩
  refine Ja2 (Jar rfl) rfl ?_
  refine Xcr ?_
  refine Xal ?_
  refine Xdv ?_
  refine Jaq rfl (Jgp a1 s1 raw f.arr A K _ _ hA3 hT3 hraw3 hfR hfo hfl (fun _=>hAA) hK) rfl ?_
  rintro v L' R' ⟨p3,rfl,ok3,e3,rfl,rfl⟩
  refine Ja2 (Jar rfl) rfl ?_
  refine Xcr ?_
  refine Xal ?_
  refine Xdv ?_
  refine Jaq rfl (Jgm a1 s1 raw f.arr A K _ _ hA3 hT3 hraw3 hfR hfo hfl (fun _=>hAA) hK) rfl ?_
  rintro v L' R' ⟨p4,rfl,ok4,e4,rfl,rfl⟩
  refine Ja2 (Jar rfl) rfl ?_
  refine Xau ?_
  refine Xar ?_
  refine qa4 ?_
  refine J7b ?_
  refine Xef ?_
  refine Xef ?_
  refine Jcw rfl (Jk6 a1 s1 ⟨tf.arr,td.arr⟩ _ _ hA3 hT3 hU) rfl rfl ?_
  rintro v L' R' ⟨q1,rfl,gk1,g1,rfl,rfl⟩
  refine qas ?_
  refine Jcw rfl (Jfw a1 s1 ⟨tf.arr,td.arr⟩ _ _ hA3 hT3 hU) rfl rfl ?_
  rintro v L' R' ⟨q2,rfl,gk2,g2,rfl,rfl⟩
  refine qas ?_
  refine q_d rfl (Jd6 (by repeat (first | exact Jaw | apply Jau | apply Jba)) (by repeat (first | exact Jaw | apply Jau | apply Jba)) gk1 gk2 (g1.trans g2.symm)) ?_
  refine qb2 ?_
  refine Jcz (k:=90) (show _=Value.bool _ from rfl) (fun hg9=>?_) (fun hg9=>?_)
  ·
   replace hg9:=qb hg9
   refine Xef ?_
   refine Xef ?_
   refine Jcw rfl (Jk6 a1 raw ⟨tf.arr,td.arr⟩ _ _ hA3 hraw3 hU) rfl rfl ?_
   rintro v L' R' ⟨q3,rfl,gk3,g3,rfl,rfl⟩
   refine qas ?_
   refine Jcw rfl (Jfw a1 raw ⟨tf.arr,td.arr⟩ _ _ hA3 hraw3 hU) rfl rfl ?_
   rintro v L' R' ⟨q4,rfl,gk4,g4,rfl,rfl⟩
   refine qas ?_
   refine q_d rfl (Jd6 (by repeat (first | exact Jaw | apply Jau | apply Jba)) (by repeat (first | exact Jaw | apply Jau | apply Jba)) gk3 gk4 (g3.trans g4.symm)) ?_
   refine Xcs ?_
   refine Jcz (k:=101) (show _=Value.bool _ from rfl) (fun hg20=>?_) (fun hg20=>?_)
   ·
    replace hg20:=qb hg20
    refine Xeb ?_
    refine Jbu (Jjw rfl rfl) rfl rfl rfl ?_
    refine Xcs ?_
    refine Jcz (k:=106) (show _=Value.bool _ from rfl) (fun hg25=>?_) (fun hg25=>?_)
    ·
     replace hg25:=qb hg25
     refine J2i ?_
     refine J2i ?_
     refine q_d rfl (Jd6 (by repeat (first | exact Jaw | apply Jau | apply Jba)) (by repeat (first | exact Jaw | apply Jau | apply Jba)) ok1 ok2 (e1.trans e2.symm)) ?_
     refine Xcs ?_
     refine Jcz (k:=111) (show _=Value.bool _ from rfl) (fun hg30=>?_) (fun hg30=>?_)
     ·
      replace hg30:=qb hg30
      refine Xeb ?_
      refine Jbu (Jjw rfl rfl) rfl rfl rfl ?_
      refine Xcs ?_
      refine Jcz (k:=116) (show _=Value.bool _ from rfl) (fun hg35=>?_) (fun hg35=>?_)
      ·
       replace hg35:=qb hg35
       refine q_d rfl (Jku _ _) ?_
       refine qbp ?_
       refine Jbu (Jcg (show _=Value.bool _ from rfl)) rfl rfl rfl ?_
       refine Jbt (Jaa (Jc5 ?_))
       refine Jbe (L':=[]) (R':=R) (Jdi rfl (Jah (show _=Value.bool _ from rfl))) ?hp ?hL ?hR
       case hp=>exact ⟨rfl,rfl,rfl⟩
       case hL=>exact List.nil_sublist _
       case hR=>exact hRR3
      replace hg35:=qb hg35
      simp at hg35
     replace hg30:=qb hg30
     simp at hg30
    replace hg25:=qb hg25
    simp at hg25
   replace hg20:=qb hg20
   simp at hg20
  replace hg9:=qb hg9
  simp at hg9
end Go.Proofs.YtihompplndcdeaaGreat
end
