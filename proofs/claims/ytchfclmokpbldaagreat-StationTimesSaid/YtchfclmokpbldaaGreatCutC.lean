/-
  The states of zones: cutoff.Cuts and the reference's. By an AI agent; no person has read it.
-/
import Derived.Test.YtchfclmokpbldaaGreatVals
import Derived.Test.YtchfclmokpbldaaGreatRestP
set_option linter.unusedVariables false
set_option linter.unusedSimpArgs false
namespace Go.Proofs.YtchfclmokpbldaaGreat
open Go.Aw Go
set_option maxRecDepth 20000
attribute [local irreducible] CJ LJ DJ Tri YV Gives Jcj Ja1 Jbg Jci RV Ja2 OwL.L
section
variable {A9 B9:Prop}
theorem J77 (h:B9:=by exact ⟨.nil,.nil,by rw [he];rfl,⟨OwL.nil_ok,OwL.nil_ok⟩,by rw [cutsC,if_pos za],by rw [cutsN,if_pos za],by rw [Jbi,Jbi];rfl,rfl⟩):B9:=h
end
theorem J0x {s:XSite} {v:List Int} {c:List XCut} {k:Nat}:Jig s v c (k + 1)=if Jh9 (s.zones.l.getD k default).rule.l v≠-1∧(c.getD k default).off=false then Jig s v c k ++ [(k:Int)] else Jig s v c k:=rfl
theorem Jul {s : XSite} {v : List Int} {c : List XCut} : ∀ n, (Jig s v c n).length ≤ n
  | 0=>by simp [Jig]
  | n + 1=>by
    have:=Jul (s:=s) (v:=v) (c:=c) n
    rw [Jig]
    split
    · rw [List.length_append,List.length_singleton];omega
    · omega
theorem J4d (s:XSite) (u:Arr Int) (c:Arr XCut) (t:Int) (L:List Blk) (R:List Sl) (hs:SiteR s R) (hv:InR (isl u) R) (hc:InR (Jp3 c) R):
    Tri Tryz.prog 155 [s.val, u.val, c.val, .int .i64 t].toArray L R
      (fun z L' R'=>∃(p:OwL XCut) (q:OwL Int),z=.tuple #[p.val,q.val,.int .i64 (cutsErr s u.l c.l t)]∧(p.ok 3 XCut.cells∧q.ok 1 Jap)∧p.l=cutsC s u.l c.l t∧q.l=cutsN s u.l c.l t∧q.L 3 Jap ++ (p.L 71 XCut.cells ++ L)=L'∧R=R'):=by
  have hzR:=hs.zones
  refine Jad 93 Tryz.call155 Tryz.func155 rfl rfl rfl ?_
  refine Xaf ?_
  intro b4
  refine Xbr ?_
  refine Xas ?_
  refine Jax (Jal (row:=[_,_,_,_,_,_,_,_]) tb rfl rfl rfl zf zb zb) rfl ?_
  refine q_l rfl (Jgp s _ _ hs) ?_
  refine Xa9 ?_
  refine q_c (fun hc0=>?_) (fun hc0=>?_)
  ·
   refine Xbc ?_
   refine Xbr ?_
   refine Xai ?_
   refine q_r (L':=L) (R':=R) (Jnq rfl (Jaf (show _=Value.slice _ _ _ from rfl)) (Jaf (show _=Value.slice _ _ _ from rfl)) (Jaf (show _=Value.int _ _ from rfl))) ?_
   have he:cutsErr s u.l c.l t=Jb1 s:=by rw [cutsErr,if_pos hc0]
   exact J77
  have hsk:=Jez (s:=s) za
  have hsl:=hsk.len
  refine qbo ?_
  refine Xao ?_
  refine Xab ?_
  refine Xbu ?_
  apply Ja7 (G:=[_,_,_,_,_,_]) (j:=6) (cj:=29) rfl rfl zb rfl (show _=Value.bool _ from rfl) rfl
  ·
   intro hg7
   replace hg7:=qb hg7
   refine Xao ?_
   refine Xab ?_
   refine qbq ?_
   exact qai
  intro junk7
  refine qaf ?_
  refine q_c (fun hc1=>?_) (fun hc1=>?_)
  ·
   refine qae ?_
   refine Xbr ?_
   refine Xai ?_
   refine q_r (L':=L) (R':=R) (Jnq rfl (Jaf (show _=Value.slice _ _ _ from rfl)) (Jaf (show _=Value.slice _ _ _ from rfl)) (Jaf (show _=Value.int _ _ from rfl))) ?_
   have he:cutsErr s u.l c.l t=11:=by rw [cutsErr,if_neg za,if_pos za]
   exact J77
  refine qbo ?_
  refine Xb0 ?_
  apply Ja7 (G:=[_,_]) (j:=2) (cj:=39) rfl rfl zb rfl (show _=Value.bool _ from rfl) rfl
  ·
   intro hg3
   replace hg3:=qb hg3
   refine Xb5 ?_
   exact qai
  intro junk3
  refine qaf ?_
  refine q_c (fun hc2=>?_) (fun hc2=>?_)
  ·
   refine qae ?_
   refine Xbr ?_
   refine Xai ?_
   refine q_r (L':=L) (R':=R) (Jnq rfl (Jaf (show _=Value.slice _ _ _ from rfl)) (Jaf (show _=Value.slice _ _ _ from rfl)) (Jaf (show _=Value.int _ _ from rfl))) ?_
   have he:cutsErr s u.l c.l t=8:=by rw [cutsErr,if_neg za,if_neg za,if_pos za]
   exact J77
  have he:cutsErr s u.l c.l t=0:=by rw [cutsErr,if_neg za,if_neg za,if_neg za]
  refine qbv ?_
  refine qbm ?_
  refine Jgl (Jbm (f:=XCut.cells) (xs:=c) tb rfl rfl rfl ze rfl rfl (hc) (fun _=>rfl) za) rfl ?_
  rintro v L' R' ⟨o44,rfl,hok44,rfl,rfl⟩
  refine Xc4 ?_
  obtain ⟨OO,hOO⟩:∃OO,OO=o44:=⟨_,rfl⟩
  rw [← hOO] at hok44 ⊢
  refine qay ?_
  refine Xcb ?_
  refine Xaw ?_
  refine Jan [(1,Value.slice _ _ _),(3,Value.int _ _),(12,Value.slice _ _ _),(13,Value.slice _ _ _),(46,Value.slice _ _ _),(47,Value.int _ _),(48,Value.int _ _)] zh fun tq0=>?_
  refine Jdg [13,14,15,16,17,48,49,50,51,52,53,54,55,56,57,58,59,60,61,62,63,64,65,66,67,68,69,70,71,72,73,74,75,76,77,78,79,80,81,82,83,84,85,86,87,88,89,90] ((⟨fun g=>[(48,.int .i64 ((g.1.1:Nat):Int)),(13,g.1.2.2.val)],fun g=>g.1.2.2.L 3 Jap ++ ((⟨OO,g.1.2.1⟩:OwL XCut).L 71 XCut.cells ++ (⟨b4,s.cells,38⟩ :: L)),fun _=>R,fun g=>c.l.length - g.1.1⟩:Head {g:Nat×List XCut×OwL Int // g.1≤c.l.length∧WrO c.l (cutAt s u.l c.l t) g.1 g.2.1∧g.2.2.ok 1 Jap∧g.2.2.l=Jig s u.l c.l g.1})) (⟨(0,c.l,OwL.nil),by dsimp only;omega,.zero,OwL.nil_ok,rfl⟩) zh zxa (Jac _) ?_
  rintro ⟨⟨k,cs,q⟩,hk,hW,hqk,hql⟩ junk
  try dsimp only
  dsimp only at hk hW hqk hql
  have hwl:=hW.len
  have hck:(⟨OO,cs⟩:OwL XCut).ok 3 XCut.cells:=OwL.len_ok (fun _=>rfl) hok44 hwl
  have hqn:q.l.length≤k:=by rw [hql];exact Jul k
  refine Xak ?_
  refine q_c (fun hc3=>?_) (fun hc3=>?_)
  ·
   have hzg:=Jau (l:=s.zones.l) (k:=k) default za
   have hcg0:=Jau (l:=c.l) (k:=k) default za
   have hcg:=hW.old k (Nat.le_refl _)
   rw [hcg0] at hcg
   have hWn:=fun (x:XCut)=>hW.next (x:=x) za
   have hWs:=hW.stay (i:=k)
   have hns:=J0x (s:=s) (v:=u.l) (c:=c.l) (k:=k)
   obtain ⟨z,hz⟩:∃z,z=s.zones.l.getD k default:=⟨_,rfl⟩
   obtain ⟨ck,hcke⟩:∃ck,ck=c.l.getD k default:=⟨_,rfl⟩
   obtain ⟨V,hV⟩:∃V,V=Jh9 z.rule.l u.l:=⟨_,rfl⟩
   have hat:cutAt s u.l c.l t k=J7e V ck t:=by rw [cutAt,hV,hz,hcke]
   rw [← hz] at hzg
   rw [← hcke] at hcg hcg0
   rw [← hz,← hcke,← hV] at hns
   rw [hat] at hWn
   rw [hat,hcg0] at hWs
   refine Xa6 ?_
   refine Jax zC rfl ?_
   refine Xc5 ?_
   intro b15
   refine qad ?_
   refine Xa2 ?_
   refine Xau ?_
   refine Jax (Jat tb ((⟨OO,cs⟩:OwL XCut)) _ rfl rfl ((show _=Value.slice _ _ _ from rfl).trans (by simp only [OwL.val,hwl])) rfl zg (i:=k) zj zu) rfl ?_
   refine qc1 ?_
   refine Xck ?_
   refine qbm ?_
   refine q_l rfl (Jq9 z.rule u _ _ (InR.rule hzR hzg) hv) ?_
   rw [← hV]
   refine Xc0 ?_
   refine Xbp ?_
   refine q_c (fun hc4=>?_) (fun hc4=>?_)
   ·
    refine qbi ?_
    refine qa6 ?_
    refine Jax (Jay rfl) rfl ?_
    refine qb0 ?_
    refine Jax (Jbj tb ((⟨OO,cs⟩:OwL XCut)) rfl rfl rfl zk zg (fun _=>rfl) zg zb) rfl ?_
    refine Xbp ?_
    refine q_c (fun hc5=>?_) (fun hc5=>?_)
    ·
     refine qay ?_
     refine Xdu ?_
     refine Jax (Jay rfl) rfl ?_
     refine qb0 ?_
     refine Jd9 (Jar tb ((⟨OO,cs⟩:OwL XCut)) (⟨ck.off,t,ck.reason⟩) rfl rfl rfl rfl zk zg (fun _=>rfl) zg ze zb zb) ?_
     rintro v L' R' ⟨rfl,rfl⟩
     refine Ja6 (Jab (Jcc (Jbt (Jbb (Jab (Jah ?_))))))
     refine Xae ?_
     exact q_k ⟨(k + 1,cs.set k ⟨ck.off,t,ck.reason⟩,q),by dsimp only;omega,hWn _ (by rw [J7e,if_pos hc4,if_pos hc5]),hqk,by dsimp only;rw [hns,if_neg za];exact hql⟩
    refine Ja4 (Jab (Jcc (Jbt (Jbb (Jab (Jah ?_))))))
    refine Xae ?_
    exact q_k ⟨(k + 1,cs,q),by dsimp only;omega,hWs (by rw [J7e,if_pos hc4,if_neg hc5]),hqk,by dsimp only;rw [hns,if_neg za];exact hql⟩
   refine qbv ?_
   refine qa6 ?_
   refine Jax (Jay rfl) rfl ?_
   refine qb0 ?_
   refine Jd9 (Jar tb ((⟨OO,cs⟩:OwL XCut)) (⟨ck.off,-1,ck.reason⟩) rfl rfl rfl rfl zk zg (fun _=>rfl) zg ze zb zb) ?_
   rintro v L' R' ⟨rfl,rfl⟩
   refine qa4 ?_
   have hck1:=OwL.set_ok (f:=XCut.cells) (wd:=3) (p:=(⟨OO,cs⟩:OwL XCut)) (i:=k) (x:=⟨ck.off,-1,ck.reason⟩) (fun _=>rfl) hck
   have hcg1:(cs.set k ⟨ck.off,-1,ck.reason⟩)[k]?=some ⟨ck.off,-1,ck.reason⟩:=List.getElem?_set_self za
   refine qay ?_
   refine qa6 ?_
   refine Jax (Jay rfl) rfl ?_
   refine qb0 ?_
   refine Jax (Jbj tb ((⟨OO,cs.set k ⟨ck.off,-1,ck.reason⟩⟩:OwL XCut)) rfl rfl rfl zk zg (fun _=>rfl) zg zb) rfl ?_
   refine Xbd ?_
   refine q_c (fun hc6=>?_) (fun hc6=>?_)
   ·
    have hck2:=OwL.set_ok (f:=XCut.cells) (wd:=3) (p:=(⟨OO,cs.set k ⟨ck.off,-1,ck.reason⟩⟩:OwL XCut)) (i:=k) (x:=⟨true,-1,ck.reason⟩) (fun _=>rfl) hck1
    have hcg2:((cs.set k ⟨ck.off,-1,ck.reason⟩).set k ⟨true,-1,ck.reason⟩)[k]?=some ⟨true,-1,ck.reason⟩:=List.getElem?_set_self (by rw [List.length_set];omega)
    refine qae ?_
    refine qa6 ?_
    refine Xdu ?_
    refine Jax (Jay rfl) rfl ?_
    refine qb0 ?_
    refine Jd9 (Jar tb ((⟨OO,cs.set k ⟨ck.off,-1,ck.reason⟩⟩:OwL XCut)) (⟨true,-1,ck.reason⟩) rfl rfl rfl rfl zk zg (fun _=>rfl) zg ze zb zb) ?_
    rintro v L' R' ⟨rfl,rfl⟩
    refine Jax (Jay rfl) rfl ?_
    refine qb0 ?_
    refine Jd9 (Jar tb ((⟨OO,(cs.set k ⟨ck.off,-1,ck.reason⟩).set k ⟨true,-1,ck.reason⟩⟩:OwL XCut)) (⟨true,-1,V⟩) rfl rfl rfl rfl zk zg (fun _=>rfl) zg ze zb zb) ?_
    rintro v L' R' ⟨rfl,rfl⟩
    refine Ja6 (Jab (Jah ?_))
    refine Xau ?_
    refine qcx ?_
    rintro v L' R' ⟨b88,rfl,rfl,hR88⟩
    replace hR88:=hR88.symm;subst hR88
    refine Jgl (Ja9 (f:=Jap) (a:=(k:Int)) tb rfl rfl rfl rfl (hqk) zk (Jb0 zf rfl rfl) rfl zB) rfl ?_
    rintro v L' R' ⟨o89,rfl,hok89,rfl,rfl⟩
    refine qc4 ?_
    refine Xbb ?_
    exact q_k ⟨(k + 1,((cs.set k ⟨ck.off,-1,ck.reason⟩).set k ⟨true,-1,ck.reason⟩).set k ⟨true,-1,V⟩,(⟨o89,_⟩:OwL Int)),by dsimp only;omega,by dsimp only;rw [List.set_set,List.set_set];exact hWn _ (by rw [J7e,if_neg hc4,if_neg (by simpa using hc6)]),hok89,by dsimp only;rw [hns,if_pos ⟨hc4,by simpa using hc6⟩,hql]⟩
   refine Xay ?_
   exact q_k ⟨(k + 1,cs.set k ⟨ck.off,-1,ck.reason⟩,q),by dsimp only;omega,hWn _ (by rw [J7e,if_neg hc4,if_pos (by simpa using hc6)];rw [show ck.off=true by simpa using hc6]),hqk,by dsimp only;rw [hns,if_neg (fun h=>by have:=h.2;simp [this] at hc6)];exact hql⟩
  obtain rfl:k=c.l.length:=by omega
  refine Xc9 ?_
  refine qbm ?_
  refine Xbr ?_
  refine Xah ?_
  refine q_r (L':=q.L 3 Jap ++ ((⟨OO,cs⟩:OwL XCut).L 71 XCut.cells ++ L)) (R':=R) (Jnq rfl (Jaf (show _=Value.slice _ _ _ from rfl)) (Jaf (show _=Value.slice _ _ _ from rfl)) (Jaf (show _=Value.int _ _ from rfl))) ?_
  exact ⟨(⟨OO,cs⟩:OwL XCut),q,by rw [he,OwL.val,OwL.val,hwl];try rfl,⟨hck,hqk⟩,by rw [cutsC,if_neg za];exact hW.done,by rw [cutsN,if_neg za];exact hql,rfl,rfl⟩
end Go.Proofs.YtchfclmokpbldaaGreat
