import Derived.Test.YtchfclmokpbldaaGreatTelF
import Derived.Test.YtchfclmokpbldaaGreatFeedX
import Derived.Test.YtchfclmokpbldaaGreatStaC
import Derived.Test.YtchfclmokpbldaaGreatCloneS
set_option linter.unusedVariables false
set_option linter.unusedSimpArgs false
section
/-
  What telegrams of sensors say: sensor.Decode and the reference's. By an AI agent; no person has read it.
-/
namespace Go.Proofs.YtchfclmokpbldaaGreat
open Go.Aw Go
set_option maxRecDepth 20000
attribute [local irreducible] CJ LJ DJ Tri YV Gives Jcj Ja1 Jbg Jci RV Ja2 OwL.L
section
variable {A9 B9:Prop}
theorem J15 (a:A9) (h:A9→B9:=by exact Jax (Jbc (qs:=[]) (out:=[_,_,_,_]) tb rfl rfl rfl rfl) rfl):B9:=h a
theorem J1s (h:B9:=by exact ⟨(⟨0,0,⟨0,0⟩⟩:XMeas),by rw [he],fun h=>by omega,rfl,rfl⟩):B9:=h
theorem Kb1 (a:A9) (h:A9→B9:=by exact Jbv zpa rfl rfl rfl rfl):B9:=h a
end
theorem Jm0 (a:Int) (L:List Blk) (R:List Sl) (ha:-1000000000000≤a∧a≤1000000000000):
    Tri Tryz.prog 194 [.int .i64 a].toArray L R (fun v L' R'=>v=.int .i64 (a / 1000)∧L=L'∧R=R'):=by
  have hm:=Int.tmod_def a 1000
  have h1:0≤a→a.tdiv 1000=a / 1000:=fun h=>Int.tdiv_eq_ediv_of_nonneg h
  have h2:a < 0→a.tdiv 1000= -((-a) / 1000):=fun h=>by
    have:a= -(-a):=by omega
    rw [this,Int.neg_tdiv,Int.tdiv_eq_ediv_of_nonneg za];omega
  refine Jad 12 Tryz.call194 Tryz.func194 rfl rfl rfl ?_
  refine Xac ?_
  refine Xdi ?_
  refine qdd ?_
  refine Xc0 ?_
  refine qda ?_
  refine Xbe ?_
  refine q_c (fun hc0=>?_) (fun hc0=>?_)
  ·
   refine Xa4 ?_
   refine qa9 ?_
   refine Xat ?_
   refine Xah ?_
   refine q_i (L':=L) (R':=R) ?_
   exact ⟨by rw [show a.tdiv 1000 - 1=a / 1000 by omega],rfl,rfl⟩
  refine qbv ?_
  refine qaa ?_
  refine Xah ?_
  refine q_i (L':=L) (R':=R) ?_
  exact ⟨by rw [show a.tdiv 1000=a / 1000 by omega],rfl,rfl⟩
theorem Jsw (s:XSens) (r:Int) (L:List Blk) (R:List Sl) (hs:Jcx s=0) (hr0:-1000000≤r∧r≤1000000):
    Tri Tryz.prog 115 [s.val,.int .i64 r].toArray L R (fun v L' R'=>v=(Jhu s r).val∧L=L'∧R=R'):=by
  refine Jad 71 Tryz.call115 Tryz.func115 rfl rfl rfl ?_
  refine Xaf ?_
  intro b2
  refine qaq ?_
  intro b4
  refine qaw ?_
  refine Xb0 ?_
  apply Ja7 (G:=[_,_]) (j:=2) (cj:=10) rfl rfl zb rfl (show _=Value.bool _ from rfl) rfl
  ·
   intro hg3
   replace hg3:=qb hg3
   refine Xb5 ?_
   exact qai
  intro junk3
  refine qaf ?_
  refine q_c (fun hc0=>?_) (fun hc0=>?_)
  ·
   refine qae ?_
   refine q_l rfl (Jb5 _ _) ?_
   refine qak ?_
   refine qbh ?_
   refine q_r (L':=L) (R':=R) (Jec rfl (Jao (row:=[_,_]) tb rfl rfl rfl zf zb zb)) ?_
   exact ⟨by rw [Jhu,if_pos za],rfl,rfl⟩
  have hE:¬ (Jcx s≠0∨¬ (0≤r∧r≤65535)):=by omega
  have hml:=J2p (s:=s) (r:=r) hs za
  have hsk:=Jo4 hs
  rw [Je0] at hsk
  have hkd:1≤s.kind∧s.kind≤6:=by
    rw [Jcx] at hs
    split at hs
    · omega
    · omega
  refine qbv ?_
  refine Xas ?_
  refine Xaa ?_
  refine qaf ?_
  refine Jj1 [5,17,18,19,20,21,22] ((⟨fun g=>[(5,.int .i64 g.1)],fun _=>⟨b4,[.int .i64 0,.int .i64 0],90⟩ :: ⟨b2,s.cells,88⟩ :: L,fun _=>R,fun _=>0⟩:Head {n:Int // n=if 4≤s.kind then Jz0 s.kind else -1})) ?_ ?_
  ·
   refine Jbd (Jam (Jah ?_))
   refine Xaz ?_
   refine q_c (fun hc1=>?_) (fun hc1=>?_)
   ·
    refine qay ?_
    refine qad ?_
    refine Ja6 (Jag ?_)
    exact q_j ⟨1,by rw [if_pos za,Jz0,if_neg za,if_neg za]⟩
   refine Xbf ?_
   refine q_c (fun hc2=>?_) (fun hc2=>?_)
   ·
    refine qay ?_
    refine qad ?_
    refine Ja6 (Jag ?_)
    exact q_j ⟨2,by rw [if_pos za,Jz0,if_neg za,if_pos za]⟩
   refine Xbf ?_
   refine q_c (fun hc3=>?_) (fun hc3=>?_)
   ·
    refine qay ?_
    refine qad ?_
    refine Ja6 (Jag ?_)
    exact q_j ⟨5,by rw [if_pos za,Jz0,if_pos za]⟩
   refine Ja4 (Jag ?_)
   exact q_j ⟨-1,by rw [if_neg za]⟩
  rintro ⟨ms,hms⟩ junk
  try dsimp only
  have hm4:4≤s.kind↔0≤ms:=by
    rw [hms,Jz0]
    repeat' split
    all_goals omega
  refine Xbn ?_
  refine Xcq ?_
  refine q_c (fun hc4=>?_) (fun hc4=>?_)
  ·
   refine Xbn ?_
   refine Xb5 ?_
   refine qaf ?_
   refine q_c (fun hc5=>?_) (fun hc5=>?_)
   ·
    refine qae ?_
    refine q_l rfl (Jb5 _ _) ?_
    refine qak ?_
    refine Ja6 (Jab (Jcq (Jba (Jba ?_))))
    refine q_r (L':=L) (R':=R) (Jec rfl (Jao (row:=[_,_]) tb rfl rfl rfl zf zb zb)) ?_
    exact ⟨by rw [if_pos za] at hms;rw [Jhu,if_neg hE,if_pos za,if_pos za],rfl,rfl⟩
   refine qbv ?_
   refine Xbw ?_
   refine qcd ?_
   refine qak ?_
   refine qbh ?_
   refine q_r (L':=L) (R':=R) (Jec rfl (Jao (row:=[_,_]) tb rfl rfl rfl zf zb zb)) ?_
   exact ⟨by rw [if_pos za] at hms;rw [Jhu,if_neg hE,if_pos za,if_neg za],rfl,rfl⟩
  refine qbv ?_
  refine Xal ?_
  refine qcm ?_
  refine Xcd ?_
  refine Jbf tb [0,1,2,5,6,8,9,10,11,14,15,3,4,7,12,13,16,17,18,19] ([Blk.mk b2 _ _]) Jby zc zi ?_
  refine Xbo ?_
  refine Xan ?_
  refine Xbo ?_
  refine Jbu (Jyk rfl za za) rfl rfl rfl ?_
  refine Xan ?_
  refine q_d rfl (Jm0 (s.scale * r) _ _ za) ?_
  refine qc2 ?_
  refine qb7 ?_
  refine q_d rfl (Jm0 (-(s.scale * r)) _ _ za) ?_
  refine qb7 ?_
  refine qc2 ?_
  refine Jbu (Jbc (qs:=[(0,(Value.int _ _).cells.toList),(1,(Value.int _ _).cells.toList)]) (out:=[_,_]) tb rfl rfl rfl rfl) rfl rfl rfl ?_
  refine qbr ?_
  intro b7
  refine qbg ?_
  refine qc6 ?_
  refine Xaa ?_
  refine Xb7 ?_
  apply Ja7 (G:=[_,_,_]) (j:=3) (cj:=57) rfl rfl zb rfl (show _=Value.bool _ from rfl) rfl
  ·
   intro hg4
   replace hg4:=qb hg4
   refine Xaa ?_
   refine qbn ?_
   exact qai
  intro junk4
  refine qaf ?_
  refine q_c (fun hc6=>?_) (fun hc6=>?_)
  ·
   refine qay ?_
   refine Xaa ?_
   refine Jax (Jih rfl rfl) rfl ?_
   refine Xaa ?_
   refine Jax (Jih rfl rfl) rfl ?_
   refine Xbh ?_
   refine Xbh ?_
   refine qam ?_
   refine Xda ?_
   refine q_r (L':=L) (R':=R) (Jec rfl (Jao (row:=[_,_]) tb rfl rfl rfl zf zb zb)) ?_
   exact ⟨by rw [Jhu,if_neg hE,if_neg za,if_pos za,J9c];simp only [Int.sub_eq_add_neg],rfl,rfl⟩
  refine qbv ?_
  refine Xda ?_
  refine q_r (L':=L) (R':=R) (Jec rfl (Jao (row:=[_,_]) tb rfl rfl rfl zf zb zb)) ?_
  exact ⟨by rw [Jhu,if_neg hE,if_neg za,if_neg za,J9c];simp only [Int.sub_eq_add_neg],rfl,rfl⟩
def IsAd (S:List XSens) (ad z a:Int):Prop:=(a= -1∧∀j:Nat,z < j→j < S.length→(S.getD j default).address≠ad)∨((z < a∧a < S.length)∧(S.getD a.toNat default).address=ad∧∀j:Nat,z < j→(j:Int) < a→(S.getD j default).address≠ad)
theorem J1x {S:List XSens} {ad a:Int} (h:IsAd S ad (-1) a):Jf8 S ad=a:=by
  rcases h with ⟨h1,h2⟩ | ⟨h1,h2,h3⟩
  · rw [Jf8,List.find?_eq_none.2 (fun i hi=>by rw [List.mem_range] at hi;simpa using h2 i za hi),h1];rfl
  · have:(List.range S.length).find? (fun i=>decide ((S.getD i default).address=ad))=some a.toNat:=by
      rw [List.find?_range_eq_some]
      refine ⟨by simpa using h2,by rw [List.mem_range];omega,fun j hj=>?_⟩
      simpa using h3 j za za
    rw [Jf8,this]
    show ((a.toNat:Nat):Int)=a
    omega
theorem IsAd.hit {S:List XSens} {z ad:Int} (hz:0≤z∧z < S.length) (h:(S.getD z.toNat default).address=ad):IsAd S ad (z - 1) z:=
  .inr ⟨by omega,h,fun j h1 h2=>by omega⟩
theorem IsAd.miss {S:List XSens} {z ad a:Int} (hz:0≤z∧z < S.length) (k:IsAd S ad z a) (h:(S.getD z.toNat default).address≠ad):IsAd S ad (z - 1) a:=by
  rcases k with ⟨h1,h2⟩ | ⟨h1,h2,h3⟩
  · refine .inl ⟨h1, fun j hj hl => ?_⟩
    rcases Classical.em (z < j) with h4 | h4
    · exact h2 j h4 hl
    · obtain rfl : j = z.toNat := by omega
      exact h
  · refine .inr ⟨by omega, h2, fun j hj hl => ?_⟩
    rcases Classical.em (z < j) with h4 | h4
    · exact h3 j h4 hl
    · obtain rfl : j = z.toNat := by omega
      exact h
theorem Jp5 (S:Arr XSens) (f:XFrame) (t:Int) (L:List Blk) (R:List Sl) (hS:InR (J05 S) R) (hf:InR (bsl f.data) R) (hb:BytesOk f.data.l) (hn:S.l.length≤64):
    Tri Tryz.prog 45 [S.val,f.val,.int .i64 t].toArray L R (fun v L' R'=>∃m:XMeas,v=.tuple #[m.val,.int .i64 (Jc7 S.l f.tele t)]∧(Jc7 S.l f.tele t=0→m=Jpi S.l f.tele t)∧L=L'∧R=R'):=by
  refine Jc1 Tryz.call45 hf fun hfn=>?_
  refine Jad 85 Tryz.call45 Tryz.func45 rfl rfl rfl ?_
  refine Xaf ?_
  intro b4
  refine qaq ?_
  intro b6
  refine Xas ?_
  refine Xb0 ?_
  apply Ja7 (G:=[_,_]) (j:=2) (cj:=13) rfl rfl zb rfl (show _=Value.bool _ from rfl) rfl
  ·
   intro hg3
   replace hg3:=qb hg3
   refine Xb5 ?_
   exact qai
  intro junk3
  refine qaf ?_
  refine q_c (fun hc0=>?_) (fun hc0=>?_)
  ·
   refine qae ?_
   refine J15 ?_
   refine Xa0 ?_
   refine q_r (L':=L) (R':=R) (Jcf rfl (Jao (row:=[_,_,_,_]) tb rfl rfl rfl zf zb zb) (Jaf (show _=Value.int _ _ from rfl))) ?_
   have he:Jc7 S.l f.tele t=8:=by rw [Jc7,if_pos za]
   exact J1s
  refine qbv ?_
  refine Xas ?_
  refine Xao ?_
  refine qa9 ?_
  refine Xb2 ?_
  refine Jan [(0,Value.slice _ _ _),(2,Value.int _ _),(4,Value.pointer _),(6,Value.pointer _),(8,Value.int _ _),(9,Value.int _ _)] zh fun tq0=>?_
  refine q_s [8,9,21,22,23,24,25,26,27,28,29,30,31,32,33] (fun g:{g:Int×Int // (-1≤g.1∧g.1 < S.l.length)∧IsAd S.l f.address g.1 g.2}=>[(9,.int .i64 g.1.1),(8,.int .i64 g.1.2)]) (fun g=>(g.1.1 + 1).toNat) (⟨((S.l.length:Int) - 1,-1),by dsimp only;omega,.inl ⟨rfl,fun j h1 h2=>by dsimp only at h1;omega⟩⟩) ?_
  rintro ⟨⟨z,a⟩,hz,ha⟩ junk
  try dsimp only
  dsimp only at hz ha
  refine Xbn ?_
  refine Xcq ?_
  refine q_c (fun hc1=>?_) (fun hc1=>?_)
  ·
   have hg:=Jau (l:=S.l) (k:=z.toNat) default za
   refine Ja4 (Jab (Jam (Jbd (Jam ?_))))
   refine Jbf tb [0,1,2,3,4,5,6,7] _ Jby zc (List.Sublist.refl _) ?_
   refine Jbu (Jav (show _=Value.slice _ _ _ from rfl)) rfl rfl rfl ?_
   refine qao ?_
   refine Jbu zGa rfl rfl rfl ?_
   refine qce ?_
   refine qbl ?_
   refine Xan ?_
   refine Jbu (Jhx rfl rfl) rfl rfl rfl ?_
   refine qbu ?_
   refine q_c (fun hc2=>?_) (fun hc2=>?_)
   ·
    refine Xa4 ?_
    refine qad ?_
    refine qcs ?_
    refine Xdd ?_
    exact q_k ⟨(z - 1,z),by dsimp only;omega,.hit za hc2⟩
   refine qbj ?_
   refine Xdd ?_
   exact q_k ⟨(z - 1,a),by dsimp only;omega,ha.miss za hc2⟩
  obtain rfl:z= -1:=by omega
  have hadr:Jf8 S.l f.tele.address=a:=J1x ha
  have har:a < 0∨(0≤a∧a < S.l.length):=by
    rcases ha with h | h
    · omega
    · omega
  refine qcf ?_
  refine Xb0 ?_
  apply Ja7 (G:=[_,_,_,_,_,_]) (j:=2) (cj:=36) rfl rfl zb rfl (show _=Value.bool _ from rfl) rfl
  ·
   intro hg3
   replace hg3:=qb hg3
   have hgA:=Jau (l:=S.l) (k:=a.toNat) default za
   refine Xau ?_
   refine Jax zab rfl ?_
   refine Jax zW rfl ?_
   refine q_l rfl (Jh5 (S.l.getD a.toNat default) _ _) ?_
   refine qbq ?_
   exact qai
  intro junk3
  refine qaf ?_
  refine q_c (fun hc3=>?_) (fun hc3=>?_)
  ·
   refine qae ?_
   refine J15 ?_
   refine Xa0 ?_
   refine q_r (L':=L) (R':=R) (Jcf rfl (Jao (row:=[_,_,_,_]) tb rfl rfl rfl zf zb zb) (Jaf (show _=Value.int _ _ from rfl))) ?_
   have he:Jc7 S.l f.tele t=9:=by rw [Jc7,if_neg za,hadr,if_pos za]
   exact J1s
  have hgA:=Jau (l:=S.l) (k:=a.toNat) default za
  have hE1:¬ (t < 0∨2147483648 < t):=by omega
  have hE2:¬ (a < 0∨Jcx (S.l.getD a.toNat default)≠0):=by omega
  have hdl:f.tele.data.length=f.data.l.length:=rfl
  have htk:f.tele.kind=f.kind:=rfl
  refine qbv ?_
  refine Xbw ?_
  refine q_l rfl (Jb5 _ _) ?_
  refine Jax (Jbc (qs:=[(0,(Value.int _ _).cells.toList),(1,(Value.int _ _).cells.toList),(2,(Value.agg _).cells.toList)]) (out:=[_,_,_,_]) tb rfl rfl rfl rfl) rfl ?_
  refine qaq ?_
  intro b10
  refine Xba ?_
  refine Xaa ?_
  refine Ja6 (Jab (Jbd (Jam (Jah ?_))))
  refine Xaz ?_
  refine q_c (fun hc4=>?_) (fun hc4=>?_)
  ·
   refine qbi ?_
   refine Xab ?_
   refine Xaq ?_
   refine q_c (fun hc5=>?_) (fun hc5=>?_)
   ·
    refine qae ?_
    refine J15 ?_
    refine Xdm ?_
    refine Ja6 (Jab (Jcq (Jba (Ja5 (Jba ?_)))))
    refine q_r (L':=L) (R':=R) (Jcf rfl (Jao (row:=[_,_,_,_]) tb rfl rfl rfl zf zb zb) (Jaf (show _=Value.int _ _ from rfl))) ?_
    have he:Jc7 S.l f.tele t=6:=by rw [Jc7,if_neg hE1,hadr,if_neg hE2,if_neg za,if_pos za]
    exact J1s
   have h0:=Jau (l:=f.data.l) (k:=0) 0 za
   have h1:=Jau (l:=f.data.l) (k:=1) 0 za
   have hb0:=hb.at 0
   have hb1:=hb.at 1
   refine Ja4 (Jab ?_)
   refine Jbk tb [] [0,1,2,3,4,5,6,7,8,9,10,11,12,13,14,15,16,17] [18] (_) _ Jby zc zi (by (repeat (first | apply List.Sublist.cons (a:=Blk.mk b10 _ _) | apply List.Sublist.cons_cons));exact List.Sublist.refl _) ?_
   refine Xc7 ?_
   refine Jbv zab rfl rfl rfl rfl ?_
   refine Jbv zW rfl rfl rfl rfl ?_
   refine Xar ?_
   refine qd2 ?_
   refine qci ?_
   refine Kb1 ?_
   refine Jbv (Jw6 rfl rfl ze (J3t za)) rfl rfl rfl rfl ?_
   refine Xar ?_
   refine Jbv zdb rfl rfl rfl rfl ?_
   refine qci ?_
   refine Kb1 ?_
   refine Jbv (J7g rfl rfl (Kdp za za)) rfl rfl rfl rfl ?_
   refine Jdf rfl (Jsw (S.l.getD a.toNat default) _ _ _ za za) rfl rfl ?_
   rintro v L' R' ⟨rfl,rfl,rfl⟩
   refine ⟨zi,zx,?_⟩
   refine qan ?_
   refine qba ?_
   refine Jlf rfl rfl rfl rfl zA zb zb zb zi ?_
   refine Jaz (Jag (Jab (Jam (Jah ?_))))
   refine qa8 ?_
   refine Xbl ?_
   refine q_r (L':=L) (R':=R) (Jcf rfl (Jao (row:=[_,_,_,_]) tb rfl rfl rfl zf zb zb) (Jaf (show _=Value.int _ _ from rfl))) ?_
   have he:Jc7 S.l f.tele t=0:=by rw [Jc7,if_neg hE1,hadr,if_neg hE2,if_neg za,if_neg za]
   exact ⟨⟨a,t,Jhu (S.l.getD a.toNat default) (f.data.l.getD 0 0 * 256 + f.data.l.getD 1 0)⟩,by rw [he],fun _=>by rw [Jpi,hadr,if_pos za];rfl,rfl,rfl⟩
  refine Xbf ?_
  refine q_c (fun hc6=>?_) (fun hc6=>?_)
  ·
   refine qae ?_
   refine Xab ?_
   refine Xaq ?_
   refine q_c (fun hc7=>?_) (fun hc7=>?_)
   ·
    refine qae ?_
    refine J15 ?_
    refine Xdm ?_
    refine qdb ?_
    refine q_r (L':=L) (R':=R) (Jcf rfl (Jao (row:=[_,_,_,_]) tb rfl rfl rfl zf zb zb) (Jaf (show _=Value.int _ _ from rfl))) ?_
    have he:Jc7 S.l f.tele t=6:=by rw [Jc7,if_neg hE1,hadr,if_neg hE2,if_neg za,if_pos za]
    exact J1s
   refine Ja4 (Jag (Jab (Jam (Jah ?_))))
   refine qa8 ?_
   refine Xbl ?_
   refine q_r (L':=L) (R':=R) (Jcf rfl (Jao (row:=[_,_,_,_]) tb rfl rfl rfl zf zb zb) (Jaf (show _=Value.int _ _ from rfl))) ?_
   have he:Jc7 S.l f.tele t=0:=by rw [Jc7,if_neg hE1,hadr,if_neg hE2,if_neg za,if_neg za]
   exact ⟨⟨a,t,nothingS⟩,by rw [he],fun _=>by rw [Jpi,hadr,if_neg za],rfl,rfl⟩
  refine qae ?_
  refine J15 ?_
  refine Xdm ?_
  refine qdb ?_
  refine q_r (L':=L) (R':=R) (Jcf rfl (Jao (row:=[_,_,_,_]) tb rfl rfl rfl zf zb zb) (Jaf (show _=Value.int _ _ from rfl))) ?_
  have he:Jc7 S.l f.tele t=5:=by rw [Jc7,if_neg hE1,hadr,if_neg hE2,if_pos za]
  exact J1s
end Go.Proofs.YtchfclmokpbldaaGreat
end
section
/-
  Stations: what happens to them, the program's side. By an AI agent; no person has read it.
-/
namespace Go.Proofs.YtchfclmokpbldaaGreat
open Go.Aw Go
set_option maxRecDepth 20000
attribute [local irreducible] CJ LJ DJ Tri YV Gives Jcj Ja1 Jbg Jci RV Ja2 OwL.L
section
variable {A9 B9:Prop}
theorem J42 (a:A9) (h:A9→B9:=by exact Jax (Jal (row:=[_,_,_,_,_,_,_,_,_,_,_,_,_,_,_,_,_,_,_,_,_,_,_]) tb rfl rfl rfl zf zb zb) rfl):B9:=h a
theorem Kcm (a:A9) (h:A9→B9:=by exact Jbe (T:=93) (f:=XMeas.cells) (wd:=4) pm [] zk (fun _=>rfl) ze hK.km (fun s hs=>by cases hs)):B9:=h a
end
def Jic (g:PSite) (q:PSta×Int) (L:List Blk) (R:List Sl):Jef:=fun v L' R'=>∃(y:XSta) (S:List Sl),v=.tuple #[y.val,.int .i64 q.2]∧StaIs g q.1 y∧StaR y R'∧L=L'∧S ++ R=R'
theorem Jgg {g:PSite} {p:PSta} {x:XSta} (hx:StaIs g p x) {t:Int}:(t < x.time∨2147483648 < t)↔Jfl p t:=by rw [hx.time,Jfl]
theorem StaK.fin {x:XSta} {s:XSite} {h:Arr Int} {w:Arr XWatch} {c:Arr XCut} {f:XFeeder} {pm:OwL XMeas} {pl:OwL XEntry} {R R':List Sl} (k:StaK x s h w c f pm pl R) (hR:∀r∈R,InR r R') (h1:InR (Jde pm.arr) R') (h2:InR (Jey pl.arr) R'):StaR (⟨s,x.time,h,x.dropped,pm.arr,w,c,f,x.rest,pl.arr⟩:XSta) R':=⟨k.site.mono hR,k.held.mono hR,h1,k.watches.mono hR,k.cuts.mono hR,k.feeder.mono hR,h2⟩
theorem Jpf (g:PSite) (p:PSta) (x:XSta) (t:Int) (L:List Blk) (R:List Sl) (hI:Inv g p) (hx:StaIs g p x) (hR:StaR x R):
    Tri Tryz.prog 25 [x.val,.int .i64 t].toArray L R (Jic g (Jnm g p t) L R):=by
  refine Jad 16 Tryz.call25 Tryz.func25 rfl rfl rfl ?_
  refine Xaf ?_
  intro b2
  refine qaq ?_
  intro b4
  refine Xag ?_
  refine J42 ?_
  refine Jaw rfl (Jeu x _ _ (.of hI hx) hR) rfl ?_
  rintro v L' R' ⟨s,h,w,c,f,pm,pl,S0,rfl,hK,rfl,rfl⟩
  refine qaq ?_
  intro b6
  refine Xba ?_
  refine J42 ?_
  refine qaa ?_
  refine q_l rfl (Jfp x t _ _) ?_
  refine qaf ?_
  refine q_c (fun hc0=>?_) (fun hc0=>?_)
  ·
   refine Jam ?_
   refine Kcm ?_
   refine Jcy zp ?_
   refine Jbe (T:=150) (f:=XEntry.cells) (wd:=4) pl [] zk (fun _=>rfl) ze hK.kl (fun s hs=>by cases hs) ?_
   refine Jcy zp ?_
   refine qay ?_
   refine J42 ?_
   refine Xa0 ?_
   refine q_r (L':=L) (R':=((Jey pl.arr :: Jde pm.arr :: S0) ++ R)) (Jcf rfl (Jao (row:=[_,_,_,_,_,_,_,_,_,_,_,_,_,_,_,_,_,_,_,_,_,_,_]) tb rfl rfl rfl zf zb zb) (Jaf (show _=Value.int _ _ from rfl))) ?_
   have hl:Jfl p t:=(Jgg hx).1 zE
   exact ⟨(⟨s,x.time,h,x.dropped,pm.arr,w,c,f,x.rest,pl.arr⟩:XSta),Jey pl.arr :: Jde pm.arr :: S0,by rw [Jnm,if_pos hl],by rw [Jnm,if_pos hl];exact hK.is hx,hK.fin (fun r hr=>Jaa (.tail _ (.tail _ hr))) (Jaa (.tail _ (.head _))) (Jaa (.head _)),rfl,rfl⟩
  have hl:¬ Jfl p t:=fun h=>absurd ((Jgg hx).2 h) zE
  have ht:=Jja hl
  have hIs:=hK.is hx
  have hS0:∀r∈S0 ++ R,InR r (Jde pm.arr :: (S0 ++ R)):=fun r hr=>Jaa (.tail _ hr)
  refine Kcm ?_
  refine Jcy zp ?_
  refine qbv ?_
  refine qaa ?_
  refine Jaw rfl (Jgt g p (⟨s,x.time,h,x.dropped,pm.arr,w,c,f,x.rest,pl.arr⟩:XSta) pl b6 t _ _ hI hIs (hK.site.mono hS0) (Jaa (.head _)) (hK.watches.mono hS0) (hK.cuts.mono hS0) (hK.feeder.mono hS0) hK.kl ht) rfl ?_
  rintro v L' R' ⟨w2,c2,f2,q,S2,hqk,hS,⟨hw2,hc2,hf2⟩,rfl,rfl⟩
  refine qa4 ?_
  refine Jbe (T:=150) (f:=XEntry.cells) (wd:=4) q [] zk (fun _=>rfl) ze hqk (fun s hs=>by cases hs) ?_
  refine Jcy zp ?_
  have h3:∀r∈S2 ++ (Jde pm.arr :: (S0 ++ R)),InR r ((Jey q.arr :: (S2 ++ (Jde pm.arr :: S0))) ++ R):=fun r hr=>Jaa zY
  have h4:∀r∈S0 ++ R,InR r ((Jey q.arr :: (S2 ++ (Jde pm.arr :: S0))) ++ R):=fun r hr=>(hS0 r hr).mono fun r hr=>h3 r (List.mem_append_right _ hr)
  refine Jsd (R':=((Jey q.arr :: (S2 ++ (Jde pm.arr :: S0))) ++ R)) (by simp only [List.cons_append,List.append_assoc]) ?_
  refine qay ?_
  refine J42 ?_
  refine Xbl ?_
  refine q_r (L':=L) (R':=((Jey q.arr :: (S2 ++ (Jde pm.arr :: S0))) ++ R)) (Jcf rfl (Jao (row:=[_,_,_,_,_,_,_,_,_,_,_,_,_,_,_,_,_,_,_,_,_,_,_]) tb rfl rfl rfl zf zb zb) (Jaf (show _=Value.int _ _ from rfl))) ?_
  exact ⟨(⟨s,t,h,x.dropped,pm.arr,w2,c2,f2,(Jaj g p t).rest,q.arr⟩:XSta),Jey q.arr :: (S2 ++ (Jde pm.arr :: S0)),by rw [Jnm,if_neg hl],by rw [Jnm,if_neg hl];exact hS,⟨hK.site.mono h4,hK.held.mono h4,h3 _ (List.mem_append_right _ (.head _)),hw2.mono h3,hc2.mono h3,hf2.mono h3,Jaa (.head _)⟩,rfl,rfl⟩
end Go.Proofs.YtchfclmokpbldaaGreat
end
