import Derived.Test.YtihompplndcdeaaGreatCert
section
/-
  certify.Check. By an AI agent; no person has read it.
-/
namespace Go.Proofs.YtihompplndcdeaaGreat
open Go.Aw Go
set_option maxRecDepth 20000
attribute [local irreducible] CJ LJ DJ Tri YV Gives Jd5 Jbd Jbz Jd4 RV Jbf OwL.L
section
variable {A9 B9:Prop}
theorem J3v (a:A9) (h:A9→B9:=by exact Ja2 (by first | exact Jag tb rfl rfl rfl rfl (by first | assumption | exact zr (by simp)) (i:=k2) (by first | rfl | omega | (simp;omega)) (by omega) | exact Jal tb rfl rfl rfl rfl (i:=k2) (by first | rfl | omega | (simp;omega)) (by omega)) rfl):B9:=h a
theorem J3r (h:B9:=by exact ⟨[Jjb n.pipes,Jik n.at_] ++ S,by rw [hck,Jf5 hp2 (by omega) (hnb.trans (if_pos (by omega)))];rfl,rfl,rfl⟩):B9:=h
theorem J6d (a:A9) (h:A9→B9:=by exact Jbu (by first | exact Jag tb rfl rfl rfl rfl (by first | assumption | exact zr (by simp)) (i:=k0) (by first | rfl | omega | (simp;omega)) (by omega) | exact Jal tb rfl rfl rfl rfl (i:=k0) (by first | rfl | omega | (simp;omega)) (by omega)) rfl rfl rfl):B9:=h a
end
def Jhq (b:XBounds) (i:Nat):Option Int:=[b.low.l.getD i 0,b.high.l.getD i 0].findSome? Jcb
theorem Jh5 {a:XAir} (h:Ja4 a=0):Jbv a.mine=0:=by
  unfold Ja4 at h
  split at h
  · rename_i h1;exact absurd h h1
  · rename_i h1;omega
theorem Jrs {b:XBounds} {n:Nat} (h1:b.low.l.length=n) (h2:b.high.l.length=n) (h:(List.range n).findSome? (Jhq b)=none):b.low.l.findSome? Jcb=none∧b.high.l.findSome? Jcb=none:=by
  rw [List.findSome?_eq_none_iff] at h
  have h':∀i:Nat,i < n→Jcb (b.low.l.getD i 0)=none∧Jcb (b.high.l.getD i 0)=none:=fun i hi=>by
    have:=h i (List.mem_range.2 hi)
    rw [Jhq,List.findSome?_eq_none_iff] at this
    exact ⟨this _ (by simp),this _ (by simp)⟩
  constructor
  · rw [List.findSome?_eq_none_iff]
    intro x hx
    obtain ⟨i,hi⟩:=List.mem_iff_getElem?.1 hx
    have hl:=(List.getElem?_eq_some_iff.1 hi).1
    rw [← (show b.low.l.getD i 0=x from getD_some hi)]
    exact (h' i (by omega)).1
  · rw [List.findSome?_eq_none_iff]
    intro x hx
    obtain ⟨i,hi⟩:=List.mem_iff_getElem?.1 hx
    have hl:=(List.getElem?_eq_some_iff.1 hi).1
    rw [← (show b.high.l.getD i 0=x from getD_some hi)]
    exact (h' i (by omega)).2
theorem Jru {b:XBounds} {n k:Nat} (h1:b.low.l.length=n) (h2:b.high.l.length=n) (hk:k < n) {e:Int} (h:Jhq b k=some e):(b.low.l.findSome? Jcb).isSome=true∨(b.high.l.findSome? Jcb).isSome=true:=by
  cases e1:b.low.l.findSome? Jcb with
  | some x=>exact .inl rfl
  | none=>
    cases e2:b.high.l.findSome? Jcb with
    | some x=>exact .inr rfl
    | none=>
      rw [List.findSome?_eq_none_iff] at e1 e2
      rw [Jhq] at h
      have:[b.low.l.getD k 0,b.high.l.getD k 0].findSome? Jcb=none:=by
        rw [List.findSome?_eq_none_iff]
        intro x hx
        simp only [List.mem_cons,List.not_mem_nil,or_false] at hx
        rcases hx with rfl | rfl
        · exact e1 _ (List.mem_of_getElem? (Jan (l:=b.low.l) (k:=k) 0 (by omega)))
        · exact e2 _ (List.mem_of_getElem? (Jan (l:=b.high.l) (k:=k) 0 (by omega)))
      rw [this] at h
      cases h
theorem J1t (a:XAir) (s:XSetting) (b:XBounds) (A:List Bool) (L:List Blk) (R:List Sl) (hm:AirR a R) (hs:SetR s R) (hb:BoundsR b R) (hA:Ja4 a=0→AiryIs a.mine A):
    Tri Tryz.prog 81 [a.val,s.val,b.val].toArray L R (fun v L' R'=>∃S:List Sl,v=.int .i64 (Jdb a s b A)∧L=L'∧S ++ R=R'):=by
  have hmp:=hm.places
  have hbl:=hb.low
  have hbh:=hb.high
  refine Jb7 Tryz.call81 hbl fun hbln=>?_
  refine Jb7 Tryz.call81 hbh fun hbhn=>?_
  refine Jb7 Tryz.call81 hmp fun hmpn=>?_
  refine Jae 124 Tryz.call81 Tryz.func81 rfl rfl rfl ?_
  refine Xai ?_
  intro b3
  refine qax ?_
  intro b4
  refine qax ?_
  intro b5
  refine Xa5 ?_
  refine qa8 ?_
  refine q_l rfl (Jea a _ _ hm) ?_
  refine Xbt ?_
  refine q_c (fun hc0=>?_) (fun hc0=>?_)
  ·
   refine Xd0 ?_
   refine q_i (L':=L) (R':=R) ?_
   exact ⟨[],by rw [Jdb,if_pos hc0],rfl,rfl⟩
  have h0:Ja4 a=0:=by omega
  have hok:=Jeg h0
  have hAA:=hA h0
  have hmn:=hok.mine.places
  refine Xdp ?_
  refine q_l rfl (Jfk a s _ _ hm hs) ?_
  refine Xbc ?_
  refine q_c (fun hc1=>?_) (fun hc1=>?_)
  ·
   refine Xbl ?_
   refine q_i (L':=L) (R':=R) ?_
   exact ⟨[],by rw [Jdb,if_neg hc0,if_pos (by simpa using hc1)],rfl,rfl⟩
  have hf0:Jdq a s=true:=by simpa using hc1
  have hfo:=Je4 hf0
  have hff:¬ Jdq a s=false:=by rw [hf0];decide
  refine qbo ?_
  refine Xab ?_
  refine Xa7 ?_
  refine Xcp ?_
  apply Jbw (G:=[_,_,_,_,_,_,_,_]) (j:=8) (cj:=32) rfl rfl (by rfl) rfl (show _=Value.bool _ from rfl) rfl
  ·
   intro hg9
   replace hg9:=qb hg9
   refine Xab ?_
   refine Xa7 ?_
   refine qbq ?_
   exact qai
  intro junk9
  refine qaf ?_
  refine q_c (fun hc2=>?_) (fun hc2=>?_)
  ·
   refine Xbl ?_
   refine q_i (L':=L) (R':=R) ?_
   exact ⟨[],by rw [Jdb,if_neg hc0,if_neg hff,if_pos (by omega)],rfl,rfl⟩
  have hln:b.low.l.length=a.mine.places.l.length:=by omega
  have hhn:b.high.l.length=a.mine.places.l.length:=by omega
  refine qbo ?_
  refine Xbz ?_
  refine Jai [(3,Value.pointer _),(4,Value.pointer _),(5,Value.pointer _),(44,Value.int _ _),(45,Value.int _ _)] (by repeat' (first | exact trivial | refine And.intro rfl ?_)) fun tq0=>?_
  refine q_s [6,8,10,45,46,47,48,49,50,51,52,53,54,55,56,57,58,59,60,61,62,63,64,65,66,67,68,69,70,71] (fun g:FSR (Jhq b) (b.low.l.length)=>[(45,.int .i64 ((g.1:Nat):Int))]) (fun g=>(b.low.l.length) - g.1) ⟨0,Je3 _ _⟩ ?_
  rintro ⟨k0,hk0,hp0⟩ junk
  try dsimp only
  refine Xay ?_
  refine q_c (fun hc3=>?_) (fun hc3=>?_)
  ·
   have hlg:=Jan (l:=b.low.l) (k:=k0) 0 (by omega)
   have hhg:=Jan (l:=b.high.l) (k:=k0) 0 (by omega)
   refine qbb ?_
   refine Xa2 ?_
   refine qa4 ?_
   refine Jbb tb [0,1,2,3,4,5,6,7,8,9,12,10,11] ([Blk.mk b5 _ _]) Jbn (by kernel_rfl) (by repeat (first | exact zs0 _ | exact zs1 _ | apply zs2 | apply zs3 | apply zs4 | apply zs5)) ?_
   refine Xa0 ?_
   refine J6d ?_
   refine qbl ?_
   refine Xa0 ?_
   refine J6d ?_
   refine qbl ?_
   refine qao ?_
   refine Jlz (Jav (qs:=[(0,(Value.int _ _).cells.toList),(1,(Value.int _ _).cells.toList)]) (out:=[_,_]) tb rfl rfl rfl rfl rfl rfl rfl) rfl rfl rfl ?_
   rintro v L' R' ⟨b58,rfl,rfl,hR58⟩
   replace hR58:=hR58.symm;subst hR58
   refine qa1 ?_
   refine Jbu (Je0 tb rfl rfl rfl) rfl rfl rfl ?_
   refine Jbt (Jaa (Ja1 ?_))
   refine Jb8 [6,8,10,45,46,47,48,49,50,51,52,53,54,55,56,57,58,59,60,61,62,63,64,65,66,67,68,69,70,71] (by repeat (first | apply Off.upd rfl | apply Off.havoc rfl | refine Off.updL (t':=havoc _ _ _) rfl ?_ | exact Off.refl)) [(45,Value.int _ _),(58,Value.slice _ _ _),(59,Value.int _ _),(60,Value.int _ _)] (by repeat' (first | exact trivial | refine And.intro rfl ?_)) fun tq1=>?_
   refine Jg5 (L':=(⟨.own b58 2 [],[b.low.l.getD k0 0,b.high.l.getD k0 0]⟩:OwL Int).L 3 Jad ++ (⟨b5,b.cells,114⟩ :: ⟨b4,s.cells,25⟩ :: ⟨b3,a.cells,35⟩ :: L)) (by simp only [OwL.L,Ow.L,List.flatMap_cons,List.flatMap_nil,Jad,List.append_nil,List.cons_append,List.nil_append];rfl) ?_
   refine q_s [6,10,60,61,62,63,64,65,66,67,68,69,70] (fun g:FS (Jcb) ([b.low.l.getD k0 0,b.high.l.getD k0 0])=>[(60,.int .i64 ((g.1:Nat):Int))]) (fun g=>([b.low.l.getD k0 0,b.high.l.getD k0 0]).length - g.1) ⟨0,Jey _ _⟩ ?_
   rintro ⟨k1,hk1,hp1⟩ junk
   try dsimp only
   have hk58:(⟨.own b58 2 [],[b.low.l.getD k0 0,b.high.l.getD k0 0]⟩:OwL Int).ok 1 Jad:=⟨rfl,Nat.le_refl _,by simp only [maxLen];omega,rfl⟩
   have hl2:[b.low.l.getD k0 0,b.high.l.getD k0 0].length=2:=rfl
   refine Xay ?_
   refine q_c (fun hc4=>?_) (fun hc4=>?_)
   ·
    obtain ⟨y,hy⟩:=Ja0 (l:=[b.low.l.getD k0 0,b.high.l.getD k0 0]) (k:=k1) (by omega)
    refine qbb ?_
    refine Ja2 (Jak tb ((⟨.own b58 2 [],[b.low.l.getD k0 0,b.high.l.getD k0 0]⟩:OwL Int)) _ rfl rfl rfl rfl (by assumption) (i:=k1) (by first | rfl | omega | (simp;omega)) (by first | omega | (dsimp only;omega) | (dsimp only;rw [List.length_set];omega) | (dsimp only;simp only [List.length_set];omega))) rfl ?_
    refine Ja2 (Jaz tb ((⟨.own b58 2 [],[b.low.l.getD k0 0,b.high.l.getD k0 0]⟩:OwL Int)) rfl rfl rfl (by repeat (first | apply OSeg.cons | exact OSeg.here | exact OSeg.last | exact OSeg.at (by assumption) | apply OSeg.app)) (by assumption) (fun _=>rfl) (by assumption) (by rfl)) rfl ?_
    refine Xav ?_
    refine Xa9 ?_
    apply Jbw (G:=[_,_]) (j:=2) (cj:=66) rfl rfl (by rfl) rfl (show _=Value.bool _ from rfl) rfl
    ·
     intro hg3
     replace hg3:=qb hg3
     refine qaa ?_
     refine qa5 ?_
     exact qai
    intro junk3
    refine qaf ?_
    refine q_c (fun hc5=>?_) (fun hc5=>?_)
    ·
     refine Xaj ?_
     refine Ja9 (Jaa (Jc5 (Jay (Ja7 (Jcm (Jay (Jay (Ja7 (Jcm (Jay (Ja7 ?_)))))))))))
     refine q_i (L':=L) (R':=R) ?_
     have hpb:Jhq b k0=some 1:=by rw [Jhq];exact Jdt hp1 hy (if_pos (by omega))
     exact ⟨[],by rw [Jdb,if_neg hc0,if_neg hff,if_neg (by omega),if_pos (Jru rfl (by omega) (by omega) hpb)],rfl,rfl⟩
    refine Xa6 ?_
    exact q_k ⟨k1 + 1,Jeo hp1 hy (if_neg (by omega))⟩
   have hn1:=Jel hp1 (by omega)
   refine Jb6 (Jbk (Jcf (Ja6 (Jao (Jaa (Jaf ?_))))))
   refine Xan ?_
   exact q_k ⟨k0 + 1,Jdy hp0 (by omega) hn1⟩
  have hn0:=Je8 hp0 (by omega)
  have hrb:=Jrs (b:=b) rfl (by omega) hn0
  have hplb:PresOk b.low.l:=Jgb hrb.1
  have hphb:PresOk b.high.l:=Jgb hrb.2
  have hck:Jdb a s b A=((List.range a.mine.places.l.length).findSome? (Jcp a s b A)).getD 0:=by rw [Jdb,if_neg hc0,if_neg hff,if_neg (by omega),if_neg (by rw [hrb.1,hrb.2];simp)]
  refine qbk ?_
  refine Xbu ?_
  refine Jaq rfl (Jm9 a.mine _ _ hm.mineR hok.mine (Jh5 h0)) rfl ?_
  rintro v L' R' ⟨p,A2,S,rfl,hpk,hA2,hpl,rfl,rfl⟩
  obtain rfl:A=A2:=hAA.unique hA2
  have hfx:p.l.length=a.mine.places.l.length:=by rw [hpl,List.length_map];exact hAA.length
  have hm2:AirR a (S ++ R):=⟨hm.places.mono fun r h=>Jab (by simp [h]),hm.roads.mono fun r h=>Jab (by simp [h]),hm.fans.mono fun r h=>Jab (by simp [h]),hm.doors.mono fun r h=>Jab (by simp [h])⟩
  have hs2:SetR s (S ++ R):=⟨hs.fans.mono fun r h=>Jab (by simp [h]),hs.doors.mono fun r h=>Jab (by simp [h])⟩
  refine Xbn ?_
  refine Xap ?_
  refine Jaq rfl (Jr2 a s _ _ hm2 hs2 hok hfo) rfl ?_
  rintro v L' R' ⟨n,rfl,hn,rfl,rfl⟩
  have hpp:InR (Jjb n.pipes) (Jjb n.pipes :: Jik n.at_ :: (S ++ R)):=Jab (.head _)
  have haa:InR (Jik n.at_) (Jjb n.pipes :: Jik n.at_ :: (S ++ R)):=Jab (.tail _ (.head _))
  have hmp3:InR (psl a.mine.places) (Jjb n.pipes :: Jik n.at_ :: (S ++ R)):=hmp.mono fun r h=>Jab (by simp [h])
  have hbl3:InR (isl b.low) (Jjb n.pipes :: Jik n.at_ :: (S ++ R)):=hbl.mono fun r h=>Jab (by simp [h])
  have hbh3:InR (isl b.high) (Jjb n.pipes :: Jik n.at_ :: (S ++ R)):=hbh.mono fun r h=>Jab (by simp [h])
  refine qaq ?_
  intro b12
  refine Xbm ?_
  refine Xa7 ?_
  refine Xaz ?_
  refine Jai [(5,Value.pointer _),(11,Value.slice _ _ _),(12,Value.pointer _),(80,Value.slice _ _ _),(81,Value.int _ _),(82,Value.int _ _)] (by repeat' (first | exact trivial | refine And.intro rfl ?_)) fun tq2=>?_
  refine q_s [6,13,14,82,83,84,85,86,87,88,89,90,91,92,93,94,95,96,97,98,99,100,101,102,103,104,105,106,107,108,109,110,111,112,113,114,115,116,117,118,119,120,121,122,123] (fun g:FSR (Jcp a s b A) (a.mine.places.l.length)=>[(82,.int .i64 ((g.1:Nat):Int))]) (fun g=>(a.mine.places.l.length) - g.1) ⟨0,Je3 _ _⟩ ?_
  rintro ⟨k2,hk2,hp2⟩ junk
  try dsimp only
  refine Xay ?_
  refine q_c (fun hc6=>?_) (fun hc6=>?_)
  ·
   have hmg:=Jan (l:=a.mine.places.l) (k:=k2) default (by omega)
   have hpg:p.l[k2]?=some (!(A.getD k2 false)):=by
     have:=hAA.length
     rw [hpl,List.getElem?_map,Jan (l:=A) (k:=k2) false (by omega)];rfl
   have hlg:=Jan (l:=b.low.l) (k:=k2) 0 (by omega)
   have hhg:=Jan (l:=b.high.l) (k:=k2) 0 (by omega)
   refine Xb3 ?_
   refine J3v ?_
   refine Xdn ?_
   intro b14
   refine qad ?_
   refine Xc0 ?_
   refine qah ?_
   apply Jbw (G:=[_,_,_,_]) (j:=2) (cj:=89) rfl rfl (by rfl) rfl (show _=Value.bool _ from rfl) rfl
   ·
    intro hg3
    replace hg3:=qb hg3
    refine Xad ?_
    refine Ja2 (Jak tb (p) _ rfl rfl rfl rfl (by assumption) (i:=k2) (by first | rfl | omega | (simp;omega)) (by first | omega | (dsimp only;omega) | (dsimp only;rw [List.length_set];omega) | (dsimp only;simp only [List.length_set];omega))) rfl ?_
    refine Ja2 (Jaz tb (p) rfl rfl rfl (by repeat (first | apply OSeg.cons | exact OSeg.here | exact OSeg.last | exact OSeg.at (by assumption) | apply OSeg.app)) (by assumption) (fun _=>rfl) (by assumption) (by rfl)) rfl ?_
    exact qai
   intro junk3
   refine qaf ?_
   refine q_c (fun hc7=>?_) (fun hc7=>?_)
   ·
    have hnb:Jcp a s b A k2=if b.low.l.getD k2 0≠0∨b.high.l.getD k2 0≠0 then some 12 else none:=by rw [Jcp,if_pos (by simpa [or_comm] using hc7)]
    refine qae ?_
    refine Xak ?_
    refine J3v ?_
    refine qa7 ?_
    refine Xcp ?_
    apply Jbw (G:=[_,_,_,_,_,_]) (j:=6) (cj:=101) rfl rfl (by rfl) rfl (show _=Value.bool _ from rfl) rfl
    ·
     intro hg7
     replace hg7:=qb hg7
     refine Xak ?_
     refine J3v ?_
     refine qa7 ?_
     refine qbq ?_
     exact qai
    intro junk7
    refine qaf ?_
    refine q_c (fun hc8=>?_) (fun hc8=>?_)
    ·
     refine Xbv ?_
     refine q_i (L':=L) (R':=Jjb n.pipes :: Jik n.at_ :: (S ++ R)) ?_
     exact J3r
    refine Xa6 ?_
    exact q_k ⟨k2 + 1,Jdy hp2 (by omega) (hnb.trans (if_neg (by omega)))⟩
   have hnb:Jcp a s b A k2=if Jps a s b.high.l (k2:Int) < 0∨0 < Jg3 a s b.low.l (k2:Int) then some 12 else none:=by rw [Jcp,if_neg (by simpa [and_comm] using hc7)]
   refine qae ?_
   refine qbe ?_
   refine Xak ?_
   refine q_l rfl (Jqt n a s b.high _ _ _ hpp haa hbh3 hn hok hhn hphb (by omega)) ?_
   refine Xa9 ?_
   refine Jfl (k:=115) (show _=Value.bool _ from rfl) (fun hg7=>?_) (fun hg7=>?_)
   ·
    replace hg7:=qb hg7
    iterate 6 refine Jfv rfl rfl ?_
    refine Ja2 (by first | exact Jco rfl rfl | exact Jb9 rfl rfl | exact Je9 rfl) rfl ?_
    refine qaf ?_
    refine Jcu rfl ?_
    refine Xbv ?_
    refine q_i (L':=L) (R':=Jjb n.pipes :: Jik n.at_ :: (S ++ R)) ?_
    exact J3r
   replace hg7:=qb hg7
   refine Jct (Jbh (row:=[_,_]) tb rfl rfl rfl (by repeat (first | exact zi0 | apply zi1 | apply zi2)) (by rfl) (by rfl)) rfl rfl ?_
   refine Jct (Jcq tb rfl rfl rfl) rfl rfl ?_
   refine Jct (Jbo tb rfl rfl rfl (by repeat (first | exact zi0 | apply zi1 | apply zi2)) (by rfl)) rfl rfl ?_
   refine Jct (Jar (show _=Value.int _ _ from rfl)) rfl rfl ?_
   refine Jnf rfl (Jo4 n a s b.low _ _ _ hpp haa hbl3 hn hok hln hplb (by omega)) rfl rfl ?_
   rintro v L' R' ⟨rfl,rfl,rfl⟩
   refine Jct (Jlh rfl rfl) rfl rfl ?_
   refine Ja2 (by first | exact Jco rfl rfl | exact Jb9 rfl rfl | exact Je9 rfl) rfl ?_
   refine qaf ?_
   refine q_c (fun hc9=>?_) (fun hc9=>?_)
   ·
    refine Xbv ?_
    refine q_i (L':=L) (R':=Jjb n.pipes :: Jik n.at_ :: (S ++ R)) ?_
    exact J3r
   refine Xa6 ?_
   exact q_k ⟨k2 + 1,Jdy hp2 (by omega) (hnb.trans (if_neg (by omega)))⟩
  have hn2:=Je8 hp2 (by omega)
  refine Xcu ?_
  refine q_i (L':=L) (R':=Jjb n.pipes :: Jik n.at_ :: (S ++ R)) ?_
  exact ⟨[Jjb n.pipes,Jik n.at_] ++ S,by rw [hck,hn2];rfl,rfl,rfl⟩
end Go.Proofs.YtihompplndcdeaaGreat
end
section
/-
  What the flows are that bounds allow: the shared law of certify.Flows and ref11.Flows. By an AI agent; no person has read it.
-/
namespace Go.Proofs.YtihompplndcdeaaGreat
open Go.Aw Go
set_option maxRecDepth 20000
attribute [local irreducible] CJ LJ DJ Tri YV Gives Jd5 Jbd Jbz Jd4 RV Jbf OwL.L
def nothingS:XSpan:=⟨-1125899906842624,1125899906842624⟩
def Jb2 (a:XAir) (s:XSetting) (b:XBounds) (A:List Bool) (k:Nat):XSpan:=
  if (a.mine.roads.l.getD k default).closed=true then ⟨0,0⟩
  else if A.getD (a.mine.roads.l.getD k default).fr.toNat false=true then
    ⟨Jb3 (Jbr a s k) (b.low.l.getD (a.mine.roads.l.getD k default).fr.toNat 0 - b.high.l.getD (a.mine.roads.l.getD k default).to.toNat 0),
     Jbs (Jbr a s k) (b.high.l.getD (a.mine.roads.l.getD k default).fr.toNat 0 - b.low.l.getD (a.mine.roads.l.getD k default).to.toNat 0)⟩
  else nothingS
def Jb5 (a:XAir) (s:XSetting) (b:XBounds) (A:List Bool):List XSpan:=
  if Jdb a s b A=0 then (List.range a.mine.roads.l.length).map (Jb2 a s b A) else []
theorem Jnx (L:List Blk) (R:List Sl):
    Tri Tryz.prog 63 [].toArray L R (fun v L' R'=>v=nothingS.val∧L=L'∧R=R'):=by
  refine Jae 2 Tryz.call63 Tryz.func63 rfl rfl rfl ?_
  refine qae ?_
  refine qaq ?_
  intro b0
  refine qam ?_
  refine qcd ?_
  refine Xbh ?_
  refine q_r (L':=L) (R':=R) (Jdi rfl (Jax (row:=[_,_]) tb rfl rfl rfl (by repeat (first | exact zi0 | apply zi1 | apply zi2)) (by rfl) (by rfl))) ?_
  exact ⟨rfl,rfl,rfl⟩
end Go.Proofs.YtihompplndcdeaaGreat
end
section
/-
  ref11.Flows. By an AI agent; no person has read it.
-/
namespace Go.Proofs.YtihompplndcdeaaGreat
open Go.Aw Go
set_option maxRecDepth 20000
attribute [local irreducible] CJ LJ DJ Tri YV Gives Jd5 Jbd Jbz Jd4 RV Jbf OwL.L
section
variable {A9 B9:Prop}
theorem J3w (a:A9) (h:A9→B9:=by exact Jfo (Jav (qs:=[(0,(Value.agg _).cells.toList)]) (out:=[_,_]) tb rfl rfl rfl rfl rfl rfl rfl) rfl):B9:=h a
theorem J4c (a:A9) (h:A9→B9:=by exact Jfo (Jap (f:=XSpan.cells) (a:=⟨_,_⟩) tb rfl rfl rfl rfl (w2) (by repeat (first | apply OSeg.cons | exact OSeg.here | exact OSeg.last | exact OSeg.at (by assumption) | apply OSeg.app)) (Ja5 (by repeat (first | exact zi0 | apply zi1 | apply zi2)) rfl rfl) rfl (by first | omega | (simp only [List.length_cons,List.length_nil,List.length_append];omega))) rfl):B9:=h a
theorem J8x (a:A9) (h:A9→B9:=by exact Jca (Jbh (row:=[_,_]) tb rfl rfl rfl (by repeat (first | exact zi0 | apply zi1 | apply zi2)) (by rfl) (by rfl)) rfl rfl rfl rfl):B9:=h a
theorem J68 (a:A9) (h:A9→B9:=by exact Jca (by first | exact Jag tb rfl rfl rfl rfl (by first | assumption | exact zr (by simp)) (i:=(a.mine.roads.l.getD k default).fr.toNat) (by first | rfl | omega | (simp;omega)) (by omega) | exact Jal tb rfl rfl rfl rfl (i:=(a.mine.roads.l.getD k default).fr.toNat) (by first | rfl | omega | (simp;omega)) (by omega)) rfl rfl rfl rfl):B9:=h a
theorem J75 (a:A9) (h:A9→B9:=by exact Jca (by first | exact Jag tb rfl rfl rfl rfl (by first | assumption | exact zr (by simp)) (i:=(a.mine.roads.l.getD k default).to.toNat) (by first | rfl | omega | (simp;omega)) (by omega) | exact Jal tb rfl rfl rfl rfl (i:=(a.mine.roads.l.getD k default).to.toNat) (by first | rfl | omega | (simp;omega)) (by omega)) rfl rfl rfl rfl):B9:=h a
end
structure CheckOk (a:XAir) (s:XSetting) (b:XBounds):Prop where
  h0:Ja4 a=0
  hf:Jdq a s=true
  hl:b.low.l.length=a.mine.places.l.length
  hh:b.high.l.length=a.mine.places.l.length
  pl:PresOk b.low.l
  ph:PresOk b.high.l
theorem Jpb {a:XAir} {s:XSetting} {b:XBounds} {A:List Bool} (h:Jdb a s b A=0):CheckOk a s b:=by
  unfold Jdb at h
  split at h
  · rename_i h1;exact absurd h h1
  rename_i h1
  split at h
  · cases h
  rename_i h2
  split at h
  · cases h
  rename_i h3
  split at h
  · cases h
  rename_i h4
  refine ⟨by omega,by simpa using h2,by omega,by omega,Jgb ?_,Jgb ?_⟩
  · cases e:b.low.l.findSome? Jcb with
    | none=>rfl
    | some x=>exact absurd (.inl (by rw [e];rfl)) h4
  · cases e:b.high.l.findSome? Jcb with
    | none=>rfl
    | some x=>exact absurd (.inr (by rw [e];rfl)) h4
theorem Js9 (a:XAir) (s:XSetting) (b:XBounds) (A:List Bool) (L:List Blk) (R:List Sl) (hm:AirR a R) (hs:SetR s R) (hb:BoundsR b R) (hA:Ja4 a=0→AiryIs a.mine A):
    Tri Tryz.prog 62 [a.val,s.val,b.val].toArray L R (fun v L' R'=>∃p:OwL XSpan,v=p.val∧p.ok 2 XSpan.cells∧p.l=Jb5 a s b A∧p.L 46 XSpan.cells ++ L=L'∧R=R'):=by
  have hmr:=hm.roads
  have hbl:=hb.low
  have hbh:=hb.high
  refine Jae 84 Tryz.call62 Tryz.func62 rfl rfl rfl ?_
  refine Xai ?_
  intro b3
  refine qax ?_
  intro b4
  refine qax ?_
  intro b5
  refine Xa4 ?_
  refine Xck ?_
  refine q_l rfl (Ju7 a s b A _ _ hm hs hb hA) ?_
  refine Xaw ?_
  refine q_c (fun hc0=>?_) (fun hc0=>?_)
  ·
   refine Xd5 ?_
   refine qbh ?_
   refine q_r (L':=L) (R':=R) (Jdi rfl (Jah (show _=Value.slice _ _ _ from rfl))) ?_
   exact ⟨OwL.nil,rfl,OwL.nil_ok,by rw [Jb5,if_neg hc0],by rw [Jcl,List.nil_append],rfl⟩
  have hck:Jdb a s b A=0:=by omega
  have hC:=Jpb hck
  have hok:=Jeg hC.h0
  have hfo:=Je4 hC.hf
  have hAA:=hA hC.h0
  have hnr:=hok.mine.roads
  have hln:=hC.hl
  have hhn:=hC.hh
  refine qbv ?_
  refine Xbu ?_
  refine Jaq rfl (Jrb a.mine _ _ hm.mineR hok.mine) rfl ?_
  rintro v L' R' ⟨p,rfl,hpk,hA2,rfl,rfl⟩
  have hpA:p.l=A:=hA2.unique hAA
  have hAl:=hAA.length
  refine qc4 ?_
  refine qa4 ?_
  refine Jg1 fun c w hst=>⟨_,_,hst.perm List.perm_append_comm,?_⟩
  refine qay ?_
  refine Xc9 ?_
  refine Jai [(3,Value.pointer _),(4,Value.pointer _),(5,Value.pointer _),(7,Value.slice _ _ _),(8,Value.slice _ _ _),(9,Value.int _ _)] (by repeat' (first | exact trivial | refine And.intro rfl ?_)) fun tq0=>?_
  refine Jb0 [8,9,10,11,20,21,22,23,24,25,26,27,28,29,30,31,32,33,34,35,36,37,38,39,40,41,42,43,44,45,46,47,48,49,50,51,52,53,54,55,56,57,58,59,60,61,62,63,64,65,66,67,68,69,70,71,72,73,74,75,76,77,78,79,80,81,82] ((⟨fun q=>[(9,.int .i64 ((q.1.1:Nat):Int)),(8,q.1.2.val)],fun q=>q.1.2.L 46 XSpan.cells ++ (p.L 4 blc ++ (⟨b5,b.cells,114⟩ :: ⟨b4,s.cells,25⟩ :: ⟨b3,a.cells,35⟩ :: L)),fun _=>R,fun q=>a.mine.roads.l.length - q.1.1⟩:Head {q:Nat×OwL XSpan // q.1≤a.mine.roads.l.length∧q.2.ok 2 XSpan.cells∧q.2.l=(List.range q.1).map (Jb2 a s b A)})) (⟨(0,OwL.nil),by dsimp only;omega,OwL.nil_ok,rfl⟩) (by repeat' (first | exact trivial | refine And.intro rfl ?_)) (by dsimp only;rw [Jcl,List.nil_append];exact List.Sublist.refl _) (Jac _) ?_
  rintro ⟨⟨k,q⟩,w1,w2,w3⟩ junk
  try dsimp only
  dsimp only at w1 w2 w3
  refine Xaq ?_
  refine Xa7 ?_
  refine Xao ?_
  refine q_c (fun hc1=>?_) (fun hc1=>?_)
  ·
   have hr:=Jan (l:=a.mine.roads.l) (k:=k) default (by omega)
   have hro:=hok.mine.road _ _ hr
   have hr1:=hro.fr
   have hr2:=hro.to
   have hql:q.l.length=k:=by rw [w3];simp
   have hpg:p.l[(a.mine.roads.l.getD k default).fr.toNat]?=some (A.getD (a.mine.roads.l.getD k default).fr.toNat false):=by rw [hpA];exact Jan _ (by omega)
   have hpl:p.l.length=a.mine.places.l.length:=by rw [hpA];exact hAl
   have g1:=Jan (l:=b.low.l) (k:=(a.mine.roads.l.getD k default).fr.toNat) 0 (by omega)
   have g2:=Jan (l:=b.low.l) (k:=(a.mine.roads.l.getD k default).to.toNat) 0 (by omega)
   have g3:=Jan (l:=b.high.l) (k:=(a.mine.roads.l.getD k default).fr.toNat) 0 (by omega)
   have g4:=Jan (l:=b.high.l) (k:=(a.mine.roads.l.getD k default).to.toNat) 0 (by omega)
   have e1:=hC.pl.get (a.mine.roads.l.getD k default).fr.toNat
   have e2:=hC.pl.get (a.mine.roads.l.getD k default).to.toNat
   have e3:=hC.ph.get (a.mine.roads.l.getD k default).fr.toNat
   have e4:=hC.ph.get (a.mine.roads.l.getD k default).to.toNat
   refine qbb ?_
   refine Xd3 ?_
   refine Ja2 (by first | exact Jag tb rfl rfl rfl rfl (by first | assumption | exact zr (by simp)) (i:=k) (by first | rfl | omega | (simp;omega)) (by omega) | exact Jal tb rfl rfl rfl rfl (i:=k) (by first | rfl | omega | (simp;omega)) (by omega)) rfl ?_
   refine Xda ?_
   intro b10
   refine Xbf ?_
   refine qck ?_
   refine qaq ?_
   intro b11
   refine Xct ?_
   refine Xbc ?_
   refine q_c (fun hc2=>?_) (fun hc2=>?_)
   ·
    refine qae ?_
    refine q_l rfl (Jnx _ _) ?_
    refine Xbf ?_
    refine Xcw ?_
    refine Ja2 (Jak tb (p) _ rfl rfl rfl rfl (by assumption) (i:=(a.mine.roads.l.getD k default).fr.toNat) (by first | rfl | omega | (simp;omega)) (by first | omega | (dsimp only;omega) | (dsimp only;rw [List.length_set];omega) | (dsimp only;simp only [List.length_set];omega))) rfl ?_
    refine Ja2 (Jaz tb (p) rfl rfl rfl (by repeat (first | apply OSeg.cons | exact OSeg.here | exact OSeg.last | exact OSeg.at (by assumption) | apply OSeg.app)) (by assumption) (fun _=>rfl) (by assumption) (by rfl)) rfl ?_
    refine qaf ?_
    refine q_c (fun hc3=>?_) (fun hc3=>?_)
    ·
     have hrf:Jb2 a s b A k=⟨Jb3 (Jbr a s k) (b.low.l.getD (a.mine.roads.l.getD k default).fr.toNat 0 - b.high.l.getD (a.mine.roads.l.getD k default).to.toNat 0),Jbs (Jbr a s k) (b.high.l.getD (a.mine.roads.l.getD k default).fr.toNat 0 - b.low.l.getD (a.mine.roads.l.getD k default).to.toNat 0)⟩:=by rw [Jb2,if_neg (by simpa using hc2),if_pos (by simpa using hc3)]
     refine Ja8 tb [] [0,1,2,3,4,5,6,7,8,9,10,11,12,13,14,15,17,18,19,20,21,22,23,24,25,26,27,28,29,30,31,32,16,33,34] [35] ([Blk.mk b11 _ _,Blk.mk b10 _ _,Blk.mk b5 _ _,Blk.mk b4 _ _,Blk.mk b3 _ _]) _ Jbn (by kernel_rfl) (by repeat (first | exact zs0 _ | exact zs1 _ | apply zs2 | apply zs3 | apply zs4 | apply zs5)) (by (repeat (first | apply List.Sublist.cons (a:=Blk.mk b11 _ _) | apply List.Sublist.cons_cons));exact List.Sublist.refl _) ?_
     refine qde ?_
     refine J8x ?_
     refine qbf ?_
     refine Xde ?_
     refine J68 ?_
     refine qci ?_
     refine Xde ?_
     refine J75 ?_
     refine qci ?_
     refine qcc ?_
     refine qde ?_
     refine J8x ?_
     refine qbf ?_
     refine Xde ?_
     refine J68 ?_
     refine qci ?_
     refine Xde ?_
     refine J75 ?_
     refine qci ?_
     refine qcc ?_
     refine Jbl rfl (Ji7 a s _ _ _ _ hm hs hok hfo (by omega)) rfl rfl ?_
     rintro v L' R' ⟨rfl,rfl,rfl⟩
     refine qas ?_
     refine Jbl rfl (Jh2 a s _ _ _ _ hm hs hok hfo (by omega)) rfl rfl ?_
     rintro v L' R' ⟨rfl,rfl,rfl⟩
     refine qas ?_
     refine qcw ?_
     refine qba ?_
     refine qbg ?_
     refine Jbt (Jaa (Jaf ?_))
     refine qbm ?_
     refine qbe ?_
     refine J3w ?_
     rintro v L' R' ⟨b81,rfl,rfl,hR81⟩
     replace hR81:=hR81.symm;subst hR81
     refine J4c ?_
     rintro v L' R' ⟨o82,rfl,hok82,rfl,rfl⟩
     refine Xcd ?_
     exact q_k ⟨(k + 1,(⟨o82,_⟩:OwL XSpan)),by dsimp only;omega,hok82,by dsimp only;rw [List.range_succ,List.map_append,w3];simp only [List.map_cons,List.map_nil,hrf];try rfl⟩
    have hrf:Jb2 a s b A k=nothingS:=by rw [Jb2,if_neg (by simpa using hc2),if_neg (by simpa using hc3)]
    refine Ja3 (Jaa (Jaf ?_))
    refine qbm ?_
    refine qbe ?_
    refine J3w ?_
    rintro v L' R' ⟨b81,rfl,rfl,hR81⟩
    replace hR81:=hR81.symm;subst hR81
    refine J4c ?_
    rintro v L' R' ⟨o82,rfl,hok82,rfl,rfl⟩
    refine Xcd ?_
    exact q_k ⟨(k + 1,(⟨o82,_⟩:OwL XSpan)),by dsimp only;omega,hok82,by dsimp only;rw [List.range_succ,List.map_append,w3];simp only [List.map_cons,List.map_nil,hrf];try rfl⟩
   have hrf:Jb2 a s b A k=⟨0,0⟩:=by rw [Jb2,if_pos (by simpa using hc2)]
   refine Ja3 (Jaa (Jaf ?_))
   refine qbm ?_
   refine qbe ?_
   refine J3w ?_
   rintro v L' R' ⟨b81,rfl,rfl,hR81⟩
   replace hR81:=hR81.symm;subst hR81
   refine J4c ?_
   rintro v L' R' ⟨o82,rfl,hok82,rfl,rfl⟩
   refine Xcd ?_
   exact q_k ⟨(k + 1,(⟨o82,_⟩:OwL XSpan)),by dsimp only;omega,hok82,by dsimp only;rw [List.range_succ,List.map_append,w3];simp only [List.map_cons,List.map_nil,hrf];try rfl⟩
  obtain rfl:k=a.mine.roads.l.length:=by omega
  refine Xb5 ?_
  refine q_r (L':=q.L 46 XSpan.cells ++ L) (R':=R) (Jdi rfl (Jah (show _=Value.slice _ _ _ from rfl))) ?_
  exact ⟨q,rfl,w2,by rw [Jb5,if_pos hck];exact w3,rfl,rfl⟩
end Go.Proofs.YtihompplndcdeaaGreat
end
section
/-
  Bounds that are accepted hold the state that fits: the law of comparison. By an AI agent; no person has read it.
-/
namespace Go.Proofs.YtihompplndcdeaaGreat
open Go.Aw Go
structure Accept (a:XAir) (s:XSetting) (b:XBounds) (A:List Bool):Prop where
  ck:CheckOk a s b
  fix:∀i:Nat,i < a.mine.places.l.length→(!(A.getD i false) || (a.mine.places.l.getD i default).surface)=true→b.low.l.getD i 0=0∧b.high.l.getD i 0=0
  net:∀i:Nat,i < a.mine.places.l.length→¬ (!(A.getD i false) || (a.mine.places.l.getD i default).surface)=true→0≤Jps a s b.high.l (i:Int)∧Jg3 a s b.low.l (i:Int)≤0
theorem Jmt {a:XAir} {s:XSetting} {b:XBounds} {A:List Bool} (h:CheckOk a s b):Jdb a s b A=((List.range a.mine.places.l.length).findSome? (Jcp a s b A)).getD 0:=by
  have h1:=h.hl
  have h2:=h.hh
  rw [Jdb,if_neg (by rw [h.h0];decide),if_neg (by rw [h.hf];decide),if_neg (by omega),if_neg (by rw [Jj5 h.pl,Jj5 h.ph];simp)]
theorem Jr5 (a:XAir) (s:XSetting) (b:XBounds) (A:List Bool) (i:Nat):Jcp a s b A i=none∨Jcp a s b A i=some 12:=by
  unfold Jcp
  split
  · split
    · exact .inr rfl
    · exact .inl rfl
  · split
    · exact .inr rfl
    · exact .inl rfl
theorem Jqn {a:XAir} {s:XSetting} {b:XBounds} {A:List Bool}:Jdb a s b A=0↔Accept a s b A:=by
  have node:∀i,Jcp a s b A i=none↔((!(A.getD i false) || (a.mine.places.l.getD i default).surface)=true→b.low.l.getD i 0=0∧b.high.l.getD i 0=0)∧(¬ (!(A.getD i false) || (a.mine.places.l.getD i default).surface)=true→0≤Jps a s b.high.l (i:Int)∧Jg3 a s b.low.l (i:Int)≤0):=fun i=>by
    unfold Jcp
    by_cases h1:(!(A.getD i false) || (a.mine.places.l.getD i default).surface)=true
    · rw [if_pos h1]
      refine ⟨fun h=>⟨fun _=>?_,fun h'=>absurd h1 h'⟩,fun h=>if_neg (by have:=h.1 h1;omega)⟩
      split at h
      · cases h
      · omega
    · rw [if_neg h1]
      refine ⟨fun h=>⟨fun h'=>absurd h' h1,fun _=>?_⟩,fun h=>if_neg (by have:=h.2 h1;omega)⟩
      split at h
      · cases h
      · omega
  constructor
  · intro h
    have hC:=Jpb h
    rw [Jmt hC] at h
    have hn:(List.range a.mine.places.l.length).findSome? (Jcp a s b A)=none:=by
      cases e:(List.range a.mine.places.l.length).findSome? (Jcp a s b A) with
      | none=>rfl
      | some v=>
        obtain ⟨i,_,hi⟩:=List.exists_of_findSome?_eq_some e
        rcases Jr5 a s b A i with h1 | h1
        · rw [h1] at hi;cases hi
        · rw [h1] at hi;cases hi;rw [e] at h;cases h
    rw [List.findSome?_eq_none_iff] at hn
    exact ⟨hC,fun i hi=>((node i).1 (hn i (List.mem_range.2 hi))).1,fun i hi=>((node i).1 (hn i (List.mem_range.2 hi))).2⟩
  · intro h
    rw [Jmt h.ck,List.findSome?_eq_none_iff.2 (fun i hi=>(node i).2 ⟨h.fix i (List.mem_range.1 hi),h.net i (List.mem_range.1 hi)⟩)]
    rfl
end Go.Proofs.YtihompplndcdeaaGreat
end
