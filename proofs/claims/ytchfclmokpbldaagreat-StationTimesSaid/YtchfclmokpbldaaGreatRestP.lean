import Derived.Test.YtchfclmokpbldaaGreatWinR
import Derived.Test.YtchfclmokpbldaaGreatRule
import Derived.Test.YtchfclmokpbldaaGreatAnal
set_option linter.unusedVariables false
set_option linter.unusedSimpArgs false
section
/-
  Sites and their errors: cutoff.Check, cutoff.Known, and what is known of a fan. By an AI agent; no person has read it.
-/
namespace Go.Proofs.YtchfclmokpbldaaGreat
open Go.Aw Go
set_option maxRecDepth 20000
attribute [local irreducible] CJ LJ DJ Tri YV Gives Jcj Ja1 Jbg Jci RV Ja2 OwL.L
section
variable {A9 B9:Prop}
theorem J9m (a:A9) (h:A9→B9:=by exact Jax (Jal (row:=[_,_,_,_,_,_,_,_]) tb rfl rfl rfl zf zb zb) rfl):B9:=h a
theorem Kcy (h:B9:=by exact ⟨by rw [Jb1,if_neg za,if_neg za,if_neg za,if_neg za,if_neg za,e],rfl,rfl⟩):B9:=h
theorem Kbr (a:A9) (h:A9→B9:=by exact Jbv zZa rfl rfl rfl rfl):B9:=h a
end
theorem Jzo {e:Int} (h:e=0):nzO e=none:=by rw [nzO,if_pos h]
theorem Jtl {e:Int} (h:e≠0):nzO e=some e:=by rw [nzO,if_neg h]
abbrev Kb7 (s:XSite):XCond→Option Int:=fun c=>nzO (Jbn s.sensors.l s.air.mine.roads.l.length c)
abbrev Kas (s:XSite):XZone→Option Int:=fun z=>nzO (Jd6 s.conds.l.length s.air.mine.roads.l.length z)
abbrev J5u:Int→Option Int:=fun p=>if p < 1∨3 < p then some 19 else none
theorem Jgp (s:XSite) (L:List Blk) (R:List Sl) (hs:SiteR s R):
    Tri Tryz.prog 74 [s.val].toArray L R (fun v L' R'=>v=.int .i64 (Jb1 s)∧L=L'∧R=R'):=by
  have hsR:=hs.sensors
  have hcR:=hs.conds
  have hzR:=hs.zones
  have hpR:=hs.persons
  refine Jad 90 Tryz.call74 Tryz.func74 rfl rfl rfl ?_
  refine Xaf ?_
  intro b1
  refine Xas ?_
  refine qab ?_
  refine qa8 ?_
  refine q_l rfl (Je4 s.air _ _ hs.air) ?_
  refine Xa9 ?_
  refine q_c (fun hc0=>?_) (fun hc0=>?_)
  ·
   refine Xdl ?_
   refine q_i (L':=L) (R':=R) ?_
   exact ⟨by rw [Jb1,if_pos hc0],rfl,rfl⟩
  refine qbo ?_
  refine Xcu ?_
  refine qah ?_
  apply Ja7 (G:=[_,_,_,_]) (j:=4) (cj:=23) rfl rfl zb rfl (show _=Value.bool _ from rfl) rfl
  ·
   intro hg5
   replace hg5:=qb hg5
   refine Xcu ?_
   exact qai
  intro junk5
  refine qah ?_
  apply Ja7 (G:=[_,_,_,_]) (j:=10) (cj:=29) rfl rfl zb rfl (show _=Value.bool _ from rfl) rfl
  ·
   intro hg11
   replace hg11:=qb hg11
   refine Xcu ?_
   exact qai
  intro junk11
  refine qah ?_
  apply Ja7 (G:=[_,_,_,_]) (j:=16) (cj:=35) rfl rfl zb rfl (show _=Value.bool _ from rfl) rfl
  ·
   intro hg17
   replace hg17:=qb hg17
   refine Xcu ?_
   exact qai
  intro junk17
  refine qaf ?_
  refine q_c (fun hc1=>?_) (fun hc1=>?_)
  ·
   refine Xa7 ?_
   refine q_i (L':=L) (R':=R) ?_
   exact ⟨by rw [Jb1,if_neg za,if_pos za],rfl,rfl⟩
  refine qbo ?_
  refine J9m ?_
  refine q_l rfl (Jnp s _ _ hsR za) ?_
  refine Xa9 ?_
  refine q_c (fun hc2=>?_) (fun hc2=>?_)
  ·
   refine Xdl ?_
   refine q_i (L':=L) (R':=R) ?_
   exact ⟨by rw [Jb1,if_neg za,if_neg za,if_pos hc2],rfl,rfl⟩
  refine Xcm ?_
  refine Jan [(1,Value.pointer _),(47,Value.slice _ _ _),(48,Value.int _ _),(49,Value.int _ _)] zh fun tq0=>?_
  refine q_s [2,6,7,49,50,51,52,53,54,55,56,57,58,59] (fun g:FS (Kb7 s) (s.conds.l)=>[(49,.int .i64 ((g.1:Nat):Int))]) (fun g=>(s.conds.l).length - g.1) ⟨0,Jgx _ _⟩ ?_
  rintro ⟨k0,hk0,hp0⟩ junk
  try dsimp only
  refine Xak ?_
  refine q_c (fun hc3=>?_) (fun hc3=>?_)
  ·
   obtain ⟨c,hc⟩:=Jbr (l:=s.conds.l) (k:=k0) za
   refine qbb ?_
   refine Jax zX rfl ?_
   refine Jax zVa rfl ?_
   refine qaq ?_
   intro b6
   refine Xa2 ?_
   refine J9m ?_
   refine Jax (Jal (row:=[_,_,_,_,_,_]) tb rfl rfl rfl zf zb zb) rfl ?_
   refine q_l rfl (Jso s c _ _ hsR za) ?_
   refine Xa9 ?_
   refine q_c (fun hc4=>?_) (fun hc4=>?_)
   ·
    refine Xdj ?_
    refine qbt ?_
    refine q_i (L':=L) (R':=R) ?_
    have e:Jgr s=Jbn s.sensors.l s.air.mine.roads.l.length c:=by rw [Jgr,Jep (f:=Kb7 s) hp0 hc (Jtl hc4)];rfl
    exact ⟨by rw [Jb1,if_neg za,if_neg za,if_neg za,if_pos (by rw [e];exact hc4),e],rfl,rfl⟩
   refine Xay ?_
   exact q_k ⟨k0 + 1,Jge hp0 hc (Jzo za)⟩
  have hn0:=Jgf hp0 za
  refine Jcc (Jbt (Jco (Jbb (Jab (Jam (Jam ?_))))))
  have hce:Jgr s=0:=by rw [Jgr,hn0];rfl
  refine qay ?_
  refine Xaw ?_
  refine Jan [(1,Value.pointer _),(61,Value.slice _ _ _),(62,Value.int _ _),(63,Value.int _ _)] zh fun tq1=>?_
  refine q_s [2,9,10,63,64,65,66,67,68,69,70,71,72,73] (fun g:FS (Kas s) (s.zones.l)=>[(63,.int .i64 ((g.1:Nat):Int))]) (fun g=>(s.zones.l).length - g.1) ⟨0,Jgx _ _⟩ ?_
  rintro ⟨k1,hk1,hp1⟩ junk
  try dsimp only
  refine Xak ?_
  refine q_c (fun hc5=>?_) (fun hc5=>?_)
  ·
   obtain ⟨z,hz⟩:=Jbr (l:=s.zones.l) (k:=k1) za
   refine qbb ?_
   refine Jax zIa rfl ?_
   refine Xc5 ?_
   intro b9
   refine Xa2 ?_
   refine J9m ?_
   refine qa8 ?_
   refine q_l rfl (Jsq s z _ _ (InR.rule hzR hz) (InR.zroads hzR hz)) ?_
   refine Xa9 ?_
   refine q_c (fun hc6=>?_) (fun hc6=>?_)
   ·
    refine Xdj ?_
    refine qbt ?_
    refine q_i (L':=L) (R':=R) ?_
    have e:Jee s=Jd6 s.conds.l.length s.air.mine.roads.l.length z:=by rw [Jee,Jep (f:=Kas s) hp1 hz (Jtl hc6)];rfl
    exact ⟨by rw [Jb1,if_neg za,if_neg za,if_neg za,if_neg za,if_pos (by rw [e];exact hc6),e],rfl,rfl⟩
   refine Xay ?_
   exact q_k ⟨k1 + 1,Jge hp1 hz (Jzo za)⟩
  have hn1:=Jgf hp1 za
  refine Jcc (Jbt (Jco (Jbb (Jab (Jam (Jam ?_))))))
  have hze:Jee s=0:=by rw [Jee,hn1];rfl
  refine qay ?_
  refine Xaw ?_
  refine Jan [(75,Value.slice _ _ _),(76,Value.int _ _),(77,Value.int _ _)] zh fun tq2=>?_
  refine q_s [2,12,77,78,79,80,81,82,83,84,85,86,87,88,89] (fun g:FS (J5u) (s.persons.l)=>[(77,.int .i64 ((g.1:Nat):Int))]) (fun g=>(s.persons.l).length - g.1) ⟨0,Jgx _ _⟩ ?_
  rintro ⟨k2,hk2,hp2⟩ junk
  try dsimp only
  refine Xak ?_
  refine q_c (fun hc7=>?_) (fun hc7=>?_)
  ·
   obtain ⟨p,hp⟩:=Jbr (l:=s.persons.l) (k:=k2) za
   refine qbb ?_
   refine Jax zJa rfl ?_
   refine Jax (by first | exact Jbo (row:=[_]) tb rfl rfl rfl zt zg zb zb | exact Jal (row:=[_]) tb rfl rfl rfl zf zb zb) rfl ?_
   refine qaq ?_
   intro b12
   refine Xa2 ?_
   refine Xbi ?_
   apply Ja7 (G:=[_,_,_]) (j:=3) (cj:=84) rfl rfl zb rfl (show _=Value.bool _ from rfl) rfl
   ·
    intro hg4
    replace hg4:=qb hg4
    refine Xbg ?_
    exact qai
   intro junk4
   refine qaf ?_
   refine q_c (fun hc8=>?_) (fun hc8=>?_)
   ·
    refine Xby ?_
    refine q_i (L':=L) (R':=R) ?_
    have e:Jfw s=19:=by rw [Jfw,Jep (f:=J5u) hp2 hp (show J5u p=some 19 from if_pos hc8)];rfl
    exact Kcy
   refine Xay ?_
   exact q_k ⟨k2 + 1,Jge hp2 hp (show J5u p=none from if_neg za)⟩
  have hn2:=Jgf hp2 za
  refine Xb9 ?_
  refine q_i (L':=L) (R':=R) ?_
  have e:Jfw s=0:=by rw [Jfw,hn2];rfl
  exact Kcy
theorem Jub (s:XSite) (m:Arr XMeas) (n t:Int) (L:List Blk) (R:List Sl) (hs:InR (J05 s.sensors) R) (hm:InR (Jde m) R) (hok:∀x∈m.l,Jhj x) (ht:0≤t∧t≤2147483648):
    Tri Tryz.prog 103 [s.val,m.val,.int .i64 n,.int .i64 t].toArray L R (fun v L' R'=>v=(Jew s.sensors.l m.l n t).val∧L=L'∧R=R'):=by
  refine Jad 42 Tryz.call103 Tryz.func103 rfl rfl rfl ?_
  refine Xaf ?_
  intro b4
  refine qaq ?_
  intro b8
  refine qaw ?_
  refine qaa ?_
  refine Xab ?_
  refine q_l rfl (Jgi n (s.sensors.l.length:Int) _ _) ?_
  refine Xcl ?_
  apply Ja7 (G:=[_,_,_,_]) (j:=6) (cj:=15) rfl rfl zb rfl (show _=Value.bool _ from rfl) rfl
  ·
   intro hg7
   replace hg7:=qb hg7
   refine qaa ?_
   refine Xao ?_
   refine qbz ?_
   exact qai
  intro junk7
  refine qah ?_
  apply Ja7 (G:=[_,_,_,_,_,_,_]) (j:=12) (cj:=21) rfl rfl zb rfl (show _=Value.bool _ from rfl) rfl
  ·
   intro hg13
   replace hg13:=qb hg13
   have hmg:=Jau (l:=m.l) (k:=n.toNat) default (by (try simp at hg13);omega)
   refine Xau ?_
   have hnn:0≤n∧n < m.l.length:=by (try simp at hg13);omega
   refine Jax zZa rfl ?_
   refine Xb4 ?_
   refine qaa ?_
   refine qbq ?_
   exact qai
  intro junk13
  refine qaf ?_
  refine q_c (fun hc0=>?_) (fun hc0=>?_)
  ·
   refine qae ?_
   refine q_l rfl (Jb5 _ _) ?_
   refine qak ?_
   refine qbh ?_
   refine q_r (L':=L) (R':=R) (Jec rfl (Jao (row:=[_,_]) tb rfl rfl rfl zf zb zb)) ?_
   exact ⟨by rw [Jew,if_neg za],rfl,rfl⟩
  have hmg:=Jau (l:=m.l) (k:=n.toNat) default za
  have hsg:=Jau (l:=s.sensors.l) (k:=n.toNat) default za
  have hmo:=hok _ (List.mem_of_getElem? hmg)
  refine qcl ?_
  refine Jbk tb [] [0,1,2,3,4,5,6,7,8,9,10] [11] ([Blk.mk b8 _ _,Blk.mk b4 _ _]) _ Jby zc zi (by (repeat (first | apply List.Sublist.cons (a:=Blk.mk b8 _ _) | apply List.Sublist.cons_cons));exact List.Sublist.refl _) ?_
  refine Xc6 ?_
  refine Kbr ?_
  refine Jbv zW rfl rfl rfl rfl ?_
  refine Xc7 ?_
  refine Kbr ?_
  refine Jbv zsa rfl rfl rfl rfl ?_
  refine qbf ?_
  refine Jdf rfl (J60 _ _ t _ _ hmo ht) rfl rfl ?_
  rintro v L' R' ⟨rfl,rfl,rfl⟩
  refine ⟨zi,zx,?_⟩
  refine Xc8 ?_
  refine Jaz (Jab (Jcq ?_))
  refine q_r (L':=L) (R':=R) (Jec rfl (Jao (row:=[_,_]) tb rfl rfl rfl zf zb zb)) ?_
  exact ⟨by rw [Jew,if_pos za],rfl,rfl⟩
theorem Jw1 (x:XSpan) (L:List Blk) (R:List Sl):
    Tri Tryz.prog 231 [x.val].toArray L R (fun v L' R'=>v=.int .i64 (Jhb x)∧L=L'∧R=R'):=by
  refine Jad 27 Tryz.call231 Tryz.func231 rfl rfl rfl ?_
  refine Xaf ?_
  intro b1
  refine qad ?_
  refine Ja6 (Jab (Jam (Jbd (Jam (Jah ?_)))))
  refine Xa1 ?_
  refine qa5 ?_
  refine Xap ?_
  refine q_c (fun hc0=>?_) (fun hc0=>?_)
  ·
   refine Xa8 ?_
   refine q_i (L':=L) (R':=R) ?_
   exact ⟨by refine congrArg (Value.int .i64) ?_;rw [Jhb];(repeat' split) <;> omega,rfl,rfl⟩
  refine Xb3 ?_
  refine Xb7 ?_
  apply Jb7 (G:=[_,_,_]) (j:=3) (cj:=13) rfl rfl zb rfl (show _=Value.bool _ from rfl) rfl
  ·
   intro hg4
   replace hg4:=qb hg4
   refine Xaa ?_
   refine qbn ?_
   exact qai
  intro junk4
  refine Xap ?_
  refine q_c (fun hc1=>?_) (fun hc1=>?_)
  ·
   refine Xa8 ?_
   refine q_i (L':=L) (R':=R) ?_
   exact ⟨by refine congrArg (Value.int .i64) ?_;rw [Jhb];(repeat' split) <;> omega,rfl,rfl⟩
  refine qae ?_
  refine Xbg ?_
  refine qah ?_
  apply Ja7 (G:=[_,_,_]) (j:=3) (cj:=22) rfl rfl zb rfl (show _=Value.bool _ from rfl) rfl
  ·
   intro hg4
   replace hg4:=qb hg4
   refine Xcg ?_
   exact qai
  intro junk4
  refine Xap ?_
  refine q_c (fun hc2=>?_) (fun hc2=>?_)
  ·
   refine Xa8 ?_
   refine q_i (L':=L) (R':=R) ?_
   exact ⟨by refine congrArg (Value.int .i64) ?_;rw [Jhb];(repeat' split) <;> omega,rfl,rfl⟩
  refine Ja4 (Jag (Jab (Jam (Jah ?_))))
  refine Xah ?_
  refine q_i (L':=L) (R':=R) ?_
  exact ⟨by refine congrArg (Value.int .i64) ?_;rw [Jhb];(repeat' split) <;> omega,rfl,rfl⟩
theorem J6q (c:XCond) (w:XWatch) (x:XSpan) (L:List Blk) (R:List Sl):
    Tri Tryz.prog 229 [c.val,w.val,x.val].toArray L R (fun v L' R'=>v=.int .i64 (if w.over=false then -1 else if Jfi x c.level.cut=1 then 1 else 0)∧L=L'∧R=R'):=by
  refine Jad 18 Tryz.call229 Tryz.func229 rfl rfl rfl ?_
  refine Xaf ?_
  intro b3
  refine qax ?_
  intro b4
  refine qax ?_
  intro b5
  refine qad ?_
  refine Ja6 (Jab (Jam (Jbd (Jam (Jah ?_)))))
  refine Xaa ?_
  refine qb4 ?_
  refine Xap ?_
  refine q_c (fun hc0=>?_) (fun hc0=>?_)
  ·
   refine Xa8 ?_
   refine q_i (L':=L) (R':=R) ?_
   exact ⟨by rw [if_pos zE],rfl,rfl⟩
  refine qae ?_
  refine qbe ?_
  refine Xcn ?_
  refine q_l rfl (Jod x c.level.cut _ _) ?_
  refine Xaz ?_
  refine q_c (fun hc1=>?_) (fun hc1=>?_)
  ·
   refine Xa8 ?_
   refine q_i (L':=L) (R':=R) ?_
   exact ⟨by rw [if_neg zE,if_pos hc1],rfl,rfl⟩
  refine Ja4 (Jag (Jab (Jam (Jah ?_))))
  refine Xah ?_
  refine q_i (L':=L) (R':=R) ?_
  exact ⟨by rw [if_neg zE,if_neg hc1],rfl,rfl⟩
end Go.Proofs.YtchfclmokpbldaaGreat
end
section
/-
  The value of a rule: rule.Eval. By an AI agent; no person has read it.
-/
namespace Go.Proofs.YtchfclmokpbldaaGreat
open Go.Aw Go
set_option maxRecDepth 20000
attribute [local irreducible] CJ LJ DJ Tri YV Gives Jcj Ja1 Jbg Jci RV Ja2 OwL.L
section
variable {A9 B9:Prop}
theorem J4w (a:A9) (h:A9→B9:=by exact Jbv (Jbj tb ((⟨.own b13 l.l.length [],vs⟩:OwL Int)) rfl rfl rfl zk zg (fun _=>rfl) zg zb) rfl rfl rfl rfl):B9:=h a
theorem J8p (a:A9) (h:A9→B9:=by exact Jax (by first | exact Jae tb rfl rfl rfl rfl zt (i:=x.cond.toNat) zj za | exact Jak tb rfl rfl rfl rfl (i:=x.cond.toNat) zj za) rfl):B9:=h a
theorem Kcb (a:A9) (h:A9→B9:=by exact Jax (Jat tb ((⟨.own b13 l.l.length [],vs⟩:OwL Int)) _ rfl rfl ((show _=Value.slice _ _ _ from rfl).trans (Jcs hvl)) rfl zg (i:=k) zj zu) rfl):B9:=h a
theorem Kb9 (a:A9) (h:A9→B9:=by exact Jax (Jbj tb ((⟨.own b13 l.l.length [],vs⟩:OwL Int)) rfl rfl rfl zk zg (fun _=>rfl) zg zb) rfl):B9:=h a
theorem Kbd (a:A9) (h:A9→B9:=by exact Jbk tb [] [0,1,2,3,4,5,6,7,8,9,10,11,12,13] [14] ((⟨b7,XNode.cells x,172⟩ :: ((⟨.own b13 l.l.length [],vs⟩:OwL Int).L 3 Jap ++ []))) _ Jby zc zi (List.nil_sublist _)):B9:=h a
theorem Kap (a:A9) (h:A9→B9:=by exact Jbv (Jat tb ((⟨.own b13 l.l.length [],vs⟩:OwL Int)) _ rfl rfl ((show _=Value.slice _ _ _ from rfl).trans (Jcs hvl)) rfl zg (i:=x.left.toNat) zj zu) rfl rfl rfl rfl):B9:=h a
theorem J9x (a:A9) (h:A9→B9:=by exact Jbv (Jat tb ((⟨.own b13 l.l.length [],vs⟩:OwL Int)) _ rfl rfl ((show _=Value.slice _ _ _ from rfl).trans (Jcs hvl)) rfl zg (i:=x.right.toNat) zj zu) rfl rfl rfl rfl):B9:=h a
theorem Kcw (a:A9) (h:A9→B9:=by exact Jbv (Jat tb ((⟨.own b13 l.l.length [],vs⟩:OwL Int)) _ rfl rfl ((show _=Value.slice _ _ _ from rfl).trans (Jcs hvl)) rfl zg (i:=k) zj zu) rfl rfl rfl rfl):B9:=h a
end
def Jer (l:List XNode) (vals:List Int) (k:Nat):List Int:=Jck l vals k ++ List.replicate (l.length - k) 0
theorem J81 {l:List XNode} {vals:List Int} {k:Nat} (h:k≤l.length):(Jer l vals k).length=l.length:=by
  rw [Jer,List.length_append,Jdv,List.length_replicate];omega
theorem J8g {l:List XNode} {vals:List Int} {k:Nat} {v:Int} (hk:k < l.length) (h:v=Jim vals (Jck l vals k) (l.getD k default)):(Jer l vals k).set k v=Jer l vals (k + 1):=by
  have hl:=Jdv (l:=l) (vals:=vals) k
  rw [Jer,Jer,Jck,← h,show l.length - k=(l.length - (k + 1)) + 1 by omega,List.replicate_succ,List.set_append_right k v za,hl,Nat.sub_self,List.set_cons_zero]
  simp
theorem J6o {l:List XNode} {vals:List Int} {k:Nat} (hk:k < l.length) (h:Jim vals (Jck l vals k) (l.getD k default)=0):Jer l vals k=Jer l vals (k + 1):=by
  rw [Jer,Jer,Jck,h,show l.length - k=(l.length - (k + 1)) + 1 by omega,List.replicate_succ]
  simp
theorem Jxy {l:List XNode} {vals:List Int} {k j:Nat} (h:j < k):(Jer l vals k)[j]?=some ((Jck l vals k).getD j 0):=by
  have hl:=Jdv (l:=l) (vals:=vals) k
  rw [Jer,List.getElem?_append_left za]
  exact Jau 0 za
theorem J5a {l:List XNode} {vals:List Int}:Jer l vals l.length=Jck l vals l.length:=by rw [Jer,Nat.sub_self];simp
theorem J09 {vals v:List Int} {x:XNode} (h:x.kind=1):Jim vals v x=Jv5 vals x.cond:=by rw [Jim,if_pos h]
theorem J8h {vals v:List Int} {x:XNode} (h:x.kind=2):Jim vals v x= -(v.getD x.left.toNat 0):=by rw [Jim,if_neg za,if_pos h]
theorem J8a {vals v:List Int} {x:XNode} (h:x.kind=3):Jim vals v x=min (v.getD x.left.toNat 0) (v.getD x.right.toNat 0):=by rw [Jim,if_neg za,if_neg za,if_pos h]
theorem J7p {vals v:List Int} {x:XNode} (h1:¬ x.kind=1) (h2:¬ x.kind=2) (h3:¬ x.kind=3):Jim vals v x=max (v.getD x.left.toNat 0) (v.getD x.right.toNat 0):=by rw [Jim,if_neg h1,if_neg h2,if_neg h3]
theorem Jq9 (l:Arr XNode) (vals:Arr Int) (L:List Blk) (R:List Sl) (hl:InR (J31 l) R) (hv:InR (isl vals) R):
    Tri Tryz.prog 160 [l.val,vals.val].toArray L R (fun v L' R'=>v=.int .i64 (Jh9 l.l vals.l)∧L=L'∧R=R'):=by
  refine Jad 102 Tryz.call160 Tryz.func160 rfl rfl rfl ?_
  refine Xac ?_
  refine qaw ?_
  refine qbm ?_
  refine q_l rfl (Jpe l _ _ hl) ?_
  refine Xbd ?_
  refine q_c (fun hc0=>?_) (fun hc0=>?_)
  ·
   refine Xa7 ?_
   refine q_i (L':=L) (R':=R) ?_
   exact ⟨by rw [Jh9,if_neg zE],rfl,rfl⟩
  have hr:Jhk l.l=true:=by simpa using hc0
  have hln:=(Jmq.1 hr).1
  refine qbv ?_
  refine Xao ?_
  refine qc7 ?_
  rintro v L' R' ⟨b13,rfl,rfl,hR13⟩
  replace hR13:=hR13.symm;subst hR13
  refine qc4 ?_
  refine qco ?_
  refine Jcy (Jes (f:=Jap) (x:=0) rfl _) ?_
  refine qay ?_
  refine Xbv ?_
  refine Jan [(1,Value.slice _ _ _),(5,Value.slice _ _ _),(14,Value.slice _ _ _),(15,Value.int _ _),(16,Value.int _ _)] zh fun tq0=>?_
  refine q_p [6,7,16,17,18,19,20,21,22,23,24,25,26,27,28,29,30,31,32,33,34,35,36,37,38,39,40,41,42,43,44,45,46,47,48,49,50,51,52,53,54,55,56,57,58,59,60,61,62,63,64,65,66,67,68,69,70,71,72,73,74,75,76,77,78,79,80,81,82,83,84,85,86,87,88,89,90,91,92,93,94,95] ((⟨fun g=>[(16,.int .i64 ((g.1.1:Nat):Int))],fun g=>(⟨.own b13 l.l.length [],g.1.2⟩:OwL Int).L 3 Jap ++ L,fun _=>R,fun g=>l.l.length - g.1.1⟩:Head {g:Nat×List Int // g.1≤l.l.length∧g.2=Jer l.l vals.l g.1})) (⟨(0,List.replicate l.l.length 0),by dsimp only;omega,rfl⟩) ?_
  rintro ⟨⟨k,vs⟩,hk,hvs⟩ junk
  try dsimp only
  dsimp only at hk hvs
  have hvl:vs.length=l.l.length:=by rw [hvs];exact J81 hk
  have hvk:(⟨.own b13 l.l.length [],vs⟩:OwL Int).ok 1 Jap:=by have:=Jfc (f:=Jap) (wd:=1) (b:=b13) (n:=l.l.length) (x:=0) Jds zG;exact OwL.len_ok Jds this (by simp;exact hvl)
  refine Xak ?_
  refine q_c (fun hc1=>?_) (fun hc1=>?_)
  ·
   have hxg:=Jau (l:=l.l) (k:=k) default za
   have hno:=Jww hr k za
   have hvg:=Jau (l:=vs) (k:=k) 0 za
   have hset:=fun (v:Int)=>J8g (l:=l.l) (vals:=vals.l) (k:=k) (v:=v) za
   have hst:=J6o (l:=l.l) (vals:=vals.l) (k:=k) za
   rw [← hvs] at hset hst
   rw [Jrh] at hno
   obtain ⟨x,hx⟩:∃x,x=l.l.getD k default:=⟨_,rfl⟩
   rw [← hx] at hxg hno hset hst
   refine Xa6 ?_
   refine Jax zC rfl ?_
   refine Xc5 ?_
   intro b7
   refine qad ?_
   refine Xb1 ?_
   refine Ja6 (Jab (Jbd (Jam (Jah ?_))))
   refine Xaz ?_
   refine q_c (fun hc2=>?_) (fun hc2=>?_)
   ·
    refine Xb3 ?_
    refine Xao ?_
    refine Xav ?_
    apply Jb7 (G:=[_,_,_,_,_,_]) (j:=5) (cj:=44) rfl rfl zb rfl (show _=Value.bool _ from rfl) rfl
    ·
     intro hg6
     replace hg6:=qb hg6
     have hcg:=Jau (l:=vals.l) (k:=x.cond.toNat) 0 za
     refine Xcj ?_
     refine J8p ?_
     refine qa7 ?_
     refine qbz ?_
     exact qai
    intro junk6
    refine qah ?_
    apply Jb7 (G:=[_,_,_,_,_,_]) (j:=13) (cj:=52) rfl rfl zb rfl (show _=Value.bool _ from rfl) rfl
    ·
     intro hg14
     replace hg14:=qb hg14
     have hcg:=Jau (l:=vals.l) (k:=x.cond.toNat) 0 za
     refine Xcj ?_
     refine J8p ?_
     refine qa7 ?_
     refine qbx ?_
     exact qai
    intro junk14
    refine qaf ?_
    refine q_c (fun hc3=>?_) (fun hc3=>?_)
    ·
     have hcg:=Jau (l:=vals.l) (k:=x.cond.toNat) 0 za
     refine Xci ?_
     refine Xcj ?_
     refine J8p ?_
     refine qa7 ?_
     refine Kcb ?_
     refine Jd9 (Jar tb ((⟨.own b13 l.l.length [],vs⟩:OwL Int)) (vals.l.getD x.cond.toNat 0) rfl rfl rfl rfl zk zg (fun _=>rfl) zg ze zb zb) ?_
     rintro v L' R' ⟨rfl,rfl⟩
     refine Ja6 (Jag (Jag (Jab (Jah ?_))))
     refine Xae ?_
     exact q_k ⟨(k + 1,vs.set k (vals.l.getD x.cond.toNat 0)),by dsimp only;omega,hset _ (by rw [J09 hc2,Jv5,if_pos za])⟩
    refine Ja4 (Jag (Jag (Jab (Jah ?_))))
    refine Xae ?_
    exact q_k ⟨(k + 1,vs),by dsimp only;omega,hst (by rw [J09 hc2,Jv5,if_neg za])⟩
   refine Xbf ?_
   refine q_c (fun hc4=>?_) (fun hc4=>?_)
   ·
    have hlt:x.left.toNat < k:=by omega
    have hlg:=Jxy (l:=l.l) (vals:=vals.l) hlt
    rw [← hvs] at hlg
    have hlr:=Jjg (l:=l.l) (vals:=vals.l) k x.left.toNat
    refine Xci ?_
    refine Xcj ?_
    refine Jax (Jat tb ((⟨.own b13 l.l.length [],vs⟩:OwL Int)) _ rfl rfl ((show _=Value.slice _ _ _ from rfl).trans (Jcs hvl)) rfl zg (i:=x.left.toNat) zj zu) rfl ?_
    refine Kb9 ?_
    refine qcq ?_
    refine Kcb ?_
    refine Jd9 (Jar tb ((⟨.own b13 l.l.length [],vs⟩:OwL Int)) (-((Jck l.l vals.l k).getD x.left.toNat 0)) rfl rfl rfl rfl zk zg (fun _=>rfl) zg ze zb zb) ?_
    rintro v L' R' ⟨rfl,rfl⟩
    refine Ja6 (Jag (Jag (Jab (Jah ?_))))
    refine Xae ?_
    exact q_k ⟨(k + 1,vs.set k (-((Jck l.l vals.l k).getD x.left.toNat 0))),by dsimp only;omega,hset _ (by rw [J8h hc4])⟩
   have hlt:x.left.toNat < k:=by omega
   have hlg:=Jxy (l:=l.l) (vals:=vals.l) hlt
   have hrt:x.right.toNat < k:=by omega
   have hrg:=Jxy (l:=l.l) (vals:=vals.l) hrt
   rw [← hvs] at hlg hrg
   refine Xbf ?_
   refine q_c (fun hc5=>?_) (fun hc5=>?_)
   ·
    refine Kbd ?_
    refine Xc7 ?_
    refine Xct ?_
    refine Kap ?_
    refine J4w ?_
    refine Xct ?_
    refine J9x ?_
    refine J4w ?_
    refine Jbv (Js0 rfl rfl) rfl rfl rfl rfl ?_
    refine Kcw ?_
    refine qba ?_
    refine Jmm (Jar tb ((⟨.own b13 l.l.length [],vs⟩:OwL Int)) (min ((Jck l.l vals.l k).getD x.left.toNat 0) ((Jck l.l vals.l k).getD x.right.toNat 0)) rfl rfl rfl rfl zk zg (fun _=>rfl) zg ze zb zb) rfl rfl ?_
    rintro v L' R' ⟨rfl,rfl⟩
    refine qa1 ?_
    refine Jaz (Jag (Jag (Jab (Jah ?_))))
    refine Xae ?_
    exact q_k ⟨(k + 1,vs.set k (min ((Jck l.l vals.l k).getD x.left.toNat 0) ((Jck l.l vals.l k).getD x.right.toNat 0))),by dsimp only;omega,hset _ (by rw [J8a hc5])⟩
   refine Kbd ?_
   refine Xc7 ?_
   refine Xct ?_
   refine Kap ?_
   refine J4w ?_
   refine Xct ?_
   refine J9x ?_
   refine J4w ?_
   refine Jbv (Jih rfl rfl) rfl rfl rfl rfl ?_
   refine Kcw ?_
   refine qba ?_
   refine Jmm (Jar tb ((⟨.own b13 l.l.length [],vs⟩:OwL Int)) (max ((Jck l.l vals.l k).getD x.left.toNat 0) ((Jck l.l vals.l k).getD x.right.toNat 0)) rfl rfl rfl rfl zk zg (fun _=>rfl) zg ze zb zb) rfl rfl ?_
   rintro v L' R' ⟨rfl,rfl⟩
   refine qa1 ?_
   refine Jaz (Jag (Jag (Jab (Jah ?_))))
   refine Xae ?_
   exact q_k ⟨(k + 1,vs.set k (max ((Jck l.l vals.l k).getD x.left.toNat 0) ((Jck l.l vals.l k).getD x.right.toNat 0))),by dsimp only;omega,hset _ (by rw [J7p hc2 hc4 hc5])⟩
  obtain rfl:k=l.l.length:=by omega
  rw [J5a] at hvs
  have hvg:=Jau (l:=vs) (k:=l.l.length - 1) 0 za
  have hev:Jh9 l.l vals.l=vs.getD (l.l.length - 1) 0:=by rw [Jh9,if_pos hr,hvs]
  refine Xc9 ?_
  refine Xao ?_
  refine qa9 ?_
  refine Jax (Jat tb ((⟨.own b13 l.l.length [],vs⟩:OwL Int)) _ rfl rfl ((show _=Value.slice _ _ _ from rfl).trans (Jcs hvl)) rfl zg (i:=l.l.length - 1) zj zu) rfl ?_
  refine Kb9 ?_
  refine Xah ?_
  refine q_i (L':=L) (R':=R) ?_
  exact ⟨by rw [hev],rfl,rfl⟩
end Go.Proofs.YtchfclmokpbldaaGreat
end
section
/-
  Rules, the reference's: part, Right, Check, value, Eval. By an AI agent; no person has read it.
-/
namespace Go.Proofs.YtchfclmokpbldaaGreat
open Go.Aw Go
set_option maxRecDepth 20000
attribute [local irreducible] CJ LJ DJ Tri YV Gives Jcj Ja1 Jbg Jci RV Ja2 OwL.L
end Go.Proofs.YtchfclmokpbldaaGreat
end
section
/-
  Sites and their errors, the reference's. By an AI agent; no person has read it.
-/
namespace Go.Proofs.YtchfclmokpbldaaGreat
open Go.Aw Go
set_option maxRecDepth 20000
attribute [local irreducible] CJ LJ DJ Tri YV Gives Jcj Ja1 Jbg Jci RV Ja2 OwL.L
end Go.Proofs.YtchfclmokpbldaaGreat
end
section
/-
  Restoring power: when a zone is ready, by the code and by the reference. By an AI agent; no person has read it.
-/
namespace Go.Proofs.YtchfclmokpbldaaGreat
open Go.Aw Go
set_option maxRecDepth 20000
attribute [local irreducible] CJ LJ DJ Tri YV Gives Jcj Ja1 Jbg Jci RV Ja2 OwL.L
def Jvj (x:XSpan):Int:=if J0k x=1 then x.low else if J0k x= -1 then -x.high else 0
def J0d (r:XRoad) (fr:Int):Int:=1000 * r.len * r.area * fr
def Jr1 (r:XRoad) (x:XSpan) (fr sec:Int):Prop:=J0d r fr=0∨0 < Jvj x∧J0d r fr≤Jvj x * sec
instance (r:XRoad) (x:XSpan) (fr sec:Int):Decidable (Jr1 r x fr sec):=by unfold Jr1;infer_instance
theorem J8m {x:XSpan} (h:J0k x=1):Jvj x=x.low∧0 < x.low:=by
  refine ⟨by rw [Jvj,if_pos h],?_⟩
  rw [J0k] at h
  split at h
  · cases h
  split at h
  · assumption
  split at h <;> cases h
theorem J9j {x:XSpan} (h:J0k x= -1):Jvj x= -x.high∧x.high < 0:=by
  refine ⟨by rw [Jvj,if_neg za,if_pos h],?_⟩
  rw [J0k] at h
  split at h
  · cases h
  split at h
  · cases h
  split at h
  · assumption
  · cases h
theorem Kat {x:XSpan} (h:J0k x≠1) (h':J0k x≠-1):Jvj x=0:=by rw [Jvj,if_neg h,if_neg h']
theorem J4s {r:XRoad} {fr:Int} (h1:1≤r.len∧r.len≤100000) (h2:1≤r.area∧r.area≤1000) (h3:0≤fr∧fr≤100):
    (0≤1000 * r.len * r.area∧1000 * r.len * r.area≤100000000000)∧0≤1000 * r.len * r.area * fr∧1000 * r.len * r.area * fr≤10000000000000:=by
  have a0:0≤1000 * r.len * r.area:=Int.mul_nonneg za za
  have a1:1000 * r.len * r.area≤100000000 * 1000:=Int.mul_le_mul za za za za
  have b0:0≤1000 * r.len * r.area * fr:=Int.mul_nonneg a0 za
  have b1:1000 * r.len * r.area * fr≤100000000000 * 100:=Int.mul_le_mul za za za za
  omega
theorem J4u {n s l:Int} (hn:1≤n) (hs:0 < s):(n + s - 1).tdiv s≤l↔n≤l * s:=by
  rw [Int.tdiv_eq_ediv_of_nonneg za]
  have h:=Int.ediv_lt_iff_lt_mul (a:=n + s - 1) (b:=l + 1) hs
  rw [Int.add_mul,Int.one_mul] at h
  omega
theorem Jv1 (r:XRoad) (x:XSpan) (fr sec:Int) (L:List Blk) (R:List Sl) (h1:1≤r.len∧r.len≤100000) (h2:1≤r.area∧r.area≤1000) (h3:0≤fr∧fr≤100) (h4:0≤sec∧sec≤2147483648):
    Tri Tryz.prog 233 [r.val,x.val,.int .i64 fr,.int .i64 sec].toArray L R (fun v L' R'=>v=.bool (decide (Jr1 r x fr sec))∧L=L'∧R=R'):=by
  have hN:=J4s h1 h2 h3
  refine Jad 44 Tryz.call233 Tryz.func233 rfl rfl rfl ?_
  refine Xaf ?_
  intro b4
  refine qax ?_
  intro b5
  refine qaz ?_
  refine Xck ?_
  refine qcm ?_
  refine Xaa ?_
  refine qcm ?_
  refine Xcx ?_
  refine Xc0 ?_
  refine Xbp ?_
  refine q_c (fun hc0=>?_) (fun hc0=>?_)
  ·
   refine Xch ?_
   refine q_b (L':=L) (R':=R) ?_
   exact ⟨by rw [decide_eq_true (p:=Jr1 r x fr sec) (.inl hc0)],rfl,rfl⟩
  have hn1:1≤1000 * r.len * r.area * fr:=by omega
  refine qbo ?_
  refine qaa ?_
  refine Xbp ?_
  refine q_c (fun hc1=>?_) (fun hc1=>?_)
  ·
   refine Xch ?_
   refine q_b (L':=L) (R':=R) ?_
   refine ⟨by rw [decide_eq_false (p:=Jr1 r x fr sec)];rintro (h | ⟨_,h⟩) <;> rw [J0d] at h;omega;rw [hc1,Int.mul_zero] at h;omega,rfl,rfl⟩
  have hcl:=fun l=>J4u (l:=l) hn1 (show 0 < sec by omega)
  have hq0:0≤(1000 * r.len * r.area * fr + sec - 1).tdiv sec:=Int.tdiv_nonneg za za
  have hq1:(1000 * r.len * r.area * fr + sec - 1).tdiv sec≤100000000000000:=by
    rw [Int.tdiv_eq_ediv_of_nonneg za]
    have:=Int.ediv_le_self (a:=1000 * r.len * r.area * fr + sec - 1) sec za
    omega
  refine qbv ?_
  refine Xbw ?_
  refine qar ?_
  refine qa9 ?_
  refine qaa ?_
  refine qdd ?_
  refine Xas ?_
  refine qbe ?_
  refine q_l rfl (Jte x _ _) ?_
  refine Ja6 (Jab (Jbd (Jam (Jah ?_))))
  refine Xaz ?_
  refine q_c (fun hc2=>?_) (fun hc2=>?_)
  ·
   refine qae ?_
   refine Xal ?_
   refine qbz ?_
   refine qaz ?_
   refine qdb ?_
   refine q_b (L':=L) (R':=R) ?_
   have hd:=J8m hc2
   refine ⟨congrArg Value.bool (decide_eq_decide.2 ?_),rfl,rfl⟩
   rw [hcl,Jr1,J0d,hd.1]
   omega
  refine Xbf ?_
  refine q_c (fun hc3=>?_) (fun hc3=>?_)
  ·
   refine qae ?_
   refine Xal ?_
   refine qcq ?_
   refine qbx ?_
   refine qaz ?_
   refine qdb ?_
   refine q_b (L':=L) (R':=R) ?_
   have hd:=J9j hc3
   refine ⟨congrArg Value.bool (decide_eq_decide.2 ?_),rfl,rfl⟩
   have:=hcl (-x.high)
   rw [Jr1,J0d,hd.1]
   omega
  refine Ja4 (Jag (Jab (Jam (Jah ?_))))
  refine Xa3 ?_
  refine q_b (L':=L) (R':=R) ?_
  have hd:=Kat hc2 hc3
  refine ⟨by rw [decide_eq_false (p:=Jr1 r x fr sec)];rintro (h | ⟨h,_⟩);rw [J0d] at h;omega;omega,rfl,rfl⟩
end Go.Proofs.YtchfclmokpbldaaGreat
end
