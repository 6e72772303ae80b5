/-
  Texts of one chapter, merged. By an AI agent; no person has read it.
-/
import Derived.Test.YtchfclmokpbldaaGreatWinR
import Derived.Test.YtchfclmokpbldaaGreatRule
import Derived.Test.YtchfclmokpbldaaGreatAnal
set_option linter.unusedVariables false
set_option linter.unusedSimpArgs false
set_option maxRecDepth 20000
namespace Go.Proofs.YtchfclmokpbldaaGreat
open Go.Aw Go
section
attribute [local irreducible] CJ LJ DJ Tri YV Gives Ui J0 Ke Uh RV J2 OwL.L
section
variable {A9 B9:Prop}
theorem Jgf (a:A9) (h:A9→B9:=by exact Jx zmb rfl):B9:=h a
theorem Ulf (h:B9:=by exact ⟨by rw [K2,if_neg za,if_neg za,if_neg za,if_neg za,if_neg za,e],rfl,rfl⟩):B9:=h
theorem Kyf (a:A9) (h:A9→B9:=by exact Kx zYa rfl rfl rfl rfl):B9:=h a
end
theorem Uad {e:Int} (h:e=0):nzO e=none:=by rw [nzO,if_pos h]
theorem Jhc {e:Int} (h:e≠0):nzO e=some e:=by rw [nzO,if_neg h]
abbrev Uhf (s:XSite):XCond→Option Int:=fun c=>nzO (Ko s.sensors.l s.air.mine.roads.l.length c)
abbrev J5f (s:XSite):XZone→Option Int:=fun z=>nzO (Yj s.conds.l.length s.air.mine.roads.l.length z)
abbrev Kme:Int→Option Int:=fun p=>if p < 1∨3 < p then some 19 else none
theorem Jwa (s:XSite) (L:List Blk) (R:List Sl) (hs:SiteR s R):
    Tri Tryz.prog 74 [s.val].toArray L R (fun v L' R'=>v=.int .i64 (K2 s)∧L=L'∧R=R'):=by
  have hsR:=hs.sensors
  have hcR:=hs.conds
  have hzR:=hs.zones
  have hpR:=hs.persons
  refine Jg 90 Tryz.call74 Tryz.func74 rfl rfl rfl ?_
  refine Xag ?_
  intro b1
  refine Xas ?_
  refine qab ?_
  refine qa8 ?_
  refine q_l rfl (Zi s.air _ _ hs.air) ?_
  refine Xa7 ?_
  refine q_c (fun hc0=>?_) (fun hc0=>?_)
  ·
   refine Xdl ?_
   refine q_i (L':=L) (R':=R) ?_
   exact ⟨by rw [K2,if_pos hc0],rfl,rfl⟩
  refine qbo ?_
  refine Xco ?_
  refine qah ?_
  apply J9 (G:=[_,_,_,_]) (j:=4) (cj:=23) rfl rfl zb rfl zdb rfl
  ·
   exact zqd
  intro junk5
  refine qah ?_
  apply J9 (G:=[_,_,_,_]) (j:=10) (cj:=29) rfl rfl zb rfl zdb rfl
  ·
   intro hg11
   replace hg11:=qb hg11
   refine Xco ?_
   exact qai
  intro junk11
  refine qah ?_
  apply J9 (G:=[_,_,_,_]) (j:=16) (cj:=35) rfl rfl zb rfl zdb rfl
  ·
   intro hg17
   replace hg17:=qb hg17
   refine Xco ?_
   exact qai
  intro junk17
  refine qaf ?_
  refine q_c (fun hc1=>?_) (fun hc1=>?_)
  ·
   refine Xa5 ?_
   refine q_i (L':=L) (R':=R) ?_
   exact ⟨by rw [K2,if_neg za,if_pos za],rfl,rfl⟩
  refine qbo ?_
  refine Jgf ?_
  refine q_l rfl (K4b s _ _ hsR za) ?_
  refine Xa7 ?_
  refine q_c (fun hc2=>?_) (fun hc2=>?_)
  ·
   refine Xdl ?_
   refine q_i (L':=L) (R':=R) ?_
   exact ⟨by rw [K2,if_neg za,if_neg za,if_pos hc2],rfl,rfl⟩
  refine Xcl ?_
  refine Jo [(1,Value.pointer _),(47,Value.slice _ _ _),(48,Value.int _ _),(49,Value.int _ _)] zg fun tq0=>?_
  refine q_s [2,6,7,49,50,51,52,53,54,55,56,57,58,59] (fun g:FS (Uhf s) (s.conds.l)=>[(49,.int .i64 ((g.1:Nat):Int))]) (fun g=>(s.conds.l).length - g.1) ⟨0,Kia _ _⟩ ?_
  rintro ⟨k0,hk0,hp0⟩ junk
  try dsimp only
  refine Xak ?_
  refine q_c (fun hc3=>?_) (fun hc3=>?_)
  ·
   obtain ⟨c,hc⟩:=Kr (l:=s.conds.l) (k:=k0) za
   refine qbb ?_
   refine Jx zW rfl ?_
   refine Jx zVa rfl ?_
   refine qaq ?_
   intro b6
   refine Xa0 ?_
   refine Jgf ?_
   refine Jx (Jl (row:=[_,_,_,_,_,_]) tb rfl rfl rfl zf zb zb) rfl ?_
   refine q_l rfl (Kic s c _ _ hsR za) ?_
   refine Xa7 ?_
   refine q_c (fun hc4=>?_) (fun hc4=>?_)
   ·
    refine Xdj ?_
    refine qbt ?_
    refine q_i (L':=L) (R':=R) ?_
    have e:Jya s=Ko s.sensors.l s.air.mine.roads.l.length c:=by rw [Jya,Y0 (f:=Uhf s) hp0 hc (Jhc hc4)];rfl
    exact ⟨by rw [K2,if_neg za,if_neg za,if_neg za,if_pos (by rw [e];exact hc4),e],rfl,rfl⟩
   refine Xax ?_
   exact q_k ⟨k0 + 1,Jta hp0 hc (Uad za)⟩
  have hn0:=Jra hp0 za
  refine K8 (Kq (Uf (Kc (Jb (Jn (Jn ?_))))))
  have hce:Jya s=0:=by rw [Jya,hn0];rfl
  refine qay ?_
  refine Xaw ?_
  refine Jo [(1,Value.pointer _),(61,Value.slice _ _ _),(62,Value.int _ _),(63,Value.int _ _)] zg fun tq1=>?_
  refine q_s [2,9,10,63,64,65,66,67,68,69,70,71,72,73] (fun g:FS (J5f s) (s.zones.l)=>[(63,.int .i64 ((g.1:Nat):Int))]) (fun g=>(s.zones.l).length - g.1) ⟨0,Kia _ _⟩ ?_
  rintro ⟨k1,hk1,hp1⟩ junk
  try dsimp only
  refine Xak ?_
  refine q_c (fun hc5=>?_) (fun hc5=>?_)
  ·
   obtain ⟨z,hz⟩:=Kr (l:=s.zones.l) (k:=k1) za
   refine qbb ?_
   refine Jx zHa rfl ?_
   refine Xcv ?_
   intro b9
   refine Xa0 ?_
   refine Jgf ?_
   refine qa8 ?_
   refine q_l rfl (Kqc s z _ _ (InR.rule hzR hz) (InR.zroads hzR hz)) ?_
   refine Xa7 ?_
   refine q_c (fun hc6=>?_) (fun hc6=>?_)
   ·
    refine Xdj ?_
    refine qbt ?_
    refine q_i (L':=L) (R':=R) ?_
    have e:Ym s=Yj s.conds.l.length s.air.mine.roads.l.length z:=by rw [Ym,Y0 (f:=J5f s) hp1 hz (Jhc hc6)];rfl
    exact ⟨by rw [K2,if_neg za,if_neg za,if_neg za,if_neg za,if_pos (by rw [e];exact hc6),e],rfl,rfl⟩
   refine Xax ?_
   exact q_k ⟨k1 + 1,Jta hp1 hz (Uad za)⟩
  have hn1:=Jra hp1 za
  refine K8 (Kq (Uf (Kc (Jb (Jn (Jn ?_))))))
  have hze:Ym s=0:=by rw [Ym,hn1];rfl
  refine qay ?_
  refine Xaw ?_
  refine Jo [(75,Value.slice _ _ _),(76,Value.int _ _),(77,Value.int _ _)] zg fun tq2=>?_
  refine q_s [2,12,77,78,79,80,81,82,83,84,85,86,87,88,89] (fun g:FS (Kme) (s.persons.l)=>[(77,.int .i64 ((g.1:Nat):Int))]) (fun g=>(s.persons.l).length - g.1) ⟨0,Kia _ _⟩ ?_
  rintro ⟨k2,hk2,hp2⟩ junk
  try dsimp only
  refine Xak ?_
  refine q_c (fun hc7=>?_) (fun hc7=>?_)
  ·
   obtain ⟨p,hp⟩:=Kr (l:=s.persons.l) (k:=k2) za
   refine qbb ?_
   refine Jx zIa rfl ?_
   refine Jx (by first | exact Ku (row:=[_]) tb rfl rfl rfl zt zh zb zb | exact Jl (row:=[_]) tb rfl rfl rfl zf zb zb) rfl ?_
   refine qaq ?_
   intro b12
   refine Xa0 ?_
   refine Xbg ?_
   apply J9 (G:=[_,_,_]) (j:=3) (cj:=84) rfl rfl zb rfl zdb rfl
   ·
    exact zZc
   intro junk4
   refine qaf ?_
   refine q_c (fun hc8=>?_) (fun hc8=>?_)
   ·
    refine Xbw ?_
    refine q_i (L':=L) (R':=R) ?_
    have e:Z9 s=19:=by rw [Z9,Y0 (f:=Kme) hp2 hp (show Kme p=some 19 from if_pos hc8)];rfl
    exact Ulf
   refine Xax ?_
   exact q_k ⟨k2 + 1,Jta hp2 hp (show Kme p=none from if_neg za)⟩
  have hn2:=Jra hp2 za
  refine Xb7 ?_
  refine q_i (L':=L) (R':=R) ?_
  have e:Z9 s=0:=by rw [Z9,hn2];rfl
  exact Ulf
theorem Vsc (s:XSite) (m:Arr XMeas) (n t:Int) (L:List Blk) (R:List Sl) (hs:InR (Vyd s.sensors) R) (hm:InR (Vn m) R) (hok:∀x∈m.l,Kna x) (ht:0≤t∧t≤2147483648):
    Tri Tryz.prog 103 [s.val,m.val,.int .i64 n,.int .i64 t].toArray L R (fun v L' R'=>v=(Y6 s.sensors.l m.l n t).val∧L=L'∧R=R'):=by
  refine Jg 42 Tryz.call103 Tryz.func103 rfl rfl rfl ?_
  refine Xag ?_
  intro b4
  refine qaq ?_
  intro b8
  refine qaw ?_
  refine qaa ?_
  refine Xac ?_
  refine q_l rfl (Jqa n (s.sensors.l.length:Int) _ _) ?_
  refine Xcc ?_
  apply J9 (G:=[_,_,_,_]) (j:=6) (cj:=15) rfl rfl zb rfl zdb rfl
  ·
   intro hg7
   replace hg7:=qb hg7
   refine qaa ?_
   refine Xap ?_
   exact zid
  intro junk7
  refine qah ?_
  apply J9 (G:=[_,_,_,_,_,_,_]) (j:=12) (cj:=21) rfl rfl zb rfl zdb rfl
  ·
   intro hg13
   replace hg13:=qb hg13
   have hmg:=Jw (l:=m.l) (k:=n.toNat) default (by (try simp at hg13);omega)
   refine Xau ?_
   have hnn:0≤n∧n < m.l.length:=by (try simp at hg13);omega
   refine Jx zYa rfl ?_
   refine Xbv ?_
   refine qaa ?_
   exact zfd
  intro junk13
  refine qaf ?_
  refine q_c (fun hc0=>?_) (fun hc0=>?_)
  ·
   refine qae ?_
   refine q_l rfl (K6 _ _) ?_
   refine qak ?_
   refine qbh ?_
   refine q_r (L':=L) (R':=R) zBc ?_
   exact ⟨by rw [Y6,if_neg za],rfl,rfl⟩
  have hmg:=Jw (l:=m.l) (k:=n.toNat) default za
  have hsg:=Jw (l:=s.sensors.l) (k:=n.toNat) default za
  have hmo:=hok _ (List.mem_of_getElem? hmg)
  refine qcl ?_
  refine Kj tb [] [0,1,2,3,4,5,6,7,8,9,10] [11] ([Blk.mk b8 _ _,Blk.mk b4 _ _]) _ K1 ze zi (by (repeat (first | apply List.Sublist.cons (a:=Blk.mk b8 _ _) | apply List.Sublist.cons_cons));exact List.Sublist.refl _) ?_
  refine Xc8 ?_
  refine Kyf ?_
  refine Kx zV rfl rfl rfl rfl ?_
  refine Xc9 ?_
  refine Kyf ?_
  refine Kx zsa rfl rfl rfl rfl ?_
  refine qbf ?_
  refine Vi rfl (V1e _ _ t _ _ hmo ht) rfl rfl ?_
  rintro v L' R' ⟨rfl,rfl,rfl⟩
  refine ⟨zi,zw,?_⟩
  refine Xda ?_
  refine J1 (Jb (Uo ?_))
  refine q_r (L':=L) (R':=R) zBc ?_
  exact ⟨by rw [Y6,if_pos za],rfl,rfl⟩
theorem Ywc (x:XSpan) (L:List Blk) (R:List Sl):
    Tri Tryz.prog 231 [x.val].toArray L R (fun v L' R'=>v=.int .i64 (Kra x)∧L=L'∧R=R'):=by
  refine Jg 27 Tryz.call231 Tryz.func231 rfl rfl rfl ?_
  refine Xag ?_
  intro b1
  refine qad ?_
  refine J6 (Jb (Jn (Kg (Jn (Jh ?_)))))
  refine Xaa ?_
  refine Xa1 ?_
  refine Xao ?_
  refine q_c (fun hc0=>?_) (fun hc0=>?_)
  ·
   refine Xa6 ?_
   refine q_i (L':=L) (R':=R) ?_
   exact ⟨by refine congrArg (Value.int .i64) ?_;rw [Kra];(repeat' split) <;> omega,rfl,rfl⟩
  refine qae ?_
  refine Xbm ?_
  refine qah ?_
  apply Ur (G:=[_,_,_]) (j:=3) (cj:=13) rfl rfl zb rfl zdb rfl
  ·
   exact zBd
  intro junk4
  refine Xao ?_
  refine q_c (fun hc1=>?_) (fun hc1=>?_)
  ·
   refine Xa6 ?_
   refine q_i (L':=L) (R':=R) ?_
   exact ⟨by refine congrArg (Value.int .i64) ?_;rw [Kra];(repeat' split) <;> omega,rfl,rfl⟩
  refine qae ?_
  refine Xa1 ?_
  refine qah ?_
  apply J9 (G:=[_,_,_]) (j:=3) (cj:=22) rfl rfl zb rfl zdb rfl
  ·
   intro hg4
   replace hg4:=qb hg4
   exact znd
  intro junk4
  refine Xao ?_
  refine q_c (fun hc2=>?_) (fun hc2=>?_)
  ·
   refine Xa6 ?_
   refine q_i (L':=L) (R':=R) ?_
   exact ⟨by refine congrArg (Value.int .i64) ?_;rw [Kra];(repeat' split) <;> omega,rfl,rfl⟩
  refine J5 (Ji (Jb (Jn (Jh ?_))))
  refine Xah ?_
  refine q_i (L':=L) (R':=R) ?_
  exact ⟨by refine congrArg (Value.int .i64) ?_;rw [Kra];(repeat' split) <;> omega,rfl,rfl⟩
theorem Vie (c:XCond) (w:XWatch) (x:XSpan) (L:List Blk) (R:List Sl):
    Tri Tryz.prog 229 [c.val,w.val,x.val].toArray L R (fun v L' R'=>v=.int .i64 (if w.over=false then -1 else if Zy x c.level.cut=1 then 1 else 0)∧L=L'∧R=R'):=by
  refine Jg 18 Tryz.call229 Tryz.func229 rfl rfl rfl ?_
  refine Xag ?_
  intro b3
  refine qax ?_
  intro b4
  refine qax ?_
  intro b5
  refine qad ?_
  refine J6 (Jb (Jn (Kg (Jn (Jh ?_)))))
  refine Xaa ?_
  refine qb4 ?_
  refine Xao ?_
  refine q_c (fun hc0=>?_) (fun hc0=>?_)
  ·
   refine Xa6 ?_
   refine q_i (L':=L) (R':=R) ?_
   exact ⟨by rw [if_pos zC],rfl,rfl⟩
  refine qae ?_
  refine qbe ?_
  refine qab ?_
  refine Xaa ?_
  refine q_l rfl (V1b x c.level.cut _ _) ?_
  refine Xay ?_
  refine q_c (fun hc1=>?_) (fun hc1=>?_)
  ·
   refine Xa6 ?_
   refine q_i (L':=L) (R':=R) ?_
   exact ⟨by rw [if_neg zC,if_pos hc1],rfl,rfl⟩
  refine J5 (Ji (Jb (Jn (Jh ?_))))
  refine Xah ?_
  refine q_i (L':=L) (R':=R) ?_
  exact ⟨by rw [if_neg zC,if_neg hc1],rfl,rfl⟩
end
section
attribute [local irreducible] CJ LJ DJ Tri YV Gives Ui J0 Ke Uh RV J2 OwL.L
section
variable {A9 B9:Prop}
theorem Kje (a:A9) (h:A9→B9:=by exact Kx zbc rfl rfl rfl rfl):B9:=h a
theorem Zce (a:A9) (h:A9→B9:=by exact Jx (by first | exact Jf tb rfl rfl rfl rfl zt (i:=x.cond.toNat) zk za | exact Jk tb rfl rfl rfl rfl (i:=x.cond.toNat) zk za) rfl):B9:=h a
theorem Jpf (a:A9) (h:A9→B9:=by exact Jx zIc rfl):B9:=h a
theorem K1f (a:A9) (h:A9→B9:=by exact Jx zbc rfl):B9:=h a
theorem Vkf (a:A9) (h:A9→B9:=by exact Kj tb [] [0,1,2,3,4,5,6,7,8,9,10,11,12,13] [14] ((⟨b7,XNode.cells x,172⟩ :: ((⟨.own b13 l.l.length [],vs⟩:OwL Int).L 3 Jp ++ []))) _ K1 ze zi (List.nil_sublist _)):B9:=h a
theorem Uuf (a:A9) (h:A9→B9:=by exact Kx zGc rfl rfl rfl rfl):B9:=h a
theorem Kbf (a:A9) (h:A9→B9:=by exact Kx (Ju tb ((⟨.own b13 l.l.length [],vs⟩:OwL Int)) _ rfl rfl ((show _=Value.slice _ _ _ from rfl).trans (Us hvl)) rfl zh (i:=x.right.toNat) zk zu) rfl rfl rfl rfl):B9:=h a
theorem Vpf (a:A9) (h:A9→B9:=by exact Kx zIc rfl rfl rfl rfl):B9:=h a
end
def Y1 (l:List XNode) (vals:List Int) (k:Nat):List Int:=Ul l vals k ++ List.replicate (l.length - k) 0
theorem Y3e {l:List XNode} {vals:List Int} {k:Nat} (h:k≤l.length):(Y1 l vals k).length=l.length:=by
  rw [Y1,List.length_append,Vz,List.length_replicate];omega
theorem Jaf {l:List XNode} {vals:List Int} {k:Nat} {v:Int} (hk:k < l.length) (h:v=Uua vals (Ul l vals k) (l.getD k default)):(Y1 l vals k).set k v=Y1 l vals (k + 1):=by
  have hl:=Vz (l:=l) (vals:=vals) k
  rw [Y1,Y1,Ul,← h,show l.length - k=(l.length - (k + 1)) + 1 by omega,List.replicate_succ,List.set_append_right k v za,hl,Nat.sub_self,List.set_cons_zero]
  simp
theorem Uke {l:List XNode} {vals:List Int} {k:Nat} (hk:k < l.length) (h:Uua vals (Ul l vals k) (l.getD k default)=0):Y1 l vals k=Y1 l vals (k + 1):=by
  rw [Y1,Y1,Ul,h,show l.length - k=(l.length - (k + 1)) + 1 by omega,List.replicate_succ]
  simp
theorem Jod {l:List XNode} {vals:List Int} {k j:Nat} (h:j < k):(Y1 l vals k)[j]?=some ((Ul l vals k).getD j 0):=by
  have hl:=Vz (l:=l) (vals:=vals) k
  rw [Y1,List.getElem?_append_left za]
  exact Jw 0 za
theorem Vpe {l:List XNode} {vals:List Int}:Y1 l vals l.length=Ul l vals l.length:=by rw [Y1,Nat.sub_self];simp
theorem Ycd {vals v:List Int} {x:XNode} (h:x.kind=1):Uua vals v x=Z9c vals x.cond:=by rw [Uua,if_pos h]
theorem Zve {vals v:List Int} {x:XNode} (h:x.kind=2):Uua vals v x= -(v.getD x.left.toNat 0):=by rw [Uua,if_neg za,if_pos h]
theorem Zee {vals v:List Int} {x:XNode} (h:x.kind=3):Uua vals v x=min (v.getD x.left.toNat 0) (v.getD x.right.toNat 0):=by rw [Uua,if_neg za,if_neg za,if_pos h]
theorem Y6e {vals v:List Int} {x:XNode} (h1:¬ x.kind=1) (h2:¬ x.kind=2) (h3:¬ x.kind=3):Uua vals v x=max (v.getD x.left.toNat 0) (v.getD x.right.toNat 0):=by rw [Uua,if_neg h1,if_neg h2,if_neg h3]
theorem Z0b (l:Arr XNode) (vals:Arr Int) (L:List Blk) (R:List Sl) (hl:InR (J1e l) R) (hv:InR (isl vals) R):
    Tri Tryz.prog 160 [l.val,vals.val].toArray L R (fun v L' R'=>v=.int .i64 (J1a l.l vals.l)∧L=L'∧R=R'):=by
  refine Jg 102 Tryz.call160 Tryz.func160 rfl rfl rfl ?_
  refine Xab ?_
  refine qaw ?_
  refine qbm ?_
  refine q_l rfl (Ydb l _ _ hl) ?_
  refine Xbd ?_
  refine q_c (fun hc0=>?_) (fun hc0=>?_)
  ·
   refine Xa5 ?_
   refine q_i (L':=L) (R':=R) ?_
   exact ⟨by rw [J1a,if_neg zC],rfl,rfl⟩
  have hr:Kla l.l=true:=by simpa using hc0
  have hln:=(J7b.1 hr).1
  refine qbv ?_
  refine Xap ?_
  refine qc7 ?_
  rintro v L' R' ⟨b13,rfl,rfl,hR13⟩
  replace hR13:=hR13.symm;subst hR13
  refine qc4 ?_
  refine qco ?_
  refine Uv (Y3 (f:=Jp) (x:=0) rfl _) ?_
  refine qay ?_
  refine Xbt ?_
  refine Jo [(1,Value.slice _ _ _),(5,Value.slice _ _ _),(14,Value.slice _ _ _),(15,Value.int _ _),(16,Value.int _ _)] zg fun tq0=>?_
  refine q_p [6,7,16,17,18,19,20,21,22,23,24,25,26,27,28,29,30,31,32,33,34,35,36,37,38,39,40,41,42,43,44,45,46,47,48,49,50,51,52,53,54,55,56,57,58,59,60,61,62,63,64,65,66,67,68,69,70,71,72,73,74,75,76,77,78,79,80,81,82,83,84,85,86,87,88,89,90,91,92,93,94,95] ((⟨fun g=>[(16,.int .i64 ((g.1.1:Nat):Int))],fun g=>(⟨.own b13 l.l.length [],g.1.2⟩:OwL Int).L 3 Jp ++ L,fun _=>R,fun g=>l.l.length - g.1.1⟩:Head {g:Nat×List Int // g.1≤l.l.length∧g.2=Y1 l.l vals.l g.1})) (⟨(0,List.replicate l.l.length 0),by dsimp only;omega,rfl⟩) ?_
  rintro ⟨⟨k,vs⟩,hk,hvs⟩ junk
  try dsimp only
  dsimp only at hk hvs
  have hvl:vs.length=l.l.length:=by rw [hvs];exact Y3e hk
  have hvk:(⟨.own b13 l.l.length [],vs⟩:OwL Int).ok 1 Jp:=by have:=Ze (f:=Jp) (wd:=1) (b:=b13) (n:=l.l.length) (x:=0) Vx zE;exact OwL.len_ok Vx this (by simp;exact hvl)
  refine Xak ?_
  refine q_c (fun hc1=>?_) (fun hc1=>?_)
  ·
   have hxg:=Jw (l:=l.l) (k:=k) default za
   have hno:=Zuc hr k za
   have hvg:=Jw (l:=vs) (k:=k) 0 za
   have hset:=fun (v:Int)=>Jaf (l:=l.l) (vals:=vals.l) (k:=k) (v:=v) za
   have hst:=Uke (l:=l.l) (vals:=vals.l) (k:=k) za
   rw [← hvs] at hset hst
   rw [Zwb] at hno
   obtain ⟨x,hx⟩:∃x,x=l.l.getD k default:=⟨_,rfl⟩
   rw [← hx] at hxg hno hset hst
   refine Xa2 ?_
   refine Jx zB rfl ?_
   refine Xcv ?_
   intro b7
   refine qad ?_
   refine Xb2 ?_
   refine J6 (Jb (Kg (Jn (Jh ?_))))
   refine Xay ?_
   refine q_c (fun hc2=>?_) (fun hc2=>?_)
   ·
    refine Xb8 ?_
    refine Xap ?_
    refine Xav ?_
    apply Ur (G:=[_,_,_,_,_,_]) (j:=5) (cj:=44) rfl rfl zb rfl zdb rfl
    ·
     intro hg6
     replace hg6:=qb hg6
     have hcg:=Jw (l:=vals.l) (k:=x.cond.toNat) 0 za
     refine Xcg ?_
     refine Zce ?_
     refine qa7 ?_
     exact zid
    intro junk6
    refine qah ?_
    apply Ur (G:=[_,_,_,_,_,_]) (j:=13) (cj:=52) rfl rfl zb rfl zdb rfl
    ·
     intro hg14
     replace hg14:=qb hg14
     have hcg:=Jw (l:=vals.l) (k:=x.cond.toNat) 0 za
     refine Xcg ?_
     refine Zce ?_
     refine qa7 ?_
     refine qbx ?_
     exact qai
    intro junk14
    refine qaf ?_
    refine q_c (fun hc3=>?_) (fun hc3=>?_)
    ·
     have hcg:=Jw (l:=vals.l) (k:=x.cond.toNat) 0 za
     refine Xca ?_
     refine Xcg ?_
     refine Zce ?_
     refine qa7 ?_
     refine Jpf ?_
     refine Ye (Jr tb ((⟨.own b13 l.l.length [],vs⟩:OwL Int)) (vals.l.getD x.cond.toNat 0) rfl rfl rfl rfl zj zh (fun _=>rfl) zh zc zb zb) ?_
     rintro v L' R' ⟨rfl,rfl⟩
     refine J6 (Ji (Ji (Jb (Jh ?_))))
     refine Xae ?_
     exact q_k ⟨(k + 1,vs.set k (vals.l.getD x.cond.toNat 0)),by dsimp only;omega,hset _ (by rw [Ycd hc2,Z9c,if_pos za])⟩
    refine J5 (Ji (Ji (Jb (Jh ?_))))
    refine Xae ?_
    exact q_k ⟨(k + 1,vs),by dsimp only;omega,hst (by rw [Ycd hc2,Z9c,if_neg za])⟩
   refine Xbi ?_
   refine q_c (fun hc4=>?_) (fun hc4=>?_)
   ·
    have hlt:x.left.toNat < k:=by omega
    have hlg:=Jod (l:=l.l) (vals:=vals.l) hlt
    rw [← hvs] at hlg
    have hlr:=Vma (l:=l.l) (vals:=vals.l) k x.left.toNat
    refine Xca ?_
    refine Xcg ?_
    refine Jx zGc rfl ?_
    refine K1f ?_
    refine qcq ?_
    refine Jpf ?_
    refine Ye (Jr tb ((⟨.own b13 l.l.length [],vs⟩:OwL Int)) (-((Ul l.l vals.l k).getD x.left.toNat 0)) rfl rfl rfl rfl zj zh (fun _=>rfl) zh zc zb zb) ?_
    rintro v L' R' ⟨rfl,rfl⟩
    refine J6 (Ji (Ji (Jb (Jh ?_))))
    refine Xae ?_
    exact q_k ⟨(k + 1,vs.set k (-((Ul l.l vals.l k).getD x.left.toNat 0))),by dsimp only;omega,hset _ (by rw [Zve hc4])⟩
   have hlt:x.left.toNat < k:=by omega
   have hlg:=Jod (l:=l.l) (vals:=vals.l) hlt
   have hrt:x.right.toNat < k:=by omega
   have hrg:=Jod (l:=l.l) (vals:=vals.l) hrt
   rw [← hvs] at hlg hrg
   refine Xbi ?_
   refine q_c (fun hc5=>?_) (fun hc5=>?_)
   ·
    refine Vkf ?_
    refine Xc9 ?_
    refine Xcu ?_
    refine Uuf ?_
    refine Kje ?_
    refine Xcu ?_
    refine Kbf ?_
    refine Kje ?_
    refine Kx (J0c rfl rfl) rfl rfl rfl rfl ?_
    refine Vpf ?_
    refine qba ?_
    refine Kcb (Jr tb ((⟨.own b13 l.l.length [],vs⟩:OwL Int)) (min ((Ul l.l vals.l k).getD x.left.toNat 0) ((Ul l.l vals.l k).getD x.right.toNat 0)) rfl rfl rfl rfl zj zh (fun _=>rfl) zh zc zb zb) rfl rfl ?_
    rintro v L' R' ⟨rfl,rfl⟩
    refine qa1 ?_
    refine J1 (Ji (Ji (Jb (Jh ?_))))
    refine Xae ?_
    exact q_k ⟨(k + 1,vs.set k (min ((Ul l.l vals.l k).getD x.left.toNat 0) ((Ul l.l vals.l k).getD x.right.toNat 0))),by dsimp only;omega,hset _ (by rw [Zee hc5])⟩
   refine Vkf ?_
   refine Xc9 ?_
   refine Xcu ?_
   refine Uuf ?_
   refine Kje ?_
   refine Xcu ?_
   refine Kbf ?_
   refine Kje ?_
   refine Kx zkc rfl rfl rfl rfl ?_
   refine Vpf ?_
   refine qba ?_
   refine Kcb (Jr tb ((⟨.own b13 l.l.length [],vs⟩:OwL Int)) (max ((Ul l.l vals.l k).getD x.left.toNat 0) ((Ul l.l vals.l k).getD x.right.toNat 0)) rfl rfl rfl rfl zj zh (fun _=>rfl) zh zc zb zb) rfl rfl ?_
   rintro v L' R' ⟨rfl,rfl⟩
   refine qa1 ?_
   refine J1 (Ji (Ji (Jb (Jh ?_))))
   refine Xae ?_
   exact q_k ⟨(k + 1,vs.set k (max ((Ul l.l vals.l k).getD x.left.toNat 0) ((Ul l.l vals.l k).getD x.right.toNat 0))),by dsimp only;omega,hset _ (by rw [Y6e hc2 hc4 hc5])⟩
  obtain rfl:k=l.l.length:=by omega
  rw [Vpe] at hvs
  have hvg:=Jw (l:=vs) (k:=l.l.length - 1) 0 za
  have hev:J1a l.l vals.l=vs.getD (l.l.length - 1) 0:=by rw [J1a,if_pos hr,hvs]
  refine Xcp ?_
  refine Xap ?_
  refine qa9 ?_
  refine Jx (Ju tb ((⟨.own b13 l.l.length [],vs⟩:OwL Int)) _ rfl rfl ((show _=Value.slice _ _ _ from rfl).trans (Us hvl)) rfl zh (i:=l.l.length - 1) zk zu) rfl ?_
  refine K1f ?_
  refine Xah ?_
  refine q_i (L':=L) (R':=R) ?_
  exact ⟨by rw [hev],rfl,rfl⟩
end
section
attribute [local irreducible] CJ LJ DJ Tri YV Gives Ui J0 Ke Uh RV J2 OwL.L
end
section
attribute [local irreducible] CJ LJ DJ Tri YV Gives Ui J0 Ke Uh RV J2 OwL.L
end
section
attribute [local irreducible] CJ LJ DJ Tri YV Gives Ui J0 Ke Uh RV J2 OwL.L
def Urc (x:XSpan):Int:=if Vvd x=1 then x.low else if Vvd x= -1 then -x.high else 0
def Vbd (r:XRoad) (fr:Int):Int:=1000 * r.len * r.area * fr
def Kvc (r:XRoad) (x:XSpan) (fr sec:Int):Prop:=Vbd r fr=0∨0 < Urc x∧Vbd r fr≤Urc x * sec
instance (r:XRoad) (x:XSpan) (fr sec:Int):Decidable (Kvc r x fr sec):=by unfold Kvc;infer_instance
theorem Jdf {x:XSpan} (h:Vvd x=1):Urc x=x.low∧0 < x.low:=by
  refine ⟨by rw [Urc,if_pos h],?_⟩
  rw [Vvd] at h
  split at h
  · cases h
  split at h
  · assumption
  split at h <;> cases h
theorem Zfe {x:XSpan} (h:Vvd x= -1):Urc x= -x.high∧x.high < 0:=by
  refine ⟨by rw [Urc,if_neg za,if_pos h],?_⟩
  rw [Vvd] at h
  split at h
  · cases h
  split at h
  · cases h
  split at h
  · assumption
  · cases h
theorem Vnf {x:XSpan} (h:Vvd x≠1) (h':Vvd x≠-1):Urc x=0:=by rw [Urc,if_neg h,if_neg h']
theorem Uue {r:XRoad} {fr:Int} (h1:1≤r.len∧r.len≤100000) (h2:1≤r.area∧r.area≤1000) (h3:0≤fr∧fr≤100):
    (0≤1000 * r.len * r.area∧1000 * r.len * r.area≤100000000000)∧0≤1000 * r.len * r.area * fr∧1000 * r.len * r.area * fr≤10000000000000:=by
  have a0:0≤1000 * r.len * r.area:=Int.mul_nonneg za za
  have a1:1000 * r.len * r.area≤100000000 * 1000:=Int.mul_le_mul za za za za
  have b0:0≤1000 * r.len * r.area * fr:=Int.mul_nonneg a0 za
  have b1:1000 * r.len * r.area * fr≤100000000000 * 100:=Int.mul_le_mul za za za za
  omega
theorem U5e {n s l:Int} (hn:1≤n) (hs:0 < s):(n + s - 1).tdiv s≤l↔n≤l * s:=by
  rw [Int.tdiv_eq_ediv_of_nonneg za]
  have h:=Int.ediv_lt_iff_lt_mul (a:=n + s - 1) (b:=l + 1) hs
  rw [Int.add_mul,Int.one_mul] at h
  omega
theorem Jjd (r:XRoad) (x:XSpan) (fr sec:Int) (L:List Blk) (R:List Sl) (h1:1≤r.len∧r.len≤100000) (h2:1≤r.area∧r.area≤1000) (h3:0≤fr∧fr≤100) (h4:0≤sec∧sec≤2147483648):
    Tri Tryz.prog 233 [r.val,x.val,.int .i64 fr,.int .i64 sec].toArray L R (fun v L' R'=>v=.bool (decide (Kvc r x fr sec))∧L=L'∧R=R'):=by
  have hN:=Uue h1 h2 h3
  refine Jg 44 Tryz.call233 Tryz.func233 rfl rfl rfl ?_
  refine Xag ?_
  intro b4
  refine qax ?_
  intro b5
  refine qaz ?_
  refine Xch ?_
  refine qcm ?_
  refine Xaa ?_
  refine qcm ?_
  refine Xc3 ?_
  refine Xdb ?_
  refine Xcd ?_
  refine q_c (fun hc0=>?_) (fun hc0=>?_)
  ·
   refine Xbb ?_
   refine qbh ?_
   refine q_b (L':=L) (R':=R) ?_
   exact ⟨by rw [decide_eq_true (p:=Kvc r x fr sec) (.inl hc0)],rfl,rfl⟩
  have hn1:1≤1000 * r.len * r.area * fr:=by omega
  refine qbo ?_
  refine qaa ?_
  refine Xcd ?_
  refine q_c (fun hc1=>?_) (fun hc1=>?_)
  ·
   refine Xbb ?_
   refine qbh ?_
   refine q_b (L':=L) (R':=R) ?_
   refine ⟨by rw [decide_eq_false (p:=Kvc r x fr sec)];rintro (h | ⟨_,h⟩) <;> rw [Vbd] at h;omega;rw [hc1,Int.mul_zero] at h;omega,rfl,rfl⟩
  have hcl:=fun l=>U5e (l:=l) hn1 (show 0 < sec by omega)
  have hq0:0≤(1000 * r.len * r.area * fr + sec - 1).tdiv sec:=Int.tdiv_nonneg za za
  have hq1:(1000 * r.len * r.area * fr + sec - 1).tdiv sec≤100000000000000:=by
    rw [Int.tdiv_eq_ediv_of_nonneg za]
    have:=Int.ediv_le_self (a:=1000 * r.len * r.area * fr + sec - 1) sec za
    omega
  refine qbv ?_
  refine Xbh ?_
  refine qar ?_
  refine qa9 ?_
  refine qaa ?_
  refine qdd ?_
  refine Xas ?_
  refine qbe ?_
  refine q_l rfl (Ktc x _ _) ?_
  refine J6 (Jb (Kg (Jn (Jh ?_))))
  refine Xay ?_
  refine q_c (fun hc2=>?_) (fun hc2=>?_)
  ·
   refine qae ?_
   refine Xam ?_
   refine qbz ?_
   refine qaz ?_
   refine qdb ?_
   refine q_b (L':=L) (R':=R) ?_
   have hd:=Jdf hc2
   refine ⟨congrArg Value.bool (decide_eq_decide.2 ?_),rfl,rfl⟩
   rw [hcl,Kvc,Vbd,hd.1]
   omega
  refine Xbi ?_
  refine q_c (fun hc3=>?_) (fun hc3=>?_)
  ·
   refine qae ?_
   refine Xam ?_
   refine qcq ?_
   refine qbx ?_
   refine qaz ?_
   refine qdb ?_
   refine q_b (L':=L) (R':=R) ?_
   have hd:=Zfe hc3
   refine ⟨congrArg Value.bool (decide_eq_decide.2 ?_),rfl,rfl⟩
   have:=hcl (-x.high)
   rw [Kvc,Vbd,hd.1]
   omega
  refine J5 (Ji (Jb (Jn (Jh ?_))))
  refine Xba ?_
  refine q_b (L':=L) (R':=R) ?_
  have hd:=Vnf hc2 hc3
  refine ⟨by rw [decide_eq_false (p:=Kvc r x fr sec)];rintro (h | ⟨h,_⟩);rw [Vbd] at h;omega;omega,rfl,rfl⟩
end
end Go.Proofs.YtchfclmokpbldaaGreat
