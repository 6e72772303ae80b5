import Derived.Test.YtchfclmokpbldaaGreatFeedX
import Derived.Test.YtchfclmokpbldaaGreatFeedT
import Derived.Test.YtchfclmokpbldaaGreatFits
import Derived.Test.YtchfclmokpbldaaGreatSiteD
set_option linter.unusedVariables false
set_option linter.unusedSimpArgs false
section
/-
  Power networks: the program's Answer, both Ticks, the reference's Due. By an AI agent; no person has read it.
-/
namespace Go.Proofs.YtchfclmokpbldaaGreat
open Go.Aw Go
set_option maxRecDepth 20000
attribute [local irreducible] CJ LJ DJ Tri YV Gives Jcj Ja1 Jbg Jci RV Ja2 OwL.L
section
variable {A9 B9:Prop}
theorem Jvh (a:A9) (h:A9→B9:=by exact Jax (Jal (row:=[_,_,_]) tb rfl rfl rfl zf zb zb) rfl):B9:=h a
theorem J1a (a:A9) (h:A9→B9:=by exact Jax (Jbc (qs:=[]) (out:=[_,_,_]) tb rfl rfl rfl rfl) rfl):B9:=h a
theorem J7s (h:B9:=by exact ⟨.nil,.nil,0,by rw [he];rfl,⟨OwL.nil_ok,OwL.nil_ok⟩,fun h=>by omega,by rw [Jbi,Jbi];rfl,rfl⟩):B9:=h
theorem J7m (a:A9) (h:A9→B9:=by exact Jbv (Jat tb ((⟨p.o,p.l.set s.toNat ⟨x.above,x.since,t,x.closed,x.late⟩⟩:OwL XSwitch)) _ rfl rfl ((show _=Value.slice _ _ _ from rfl).trans (by simp only [OwL.val,List.length_set])) rfl zg (i:=s.toNat) zj zu) rfl rfl rfl rfl):B9:=h a
theorem Ka7 (a:A9) (h:A9→B9:=by exact Jmm (Jar tb ((⟨p.o,p.l.set s.toNat ⟨x.above,x.since,t,x.closed,x.late⟩⟩:OwL XSwitch)) (⟨x.above,x.since,t,x.closed,lt⟩) rfl rfl rfl rfl zk zg (fun _=>rfl) zg ze zb zb) rfl rfl):B9:=h a
theorem J99 (h:B9:=by exact ⟨⟨p.o,(p.l.set s.toNat ⟨x.above,x.since,t,x.closed,x.late⟩).set s.toNat ⟨x.above,x.since,t,x.closed,lt⟩⟩,q,f.reply,by simp only [he,OwL.val,List.length_set],⟨hpk2,hqk⟩,fun _=>⟨by rw [Jgs,← hx,← hpl,← hlt,List.set_set],hql,rfl⟩,rfl,rfl⟩):B9:=h
theorem Kbo (h:B9:=by exact ⟨.nil,.nil,0,.nil,.nil,by rw [he];rfl,⟨OwL.nil_ok,OwL.nil_ok,OwL.nil_ok,OwL.nil_ok⟩,fun h=>by omega,by rw [Jbi,Jbi];rfl,rfl⟩):B9:=h
theorem Kc0 (a:A9) (h:A9→B9:=by exact Jbv (Jbj tb ((⟨p.o,(sw.set z.toNat ⟨x.above,x.since,x.shown,x.closed,true⟩)⟩:OwL XSwitch)) rfl rfl rfl zk zg (fun _=>rfl) zg zb) rfl rfl rfl rfl):B9:=h a
end
theorem Jqb (f:XFeeder) (s t:Int) (L:List Blk) (R:List Sl) (hf:FeederR f R):
    Tri Tryz.prog 153 [f.val,.int .i64 s,.int .i64 t].toArray L R (fun v L' R'=>∃(p:OwL XSwitch) (q:OwL Int) (r:Int),v=.tuple #[.agg #[p.val,q.val,.int .i64 r],.int .i64 (Jd0 f.switches.l f.zones.l f.reply s t)]∧(p.ok 5 XSwitch.cells∧q.ok 1 Jap)∧
      (Jd0 f.switches.l f.zones.l f.reply s t=0→p.l=Jgs f.switches.l s t∧q.l=f.zones.l∧r=f.reply)∧q.L 3 Jap ++ (p.L 76 XSwitch.cells ++ L)=L'∧R=R'):=by
  have hsR:=hf.sw
  refine Jad 57 Tryz.call153 Tryz.func153 rfl rfl rfl ?_
  refine Xaf ?_
  intro b3
  refine qaq ?_
  intro b6
  refine Xas ?_
  refine Jvh ?_
  refine q_l rfl (Jdr f _ _ hf) ?_
  refine Xa9 ?_
  refine q_c (fun hc0=>?_) (fun hc0=>?_)
  ·
   refine qae ?_
   refine J1a ?_
   refine Xbz ?_
   refine q_r (L':=L) (R':=R) (Jcf rfl (Jao (row:=[_,_,_]) tb rfl rfl rfl zf zb zb) (Jaf (show _=Value.int _ _ from rfl))) ?_
   have he:Jd0 f.switches.l f.zones.l f.reply s t=feedE f.switches.l f.zones.l f.reply:=by rw [Jd0,if_pos hc0]
   exact J7s
  refine qbo ?_
  refine Xb0 ?_
  apply Ja7 (G:=[_,_,_,_,_]) (j:=2) (cj:=18) rfl rfl zb rfl (show _=Value.bool _ from rfl) rfl
  ·
   intro hg3
   replace hg3:=qb hg3
   refine qaa ?_
   refine Xab ?_
   refine qbz ?_
   exact qai
  intro junk3
  refine qaf ?_
  refine q_c (fun hc1=>?_) (fun hc1=>?_)
  ·
   refine qae ?_
   refine J1a ?_
   refine Xa0 ?_
   refine q_r (L':=L) (R':=R) (Jcf rfl (Jao (row:=[_,_,_]) tb rfl rfl rfl zf zb zb) (Jaf (show _=Value.int _ _ from rfl))) ?_
   have he:Jd0 f.switches.l f.zones.l f.reply s t=16:=by rw [Jd0,if_neg za,if_pos za]
   exact J7s
  refine qbo ?_
  refine qaa ?_
  refine Xbu ?_
  apply Jb7 (G:=[_,_]) (j:=2) (cj:=28) rfl rfl zb rfl (show _=Value.bool _ from rfl) rfl
  ·
   intro hg3
   replace hg3:=qb hg3
   refine qaa ?_
   refine qbq ?_
   exact qai
  intro junk3
  refine qaf ?_
  refine q_c (fun hc2=>?_) (fun hc2=>?_)
  ·
   refine qae ?_
   refine J1a ?_
   refine Xa0 ?_
   refine q_r (L':=L) (R':=R) (Jcf rfl (Jao (row:=[_,_,_]) tb rfl rfl rfl zf zb zb) (Jaf (show _=Value.int _ _ from rfl))) ?_
   have he:Jd0 f.switches.l f.zones.l f.reply s t=10:=by rw [Jd0,if_neg za,if_neg za,if_pos za]
   exact J7s
  have he:Jd0 f.switches.l f.zones.l f.reply s t=0:=by rw [Jd0,if_neg za,if_neg za,if_neg za]
  have hok:=Jdt (sw:=f.switches.l) (zn:=f.zones.l) (rp:=f.reply) za
  have hsn:=hok.sn
  have hzl:=hok.zl
  have hg:=Jau (l:=f.switches.l) (k:=s.toNat) default za
  obtain ⟨x,hx⟩:∃x,x=f.switches.l.getD s.toNat default:=⟨_,rfl⟩
  rw [← hx] at hg
  refine qbv ?_
  refine Jvh ?_
  refine Jaw rfl (Jlw f _ _ hf za) rfl ?_
  rintro v L' R' ⟨p,q,rfl,⟨hpk,hqk⟩,hpl,hql,rfl,rfl⟩
  refine qaq ?_
  intro b9
  refine Xcw ?_
  have hpg:p.l[s.toNat]?=some x:=by rw [hpl];exact hg
  have hpn:p.l.length=f.switches.l.length:=by rw [hpl]
  refine qay ?_
  refine Xal ?_
  refine qaa ?_
  refine Jax (Jat tb (p) _ rfl rfl rfl rfl zg (i:=s.toNat) zj zu) rfl ?_
  refine qb0 ?_
  refine Jd9 (Jar tb (p) (⟨x.above,x.since,t,x.closed,x.late⟩) rfl rfl rfl rfl zk zg (fun _=>rfl) zg ze zb zb) ?_
  rintro v L' R' ⟨rfl,rfl⟩
  refine qa4 ?_
  have hpk1:=OwL.set_ok (f:=XSwitch.cells) (wd:=5) (p:=p) (i:=s.toNat) (x:=⟨x.above,x.since,t,x.closed,x.late⟩) (fun _=>rfl) hpk
  have hpg1:(p.l.set s.toNat ⟨x.above,x.since,t,x.closed,x.late⟩)[s.toNat]?=some ⟨x.above,x.since,t,x.closed,x.late⟩:=List.getElem?_set_self za
  refine Jbk tb [] [0,1,2,3,4,5,6,7,8,9,10,11,12,13,14] [15] (_) _ Jby zc zi (List.nil_sublist _) ?_
  refine Xc6 ?_
  refine Xc6 ?_
  refine J7m ?_
  refine qcv ?_
  refine Jbv (Jbj tb ((⟨p.o,p.l.set s.toNat ⟨x.above,x.since,t,x.closed,x.late⟩⟩:OwL XSwitch)) rfl rfl rfl zk zg (fun _=>rfl) zg zb) rfl rfl rfl rfl ?_
  refine Jbv (Jav (show _=Value.bool _ from rfl)) rfl rfl rfl rfl ?_
  refine Jyn (k:=50) (show _=Value.bool _ from rfl) (fun hg9=>?_) (fun hg9=>?_)
  ·
   replace hg9:=qb hg9
   let lt:Bool:=decide (¬ t= -1)
   have hlt:lt=(if t= -1 then false else x.late):=by simp only [lt,hg9];split <;> simp_all
   have hpk2:=OwL.set_ok (f:=XSwitch.cells) (wd:=5) (p:=⟨p.o,p.l.set s.toNat ⟨x.above,x.since,t,x.closed,x.late⟩⟩) (i:=s.toNat) (x:=⟨x.above,x.since,t,x.closed,lt⟩) (fun _=>rfl) hpk1
   refine qbf ?_
   refine Jbv (Jou rfl rfl) rfl rfl rfl rfl ?_
   refine Jbv zL rfl rfl rfl rfl ?_
   refine J7m ?_
   refine qcv ?_
   refine qba ?_
   refine Ka7 ?_
   rintro v L' R' ⟨rfl,rfl⟩
   refine qa1 ?_
   refine Jaz (Jab (Jam (Jah ?_)))
   refine Jvh ?_
   refine Xbl ?_
   refine q_r (L':=q.L 3 Jap ++ ((⟨p.o,(p.l.set s.toNat ⟨x.above,x.since,t,x.closed,x.late⟩).set s.toNat ⟨x.above,x.since,t,x.closed,lt⟩⟩:OwL XSwitch).L 76 XSwitch.cells ++ L)) (R':=R) (Jcf rfl (Jao (row:=[_,_,_]) tb rfl rfl rfl zf zb zb) (Jaf (show _=Value.int _ _ from rfl))) ?_
   exact J99
  replace hg9:=qb hg9
  let lt:Bool:=false
  have hlt:lt=(if t= -1 then false else x.late):=by simp only [lt,hg9];split <;> rfl
  have hpk2:=OwL.set_ok (f:=XSwitch.cells) (wd:=5) (p:=⟨p.o,p.l.set s.toNat ⟨x.above,x.since,t,x.closed,x.late⟩⟩) (i:=s.toNat) (x:=⟨x.above,x.since,t,x.closed,lt⟩) (fun _=>rfl) hpk1
  refine Jtd rfl rfl rfl ?_
  refine Jtd rfl rfl rfl ?_
  refine Jbv zL rfl rfl rfl rfl ?_
  refine J7m ?_
  refine qcv ?_
  refine qba ?_
  refine Ka7 ?_
  rintro v L' R' ⟨rfl,rfl⟩
  refine qa1 ?_
  refine Jaz (Jab (Jam (Jah ?_)))
  refine Jvh ?_
  refine Xbl ?_
  refine q_r (L':=q.L 3 Jap ++ ((⟨p.o,(p.l.set s.toNat ⟨x.above,x.since,t,x.closed,x.late⟩).set s.toNat ⟨x.above,x.since,t,x.closed,lt⟩⟩:OwL XSwitch).L 76 XSwitch.cells ++ L)) (R':=R) (Jcf rfl (Jao (row:=[_,_,_]) tb rfl rfl rfl zf zb zb) (Jaf (show _=Value.int _ _ from rfl))) ?_
  exact J99
def Jp8 (sw:List XSwitch) (zn:List Int) (rp t:Int):Int:=if feedE sw zn rp≠0 then feedE sw zn rp else if Jix sw t then 0 else 8
theorem Jxw {sw:List XSwitch} {rp t z:Int} {y:XTick} (hz:0≤z∧z < sw.length) (h:Jiy sw rp t (sw.length - 1 - z).toNat=y):Jiy sw rp t (sw.length - 1 - (z - 1)).toNat=Jm4 rp t y z.toNat:=by
  have e:((sw.length:Int) - 1 - (z - 1)).toNat=((sw.length:Int) - 1 - z).toNat + 1:=by omega
  have e2:sw.length - 1 - ((sw.length:Int) - 1 - z).toNat=z.toNat:=by omega
  rw [e,Jiy,h,e2]
theorem J5v {sw sw':List XSwitch} {zn:List Int} {rp t:Int} (h:feedE sw zn rp=0) (k:SwKeep sw sw' t) {i:Nat} (hi:i < sw.length):-1≤(sw'.getD i default).above∧(sw'.getD i default).above < i:=by
  rw [(k.at_ i hi).1];exact (Jdt h).up i hi
theorem J1t {sw:List XSwitch} {a t:Int} {i:Nat} (h:a.toNat≠i):(Jdn sw a t)[i]?=sw[i]?:=by
  rw [Jdn];split
  · rw [List.getElem?_set_ne h]
  · rfl
theorem Jvx (f:XFeeder) (t:Int) (L:List Blk) (R:List Sl) (hf:FeederR f R):
    Tri Tryz.prog 158 [f.val,.int .i64 t].toArray L R (fun v L' R'=>∃(p:OwL XSwitch) (q:OwL Int) (r:Int) (la op:OwL Int),v=.tuple #[.agg #[p.val,q.val,.int .i64 r],la.val,op.val,.int .i64 (Jp8 f.switches.l f.zones.l f.reply t)]∧(p.ok 5 XSwitch.cells∧q.ok 1 Jap∧la.ok 1 Jap∧op.ok 1 Jap)∧(Jp8 f.switches.l f.zones.l f.reply t=0→p.l=(Jgd f.switches.l f.reply t).sw∧q.l=f.zones.l∧r=f.reply∧la.l=(Jgd f.switches.l f.reply t).late∧op.l=(Jgd f.switches.l f.reply t).opened)∧op.L 3 Jap ++ (la.L 3 Jap ++ (q.L 3 Jap ++ (p.L 76 XSwitch.cells ++ L)))=L'∧R=R'):=by
  refine Jad 86 Tryz.call158 Tryz.func158 rfl rfl rfl ?_
  refine Xaf ?_
  intro b2
  refine qaq ?_
  intro b4
  refine Xbr ?_
  refine Xas ?_
  refine Jvh ?_
  refine q_l rfl (Jdr f _ _ hf) ?_
  refine Xa9 ?_
  refine q_c (fun hc0=>?_) (fun hc0=>?_)
  ·
   refine qae ?_
   refine J1a ?_
   refine qaa ?_
   refine qak ?_
   refine Xbr ?_
   refine Xai ?_
   refine q_r (L':=L) (R':=R) (J8s rfl (Jao (row:=[_,_,_]) tb rfl rfl rfl zf zb zb) (Jaf (show _=Value.slice _ _ _ from rfl)) (Jaf (show _=Value.slice _ _ _ from rfl)) (Jaf (show _=Value.int _ _ from rfl))) ?_
   have he:Jp8 f.switches.l f.zones.l f.reply t=feedE f.switches.l f.zones.l f.reply:=by rw [Jp8,if_pos hc0]
   exact Kbo
  refine qbo ?_
  refine Jvh ?_
  refine qaa ?_
  refine q_l rfl (Jqx f t _ _ hf) ?_
  refine Xbd ?_
  refine q_c (fun hc1=>?_) (fun hc1=>?_)
  ·
   refine qae ?_
   refine J1a ?_
   refine qak ?_
   refine Xbr ?_
   refine Xai ?_
   refine q_r (L':=L) (R':=R) (J8s rfl (Jao (row:=[_,_,_]) tb rfl rfl rfl zf zb zb) (Jaf (show _=Value.slice _ _ _ from rfl)) (Jaf (show _=Value.slice _ _ _ from rfl)) (Jaf (show _=Value.int _ _ from rfl))) ?_
   have he:Jp8 f.switches.l f.zones.l f.reply t=8:=by rw [Jp8,if_neg hc0,if_neg zI]
   exact Kbo
  have hfe:feedE f.switches.l f.zones.l f.reply=0:=by omega
  have htm:Jix f.switches.l t:=by simpa using hc1
  have he:Jp8 f.switches.l f.zones.l f.reply t=0:=by rw [Jp8,if_neg hc0,if_pos htm]
  have hok:=Jdt hfe
  have hsn:=hok.sn
  have hzl:=hok.zl
  have hrp:=hok.rp
  refine qbv ?_
  refine Jvh ?_
  refine Jaw rfl (Jlw f _ _ hf za) rfl ?_
  rintro v L' R' ⟨p,q,rfl,⟨hpk,hqk⟩,hpl,hql,rfl,rfl⟩
  refine qaq ?_
  intro b9
  refine Xa2 ?_
  refine Xbr ?_
  refine qco ?_
  have hpn:p.l.length=f.switches.l.length:=by rw [hpl]
  refine qay ?_
  refine Xab ?_
  refine qa9 ?_
  refine Xb2 ?_
  refine Jan [(1,Value.int _ _),(2,Value.pointer _),(4,Value.pointer _),(9,Value.pointer _),(10,Value.slice _ _ _),(11,Value.slice _ _ _),(12,Value.int _ _)] zh fun tq0=>?_
  refine Jdg [10,11,12,13,31,32,33,34,35,36,37,38,39,40,41,42,43,44,45,46,47,48,49,50,51,52,53,54,55,56,57,58,59,60,61,62,63,64,65,66,67,68,69,70,71,72,73,74,75,76,77,78,79,80,81,82] ((⟨fun g=>[(12,.int .i64 g.1.1),(10,g.1.2.1.1.val),(11,g.1.2.1.2.val)],fun g=>g.1.2.1.2.L 3 Jap ++ (g.1.2.1.1.L 3 Jap ++ (⟨b9,[p.val,q.val,.int .i64 f.reply],42⟩ :: (q.L 3 Jap ++ ((⟨p.o,g.1.2.2⟩:OwL XSwitch).L 76 XSwitch.cells ++ (⟨b4,[.slice none 0 0,.slice none 0 0,.int .i64 0],42⟩ :: ⟨b2,f.cells,42⟩ :: L))))),fun _=>R,fun g=>(g.1.1 + 1).toNat⟩:Head {g:Int×(OwL Int×OwL Int)×List XSwitch // (-1≤g.1∧g.1 < f.switches.l.length)∧Jiy f.switches.l f.reply t (f.switches.l.length - 1 - g.1).toNat=⟨g.2.2,g.2.1.1.l,g.2.1.2.l⟩∧(g.2.1.1.ok 1 Jap∧g.2.1.2.ok 1 Jap)})) (⟨((p.l.length:Int) - 1,(OwL.nil,OwL.nil),p.l),by dsimp only;omega,by dsimp only;rw [show ((f.switches.l.length:Int) - 1 - ((p.l.length:Int) - 1)).toNat=0 by omega,Jiy,hpl],OwL.nil_ok,OwL.nil_ok⟩) zh (by simp only [Jbi,List.nil_append];exact zi) (Jac _) ?_
  rintro ⟨⟨z,⟨la,op⟩,sw⟩,hz,hT,hlk,hok2⟩ junk
  try dsimp only
  dsimp only at hz hT hlk hok2
  have hkeep:SwKeep f.switches.l sw t:=by have:=Jit (rp:=f.reply) (t:=t) hfe (f.switches.l.length - 1 - z).toNat za;rw [hT] at this;exact this
  have hsl:=hkeep.len
  have htln:=Jmh (sw:=f.switches.l) (rp:=f.reply) (t:=t) (f.switches.l.length - 1 - z).toNat
  rw [hT] at htln
  dsimp only at htln
  have hkS:(⟨p.o,sw⟩:OwL XSwitch).ok 5 XSwitch.cells:=OwL.len_ok (fun _=>rfl) hpk (hsl.trans hpn.symm)
  refine Xbn ?_
  refine Xcq ?_
  refine q_c (fun hc2=>?_) (fun hc2=>?_)
  ·
   have hsu:=Jxw (rp:=f.reply) (t:=t) (z:=z) za hT
   have hg:=Jau (l:=sw) (k:=z.toNat) default za
   have hab:=J5v hfe hkeep (i:=z.toNat) za
   have hsi:=hkeep.at_ z.toNat za
   have hsi0:=hok.since z.toNat za
   have htm0:=htm.1
   rw [Jm4] at hsu
   dsimp only at hsu
   obtain ⟨x,hx⟩:∃x,x=sw.getD z.toNat default:=⟨_,rfl⟩
   rw [← hx] at hg hab hsi hsu
   rw [show J27 x=⟨x.above,x.since,x.shown,x.closed,true⟩ from rfl] at hsu
   have hsi1:=hsi.2.1
   refine qbb ?_
   refine Xal ?_
   refine Jax (Jat tb ((⟨p.o,sw⟩:OwL XSwitch)) _ rfl rfl ((show _=Value.slice _ _ _ from rfl).trans (by simp only [OwL.val,hsl,hpn])) rfl zg (i:=z.toNat) zj zu) rfl ?_
   refine qc1 ?_
   refine qco ?_
   refine Jbf tb [0,1,2,3,4,5,6,7,8,9,10,11,12,13,14,15] _ Jby zc (List.Sublist.refl _) ?_
   refine Xbt ?_
   refine Jbu (Job (row:=[_,_,_,_,_]) tb ((⟨p.o,sw⟩:OwL XSwitch)) rfl rfl rfl zk zg (fun _=>rfl) zg zb zb) rfl rfl rfl ?_
   refine q_d rfl (J2j x _ _) ?_
   refine Jbu (Jnf rfl) rfl rfl rfl ?_
   refine qb2 ?_
   refine Jdw (k:=44) (show _=Value.bool _ from rfl) (fun hg5=>?_) (fun hg5=>?_)
   ·
    replace hg5:=qb hg5
    iterate 9 refine qap ?_
    refine Xbx ?_
    refine Jb2 rfl ?_
    refine Jcc (Jbt (Jbb (Jab (Jah ?_))))
    refine Xdd ?_
    exact q_k ⟨(z - 1,(la,op),sw),by dsimp only;omega,by dsimp only;rw [hsu,if_neg zSa],hlk,hok2⟩
   replace hg5:=qb hg5
   refine qao ?_
   refine Xbt ?_
   refine qce ?_
   refine Jbu (Jbj tb ((⟨p.o,sw⟩:OwL XSwitch)) rfl rfl rfl zk zg (fun _=>rfl) zg zb) rfl rfl rfl ?_
   refine qb7 ?_
   refine Xan ?_
   refine Jbu (Jm9 rfl rfl) rfl rfl rfl ?_
   refine Xbx ?_
   refine q_c (fun hc3=>?_) (fun hc3=>?_)
   ·
    refine Jcc (Jbt (Jbb (Jab (Jah ?_))))
    refine Xdd ?_
    exact q_k ⟨(z - 1,(la,op),sw),by dsimp only;omega,by dsimp only;rw [hsu,if_neg zSa],hlk,hok2⟩
   rw [if_pos ⟨by simpa using hg5,by omega⟩] at hsu
   refine qbv ?_
   refine qa6 ?_
   refine Jax (Jay rfl) rfl ?_
   refine qb0 ?_
   refine Jd9 (Jar tb ((⟨p.o,sw⟩:OwL XSwitch)) (⟨x.above,x.since,x.shown,x.closed,true⟩) rfl rfl rfl rfl zk zg (fun _=>rfl) zg ze zb zb) ?_
   rintro v L' R' ⟨rfl,rfl⟩
   refine qa4 ?_
   have hk1:(⟨p.o,(sw.set z.toNat ⟨x.above,x.since,x.shown,x.closed,true⟩)⟩:OwL XSwitch).ok 5 XSwitch.cells:=OwL.set_ok (f:=XSwitch.cells) (wd:=5) (p:=(⟨p.o,sw⟩:OwL XSwitch)) (i:=z.toNat) (x:=⟨x.above,x.since,x.shown,x.closed,true⟩) (fun _=>rfl) hkS
   have hg1:(sw.set z.toNat ⟨x.above,x.since,x.shown,x.closed,true⟩)[z.toNat]?=some ⟨x.above,x.since,x.shown,x.closed,true⟩:=List.getElem?_set_self za
   have hl1:(sw.set z.toNat ⟨x.above,x.since,x.shown,x.closed,true⟩).length=f.switches.l.length:=by rw [List.length_set];exact hsl
   obtain ⟨S2,hS2⟩:∃S2,S2=if 0≤x.above then Jdn (sw.set z.toNat ⟨x.above,x.since,x.shown,x.closed,true⟩) x.above t else (sw.set z.toNat ⟨x.above,x.since,x.shown,x.closed,true⟩):=⟨_,rfl⟩
   refine Xci ?_
   refine qcx ?_
   rintro v L' R' ⟨b60,rfl,rfl,hR60⟩
   replace hR60:=hR60.symm;subst hR60
   refine Jgl (Ja9 (f:=Jap) (p:=la) (a:=z) tb rfl rfl rfl rfl (hlk) zk (Jb0 zf rfl rfl) rfl zB) rfl ?_
   rintro v L' R' ⟨o61,rfl,hok61,rfl,rfl⟩
   refine Xc4 ?_
   refine Jbk tb [] [0,1,2,3,4,5,6,7,8,9,10,11] [12,13] (_) _ Jby zc zi (List.nil_sublist _) ?_
   refine qb3 ?_
   refine Jbv (Jay rfl) rfl rfl rfl rfl ?_
   refine qcv ?_
   refine Kc0 ?_
   refine Jbv (Jq3 rfl rfl) rfl rfl rfl rfl ?_
   refine Jbv (Jav (show _=Value.bool _ from rfl)) rfl rfl rfl rfl ?_
   refine Jyn (k:=67) (show _=Value.bool _ from rfl) (fun hg5=>?_) (fun hg5=>?_)
   ·
    replace hg5:=qb hg5
    have eS:Jdn (sw.set z.toNat ⟨x.above,x.since,x.shown,x.closed,true⟩) x.above t=S2:=by rw [hS2,if_pos hg5]
    have hop:=Jng (⟨p.o,(sw.set z.toNat ⟨x.above,x.since,x.shown,x.closed,true⟩)⟩:OwL XSwitch) q.val f.reply x.above t R hk1 zy
    have hpv:(⟨p.o,(sw.set z.toNat ⟨x.above,x.since,x.shown,x.closed,true⟩)⟩:OwL XSwitch).val=p.val:=by simp only [OwL.val,hl1,hpn]
    rw [hpv] at hop
    dsimp only at hop
    rw [eS] at hop
    refine Jbv (Jal (row:=[_,_,_]) tb rfl rfl rfl zf zb zb) rfl rfl rfl rfl ?_
    refine qb3 ?_
    refine Jbv (Jay rfl) rfl rfl rfl rfl ?_
    refine qcv ?_
    refine Kc0 ?_
    refine qbf ?_
    refine qba ?_
    refine Jei rfl (Tri.at (by repeat (first | apply Seg.here | apply Seg.cons | apply Seg.app)) hop) rfl rfl ?_
    rintro v L' R' ⟨_,rfl,rfl,hk2,rfl,rfl⟩
    refine ⟨zi,zx,?_⟩
    refine Xbx ?_
    refine q_c (fun hc4=>?_) (fun hc4=>?_)
    ·
     have hg2:S2[z.toNat]?=some ⟨x.above,x.since,x.shown,x.closed,true⟩:=by rw [← eS,J1t za];exact hg1
     refine Xdv ?_
     refine qa6 ?_
     refine Jax (Jay rfl) rfl ?_
     refine qb0 ?_
     refine Jax (Jbj tb ((⟨p.o,S2⟩:OwL XSwitch)) rfl rfl rfl zk zg (fun _=>rfl) zg zb) rfl ?_
     refine qcx ?_
     rintro v L' R' ⟨b81,rfl,rfl,hR81⟩
     replace hR81:=hR81.symm;subst hR81
     refine Jgl (Ja9 (f:=Jap) (p:=op) (a:=x.above) tb rfl rfl rfl rfl (hok2) zk (Jb0 zf rfl rfl) rfl zB) rfl ?_
     rintro v L' R' ⟨o82,rfl,hok82,rfl,rfl⟩
     refine qc4 ?_
     refine qcs ?_
     refine Xdd ?_
     exact q_k ⟨(z - 1,(⟨o61,la.l ++ [z]⟩,⟨o82,op.l ++ [x.above]⟩),S2),by dsimp only;omega,by dsimp only;rw [hsu,if_pos ⟨hg5,hc4⟩,← eS,Int.toNat_of_nonneg za],hok61,hok82⟩
    refine qbj ?_
    refine Xdd ?_
    exact Jbl ⟨(z - 1,(⟨o61,la.l ++ [z]⟩,op),S2),by dsimp only;omega,by
    dsimp only
    have hn4:¬ (0≤x.above∧((sw.set z.toNat ⟨x.above,x.since,x.shown,x.closed,true⟩).getD x.above.toNat default).closed=true):=by
      rintro ⟨h1,h2⟩
      first | omega | exact hc4 h2 | (rw [h2] at hc4;cases hc4)
    have e2:S2=(sw.set z.toNat ⟨x.above,x.since,x.shown,x.closed,true⟩):=by
      rcases Classical.em (0≤x.above) with h1 | h1
      · rw [hS2,if_pos h1,Jdn,if_neg (fun h2=>hn4 ⟨h1,h2⟩)]
      · rw [hS2,if_neg h1]
    rw [hsu,if_neg hn4,e2,Int.toNat_of_nonneg za],hok61,hok2⟩ zm zh zi (Jac _) zy
   replace hg5:=qb hg5
   have eS:(sw.set z.toNat ⟨x.above,x.since,x.shown,x.closed,true⟩)=S2:=by rw [hS2,if_neg hg5]
   have hk2:(⟨p.o,S2⟩:OwL XSwitch).ok 5 XSwitch.cells:=by rw [← eS];exact hk1
   rw [eS]
   iterate 6 refine Jtd rfl rfl rfl ?_
   refine qba ?_
   refine qap ?_
   refine Xbx ?_
   refine Je9 rfl ?_
   refine qbj ?_
   refine Xdd ?_
   exact Jbl ⟨(z - 1,(⟨o61,la.l ++ [z]⟩,op),S2),by dsimp only;omega,by
   dsimp only
   have hn4:¬ (0≤x.above∧((sw.set z.toNat ⟨x.above,x.since,x.shown,x.closed,true⟩).getD x.above.toNat default).closed=true):=by
     rintro ⟨h1,h2⟩
     first | omega | exact hc4 h2 | (rw [h2] at hc4;cases hc4)
   have e2:S2=(sw.set z.toNat ⟨x.above,x.since,x.shown,x.closed,true⟩):=by
     rcases Classical.em (0≤x.above) with h1 | h1
     · rw [hS2,if_pos h1,Jdn,if_neg (fun h2=>hn4 ⟨h1,h2⟩)]
     · rw [hS2,if_neg h1]
   rw [hsu,if_neg hn4,e2,Int.toNat_of_nonneg za],hok61,hok2⟩ zm zh zi (Jac _) zy
  obtain rfl:z= -1:=by omega
  have hTS:Jgd f.switches.l f.reply t=⟨sw,la.l,op.l⟩:=by rw [Jgd,← hT];congr 1;omega
  refine qbk ?_
  refine Jvh ?_
  refine qbm ?_
  refine qbm ?_
  refine qak ?_
  refine Xbr ?_
  refine Xah ?_
  refine q_r (L':=op.L 3 Jap ++ (la.L 3 Jap ++ (q.L 3 Jap ++ ((⟨p.o,sw⟩:OwL XSwitch).L 76 XSwitch.cells ++ L)))) (R':=R) (J8s rfl (Jao (row:=[_,_,_]) tb rfl rfl rfl zf zb zb) (Jaf (show _=Value.slice _ _ _ from rfl)) (Jaf (show _=Value.slice _ _ _ from rfl)) (Jaf (show _=Value.int _ _ from rfl))) ?_
  exact ⟨(⟨p.o,sw⟩:OwL XSwitch),q,f.reply,la,op,by rw [he];simp only [OwL.val,hsl,hpn],⟨hkS,hqk,hlk,hok2⟩,fun _=>⟨by rw [hTS],hql,rfl,by rw [hTS],by rw [hTS]⟩,rfl,rfl⟩
end Go.Proofs.YtchfclmokpbldaaGreat
end
section
/-
  What an append to a full read-only slice gives. By an AI agent; no person has read it.
-/
namespace Go.Aw
open Go
section
variable {P:Program} {ρ:Operand→Value} {L:List Blk} {R:List Sl} {dst:Option Tmp} {ty:TypeId} {pos:String} {after:Array Edge} {guard:Option (Nat×Bool)} (tb:Tabs P) {T:TypeId} {x y:Operand}
theorem Jyv {n : Nat} : ∀ {rows : List (List Value)}, (∀ r ∈ rows, r.length = n) → rows.flatten.length = rows.length * n
  | [],_=>by simp
  | r :: rows,h=>by rw [List.flatten_cons,List.length_append,Jyv fun r hr=>h r (by simp [hr]),h r zo,List.length_cons,Nat.succ_mul];omega
end
end Go.Aw
end
section
/-
  A slice without its first elements; appending a read-only slice to an own one. By an AI agent; no person has read it.
-/
namespace Go.Proofs.YtchfclmokpbldaaGreat
open Go.Aw Go
theorem Jz7 {P : Program} {ρ : Operand → Value} {L : List Blk} {R : List Sl} {dst : Option Tmp} {ty : TypeId} {pos : String} {after : Array Edge} {guard : Option (Nat × Bool)} (tb : Tabs P) {T : TypeId} {x y : Operand} {k : IntKind} {len cap m : Nat} {h : Int} {ar : Option Addr} {e n1 fl bt z k2 n2 fl2 bt2 z2}
    (hT:Jdy tb.tab T=some ⟨.slice e,n1,fl,bt,z⟩) (hE:Jdy tb.tab e=some ⟨k2,n2,fl2,bt2,z2⟩) (hx:ρ x=.slice ar len cap) (hy:ρ y=.int k h) (hh:h=(m:Int)) (h1:1≤m) (hn:m≤len):
    YV P ⟨dst,.slice T x (some y) none none,ty,pos,after,guard⟩ ρ L R (.slice (if cap=m then ar else ar.map (·.add (m * n2))) (len - m) (cap - m)):=fun _ w _=>by
  have hu:=Jct (tb.ok _ _ hT) rfl
  have he:P.elem T=e:=by simp [Program.elem,hu]
  have hu':P.underlying T=some (.slice (P.elem T)):=by rw [he];exact hu
  have hs:=Go.Aw.run_sizeOf (tb.ok _ _ hE) w
  simp only at hs
  subst hh
  have h1:=run_slice_l (P:=P) w T ar len cap hu' k (m:Int) za za
  rw [he,hs,Result.andThen_ok,Int.toNat_natCast] at h1
  simp [execOp,hx,hy,run_sliceAt_slice w T _ _ _ _ hu',h1,sliced]
theorem J3p {w:World} {G:Nat→Prop} {wd len cap m:Nat} {a:Option Addr} {rows:List (List Value)} {subs:List Sl} (h:Rep w G (.mk wd a len cap rows subs)) (h1:1≤m) (hk:m≤len) (hp:0 < wd):Rep w G (.mk wd (if cap=m then a else a.map (·.add (m * wd))) (len - m) (cap - m) (rows.drop m) subs):=by
  cases h with
  | mk hl hc hm hw hr hs=>
    refine .mk zF za za (fun r hr=>hw r (List.mem_of_mem_drop hr)) ?_ hs
    rcases Nat.lt_or_ge m len with h2 | h2
    · rcases hr with h0 | ⟨b, off, ha, hg, Jlh⟩
      · exact .inl (by rw [h0];simp)
      · have hmw : 0 < m * wd := Nat.mul_pos h1 hp
        refine .inr ⟨b,off + m * wd,by rw [if_neg za,ha,Option.map_some,Addr.add,if_neg za],hg,fun i j hi hj=>?_⟩
        have:=Jlh (i + m) j za hj
        have e:off + m * wd + i * wd + j=off + (i + m) * wd + j:=by rw [Nat.add_mul];omega
        rw [List.getElem?_drop,Nat.add_comm m i,← this,e]
    · exact .inl (List.drop_eq_nil_of_le za)
abbrev Jfk {α:Type} (y:Arr α) (m wd:Nat):Arr α:=⟨if y.cap=m then y.a else y.a.map (·.add (m * wd)),y.cap - m,y.l.drop m⟩
abbrev Jqg {α:Type} (y:Arr α) (m:Nat):Arr α:=⟨y.a,y.cap,y.l.take m⟩
theorem Jlg {α:Type} {P n code t L R} {Q:Jbp} {wd m:Nat} {f:α→List Value} {subs:List Sl} {y:Arr α} (hR:InR (y.sl wd f subs) R) (h1:1≤m) (hk:m≤y.l.length) (hp:0 < wd) (h:CJ P n code t L ((Jfk y m wd).sl wd f subs :: R) Q):CJ P n code t L R Q:=by
  refine Jwu (s:=(Jfk y m wd).sl wd f subs) (fun w G hh=>?_) h
  obtain ⟨r,hr,hs⟩:=hR
  have h2:=J3p ((hh r hr).sub hs) h1 hk hp
  have e1:y.l.length - m=(y.l.drop m).length:=by rw [List.length_drop]
  have e2:(y.l.map f).drop m=(y.l.drop m).map f:=by rw [List.map_drop]
  rw [e1,e2] at h2
  exact h2
section
variable {P:Program} {ρ:Operand→Value} {L:List Blk} {R:List Sl} {dst:Option Tmp} {ty:TypeId} {pos:String} {after:Array Edge} {guard:Option (Nat×Bool)} (tb:Tabs P) {T:TypeId} {x y:Operand}
theorem J22 {α:Type} {f:α→List Value} {xs:Arr α} {n2:Nat} {subs:List Sl} (hR:InR (xs.sl n2 f subs) R) (h0:0 < n2) (hx0:0 < xs.l.length) {c:Ctx} {w:World} (hst:St c L R w):Jz3 L R xs.val xs.l.length n2 (xs.l.flatMap f):=by
  obtain ⟨ar,cap,l⟩:=xs
  dsimp only at hR hx0 ⊢
  have hw:∀r∈l.map f,r.length=n2:=by
    have hst':=hst
    obtain ⟨⟨G,hh,_⟩,_,_⟩:=hst'
    obtain ⟨r,hr,hsub⟩:=hR
    have hrep:=(hh.rep r hr).sub hsub
    cases hrep with
    | mk _ _ _ hw _ _=>exact hw
  have hf0:(l.map f).flatten=l.flatMap f:=Jl3 _
  have hfl:(l.map f).flatten.length=l.length * n2:=by rw [Jyv hw,List.length_map]
  have hsx:=Jyx (L:=L) hR h0 (fun c w hst=>by
    obtain ⟨⟨G,hh,_⟩,_,_⟩:=hst
    obtain ⟨r,hr,hsub⟩:=hR
    have hrep:=(hh.rep r hr).sub hsub
    cases hrep with
    | mk _ _ _ _ hm _=>
      rcases hm with h | ⟨b,off,ha,_⟩
      · have h' := congrArg List.length h
        simp at h'
        rw [h'] at hx0
        simp at hx0
      · exact ⟨b,off,ha⟩) hfl ⟨c,w,hst⟩
  rw [hf0] at hsx
  exact hsx
theorem Jsj {α : Type} {e n fl bt z k2 n2 fl2 bt2 z2} {f : α → List Value} (p : OwL α) (xs : Arr α) {subs : List Sl} {F : OwL α → List Blk} (hT : Jdy tb.tab T = some ⟨.slice e, n, fl, bt, z⟩) (hE : Jdy tb.tab e = some ⟨k2, n2, fl2, bt2, z2⟩) (hn2 : z2.length = n2) (h0 : 0 < n2)
    (hx:ρ x=p.val) (hy:ρ y=xs.val) (hok:p.ok n2 f) (hR:InR (xs.sl n2 f subs) R) (hseg:OSeg e f p L F) (h1:∀x,(f x).all (·.oneCell')=true) (hby:(p.l.length + xs.l.length) * (bt2 + 1)≤140737488355328):
    Gives P ⟨dst,.call ⟨.builtin .append,#[x,y],#[T,T]⟩,ty,pos,after,guard⟩ ρ L R (fun v L' R'=>∃o:Ow,v=(⟨o,p.l ++ xs.l⟩:OwL α).val∧(⟨o,p.l ++ xs.l⟩:OwL α).ok n2 f∧F ⟨o,p.l ++ xs.l⟩=L'∧R=R'):=by
  obtain ⟨A,B,hL,hF⟩:=hseg.split
  intro c w hst ac next Q kk
  have hb1:(p.l.length + xs.l.length) * bt2≤140737488355328:=Nat.le_trans (Nat.mul_le_mul_left _ (Nat.le_succ _)) hby
  have hb2:p.l.length + xs.l.length≤140737488355328:=Nat.le_trans (Nat.le_mul_of_pos_right _ (Nat.succ_pos _)) hby
  have hx':ρ x=p.o.val p.l.length:=by rw [hx,Ow.val_of_ok hok];rfl
  rcases Nat.eq_zero_or_pos xs.l.length with hz | hz
  · have hnil : xs.l = [] := List.eq_nil_of_length_eq_zero hz
    have hy':ρ y=.slice xs.a 0 xs.cap:=by rw [hy,Arr.val,hz]
    have hsame:F p=L:=by rw [hF,hL]
    cases ho:p.o with
    | nil=>
      have hu:=Jct (tb.ok _ _ hT) rfl
      obtain ⟨ti,u,zv,i1,i2,i3,i4⟩:=Jce (tb.ok _ _ hE)
      have e1:execOp ρ ⟨dst,.call ⟨.builtin .append,#[x,y],#[T,T]⟩,ty,pos,after,guard⟩=(do pure (.value (← Builtin.append_ #[T,T] ty #[ρ x,ρ y]))):=by
        simp [execOp,resolve,invoke,builtin]
      have hr:=Jjk w T ty e ti hu i1 xs.a xs.cap
      have hpl:p.l=[]:=by
        have hok':=hok
        rw [OwL.ok,ho] at hok'
        exact List.eq_nil_of_length_eq_zero hok'.1
      have hxn:ρ x=.slice none 0 0:=by rw [hx,OwL.val,ho,hpl];rfl
      refine Jdh (w':=w) (v:=.slice none 0 0) ?_ (kk _ _ _ w ⟨.nil,by rw [hnil,hpl];rfl,by rw [hnil,hpl];exact ⟨rfl,rfl⟩,?_,rfl⟩ hst)
      · rw [e1, hxn, hy']
        simp only [Sem.run_bind,hr,Result.andThen_ok,Sem.run_pure]
      · rw [← hsame,hnil,List.append_nil,← ho]
    | own g cap spare=>
      have hcap:p.l.length≤cap:=by
        have hok':=hok
        rw [OwL.ok,ho] at hok'
        exact hok'.2.1
      have hxo:ρ x=.slice (some ⟨g,0,none⟩) p.l.length cap:=by rw [hx,OwL.val,ho];rfl
      refine Jr8 (L:=L) (R:=R) (dst:=dst) (ty:=ty) (pos:=pos) (after:=after) (guard:=guard) tb hT hE hxo hy' hcap c w hst ac next Q ?_
      rintro v L' R' w' ⟨rfl,rfl,rfl⟩ hst'
      rw [hnil,List.append_nil] at kk
      exact kk _ _ _ w' ⟨p.o,by rw [OwL.val,ho];rfl,hok,hsame,rfl⟩ hst'
  · have hsh := J22 (L := L) hR h0 hz hst
    rw [← hy] at hsh
    subst hL
    refine Jjv (dst:=dst) (ty:=ty) (pos:=pos) (after:=after) (guard:=guard) tb hT hE hn2 hx' hok (J2e A _ B) hsh hz (Jyf h1 _) za hb1 c w hst ac next Q ?_
    rintro v L' R' w' ⟨g,cap,spare,rfl,hok',rfl,rfl⟩ hst'
    have e:p.l.flatMap f ++ xs.l.flatMap f=(p.l ++ xs.l).flatMap f:=by simp
    rw [e] at hok'
    have hl:(p.l ++ xs.l).length=p.l.length + xs.l.length:=by simp
    refine kk _ _ _ w' ⟨.own g cap spare,?_,?_,?_,rfl⟩ hst'
    · rw [OwL.val];dsimp only;rw [hl];rfl
    · rw [OwL.ok];dsimp only;rw [hl];exact hok'
    · rw [hF,OwL.L];dsimp only;rw [← e]
end
end Go.Proofs.YtchfclmokpbldaaGreat
end
section
/-
  Parts of slices that are only read. By an AI agent; no person has read it.
-/
namespace Go.Proofs.YtchfclmokpbldaaGreat
open Go.Aw Go
section
variable {P:Program} {ρ:Operand→Value} {L:List Blk} {R:List Sl} {dst:Option Tmp} {ty:TypeId} {pos:String} {after:Array Edge} {guard:Option (Nat×Bool)} (tb:Tabs P) {T:TypeId} {x y z:Operand}
theorem Jsn {α:Type} {u:Arr α} {m wd:Nat} {h:Int} {k:IntKind} {e n1 fl bt z k2 n2 fl2 bt2 z2} (hT:Jdy tb.tab T=some ⟨.slice e,n1,fl,bt,z⟩) (hE:Jdy tb.tab e=some ⟨k2,n2,fl2,bt2,z2⟩) (hx:ρ x=u.val) (hy:ρ y=.int k h) (hh:h=(m:Int)) (h1:1≤m) (hn:m≤u.l.length) (hw:n2=wd):
    YV P ⟨dst,.slice T x (some y) none none,ty,pos,after,guard⟩ ρ L R (Jfk u m wd).val:=by
  have h2:=Jz7 (ρ:=ρ) (L:=L) (R:=R) (dst:=dst) (ty:=ty) (pos:=pos) (after:=after) (guard:=guard) tb hT hE hx hy hh h1 hn
  subst hw
  rw [Arr.val,List.length_drop];exact h2
theorem J30 {α:Type} {u:Arr α} {m q wd:Nat} {h l:Int} {k k3:IntKind} {e n1 fl bt zz k2 n2 fl2 bt2 z2} (hT:Jdy tb.tab T=some ⟨.slice e,n1,fl,bt,zz⟩) (hE:Jdy tb.tab e=some ⟨k2,n2,fl2,bt2,z2⟩) (hx:ρ x=u.val) (hy:ρ y=.int k l) (hz:ρ z=.int k3 h) (hl:l=(m:Int)) (hh:h=(m:Int) + (q:Int)) (h1:1≤m) (hn:m + q≤u.l.length) (hc:u.l.length≤u.cap) (hw:n2=wd):
    YV P ⟨dst,.slice T x (some y) (some z) none,ty,pos,after,guard⟩ ρ L R (Jqg (Jfk u m wd) q).val:=fun _ w _=>by
  subst hw
  subst hl
  have hu:=Jct (tb.ok _ _ hT) rfl
  have he:P.elem T=e:=by simp [Program.elem,hu]
  have hu':P.underlying T=some (.slice (P.elem T)):=by rw [he];exact hu
  have hs:=Go.Aw.run_sizeOf (tb.ok _ _ hE) w
  simp only at hs
  have h3:=run_slice_lh (P:=P) w T u.a u.l.length u.cap hu' k k3 (m:Int) h za za za
  have e1:h.toNat - m=q:=by omega
  have e2:((u.l.drop m).take q).length=q:=by rw [List.length_take,List.length_drop];omega
  rw [he,hs,Result.andThen_ok,Int.toNat_natCast] at h3
  rw [Arr.val,Jqg,Jfk,e2]
  simp [execOp,hx,hy,hz,run_sliceAt_slice w T _ _ _ _ hu',h3,sliced,e1]
end
theorem J68 {α:Type} {P n code t L R} {Q:Jbp} {wd:Nat} {f:α→List Value} {subs:List Sl} {y:Arr α} (hR:InR (y.sl wd f subs) R) (h:y.l.length≤y.cap→CJ P n code t L R Q):CJ P n code t L R Q:=fun c a w hf hs=>by
  have hcap:y.l.length≤y.cap:=by
    have hst':=hs
    obtain ⟨⟨G,hh,_⟩,_,_⟩:=hst'
    obtain ⟨r,hr,hsub⟩:=hR
    have hrep:=(hh.rep r hr).sub hsub
    cases hrep with
    | mk _ hc _ _ _ _=>exact hc
  exact h hcap c a w hf hs
theorem J19 {α:Type} {P n code t L R} {Q:Jbp} {wd m:Nat} {f:α→List Value} {subs:List Sl} {y:Arr α} (q:Nat) (hR:InR (y.sl wd f subs) R) (h1:1≤m) (hk:m≤y.l.length) (hp:0 < wd) (h:CJ P n code t L ((Jqg (Jfk y m wd) q).sl wd f subs :: R) Q):CJ P n code t L R Q:=by
  refine Jlg hR h1 hk hp ?_
  refine Jyu q (Jaa (.head _)) ?_
  exact Jc3 (List.Sublist.refl _) (fun r hr=>by
    rcases List.mem_cons.1 hr with h | h
    · exact Jaa (by rw [h];exact .head _)
    · exact Jaa (.tail _ (.tail _ h))) h
end Go.Proofs.YtchfclmokpbldaaGreat
end
