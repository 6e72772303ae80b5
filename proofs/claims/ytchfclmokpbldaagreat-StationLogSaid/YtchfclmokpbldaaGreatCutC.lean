/-
  Texts of one chapter, merged. By an AI agent; no person has read it.
-/
import Derived.Test.YtchfclmokpbldaaGreatRestP
import Derived.Test.YtchfclmokpbldaaGreatRuleD
import Derived.Test.YtchfclmokpbldaaGreatSiteD
set_option linter.unusedVariables false
set_option linter.unusedSimpArgs false
set_option maxRecDepth 20000
namespace Go.Proofs.YtchfclmokpbldaaGreat
open Go.Aw Go
section
attribute [local irreducible] CJ LJ DJ Tri YV Gives Ui J0 Ke Uh RV J2 OwL.L
section
variable {A9 B9:Prop}
theorem K9e (h:B9:=by exact ⟨.nil,.nil,by rw [he];rfl,⟨OwL.nil_ok,OwL.nil_ok⟩,by rw [valuesV,if_pos za],by rw [valuesW,if_pos za],by rw [Kh,Kh];rfl,rfl⟩):B9:=h
theorem Uce (a:A9) (h:A9→B9:=by exact Jx zJc rfl):B9:=h a
theorem Kif (a:A9) (h:A9→B9:=by exact Jx zmb rfl):B9:=h a
theorem J2f (a:A9) (h:A9→B9:=by exact Kt rfl (Km (f:=XWatch.cells) (xs:=w) tb rfl rfl rfl zc rfl rfl (hw) (fun _=>rfl) za) rfl rfl):B9:=h a
theorem Utf (a:A9) (h:A9→B9:=by exact U6c 5 hT8 (List.nil_sublist _) ze rfl rfl rfl rfl rfl (Ud zfb)):B9:=h a
theorem Kpf (a:A9) (h:A9→B9:=by exact U6c 6 hT8 (List.nil_sublist _) ze rfl rfl rfl rfl rfl (Ud zfb)):B9:=h a
theorem Jlf (a:A9) (h:A9→B9:=by exact Kx zkb rfl rfl rfl rfl):B9:=h a
end
theorem Zhe {fl:List XSpan} {f:XFace}:Yef fl [f]=[Jib fl f]:=rfl
abbrev V9e (s:XSite) (w:List XWatch) (t:Int):Nat→Option Int:=fun i=>nzO (Z9b (s.conds.l.getD i default) (w.getD i default) t)
abbrev Yif (s:XSite) (m:List XMeas) (w:List XWatch) (fl:List XSpan) (t:Int):Nat→Int:=fun i=>Knb s.sensors.l m fl (s.conds.l.getD i default) (w.getD i default) t
abbrev Ybf (s:XSite) (m:List XMeas) (w:List XWatch) (t:Int):Nat→XWatch:=fun i=>U9a s.sensors.l m (s.conds.l.getD i default) (w.getD i default) t
structure ValsA (s:XSite) (m:Arr XMeas) (w:Arr XWatch) (fl:Arr XSpan) (R:List Sl):Prop where
  site:SiteR s R
  mR:InR (Vn m) R
  wR:InR (U1d w) R
  flR:InR (Vzd fl) R
  ok:∀x∈m.l,Kna x
theorem U2c {s:XSite} {m:List XMeas} {w:List XWatch} {fl:List XSpan} {t:Int} (h0:K2 s=0) (h1:m.length=s.sensors.l.length∧w.length=s.conds.l.length∧fl.length=s.air.mine.roads.l.length) (h2:¬ (t < 0∨2147483648 < t)):valuesErr s m w fl t=((List.range w.length).findSome? (V9e s w t)).getD 0:=by
  rw [valuesErr,if_neg za,if_neg (fun h=>h h1),if_neg h2]
theorem Uwd (s:XSite) (m:Arr XMeas) (w:Arr XWatch) (fl:Arr XSpan) (t:Int) (L:List Blk) (R:List Sl) (h:ValsA s m w fl R):
    Tri Tryz.prog 154 [s.val, m.val, w.val, fl.val, .int .i64 t].toArray L R
      (fun v L' R'=>∃(p:OwL Int) (q:OwL XWatch),v=.tuple #[p.val,q.val,.int .i64 (valuesErr s m.l w.l fl.l t)]∧(p.ok 1 Jp∧q.ok 3 XWatch.cells)∧p.l=valuesV s m.l w.l fl.l t∧q.l=valuesW s m.l w.l fl.l t∧p.L 3 Jp ++ (q.L 153 XWatch.cells ++ L)=L'∧R=R'):=by
  obtain ⟨hs,hm,hw,hfl,hok⟩:=h
  have hsR:=hs.sensors
  have hcR:=hs.conds
  refine Jg 152 Tryz.call154 Tryz.func154 rfl rfl rfl ?_
  refine Xag ?_
  intro b5
  refine Xbs ?_
  refine Xas ?_
  refine Kif ?_
  refine q_l rfl (Jwa s _ _ hs) ?_
  refine Xa7 ?_
  refine q_c (fun hc0=>?_) (fun hc0=>?_)
  ·
   refine Xbc ?_
   refine Xbs ?_
   refine Xai ?_
   refine q_r (L':=L) (R':=R) zQc ?_
   have he:valuesErr s m.l w.l fl.l t=K2 s:=by rw [valuesErr,if_pos hc0]
   exact K9e
  have hsk:=Za (s:=s) za
  have hsl:=hsk.len
  have hrl:=(Zs hsk.air).mine.roads
  refine qbo ?_
  refine Xap ?_
  refine Xac ?_
  refine Xbx ?_
  apply J9 (G:=[_,_,_,_,_,_]) (j:=6) (cj:=32) rfl rfl zb rfl zdb rfl
  ·
   intro hg7
   replace hg7:=qb hg7
   refine Xap ?_
   refine Xac ?_
   exact zfd
  intro junk7
  refine qah ?_
  apply J9 (G:=[_,_,_,_,_,_,_,_]) (j:=14) (cj:=40) rfl rfl zb rfl zdb rfl
  ·
   intro hg15
   replace hg15:=qb hg15
   refine Xap ?_
   iterate 3 refine qab ?_
   refine qac ?_
   refine qag ?_
   exact zfd
  intro junk15
  refine qaf ?_
  refine q_c (fun hc1=>?_) (fun hc1=>?_)
  ·
   refine qae ?_
   refine Xbs ?_
   refine Xai ?_
   refine q_r (L':=L) (R':=R) zQc ?_
   have he:valuesErr s m.l w.l fl.l t=11:=by rw [valuesErr,if_neg za,if_pos za]
   exact K9e
  refine qbo ?_
  refine Xb5 ?_
  apply J9 (G:=[_,_]) (j:=2) (cj:=52) rfl rfl zb rfl zdb rfl
  ·
   exact zdd
  intro junk3
  refine qaf ?_
  refine q_c (fun hc2=>?_) (fun hc2=>?_)
  ·
   refine qae ?_
   refine Xbs ?_
   refine Xai ?_
   refine q_r (L':=L) (R':=R) zQc ?_
   have he:valuesErr s m.l w.l fl.l t=8:=by rw [valuesErr,if_neg za,if_neg za,if_pos za]
   exact K9e
  have hve:=U2c (s:=s) (m:=m.l) (w:=w.l) (fl:=fl.l) (t:=t) za za za
  refine qcl ?_
  refine Juc [56,57,58,59,60,14,15] ((⟨fun g=>[(14,.slice (some ⟨g.1.1,0,none⟩) w.l.length w.l.length),(15,(⟨g.1.2,w.l⟩:OwL XWatch).val)],fun g=>(⟨.own g.1.1 w.l.length [],List.replicate w.l.length 0⟩:OwL Int).L 3 Jp ++ ((⟨g.1.2,w.l⟩:OwL XWatch).L 153 XWatch.cells ++ (⟨b5,s.cells,38⟩ :: L)),fun _=>R,fun _=>0⟩:Head {g:Nat×Ow // (⟨g.2,w.l⟩:OwL XWatch).ok 3 XWatch.cells})) ?_ ?_
  ·
   skip
   refine Ypc tb [] [0,1,3,2,4,5,6] [] (_) [] 7 K1 ze rfl rfl zi fun hT8=>?_
   refine U6c 0 hT8 (List.nil_sublist _) ze rfl rfl rfl rfl rfl zKc ?_
   refine U6c 1 hT8 (List.nil_sublist _) ze rfl rfl rfl rfl rfl ztb ?_
   refine U6c 3 hT8 (List.nil_sublist _) ze rfl rfl rfl rfl rfl zKc ?_
   refine Jj [2,4] hT8 (List.nil_sublist _) ze ?_
   refine Jq ?_ ?_
   ·
    skip
    refine Kt rfl zQb rfl rfl ?_
    rintro v L' R' ⟨b58,rfl,rfl,hR58⟩
    replace hR58:=hR58.symm;subst hR58
    refine qa1 ?_
    refine Jj [4] hT8 (List.nil_sublist _) ze ?_
    refine qca ?_
    refine J2f ?_
    rintro v L' R' ⟨o60,rfl,hok60,rfl,rfl⟩
    refine qa1 ?_
    refine Utf ?_
    refine Kpf ?_
    refine Ka hT8 (List.nil_sublist _) ze rfl ?_
    refine J1 ?_
    first
      | exact Jt ⟨(b58,o60),hok60⟩ zm zg (List.Perm.refl _) zia zqb
      | exact Jt ⟨(b58,o60),hok60⟩ zm zg List.perm_middle zia zqb
   refine qca ?_
   refine J2f ?_
   rintro v L' R' ⟨o60,rfl,hok60,rfl,rfl⟩
   refine qa1 ?_
   refine Jj [2] hT8 (List.nil_sublist _) ze ?_
   refine qca ?_
   refine Kt rfl zQb rfl rfl ?_
   rintro v L' R' ⟨b58,rfl,rfl,hR58⟩
   replace hR58:=hR58.symm;subst hR58
   refine qa1 ?_
   refine Utf ?_
   refine Kpf ?_
   refine Ka hT8 (List.nil_sublist _) ze rfl ?_
   refine J1 ?_
   first
     | exact Jt ⟨(b58,o60),hok60⟩ zm zg (List.Perm.refl _) zia zqb
     | exact Jt ⟨(b58,o60),hok60⟩ zm zg List.perm_middle zia zqb
  rintro ⟨⟨b,o⟩,hok60⟩ junk
  try dsimp only
  dsimp only at hok60
  refine qbi ?_
  refine Xaw ?_
  refine Jo [(1,Value.slice _ _ _),(2,Value.slice _ _ _),(3,Value.slice _ _ _),(4,Value.int _ _),(5,Value.pointer _),(14,Value.slice _ _ _),(15,Value.slice _ _ _),(62,Value.slice _ _ _),(63,Value.int _ _),(64,Value.int _ _)] zg fun tq0=>?_
  refine q_p [10,11,12,16,17,18,19,20,64,65,66,67,68,69,70,71,72,73,74,75,76,77,78,79,80,81,82,83,84,85,86,87,88,89,90,91,92,93,94,95,96,97,98,99,100,101,102,103,104,105,106,107,108,109,110,111,112,113,114,115,116,117,118,119,120,121,122,123,124,125,126,127,128,129,130,131,132,133,134,135,136,137,138,139,140,141,142,143,144,145,146,147,148,149] ((⟨fun g=>[(64,.int .i64 ((g.1.1:Nat):Int))],fun g=>(⟨.own b w.l.length [],g.1.2.1⟩:OwL Int).L 3 Jp ++ ((⟨o,g.1.2.2⟩:OwL XWatch).L 153 XWatch.cells ++ (⟨b5,s.cells,38⟩ :: L)),fun _=>R,fun g=>w.l.length - g.1.1⟩:Head {g:Nat×List Int×List XWatch // (g.1≤w.l.length∧(List.range w.l.length).findSome? (V9e s w.l t)=((List.range w.l.length).drop g.1).findSome? (V9e s w.l t))∧WrTo w.l.length 0 (Yif s m.l w.l fl.l t) g.1 g.2.1∧WrO w.l (Ybf s m.l w.l t) g.1 g.2.2})) (⟨(0,List.replicate w.l.length 0,w.l),⟨by dsimp only;omega,by rw [List.drop_zero]⟩,.zero,.zero⟩) ?_
  rintro ⟨⟨k,vs,ws⟩,⟨hk,hp⟩,hV,hW⟩ junk
  try dsimp only
  dsimp only at hk hp hV hW
  have hvl:=hV.len
  have hwl:=hW.len
  have hvk:(⟨.own b w.l.length [],vs⟩:OwL Int).ok 1 Jp:=by have:=Ze (f:=Jp) (wd:=1) (b:=b) (n:=w.l.length) (x:=0) Vx zE;exact OwL.len_ok Vx this (by simp;exact hvl)
  have hwk:(⟨o,ws⟩:OwL XWatch).ok 3 XWatch.cells:=OwL.len_ok (fun _=>rfl) hok60 hwl
  refine Xak ?_
  refine q_c (fun hc3=>?_) (fun hc3=>?_)
  ·
   have hcg:=Jw (l:=s.conds.l) (k:=k) default za
   have hwg:=Jw (l:=w.l) (k:=k) default za
   have hvg:=hV.non k (Nat.le_refl _) za
   have hwg2:=hW.old k (Nat.le_refl _)
   rw [hwg] at hwg2
   have hcf:=Jgc (hsk.cond _ (List.mem_of_getElem? hcg))
   have hVn:=fun (v:Int)=>hV.next (x:=v) za
   have hWn:=fun (v:XWatch)=>hW.next (x:=v) za
   have hpn:=Yz (f:=V9e s w.l t) hp za
   have hps:=fun (e:Int) (he:V9e s w.l t k=some e)=>Vv (f:=V9e s w.l t) hp za he
   obtain ⟨c,hc⟩:∃c,c=s.conds.l.getD k default:=⟨_,rfl⟩
   obtain ⟨wk,hwe⟩:∃wk,wk=w.l.getD k default:=⟨_,rfl⟩
   obtain ⟨X,hX⟩:∃X,X=Y6 s.sensors.l m.l c.target t:=⟨_,rfl⟩
   have hvE:V9e s w.l t k=nzO (Z9b c wk t):=by rw [hc,hwe]
   have hvV:Yif s m.l w.l fl.l t k=Knb s.sensors.l m.l fl.l c wk t:=by rw [hc,hwe]
   have hvW:Ybf s m.l w.l t k=U9a s.sensors.l m.l c wk t:=by rw [hc,hwe]
   rw [← hc] at hcg hcf
   rw [← hwe] at hwg hwg2
   rw [hvV] at hVn
   rw [hvE] at hpn hps
   rw [hvW] at hWn
   rw [Knb,← hX] at hVn
   rw [Z9b] at hpn hps
   refine Xa2 ?_
   refine Jx zB rfl ?_
   refine Jx zVa rfl ?_
   refine qaq ?_
   intro b17
   refine qad ?_
   refine Xa0 ?_
   refine Kif ?_
   refine qbm ?_
   refine Xam ?_
   refine q_l rfl (Vsc s m c.target t _ _ hsR hm hok za) ?_
   rw [← hX]
   refine qaq ?_
   intro b18
   refine Xb2 ?_
   refine J6 (Jb (Kg (Jn (Jh ?_))))
   refine Xay ?_
   refine q_c (fun hc4=>?_) (fun hc4=>?_)
   ·
    refine Jn ?_
    refine Kn tb [0,1,2,3,4,5,6,7,8,9,10,11,12,13,14] ([Blk.mk b18 _ _,Blk.mk b17 _ _]) K1 ze zi ?_
    refine qal ?_
    refine Kv zkb rfl rfl rfl ?_
    refine Kv zKc rfl rfl rfl ?_
    refine qao ?_
    refine qds ?_
    refine qdv ?_
    refine qbd ?_
    refine qao ?_
    refine q_d rfl (Uoe c.level wk X t _ _) ?_
    refine Kv zDb rfl rfl rfl ?_
    refine Kv zNb rfl rfl rfl ?_
    refine Kv zNb rfl rfl rfl ?_
    refine qbr ?_
    intro b19
    refine Xdg ?_
    refine qc6 ?_
    refine qaa ?_
    refine Xaq ?_
    refine q_c (fun hc5=>?_) (fun hc5=>?_)
    ·
     refine Xbc ?_
     refine Xbs ?_
     refine qad ?_
     refine J6 (Jb (Uo (J7 (J3 (J3 (J7 (Va (J3 (J7 ?_)))))))))
     refine q_r (L':=L) (R':=R) zQc ?_
     have hfe:=hps (Yk c.level wk t) (by rw [if_pos hc4,Jhc hc5])
     have he:valuesErr s m.l w.l fl.l t=Yk c.level wk t:=by rw [hve,hfe];rfl
     exact K9e
    have hse:Yk c.level wk t=0:=by omega
    rw [Kcd hse]
    refine J5 (Jb ?_)
    refine Kj tb [96,97] [0,1,2,3,4,5,6,7,8,9] [10,11,12] ([Blk.mk b19 _ _,Blk.mk b18 _ _,Blk.mk b17 _ _]) _ K1 ze zi (by (repeat (first | apply List.Sublist.cons (a:=Blk.mk b15 _ _) | apply List.Sublist.cons (a:=Blk.mk b14 _ _) | apply List.Sublist.cons_cons));exact List.Sublist.refl _) ?_
    refine Xc9 ?_
    refine V8 zKc rfl rfl rfl rfl ?_
    refine V8 (Jy zeb) rfl rfl rfl rfl ?_
    refine Jlf ?_
    refine Kx (Jl (row:=[_,_,_,_,_,_]) tb rfl rfl rfl zf zb zb) rfl rfl rfl rfl ?_
    refine Jlf ?_
    refine Kx zEb rfl rfl rfl rfl ?_
    refine Vi rfl (Vie c (Y5 c.level wk X t) X _ _) rfl rfl ?_
    rintro v L' R' ⟨rfl,rfl,rfl⟩
    refine ⟨zi,zw,?_⟩
    refine Kx (Ju tb ((⟨o,ws⟩:OwL XWatch)) _ rfl rfl ((show _=Value.slice _ _ _ from rfl).trans (by simp only [OwL.val,hwl])) rfl zh (i:=k) zk zu) rfl rfl rfl rfl ?_
    refine qba ?_
    refine Kcb (Um tb ((⟨o,ws⟩:OwL XWatch)) (Y5 c.level wk X t) rfl rfl rfl rfl zj zh (fun _=>rfl) zh (Nat.le_of_ble_eq_true rfl) zb zb) rfl rfl ?_
    rintro v L' R' ⟨rfl,rfl⟩
    refine qa1 ?_
    refine Kv zJc rfl rfl rfl ?_
    refine Kcb (Jr tb ((⟨.own b w.l.length [],vs⟩:OwL Int)) (if (Y5 c.level wk X t).over=false then -1 else if Zy X c.level.cut=1 then 1 else 0) rfl rfl rfl rfl zj zh (fun _=>rfl) zh zc zb zb) rfl rfl ?_
    rintro v L' R' ⟨rfl,rfl⟩
    refine qa1 ?_
    refine J1 (Ji (Ji (Jb (Jh ?_))))
    refine Xae ?_
    exact q_k ⟨(k + 1,vs.set k (if (Y5 c.level wk X t).over=false then -1 else if Zy X c.level.cut=1 then 1 else 0),ws.set k (Y5 c.level wk X t)),hpn (by rw [if_pos hc4,hse];rfl),hVn _ (by rw [if_neg (show ¬ c.kind=5 by omega),if_neg (show ¬ c.kind=2 by omega),if_neg (show ¬ c.kind=3 by omega),if_neg (show ¬ c.kind=4 by omega)]),hWn _ (by rw [U9a,if_pos hc4,hX])⟩
   have hst:U9a s.sensors.l m.l c wk t=wk:=by rw [U9a,if_neg hc4]
   have hWk:=hW.stay (show w.l[k]?=some (Ybf s m.l w.l t k) by rw [hvW,hwg,hst])
   have hpk:=hpn (by rw [if_neg hc4];rfl)
   refine Xbi ?_
   refine q_c (fun hc6=>?_) (fun hc6=>?_)
   ·
    refine Xca ?_
    refine qbe ?_
    refine Xaa ?_
    refine q_l rfl (V1b X c.value _ _) ?_
    have hab:-1≤Zy X c.value∧Zy X c.value≤1:=by rw [Zy];(repeat' split) <;> omega
    refine qcq ?_
    refine Uce ?_
    refine Ye (Jr tb ((⟨.own b w.l.length [],vs⟩:OwL Int)) (-(Zy X c.value)) rfl rfl rfl rfl zj zh (fun _=>rfl) zh zc zb zb) ?_
    rintro v L' R' ⟨rfl,rfl⟩
    refine J6 (Ji (Ji (Jb (Jh ?_))))
    refine Xae ?_
    exact q_k ⟨(k + 1,vs.set k (-(Zy X c.value)),ws),hpk,hVn _ (by rw [if_neg za,if_pos hc6]),hWk⟩
   refine Xbi ?_
   refine q_c (fun hc7=>?_) (fun hc7=>?_)
   ·
    refine Xca ?_
    refine qbe ?_
    refine q_l rfl (Ywc X _ _) ?_
    refine Uce ?_
    refine Ye (Jr tb ((⟨.own b w.l.length [],vs⟩:OwL Int)) (Kra X) rfl rfl rfl rfl zj zh (fun _=>rfl) zh zc zb zb) ?_
    rintro v L' R' ⟨rfl,rfl⟩
    refine J6 (Ji (Ji (Jb (Jh ?_))))
    refine Xae ?_
    exact q_k ⟨(k + 1,vs.set k (Kra X),ws),hpk,hVn _ (by rw [if_neg za,if_neg za,if_pos hc7]),hWk⟩
   refine Xbi ?_
   refine q_c (fun hc8=>?_) (fun hc8=>?_)
   ·
    refine qae ?_
    refine Xau ?_
    refine Uce ?_
    refine Ye (Jr tb ((⟨.own b w.l.length [],vs⟩:OwL Int)) (-1) rfl rfl rfl rfl zj zh (fun _=>rfl) zh zc zb zb) ?_
    rintro v L' R' ⟨rfl,rfl⟩
    refine qa4 ?_
    refine Kn tb [0,1,2] ([Blk.mk b18 _ _]) K1 ze zi ?_
    refine qbd ?_
    refine q_d rfl (K6 _ _) ?_
    refine Kv (Utb V0e rfl rfl) rfl rfl rfl ?_
    refine qbu ?_
    refine q_c (fun hc9=>?_) (fun hc9=>?_)
    ·
     have hvk2:=OwL.set_ok (p:=(⟨.own b w.l.length [],vs⟩:OwL Int)) (i:=k) (x:= -1) Vx hvk
     have hvg2:(vs.set k (-1))[k]?=some (-1):=List.getElem?_set_self za
     refine Xca ?_
     refine Jx (Ju tb ((⟨.own b w.l.length [],vs.set k (-1)⟩:OwL Int)) _ rfl rfl ((show _=Value.slice _ _ _ from rfl).trans (Us (by rw [List.length_set];exact hvl))) rfl zh (i:=k) zk zu) rfl ?_
     refine Ye (Jr tb ((⟨.own b w.l.length [],vs.set k (-1)⟩:OwL Int)) (1) rfl rfl rfl rfl zj zh (fun _=>rfl) zh zc zb zb) ?_
     rintro v L' R' ⟨rfl,rfl⟩
     refine J6 (Ji (Ji (Jb (Jh ?_))))
     refine Xae ?_
     exact q_k ⟨(k + 1,(vs.set k (-1)).set k 1,ws),hpk,by dsimp only;rw [List.set_set];exact hVn _ (by rw [if_neg za,if_neg za,if_neg za,if_pos hc8,if_pos (Kdc.2 za)]),hWk⟩
    refine J5 (Ji (Ji (Jb (Jh ?_))))
    refine Xae ?_
    exact q_k ⟨(k + 1,vs.set k (-1),ws),hpk,hVn _ (by rw [if_neg za,if_neg za,if_neg za,if_pos hc8,if_neg (fun e=>by rw [Kdc] at e;omega)]),hWk⟩
   refine Xbi ?_
   refine q_c (fun hc10=>?_) (fun hc10=>?_)
   ·
    refine Xca ?_
    refine qbm ?_
    refine Xbe ?_
    refine qcd ?_
    refine Y9 (Jv (qs:=[(0,(Value.agg _).cells.toList)]) (out:=[_,_]) tb rfl rfl rfl rfl rfl rfl rfl) rfl ?_
    rintro v L' R' ⟨b143,rfl,rfl,hR143⟩
    replace hR143:=hR143.symm;subst hR143
    refine Jua (wd:=2) (len:=1) (cap:=1) (rows:=[XFace.cells ⟨c.target,c.value⟩]) (subs:=[]) rfl zc zc (fun r hr=>by rw [List.mem_singleton.1 hr];rfl) zc rfl (fun s hs=>by cases hs) ?_
    refine Js rfl (Koe fl ⟨some ⟨b143,0,none⟩,1,[⟨c.target,c.value⟩]⟩ _ _ (hfl.mono fun r h=>Ja (by simp [h])) zpb (fun f hf=>by rw [List.mem_singleton.1 hf];dsimp only;omega) (show 1≤1000 by decide) za) rfl ?_
    rintro v L' R' ⟨p,rfl,hpk1,hpl,rfl,rfl⟩
    rw [Zhe] at hpl
    have hp0:p.l[0]?=some (Jib fl.l ⟨c.target,c.value⟩):=by rw [hpl];rfl
    have hpn1:p.l.length=1:=by rw [hpl];rfl
    have hfb:-1≤Jib fl.l ⟨c.target,c.value⟩∧Jib fl.l ⟨c.target,c.value⟩≤1:=by rw [Jib,Jze];(repeat' split) <;> omega
    refine Jx (Ju tb (p) _ rfl rfl rfl rfl zh (i:=0) zk zu) rfl ?_
    refine Jx zub rfl ?_
    refine qcq ?_
    refine Uce ?_
    refine Ye (Jr tb ((⟨.own b w.l.length [],vs⟩:OwL Int)) (-(Jib fl.l ⟨c.target,c.value⟩)) rfl rfl rfl rfl zj zh (fun _=>rfl) zh zc zb zb) ?_
    rintro v L' R' ⟨rfl,rfl⟩
    refine J6 (Ji (Ji (Jb (Jh ?_))))
    refine Xae ?_
    exact Kf ⟨(k + 1,vs.set k (-(Jib fl.l ⟨c.target,c.value⟩)),ws),hpk,hVn _ (by rw [if_pos hc10]),hWk⟩ zm zg zi (fun r h=>Ja (by simp [h])) zx
   (exfalso;omega)
  obtain rfl:k=w.l.length:=by omega
  have hn:=Jba (f:=V9e s w.l t) hp (Nat.le_refl _)
  have he:valuesErr s m.l w.l fl.l t=0:=by rw [hve,hn];rfl
  refine Xcp ?_
  refine qbm ?_
  refine Xbs ?_
  refine Xah ?_
  refine q_r (L':=(⟨.own b w.l.length [],vs⟩:OwL Int).L 3 Jp ++ ((⟨o,ws⟩:OwL XWatch).L 153 XWatch.cells ++ L)) (R':=R) zQc ?_
  exact ⟨(⟨.own b w.l.length [],vs⟩:OwL Int),(⟨o,ws⟩:OwL XWatch),by rw [he,OwL.val,OwL.val,hvl,hwl];try rfl,⟨hvk,hwk⟩,by rw [valuesV,if_neg za];exact hV.done,by rw [valuesW,if_neg za];exact hW.done,rfl,rfl⟩
end
section
attribute [local irreducible] CJ LJ DJ Tri YV Gives Ui J0 Ke Uh RV J2 OwL.L
section
variable {A9 B9:Prop}
theorem Y5e (h:B9:=by exact ⟨.nil,.nil,by rw [he];rfl,⟨OwL.nil_ok,OwL.nil_ok⟩,by rw [cutsC,if_pos za],by rw [cutsN,if_pos za],by rw [Kh,Kh];rfl,rfl⟩):B9:=h
end
theorem Utd {s:XSite} {v:List Int} {c:List XCut} {k:Nat}:Zu s v c (k + 1)=if J1a (s.zones.l.getD k default).rule.l v≠-1∧(c.getD k default).off=false then Zu s v c k ++ [(k:Int)] else Zu s v c k:=rfl
theorem Vec {s : XSite} {v : List Int} {c : List XCut} : ∀ n, (Zu s v c n).length ≤ n
  | 0=>by simp [Zu]
  | n + 1=>by
    have:=Vec (s:=s) (v:=v) (c:=c) n
    rw [Zu]
    split
    · rw [List.length_append,List.length_singleton];omega
    · omega
theorem U8e (s:XSite) (u:Arr Int) (c:Arr XCut) (t:Int) (L:List Blk) (R:List Sl) (hs:SiteR s R) (hv:InR (isl u) R) (hc:InR (Kwc c) R):
    Tri Tryz.prog 155 [s.val, u.val, c.val, .int .i64 t].toArray L R
      (fun z L' R'=>∃(p:OwL XCut) (q:OwL Int),z=.tuple #[p.val,q.val,.int .i64 (cutsErr s u.l c.l t)]∧(p.ok 3 XCut.cells∧q.ok 1 Jp)∧p.l=cutsC s u.l c.l t∧q.l=cutsN s u.l c.l t∧q.L 3 Jp ++ (p.L 71 XCut.cells ++ L)=L'∧R=R'):=by
  have hzR:=hs.zones
  refine Jg 93 Tryz.call155 Tryz.func155 rfl rfl rfl ?_
  refine Xag ?_
  intro b4
  refine Xbs ?_
  refine Xas ?_
  refine Jx zmb rfl ?_
  refine q_l rfl (Jwa s _ _ hs) ?_
  refine Xa7 ?_
  refine q_c (fun hc0=>?_) (fun hc0=>?_)
  ·
   refine Xbc ?_
   refine Xbs ?_
   refine Xai ?_
   refine q_r (L':=L) (R':=R) zQc ?_
   have he:cutsErr s u.l c.l t=K2 s:=by rw [cutsErr,if_pos hc0]
   exact Y5e
  have hsk:=Za (s:=s) za
  have hsl:=hsk.len
  refine qbo ?_
  refine Xap ?_
  refine Xac ?_
  refine Xbx ?_
  apply J9 (G:=[_,_,_,_,_,_]) (j:=6) (cj:=29) rfl rfl zb rfl zdb rfl
  ·
   intro hg7
   replace hg7:=qb hg7
   refine Xap ?_
   refine Xac ?_
   exact zfd
  intro junk7
  refine qaf ?_
  refine q_c (fun hc1=>?_) (fun hc1=>?_)
  ·
   refine qae ?_
   refine Xbs ?_
   refine Xai ?_
   refine q_r (L':=L) (R':=R) zQc ?_
   have he:cutsErr s u.l c.l t=11:=by rw [cutsErr,if_neg za,if_pos za]
   exact Y5e
  refine qbo ?_
  refine Xb5 ?_
  apply J9 (G:=[_,_]) (j:=2) (cj:=39) rfl rfl zb rfl zdb rfl
  ·
   exact zdd
  intro junk3
  refine qaf ?_
  refine q_c (fun hc2=>?_) (fun hc2=>?_)
  ·
   refine qae ?_
   refine Xbs ?_
   refine Xai ?_
   refine q_r (L':=L) (R':=R) zQc ?_
   have he:cutsErr s u.l c.l t=8:=by rw [cutsErr,if_neg za,if_neg za,if_pos za]
   exact Y5e
  have he:cutsErr s u.l c.l t=0:=by rw [cutsErr,if_neg za,if_neg za,if_neg za]
  refine qbv ?_
  refine qbm ?_
  refine Y9 (Km (f:=XCut.cells) (xs:=c) tb rfl rfl rfl zc rfl rfl (hc) (fun _=>rfl) za) rfl ?_
  rintro v L' R' ⟨o44,rfl,hok44,rfl,rfl⟩
  refine Xcm ?_
  obtain ⟨OO,hOO⟩:∃OO,OO=o44:=⟨_,rfl⟩
  rw [← hOO] at hok44 ⊢
  refine qay ?_
  refine Xb9 ?_
  refine Xaw ?_
  refine Jo [(1,Value.slice _ _ _),(3,Value.int _ _),(12,Value.slice _ _ _),(13,Value.slice _ _ _),(46,Value.slice _ _ _),(47,Value.int _ _),(48,Value.int _ _)] zg fun tq0=>?_
  refine Vm [13,14,15,16,17,48,49,50,51,52,53,54,55,56,57,58,59,60,61,62,63,64,65,66,67,68,69,70,71,72,73,74,75,76,77,78,79,80,81,82,83,84,85,86,87,88,89,90] ((⟨fun g=>[(48,.int .i64 ((g.1.1:Nat):Int)),(13,g.1.2.2.val)],fun g=>g.1.2.2.L 3 Jp ++ ((⟨OO,g.1.2.1⟩:OwL XCut).L 71 XCut.cells ++ (⟨b4,s.cells,38⟩ :: L)),fun _=>R,fun g=>c.l.length - g.1.1⟩:Head {g:Nat×List XCut×OwL Int // g.1≤c.l.length∧WrO c.l (cutAt s u.l c.l t) g.1 g.2.1∧g.2.2.ok 1 Jp∧g.2.2.l=Zu s u.l c.l g.1})) (⟨(0,c.l,OwL.nil),by dsimp only;omega,.zero,OwL.nil_ok,rfl⟩) zg zxa zqb ?_
  rintro ⟨⟨k,cs,q⟩,hk,hW,hqk,hql⟩ junk
  try dsimp only
  dsimp only at hk hW hqk hql
  have hwl:=hW.len
  have hck:(⟨OO,cs⟩:OwL XCut).ok 3 XCut.cells:=OwL.len_ok (fun _=>rfl) hok44 hwl
  have hqn:q.l.length≤k:=by rw [hql];exact Vec k
  refine Xak ?_
  refine q_c (fun hc3=>?_) (fun hc3=>?_)
  ·
   have hzg:=Jw (l:=s.zones.l) (k:=k) default za
   have hcg0:=Jw (l:=c.l) (k:=k) default za
   have hcg:=hW.old k (Nat.le_refl _)
   rw [hcg0] at hcg
   have hWn:=fun (x:XCut)=>hW.next (x:=x) za
   have hWs:=hW.stay (i:=k)
   have hns:=Utd (s:=s) (v:=u.l) (c:=c.l) (k:=k)
   obtain ⟨z,hz⟩:∃z,z=s.zones.l.getD k default:=⟨_,rfl⟩
   obtain ⟨ck,hcke⟩:∃ck,ck=c.l.getD k default:=⟨_,rfl⟩
   obtain ⟨V,hV⟩:∃V,V=J1a z.rule.l u.l:=⟨_,rfl⟩
   have hat:cutAt s u.l c.l t k=Y5d V ck t:=by rw [cutAt,hV,hz,hcke]
   rw [← hz] at hzg
   rw [← hcke] at hcg hcg0
   rw [← hz,← hcke,← hV] at hns
   rw [hat] at hWn
   rw [hat,hcg0] at hWs
   refine Xa2 ?_
   refine Jx zB rfl ?_
   refine Xcv ?_
   intro b15
   refine qad ?_
   refine Xa0 ?_
   refine Xau ?_
   refine Jx (Ju tb ((⟨OO,cs⟩:OwL XCut)) _ rfl rfl ((show _=Value.slice _ _ _ from rfl).trans (by simp only [OwL.val,hwl])) rfl zh (i:=k) zk zu) rfl ?_
   refine qc1 ?_
   refine Xch ?_
   refine qbm ?_
   refine q_l rfl (Z0b z.rule u _ _ (InR.rule hzR hzg) hv) ?_
   rw [← hV]
   refine Xdb ?_
   refine Xcd ?_
   refine q_c (fun hc4=>?_) (fun hc4=>?_)
   ·
    refine qbi ?_
    refine qa6 ?_
    refine Jx zIb rfl ?_
    refine qb0 ?_
    refine Jx (Kk tb ((⟨OO,cs⟩:OwL XCut)) rfl rfl rfl zj zh (fun _=>rfl) zh zb) rfl ?_
    refine Xcd ?_
    refine q_c (fun hc5=>?_) (fun hc5=>?_)
    ·
     refine qay ?_
     refine Xdf ?_
     refine Jx zIb rfl ?_
     refine qb0 ?_
     refine Ye (Jr tb ((⟨OO,cs⟩:OwL XCut)) (⟨ck.off,t,ck.reason⟩) rfl rfl rfl rfl zj zh (fun _=>rfl) zh zc zb zb) ?_
     rintro v L' R' ⟨rfl,rfl⟩
     refine J6 (Jb (K8 (Kq (Kc (Jb (Jh ?_))))))
     refine Xae ?_
     exact q_k ⟨(k + 1,cs.set k ⟨ck.off,t,ck.reason⟩,q),by dsimp only;omega,hWn _ (by rw [Y5d,if_pos hc4,if_pos hc5]),hqk,by dsimp only;rw [hns,if_neg za];exact hql⟩
    refine J5 (Jb (K8 (Kq (Kc (Jb (Jh ?_))))))
    refine Xae ?_
    exact q_k ⟨(k + 1,cs,q),by dsimp only;omega,hWs (by rw [Y5d,if_pos hc4,if_neg hc5]),hqk,by dsimp only;rw [hns,if_neg za];exact hql⟩
   refine qbv ?_
   refine qa6 ?_
   refine Jx zIb rfl ?_
   refine qb0 ?_
   refine Ye (Jr tb ((⟨OO,cs⟩:OwL XCut)) (⟨ck.off,-1,ck.reason⟩) rfl rfl rfl rfl zj zh (fun _=>rfl) zh zc zb zb) ?_
   rintro v L' R' ⟨rfl,rfl⟩
   refine qa4 ?_
   have hck1:=OwL.set_ok (f:=XCut.cells) (wd:=3) (p:=(⟨OO,cs⟩:OwL XCut)) (i:=k) (x:=⟨ck.off,-1,ck.reason⟩) (fun _=>rfl) hck
   have hcg1:(cs.set k ⟨ck.off,-1,ck.reason⟩)[k]?=some ⟨ck.off,-1,ck.reason⟩:=List.getElem?_set_self za
   refine qay ?_
   refine qa6 ?_
   refine Jx zIb rfl ?_
   refine qb0 ?_
   refine Jx (Kk tb ((⟨OO,cs.set k ⟨ck.off,-1,ck.reason⟩⟩:OwL XCut)) rfl rfl rfl zj zh (fun _=>rfl) zh zb) rfl ?_
   refine Xbd ?_
   refine q_c (fun hc6=>?_) (fun hc6=>?_)
   ·
    have hck2:=OwL.set_ok (f:=XCut.cells) (wd:=3) (p:=(⟨OO,cs.set k ⟨ck.off,-1,ck.reason⟩⟩:OwL XCut)) (i:=k) (x:=⟨true,-1,ck.reason⟩) (fun _=>rfl) hck1
    have hcg2:((cs.set k ⟨ck.off,-1,ck.reason⟩).set k ⟨true,-1,ck.reason⟩)[k]?=some ⟨true,-1,ck.reason⟩:=List.getElem?_set_self (by rw [List.length_set];omega)
    refine qae ?_
    refine qa6 ?_
    refine Xdf ?_
    refine Jx zIb rfl ?_
    refine qb0 ?_
    refine Ye (Jr tb ((⟨OO,cs.set k ⟨ck.off,-1,ck.reason⟩⟩:OwL XCut)) (⟨true,-1,ck.reason⟩) rfl rfl rfl rfl zj zh (fun _=>rfl) zh zc zb zb) ?_
    rintro v L' R' ⟨rfl,rfl⟩
    refine Jx zIb rfl ?_
    refine qb0 ?_
    refine Ye (Jr tb ((⟨OO,(cs.set k ⟨ck.off,-1,ck.reason⟩).set k ⟨true,-1,ck.reason⟩⟩:OwL XCut)) (⟨true,-1,V⟩) rfl rfl rfl rfl zj zh (fun _=>rfl) zh zc zb zb) ?_
    rintro v L' R' ⟨rfl,rfl⟩
    refine J6 (Jb (Jh ?_))
    refine Xau ?_
    refine qcx ?_
    rintro v L' R' ⟨b88,rfl,rfl,hR88⟩
    replace hR88:=hR88.symm;subst hR88
    refine Y9 (J8 (f:=Jp) (a:=(k:Int)) tb rfl rfl rfl rfl (hqk) zj zsb rfl zy) rfl ?_
    rintro v L' R' ⟨o89,rfl,hok89,rfl,rfl⟩
    refine qc4 ?_
    refine Xa8 ?_
    exact q_k ⟨(k + 1,((cs.set k ⟨ck.off,-1,ck.reason⟩).set k ⟨true,-1,ck.reason⟩).set k ⟨true,-1,V⟩,(⟨o89,_⟩:OwL Int)),by dsimp only;omega,by dsimp only;rw [List.set_set,List.set_set];exact hWn _ (by rw [Y5d,if_neg hc4,if_neg (by simpa using hc6)]),hok89,by dsimp only;rw [hns,if_pos ⟨hc4,by simpa using hc6⟩,hql]⟩
   refine Xax ?_
   exact q_k ⟨(k + 1,cs.set k ⟨ck.off,-1,ck.reason⟩,q),by dsimp only;omega,hWn _ (by rw [Y5d,if_neg hc4,if_pos (by simpa using hc6)];rw [show ck.off=true by simpa using hc6]),hqk,by dsimp only;rw [hns,if_neg (fun h=>by have:=h.2;simp [this] at hc6)];exact hql⟩
  obtain rfl:k=c.l.length:=by omega
  refine Xcp ?_
  refine qbm ?_
  refine Xbs ?_
  refine Xah ?_
  refine q_r (L':=q.L 3 Jp ++ ((⟨OO,cs⟩:OwL XCut).L 71 XCut.cells ++ L)) (R':=R) zQc ?_
  exact ⟨(⟨OO,cs⟩:OwL XCut),q,by rw [he,OwL.val,OwL.val,hwl];try rfl,⟨hck,hqk⟩,by rw [cutsC,if_neg za];exact hW.done,by rw [cutsN,if_neg za];exact hql,rfl,rfl⟩
end
end Go.Proofs.YtchfclmokpbldaaGreat
