/-
  Texts of one chapter, merged. By an AI agent; no person has read it.
-/
import Derived.Test.YtchfclmokpbldaaGreatLaw11b
set_option linter.unusedVariables false
set_option linter.unusedSimpArgs false
set_option maxRecDepth 20000
namespace Go.Proofs.YtchfclmokpbldaaGreat
open Go.Aw Go
section
section
variable {A9 B9:Prop}
theorem Vsf (a:A9) (h:A9→B9:=by exact Jx zEc rfl):B9:=h a
end
theorem Vxf {b:Nat} {x y:XSpan}:(⟨.own b 2 [],[x,y]⟩:OwL XSpan).ok 2 XSpan.cells:=⟨by simp [XSpan.cells],by simp,by simp [maxLen],by simp [XSpan.cells]⟩
theorem U2e {A:List Blk} {R:List Sl} {b:Nat} {x y:XSpan} {T:TypeId} (hin:(⟨b,[.int .i64 x.low,.int .i64 x.high,.int .i64 y.low,.int .i64 y.high],T⟩:Blk)∈A):
    Tri Tryz.prog 195 [.slice (some ⟨b,0,none⟩) 2 2].toArray A R (fun v L' R'=>v=.tuple #[(Jgd x y).val,.bool (decide ((V3b x y).low≤(V3b x y).high))]∧A=L'∧R=R'):=
  Tri.lendU (S:=[Vzd (⟨.own b 2 [],[x,y]⟩:OwL XSpan).arr]) (fun w G hh s hs=>by
    rw [List.mem_singleton.1 hs]
    exact Z1a (T:=T) hh (fun e he=>by
      have he':e∈[(⟨b,[.int .i64 x.low,.int .i64 x.high,.int .i64 y.low,.int .i64 y.high],T⟩:Blk)]:=he
      rw [List.mem_singleton.1 he'];exact hin) Vxf (fun _=>rfl) zc (fun s hs=>by cases hs)) (Kve x y (⟨.own b 2 [],[x,y]⟩:OwL XSpan).arr [] _ zpb rfl)
attribute [local irreducible] CJ LJ DJ Tri YV Gives Ui J0 Ke Uh RV J2 OwL.L
structure NarSt where
  out:List XSpan
  gone:List Bool
  bad:List Bool
def Uye (st:NarSt) (l:List XSens) (t:Int) (x:XMeas):XSpan:=V3b (st.out.getD (l.getD x.sensor.toNat default).target.toNat default) (atS (l.getD x.sensor.toNat default) x t)
def Kwd (n:Nat) (kind:Int) (l:List XSens) (x:XMeas):Prop:=(0≤x.sensor∧x.sensor < l.length)∧(l.getD x.sensor.toNat default).kind=kind∧0≤(l.getD x.sensor.toNat default).target∧(l.getD x.sensor.toNat default).target < n
instance (n:Nat) (kind:Int) (l:List XSens) (x:XMeas):Decidable (Kwd n kind l x):=by unfold Kwd;infer_instance
def Kfa (n:Nat) (kind:Int) (lost:XSpan) (t:Int) (l:List XSens) (st:NarSt) (x:XMeas):NarSt:=
  if ¬ (Kwd n kind l x∧st.gone.getD (l.getD x.sensor.toNat default).target.toNat false=false) then st
  else if (Uye st l t x).low≤(Uye st l t x).high then ⟨st.out.set (l.getD x.sensor.toNat default).target.toNat (Uye st l t x),st.gone,st.bad⟩
  else ⟨st.out.set (l.getD x.sensor.toNat default).target.toNat lost,st.gone.set (l.getD x.sensor.toNat default).target.toNat true,st.bad.set x.sensor.toNat true⟩
def Yqb (fl:List XSpan) (lost:XSpan) (kind:Int) (l:List XSens) (m:List XMeas) (t:Int) (k:Nat):NarSt:=
  (m.take k).foldl (Kfa fl.length kind lost t l) ⟨fl,List.replicate fl.length false,List.replicate l.length false⟩
theorem Jnd {n:Nat} {kind:Int} {lost:XSpan} {t:Int} {l:List XSens} {st:NarSt} {x:XMeas}:
    (Kfa n kind lost t l st x).out.length=st.out.length∧(Kfa n kind lost t l st x).gone.length=st.gone.length∧(Kfa n kind lost t l st x).bad.length=st.bad.length:=by
  rw [Kfa]
  split
  · exact ⟨rfl,rfl,rfl⟩
  split <;> simp
theorem K7c {fl:List XSpan} {lost:XSpan} {kind:Int} {l:List XSens} {m:List XMeas} {t:Int} {k:Nat}:
    (Yqb fl lost kind l m t k).out.length=fl.length∧(Yqb fl lost kind l m t k).gone.length=fl.length∧(Yqb fl lost kind l m t k).bad.length=l.length:=by
  rw [Yqb]
  generalize m.take k=ms
  have:∀(ms:List XMeas) (st:NarSt),(st.out.length=fl.length∧st.gone.length=fl.length∧st.bad.length=l.length)→
      ((ms.foldl (Kfa fl.length kind lost t l) st).out.length=fl.length∧(ms.foldl (Kfa fl.length kind lost t l) st).gone.length=fl.length∧(ms.foldl (Kfa fl.length kind lost t l) st).bad.length=l.length):=by
    intro ms
    induction ms with
    | nil=>intro st h;exact h
    | cons x ms ih=>intro st h;exact ih _ (by have:=Jnd (n:=fl.length) (kind:=kind) (lost:=lost) (t:=t) (l:=l) (st:=st) (x:=x);omega)
  exact this ms _ zo
theorem Vxd {fl:List XSpan} {lost:XSpan} {kind:Int} {l:List XSens} {m:List XMeas} {t:Int} {k:Nat} {x:XMeas} (h:m[k]?=some x):
    Yqb fl lost kind l m t (k + 1)=Kfa fl.length kind lost t l (Yqb fl lost kind l m t k) x:=by
  rw [Yqb,List.take_add_one,h];simp [Yqb]
def Y2a (b:List Bool) (k:Nat):List Int:=((List.range k).filter fun i=>b.getD i false).map Int.ofNat
theorem Jbd {b:List Bool} {k:Nat}:Y2a b (k + 1)=if b.getD k false=true then Y2a b k ++ [(k:Int)] else Y2a b k:=by
  rw [Y2a,List.range_succ,List.filter_append,List.map_append]
  split
  · rename_i h;simp only [Y2a,List.filter_cons,List.filter_nil];rw [if_pos h];rfl
  · rename_i h;simp only [Y2a,List.filter_cons,List.filter_nil];rw [if_neg h];simp
def Kwe (fl:List XSpan) (lost:XSpan) (kind:Int) (l:List XSens) (m:List XMeas) (t:Int):NarSt:=Yqb fl lost kind l m t m.length
theorem Vfd (fl : Arr XSpan) (lost : XSpan) (kind t : Int) (l : Arr XSens) (m : Arr XMeas) (L : List Blk) (R : List Sl) (hfl : InR (Vzd fl) R) (hl : InR (Vyd l) R) (hm : InR (Vn m) R)
    (hfn:fl.l.length≤1000) (hln:l.l.length≤1000) (hmn:m.l.length≤1000) (hok:∀x∈m.l,Kna x) (ht:0≤t∧t≤2147483648):
    Tri Tryz.prog 117 [fl.val, lost.val, .int .i64 kind, l.val, m.val, .int .i64 t].toArray L R
      (fun w L' R'=>∃(p:OwL XSpan) (q:OwL Int),w=.tuple #[p.val,q.val]∧(p.ok 2 XSpan.cells∧q.ok 1 Jp)∧p.l=(Kwe fl.l lost kind l.l m.l t).out∧q.l=Y2a (Kwe fl.l lost kind l.l m.l t).bad l.l.length∧q.L 3 Jp ++ (p.L 90 XSpan.cells ++ L)=L'∧R=R'):=by
  refine Jg 123 Tryz.call117 Tryz.func117 rfl rfl rfl ?_
  refine Xag ?_
  intro b7
  refine Xbs ?_
  refine Xc4 ?_
  refine Y9 (Km (f:=XSpan.cells) (xs:=fl) tb rfl rfl rfl zc rfl rfl (hfl) (fun _=>rfl) za) rfl ?_
  rintro v L' R' ⟨o26,rfl,hok26,rfl,rfl⟩
  refine Xcm ?_
  have hfn2:(⟨o26,fl.l⟩:OwL XSpan).l.length≤1000:=hfn
  refine qay ?_
  refine Xap ?_
  refine qc7 ?_
  rintro v L' R' ⟨b29,rfl,rfl,hR29⟩
  replace hR29:=hR29.symm;subst hR29
  refine Xcm ?_
  refine Uv zUb ?_
  refine qay ?_
  refine Xap ?_
  refine qc7 ?_
  rintro v L' R' ⟨b32,rfl,rfl,hR32⟩
  replace hR32:=hR32.symm;subst hR32
  refine qc4 ?_
  refine qco ?_
  refine Uv zUb ?_
  refine qay ?_
  refine Xbt ?_
  refine Jo [(2,Value.int _ _),(3,Value.slice _ _ _),(5,Value.int _ _),(7,Value.pointer _),(14,Value.slice _ _ _),(15,Value.slice _ _ _),(16,Value.slice _ _ _),(33,Value.slice _ _ _),(34,Value.int _ _),(35,Value.int _ _)] zg fun tq0=>?_
  refine q_p [18,19,20,21,35,36,37,38,39,40,41,42,43,44,45,46,47,48,49,50,51,52,53,54,55,56,57,58,59,60,61,62,63,64,65,66,67,68,69,70,71,72,73,74,75,76,77,78,79,80,81,82,83,84,85,86,87,88,89,90,91,92,93,94,95,96,97,98,99,100,101,102,103,104,105,106,107] ((⟨fun g=>[(35,.int .i64 ((g.1.1:Nat):Int))],fun g=>(⟨.own b32 l.l.length [],g.1.2.bad⟩:OwL Bool).L 4 blc ++ ((⟨.own b29 fl.l.length [],g.1.2.gone⟩:OwL Bool).L 4 blc ++ ((⟨o26,g.1.2.out⟩:OwL XSpan).L 90 XSpan.cells ++ (⟨b7,lost.cells,90⟩ :: L))),fun _=>R,fun g=>m.l.length - g.1.1⟩:Head {g:Nat×NarSt // g.1≤m.l.length∧g.2=Yqb fl.l lost kind l.l m.l t g.1})) (⟨(0,⟨fl.l,List.replicate fl.l.length false,List.replicate l.l.length false⟩),by dsimp only;omega,rfl⟩) ?_
  rintro ⟨⟨k,⟨O,G,B⟩⟩,w1,w2⟩ junk
  try dsimp only
  dsimp only at w1 w2
  obtain ⟨z1,z2,z3⟩:=K7c (fl:=fl.l) (lost:=lost) (kind:=kind) (l:=l.l) (m:=m.l) (t:=t) (k:=k)
  rw [← w2] at z1 z2 z3
  dsimp only at z1 z2 z3
  have hkO:(⟨o26,O⟩:OwL XSpan).ok 2 XSpan.cells:=OwL.len_ok (fun _=>rfl) hok26 z1
  have hkG:(⟨.own b29 fl.l.length [],G⟩:OwL Bool).ok 1 blc:=by have:=Ze (f:=blc) (wd:=1) (b:=b29) (n:=fl.l.length) (x:=false) Kwa zE;exact OwL.len_ok Kwa this (by simp;exact z2)
  have hkB:(⟨.own b32 l.l.length [],B⟩:OwL Bool).ok 1 blc:=by have:=Ze (f:=blc) (wd:=1) (b:=b32) (n:=l.l.length) (x:=false) Kwa zE;exact OwL.len_ok Kwa this (by simp;exact z3)
  refine Xak ?_
  refine q_c (fun hc0=>?_) (fun hc0=>?_)
  ·
   have hmg:=Jw (l:=m.l) (k:=k) default za
   have hxo:=hok _ (List.mem_of_getElem? hmg)
   have hsu:=Vxd (fl:=fl.l) (lost:=lost) (kind:=kind) (l:=l.l) (t:=t) hmg
   rw [← w2] at hsu
   obtain ⟨x,hx⟩:∃x,x=m.l.getD k default:=⟨_,rfl⟩
   rw [← hx] at hmg hxo hsu
   refine qbb ?_
   refine Jx zB rfl ?_
   refine Xcv ?_
   intro b18
   refine Xa9 ?_
   refine Xbg ?_
   apply J9 (G:=[_,_,_,_,_]) (j:=3) (cj:=42) rfl rfl zb rfl zdb rfl
   ·
    intro hg4
    replace hg4:=qb hg4
    refine Xaa ?_
    refine Xap ?_
    exact zid
   intro junk4
   refine qaf ?_
   refine q_c (fun hc1=>?_) (fun hc1=>?_)
   ·
    refine K8 (Kq (Kc (Jb (Jh ?_))))
    refine Xae ?_
    exact q_k ⟨(k + 1,⟨O,G,B⟩),by dsimp only;omega,by rw [hsu,Kfa,if_pos (fun h=>by have:=h.1.1;omega)]⟩
   have hlg:=Jw (l:=l.l) (k:=x.sensor.toNat) default za
   obtain ⟨s,hs⟩:∃s,s=l.l.getD x.sensor.toNat default:=⟨_,rfl⟩
   rw [← hs] at hlg
   have hnf:Kwd fl.l.length kind l.l x↔((0≤x.sensor∧x.sensor < l.l.length)∧s.kind=kind∧0≤s.target∧s.target < fl.l.length):=by rw [hs];exact Iff.rfl
   rw [Kfa,Uye,← hs] at hsu
   dsimp only at hsu
   refine qbv ?_
   refine Xcg ?_
   refine Jx (by first | exact Jf tb rfl rfl rfl rfl zt (i:=x.sensor.toNat) zk za | exact Jk tb rfl rfl rfl rfl (i:=x.sensor.toNat) zk za) rfl ?_
   refine Jx zV rfl ?_
   refine qaq ?_
   intro b19
   refine Xa9 ?_
   refine Xam ?_
   refine Xbx ?_
   apply J9 (G:=[_,_,_]) (j:=4) (cj:=58) rfl rfl zb rfl zdb rfl
   ·
    intro hg5
    replace hg5:=qb hg5
    exact znd
   intro junk5
   refine qah ?_
   apply J9 (G:=[_,_,_,_,_]) (j:=9) (cj:=63) rfl rfl zb rfl zdb rfl
   ·
    intro hg10
    replace hg10:=qb hg10
    refine Xaa ?_
    refine Xap ?_
    exact zid
   intro junk10
   refine qah ?_
   apply J9 (G:=[_,_,_,_,_]) (j:=16) (cj:=70) rfl rfl zb rfl zdb rfl
   ·
    intro hg17
    replace hg17:=qb hg17
    have hGg:=Jw (l:=G) (k:=s.target.toNat) false za
    refine Xcg ?_
    refine Jx zFc rfl ?_
    refine Jx (Kk tb ((⟨.own b29 fl.l.length [],G⟩:OwL Bool)) rfl rfl rfl zj zh (fun _=>rfl) zh zb) rfl ?_
    exact qai
   intro junk17
   refine qaf ?_
   refine q_c (fun hc2=>?_) (fun hc2=>?_)
   ·
    refine K8 (Kq (Kc (Jb (Jh ?_))))
    refine Xae ?_
    exact q_k ⟨(k + 1,⟨O,G,B⟩),by dsimp only;omega,by rw [hsu,if_pos (fun h=>by have h1:=hnf.1 h.1;have h2:=h.2;simp only [h2] at hc2;simp at hc2;omega)]⟩
   have hOg:=Jw (l:=O) (k:=s.target.toNat) default za
   have hgo:G.getD s.target.toNat false=false:=by simpa using hc2.2
   rw [if_neg (fun h=>h ⟨hnf.2 za,hgo⟩)] at hsu
   refine qcl ?_
   refine Kn tb [0,1,2,3,4,5,6,7,8,9,10,11,12,13,14,15,16] _ K1 ze (List.Sublist.refl _) ?_
   refine Kv zKc rfl rfl rfl ?_
   refine Xan ?_
   refine Kv zEc rfl rfl rfl ?_
   refine Kv (Vgb (row:=[_,_]) tb ((⟨o26,O⟩:OwL XSpan)) rfl rfl rfl zj zh (fun _=>rfl) zh zb zb) rfl rfl rfl ?_
   refine Kv zmb rfl rfl rfl ?_
   refine qbc ?_
   refine qao ?_
   refine q_d rfl (V1e s x t _ _ hxo ht) ?_
   refine Yjb zPb rfl rfl rfl ?_
   rintro v L' R' ⟨b87,rfl,rfl,hR87⟩
   replace hR87:=hR87.symm;subst hR87
   refine qa1 ?_
   refine q_d rfl (U2e (x:=O.getD s.target.toNat default) (y:=atS s x t) (.head _)) ?_
   refine Kv zDb rfl rfl rfl ?_
   refine Kv zNb rfl rfl rfl ?_
   refine Kv zNb rfl rfl rfl ?_
   refine qbr ?_
   intro b20
   refine qbg ?_
   refine Kv (Ud zdb) rfl rfl rfl ?_
   refine qc6 ?_
   refine qah ?_
   refine Xbd ?_
   refine q_c (fun hc3=>?_) (fun hc3=>?_)
   ·
    have hGg:=Jw (l:=G) (k:=s.target.toNat) false za
    have hBg:=Jw (l:=B) (k:=x.sensor.toNat) false za
    refine Kj tb [93,94,95,96,97,98] [0,1,2,3,4,5,6] [7,8,9,10,11] ([Blk.mk b19 _ _,Blk.mk b18 _ _,Blk.mk b7 _ _]) _ K1 ze zi (by (repeat (first | apply List.Sublist.cons (a:=Blk.mk b20 _ _) | apply List.Sublist.cons (a:=Blk.mk b15 _ _) | apply List.Sublist.cons (a:=Blk.mk b16 _ _) | apply List.Sublist.cons_cons));exact List.Sublist.refl _) ?_
    refine V8 zKc rfl rfl rfl rfl ?_
    refine Xc6 ?_
    refine V8 zKc rfl rfl rfl rfl ?_
    refine Xc6 ?_
    refine Kx zEb rfl rfl rfl rfl ?_
    refine Xda ?_
    refine Kv zFc rfl rfl rfl ?_
    refine Kcb (Jr tb ((⟨.own b29 fl.l.length [],G⟩:OwL Bool)) (true) rfl rfl rfl rfl zj zh (fun _=>rfl) zh zc zb zb) rfl rfl ?_
    rintro v L' R' ⟨rfl,rfl⟩
    refine qa1 ?_
    refine Kv (Ju tb ((⟨.own b32 l.l.length [],B⟩:OwL Bool)) _ rfl rfl ((show _=Value.slice _ _ _ from rfl).trans (Us z3)) rfl zh (i:=x.sensor.toNat) zk zu) rfl rfl rfl ?_
    refine Kcb (Jr tb ((⟨.own b32 l.l.length [],B⟩:OwL Bool)) (true) rfl rfl rfl rfl zj zh (fun _=>rfl) zh zc zb zb) rfl rfl ?_
    rintro v L' R' ⟨rfl,rfl⟩
    refine qa1 ?_
    refine J1 (Jb (Jh ?_))
    refine Xcg ?_
    refine qbe ?_
    refine Vsf ?_
    refine Ye (Um tb ((⟨o26,O⟩:OwL XSpan)) (lost) rfl rfl rfl rfl zj zh (fun _=>rfl) zh (Nat.le_of_ble_eq_true rfl) zb zb) ?_
    rintro v L' R' ⟨rfl,rfl⟩
    refine Xa8 ?_
    exact q_k ⟨(k + 1,⟨O.set s.target.toNat lost,G.set s.target.toNat true,B.set x.sensor.toNat true⟩),by dsimp only;omega,by rw [hsu,if_neg zca]⟩
   refine J5 (Jb (Jh ?_))
   refine Xcg ?_
   refine qbe ?_
   refine Vsf ?_
   refine Ye (Um tb ((⟨o26,O⟩:OwL XSpan)) (Jgd (O.getD s.target.toNat default) (atS s x t)) rfl rfl rfl rfl zj zh (fun _=>rfl) zh (Nat.le_of_ble_eq_true rfl) zb zb) ?_
   rintro v L' R' ⟨rfl,rfl⟩
   refine Xa8 ?_
   exact q_k ⟨(k + 1,⟨O.set s.target.toNat (Jgd (O.getD s.target.toNat default) (atS s x t)),G,B⟩),by dsimp only;omega,by rw [hsu,if_pos zca,Jgd,if_neg (Int.not_lt.2 zca)]⟩
  obtain rfl:k=m.l.length:=by omega
  refine qbk ?_
  refine Xb9 ?_
  refine Xbt ?_
  refine Jo [(14,Value.slice _ _ _),(22,Value.slice _ _ _),(108,Value.slice _ _ _),(109,Value.int _ _),(110,Value.int _ _)] zg fun tq1=>?_
  refine Vm [22,23,24,110,111,112,113,114,115,116,117,118,119,120] ((⟨fun g=>[(110,.int .i64 ((g.1.1:Nat):Int)),(22,g.1.2.val)],fun g=>g.1.2.L 3 Jp ++ ((⟨.own b32 l.l.length [],B⟩:OwL Bool).L 4 blc ++ ((⟨.own b29 fl.l.length [],G⟩:OwL Bool).L 4 blc ++ ((⟨o26,O⟩:OwL XSpan).L 90 XSpan.cells ++ (⟨b7,lost.cells,90⟩ :: L)))),fun _=>R,fun g=>l.l.length - g.1.1⟩:Head {g:Nat×OwL Int // g.1≤l.l.length∧g.2.ok 1 Jp∧g.2.l=Y2a B g.1})) (⟨(0,OwL.nil),by dsimp only;omega,OwL.nil_ok,rfl⟩) zg zxa zqb ?_
  rintro ⟨⟨i,q⟩,q1,q2,q3⟩ junk
  try dsimp only
  dsimp only at q1 q2 q3
  refine Xak ?_
  refine q_c (fun hc4=>?_) (fun hc4=>?_)
  ·
   have hBg:=Jw (l:=B) (k:=i) false za
   have hws:=Jbd (b:=B) (k:=i)
   have hql:q.l.length≤1000:=by rw [q3,Y2a,List.length_map];exact Nat.le_trans (List.length_filter_le _ _) zD
   refine Xa2 ?_
   refine Jx (Ju tb ((⟨.own b32 l.l.length [],B⟩:OwL Bool)) _ rfl rfl ((show _=Value.slice _ _ _ from rfl).trans (Us z3)) rfl zh (i:=i) zk zu) rfl ?_
   refine Jx (Kk tb ((⟨.own b32 l.l.length [],B⟩:OwL Bool)) rfl rfl rfl zj zh (fun _=>rfl) zh zb) rfl ?_
   refine Xbn ?_
   refine qam ?_
   refine qah ?_
   refine qaf ?_
   refine q_c (fun hc5=>?_) (fun hc5=>?_)
   ·
    refine Xca ?_
    refine qcx ?_
    rintro v L' R' ⟨b118,rfl,rfl,hR118⟩
    replace hR118:=hR118.symm;subst hR118
    refine Y9 (J8 (f:=Jp) (a:=_) tb rfl rfl rfl rfl (q2) zj zsb rfl zy) rfl ?_
    rintro v L' R' ⟨o119,rfl,hok119,rfl,rfl⟩
    refine qc4 ?_
    refine Xa8 ?_
    exact q_k ⟨(i + 1,(⟨o119,_⟩:OwL Int)),by dsimp only;omega,hok119,by dsimp only;rw [hws,if_pos (by simpa using hc5),q3]⟩
   refine Xax ?_
   exact q_k ⟨(i + 1,q),by dsimp only;omega,q2,by dsimp only;rw [hws,if_neg (by simpa using hc5),q3]⟩
  obtain rfl:i=l.l.length:=by omega
  refine Xcp ?_
  refine qbm ?_
  refine Xbs ?_
  refine qa0 ?_
  refine q_r (L':=q.L 3 Jp ++ ((⟨o26,O⟩:OwL XSpan).L 90 XSpan.cells ++ L)) (R':=R) (Ug rfl zAc zAc) ?_
  exact ⟨(⟨o26,O⟩:OwL XSpan),q,by rw [OwL.val,OwL.val,z1];try rfl,⟨hkO,q2⟩,by rw [Kwe,← w2],by rw [Kwe,← w2];exact q3,rfl,rfl⟩
theorem Ymc (fl : Arr XSpan) (l : Arr XSens) (m : Arr XMeas) (t : Int) (L : List Blk) (R : List Sl) (hfl : InR (Vzd fl) R) (hl : InR (Vyd l) R) (hm : InR (Vn m) R)
    (hfn:fl.l.length≤1000) (hln:l.l.length≤1000) (hmn:m.l.length≤1000) (hok:∀x∈m.l,Kna x) (ht:0≤t∧t≤2147483648):
    Tri Tryz.prog 46 [fl.val, l.val, m.val, .int .i64 t].toArray L R
      (fun w L' R'=>∃(p:OwL XSpan) (q:OwL Int),w=.tuple #[p.val,q.val]∧(p.ok 2 XSpan.cells∧q.ok 1 Jp)∧p.l=(Kwe fl.l nothingS 3 l.l m.l t).out∧q.l=Y2a (Kwe fl.l nothingS 3 l.l m.l t).bad l.l.length∧q.L 3 Jp ++ (p.L 90 XSpan.cells ++ L)=L'∧R=R'):=by
  refine Jg 18 Tryz.call46 Tryz.func46 rfl rfl rfl ?_
  refine qae ?_
  refine Xbs ?_
  refine Xc4 ?_
  refine q_l rfl (K6 _ _) ?_
  refine qbm ?_
  refine Xau ?_
  refine Js rfl (Vfd fl nothingS 3 t l m _ _ hfl hl hm hfn hln hmn hok ht) rfl ?_
  rintro v L' R' ⟨p,q,rfl,⟨h1,h2⟩,h3,h4,rfl,rfl⟩
  refine Xa4 ?_
  refine Xbs ?_
  refine qa0 ?_
  refine q_r (L':=q.L 3 Jp ++ (p.L 90 XSpan.cells ++ L)) (R':=R) (Ug rfl zAc zAc) ?_
  exact ⟨p,q,rfl,⟨h1,h2⟩,h3,h4,rfl,rfl⟩
end
section
structure XNode where
  kind:Int
  cond:Int
  left:Int
  right:Int
  deriving Inhabited
def XNode.cells (x:XNode):List Value:=[.int .i64 x.kind,.int .i64 x.cond,.int .i64 x.left,.int .i64 x.right]
structure XLevel where
  cut:Int
  clear:Int
  delay:Int
  deriving Inhabited
abbrev XLevel.val (x:XLevel):Value:=.agg #[.int .i64 x.cut,.int .i64 x.clear,.int .i64 x.delay]
structure XCond where
  kind:Int
  target:Int
  value:Int
  level:XLevel
  deriving Inhabited
def XCond.cells (x:XCond):List Value:=[.int .i64 x.kind,.int .i64 x.target,.int .i64 x.value,.int .i64 x.level.cut,.int .i64 x.level.clear,.int .i64 x.level.delay]
abbrev XCond.val (x:XCond):Value:=.agg #[.int .i64 x.kind,.int .i64 x.target,.int .i64 x.value,.int .i64 x.level.cut,.int .i64 x.level.clear,.int .i64 x.level.delay]
structure XZone where
  rule:Arr XNode
  hold:Int
  roads:Arr Int
  fresh:Int
  deriving Inhabited
def XZone.cells (x:XZone):List Value:=[x.rule.val,.int .i64 x.hold,x.roads.val,.int .i64 x.fresh]
abbrev XZone.val (x:XZone):Value:=.agg #[x.rule.val,.int .i64 x.hold,x.roads.val,.int .i64 x.fresh]
structure XWatch where
  over:Bool
  since:Int
  last:Int
  deriving Inhabited,DecidableEq
def XWatch.cells (x:XWatch):List Value:=[.bool x.over,.int .i64 x.since,.int .i64 x.last]
abbrev XWatch.val (x:XWatch):Value:=.agg #[.bool x.over,.int .i64 x.since,.int .i64 x.last]
structure XCut where
  off:Bool
  clear:Int
  reason:Int
  deriving Inhabited,DecidableEq
def XCut.cells (x:XCut):List Value:=[.bool x.off,.int .i64 x.clear,.int .i64 x.reason]
structure XSite where
  air:XAir
  sensors:Arr XSens
  conds:Arr XCond
  zones:Arr XZone
  persons:Arr Int
def XSite.cells (x:XSite):List Value:=[x.air.mine.places.val,x.air.mine.roads.val,x.air.fans.val,x.air.doors.val,x.sensors.val,x.conds.val,x.zones.val,x.persons.val]
abbrev XSite.val (x:XSite):Value:=.agg #[x.air.mine.places.val,x.air.mine.roads.val,x.air.fans.val,x.air.doors.val,x.sensors.val,x.conds.val,x.zones.val,x.persons.val]
abbrev J1e (x:Arr XNode):Sl:=x.sl 4 XNode.cells []
abbrev Jjf (x:Arr XCond):Sl:=x.sl 6 XCond.cells []
abbrev XZone.subs (z:XZone):List Sl:=[J1e z.rule,isl z.roads]
abbrev J6e (x:Arr XZone):Sl:=x.sl 4 XZone.cells (x.l.flatMap XZone.subs)
abbrev U1d (x:Arr XWatch):Sl:=x.sl 3 XWatch.cells []
abbrev Kwc (x:Arr XCut):Sl:=x.sl 3 XCut.cells []
theorem InR.rule {x:Arr XZone} {R:List Sl} (h:InR (J6e x) R) {i:Nat} {z:XZone} (hi:x.l[i]?=some z):InR (J1e z.rule) R:=
  h.sub (.deep (List.mem_flatMap.2 ⟨z,List.mem_of_getElem? hi,List.mem_cons_self⟩) .here)
theorem InR.zroads {x:Arr XZone} {R:List Sl} (h:InR (J6e x) R) {i:Nat} {z:XZone} (hi:x.l[i]?=some z):InR (isl z.roads) R:=
  h.sub (.deep (List.mem_flatMap.2 ⟨z,List.mem_of_getElem? hi,List.mem_cons_of_mem _ List.mem_cons_self⟩) .here)
structure SiteR (s:XSite) (R:List Sl):Prop where
  air:AirR s.air R
  sensors:InR (Vyd s.sensors) R
  conds:InR (Jjf s.conds) R
  zones:InR (J6e s.zones) R
  persons:InR (isl s.persons) R
theorem SiteR.mono {s:XSite} {R R':List Sl} (h:SiteR s R) (k:∀r∈R,InR r R'):SiteR s R':=
  ⟨⟨h.air.places.mono k,h.air.roads.mono k,h.air.fans.mono k,h.air.doors.mono k⟩,h.sensors.mono k,h.conds.mono k,h.zones.mono k,h.persons.mono k⟩
def Z0 (l:XLevel):Prop:=l.cut≤1000000∧0≤l.clear∧l.clear < l.cut∧0≤l.delay∧l.delay≤100000
instance (l:XLevel):Decidable (Z0 l):=by unfold Z0;infer_instance
def Jga (l:XLevel):Int:=if Z0 l then 0 else 1
def Zy (x:XSpan) (n:Int):Int:=if x.high < x.low then 0 else if n≤x.low then 1 else if x.high < n then -1 else 0
def Kxa (w:XWatch):Prop:=0≤w.last∧-1≤w.since∧w.since≤w.last∧(w.since= -1∨w.over=true)
instance (w:XWatch):Decidable (Kxa w):=by unfold Kxa;infer_instance
def Y5 (l:XLevel) (w:XWatch) (x:XSpan) (t:Int):XWatch:=
  if Zy x l.cut≠-1 then ⟨true,-1,t⟩
  else if w.over=false then ⟨false,w.since,t⟩
  else if l.clear < x.high then ⟨true,-1,t⟩
  else if l.delay≤t - (if w.since < 0 then t else w.since) then ⟨false,-1,t⟩
  else ⟨true,if w.since < 0 then t else w.since,t⟩
def Yk (l:XLevel) (w:XWatch) (t:Int):Int:=
  if ¬ Z0 l then 1 else if t < 0∨2147483648 < t∨t < w.last then 8 else if ¬ Kxa w then 10 else 0
def Jve:XWatch:=⟨false,0,0⟩
def Zcd (l:XLevel) (w:XWatch) (x:XSpan) (t:Int):XWatch:=if Yk l w t=0 then Y5 l w x t else Jve
def Zv (l : List XNode) : Nat → Int → Option (Int × Int)
  | 0,_=>none
  | n + 1,i=>
    if i < 0 then none
    else if (l.getD i.toNat default).kind=1 then
      if (l.getD i.toNat default).left=0∧(l.getD i.toNat default).right=0∧0≤(l.getD i.toNat default).cond∧(l.getD i.toNat default).cond < 64 then some (i,1) else none
    else if (l.getD i.toNat default).kind=2 then
      match Zv l n (i - 1) with
      | none=>none
      | some (f,d)=>if (l.getD i.toNat default).cond=0∧(l.getD i.toNat default).right=0∧(l.getD i.toNat default).left=i - 1 then some (f,d + 1) else none
    else if (l.getD i.toNat default).kind=3∨(l.getD i.toNat default).kind=4 then
      match Zv l n (i - 1) with
      | none=>none
      | some (m,r)=>if (l.getD i.toNat default).cond=0∧(l.getD i.toNat default).right=i - 1∧(l.getD i.toNat default).left=m - 1 then
          match Zv l n (m - 1) with
          | none=>none
          | some (f,q)=>some (f,max q r + 1) else none
    else none
def Kla (l:List XNode):Bool:=
  decide (1≤l.length∧l.length≤64) && (match Zv l l.length ((l.length:Int) - 1) with
    | none=>false
    | some (f,d)=>decide (f=0∧d≤16))
def Z2 (l:List XNode) (n:Nat):Int:=if Kla l=false then 18 else if∃x∈l,x.kind=1∧(n:Int)≤x.cond then 1 else 0
def Z9c (vals:List Int) (c:Int):Int:=if c < vals.length∧-1≤vals.getD c.toNat 0∧vals.getD c.toNat 0≤1 then vals.getD c.toNat 0 else 0
def Uua (vals v:List Int) (x:XNode):Int:=
  if x.kind=1 then Z9c vals x.cond else if x.kind=2 then -(v.getD x.left.toNat 0)
  else if x.kind=3 then min (v.getD x.left.toNat 0) (v.getD x.right.toNat 0) else max (v.getD x.left.toNat 0) (v.getD x.right.toNat 0)
def Ul (l : List XNode) (vals : List Int) : Nat → List Int
  | 0=>[]
  | k + 1=>Ul l vals k ++ [Uua vals (Ul l vals k) (l.getD k default)]
def J1a (l:List XNode) (vals:List Int):Int:=if Kla l=true then (Ul l vals l.length).getD (l.length - 1) 0 else 0
def V0a (a:XAir) (s:XSens):Int:=if s.kind=5 then (a.fans.l.length:Int) else if s.kind=6 then (a.doors.l.length:Int) else (a.mine.roads.l.length:Int)
def Zk (a:XAir) (S:List XSens) (i:Nat):Option Int:=
  if Uy (S.getD i default)≠0 then some (Uy (S.getD i default))
  else if ¬ (0≤(S.getD i default).target∧(S.getD i default).target < V0a a (S.getD i default)) then some 9
  else if∃k:Nat,k < i∧(S.getD k default).address=(S.getD i default).address then some 9 else none
def Ue (a:XAir) (S:List XSens):Int:=((List.range S.length).findSome? (Zk a S)).getD 0
def Ki (S:List XSens) (n:Nat) (c:XCond):Int:=
  if c.kind=1∨c.kind=2∨c.kind=4 then if 0≤c.target∧c.target < S.length then 0 else 9
  else if c.kind=3 then if (0≤c.target∧c.target < S.length)∧(S.getD c.target.toNat default).kind=5 then 0 else 9
  else if c.kind=5 then if 0≤c.target∧c.target < n then 0 else 4
  else 5
def Ko (S:List XSens) (n:Nat) (c:XCond):Int:=
  if Ki S n c≠0 then Ki S n c else if c.value < 0∨1099511627776 < c.value then 1 else if c.kind=1 then Jga c.level else 0
def V4 (n:Nat) (l:List Int) (i:Nat):Prop:=¬ (0≤l.getD i 0∧l.getD i 0 < n)∨(0 < i∧l.getD i 0≤l.getD (i - 1) 0)
instance (n:Nat) (l:List Int) (i:Nat):Decidable (V4 n l i):=by unfold V4;infer_instance
def Yj (conds n:Nat) (z:XZone):Int:=
  if Z2 z.rule.l conds≠0 then Z2 z.rule.l conds else if z.hold < 0∨100000 < z.hold∨z.fresh < 0∨100 < z.fresh then 1
  else if∃i:Nat,i < z.roads.l.length∧V4 n z.roads.l i then 4 else 0
def nzO (e:Int):Option Int:=if e=0 then none else some e
def Jya (s:XSite):Int:=(s.conds.l.findSome? fun c=>nzO (Ko s.sensors.l s.air.mine.roads.l.length c)).getD 0
def Ym (s:XSite):Int:=(s.zones.l.findSome? fun z=>nzO (Yj s.conds.l.length s.air.mine.roads.l.length z)).getD 0
def Z9 (s:XSite):Int:=(s.persons.l.findSome? fun p=>if p < 1∨3 < p then some 19 else none).getD 0
def K2 (s:XSite):Int:=
  if Ky s.air≠0 then Ky s.air
  else if 64 < s.sensors.l.length∨64 < s.conds.l.length∨16 < s.zones.l.length∨64 < s.persons.l.length then 2
  else if Ue s.air s.sensors.l≠0 then Ue s.air s.sensors.l
  else if Jya s≠0 then Jya s
  else if Ym s≠0 then Ym s
  else Z9 s
def Y6 (S:List XSens) (m:List XMeas) (n t:Int):XSpan:=
  if (0≤n∧n < S.length)∧n < m.length∧(m.getD n.toNat default).sensor=n then atS (S.getD n.toNat default) (m.getD n.toNat default) t else nothingS
def Kra (x:XSpan):Int:=if x.high < x.low then 0 else if x.low=1∧x.high=1 then -1 else if 1 < x.low∨x.high < 1 then 1 else 0
def Z9b (c:XCond) (w:XWatch) (t:Int):Int:=if c.kind=1 then Yk c.level w t else 0
def Knb (S:List XSens) (m:List XMeas) (fl:List XSpan) (c:XCond) (w:XWatch) (t:Int):Int:=
  if c.kind=5 then -(Jib fl ⟨c.target,c.value⟩)
  else if c.kind=2 then -(Zy (Y6 S m c.target t) c.value)
  else if c.kind=3 then Kra (Y6 S m c.target t)
  else if c.kind=4 then if Y6 S m c.target t=nothingS then 1 else -1
  else if (Y5 c.level w (Y6 S m c.target t) t).over=false then -1
  else if Zy (Y6 S m c.target t) c.level.cut=1 then 1 else 0
def U9a (S:List XSens) (m:List XMeas) (c:XCond) (w:XWatch) (t:Int):XWatch:=if c.kind=1 then Y5 c.level w (Y6 S m c.target t) t else w
def valuesErr (s:XSite) (m:List XMeas) (w:List XWatch) (fl:List XSpan) (t:Int):Int:=
  if K2 s≠0 then K2 s
  else if ¬ (m.length=s.sensors.l.length∧w.length=s.conds.l.length∧fl.length=s.air.mine.roads.l.length) then 11
  else if t < 0∨2147483648 < t then 8
  else ((List.range w.length).findSome? fun i=>nzO (Z9b (s.conds.l.getD i default) (w.getD i default) t)).getD 0
def valuesV (s:XSite) (m:List XMeas) (w:List XWatch) (fl:List XSpan) (t:Int):List Int:=
  if valuesErr s m w fl t≠0 then [] else (List.range w.length).map fun i=>Knb s.sensors.l m fl (s.conds.l.getD i default) (w.getD i default) t
def valuesW (s:XSite) (m:List XMeas) (w:List XWatch) (fl:List XSpan) (t:Int):List XWatch:=
  if valuesErr s m w fl t≠0 then [] else (List.range w.length).map fun i=>U9a s.sensors.l m (s.conds.l.getD i default) (w.getD i default) t
def cutsErr (s:XSite) (v:List Int) (c:List XCut) (t:Int):Int:=
  if K2 s≠0 then K2 s else if ¬ (v.length=s.conds.l.length∧c.length=s.zones.l.length) then 11 else if t < 0∨2147483648 < t then 8 else 0
def Y5d (v:Int) (c:XCut) (t:Int):XCut:=
  if v= -1 then if c.clear= -1 then ⟨c.off,t,c.reason⟩ else c else if c.off=true then ⟨true,-1,c.reason⟩ else ⟨true,-1,v⟩
def cutAt (s:XSite) (v:List Int) (c:List XCut) (t:Int) (i:Nat):XCut:=Y5d (J1a (s.zones.l.getD i default).rule.l v) (c.getD i default) t
def Zu (s : XSite) (v : List Int) (c : List XCut) : Nat → List Int
  | 0=>[]
  | k + 1=>if J1a (s.zones.l.getD k default).rule.l v≠-1∧(c.getD k default).off=false then Zu s v c k ++ [(k:Int)] else Zu s v c k
def cutsC (s:XSite) (v:List Int) (c:List XCut) (t:Int):List XCut:=if cutsErr s v c t≠0 then [] else (List.range c.length).map (cutAt s v c t)
def cutsN (s:XSite) (v:List Int) (c:List XCut) (t:Int):List Int:=if cutsErr s v c t≠0 then [] else Zu s v c c.length
end
end Go.Proofs.YtchfclmokpbldaaGreat
