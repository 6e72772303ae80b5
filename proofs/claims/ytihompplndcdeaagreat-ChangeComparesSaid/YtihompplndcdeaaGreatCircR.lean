/-
  recirculate.Circles whole, and the reference's circles. By an AI agent; no person has read it.
-/
import Derived.Test.YtihompplndcdeaaGreatCircW
namespace Go.Proofs.YtihompplndcdeaaGreat
open Go.Aw Go
section
variable {A9 B9:Prop}
theorem J2j (a:A9) (h:A9→B9:=by exact Jbu (by first | exact Jag tb rfl rfl rfl rfl (by first | assumption | exact zr (by simp)) (i:=i) (by first | rfl | omega | (simp;omega)) (by omega) | exact Jal tb rfl rfl rfl rfl (i:=i) (by first | rfl | omega | (simp;omega)) (by omega)) rfl rfl rfl):B9:=h a
theorem J4g (a:A9) (h:A9→B9:=by exact Jbu (Jar (show _=Value.slice _ _ _ from rfl)) rfl rfl rfl):B9:=h a
theorem J39 (a:A9) (h:A9→B9:=by exact Ja2 (by first | exact Jag tb rfl rfl rfl rfl (by first | assumption | exact zr (by simp)) (i:=i) (by first | rfl | omega | (simp;omega)) (by omega) | exact Jal tb rfl rfl rfl rfl (i:=i) (by first | rfl | omega | (simp;omega)) (by omega)) rfl):B9:=h a
theorem J8j (a:A9) (h:A9→B9:=by exact Jfo (Jap (f:=Jad) (p:=r) (a:=a.road) tb rfl rfl rfl rfl (w2) (by repeat (first | apply OSeg.cons | exact OSeg.here | exact OSeg.last | exact OSeg.at (by assumption) | apply OSeg.app)) (Ja5 (by repeat (first | exact zi0 | apply zi1 | apply zi2)) rfl rfl) rfl (by first | omega | (simp only [List.length_cons,List.length_nil,List.length_append];omega))) rfl):B9:=h a
theorem J7e (a:A9) (h:A9→B9:=by exact Jbb tb [0,1,2,3,4,5,6,7,8,9,10,11,12,13] ([Blk.mk b3 _ _]) Jbn (by kernel_rfl) (by repeat (first | exact zs0 _ | exact zs1 _ | apply zs2 | apply zs3 | apply zs4 | apply zs5))):B9:=h a
theorem J6g (a:A9) (h:A9→B9:=by exact Ja2 (Jaz tb ((⟨o16,l⟩:OwL Bool)) rfl rfl rfl (by repeat (first | apply OSeg.cons | exact OSeg.here | exact OSeg.last | exact OSeg.at (by assumption) | apply OSeg.app)) (by assumption) (fun _=>rfl) (by assumption) (by rfl)) rfl):B9:=h a
theorem J7r (a:A9) (h:A9→B9:=by exact Ja2 (Jak tb ((⟨o16,l⟩:OwL Bool)) _ rfl rfl ((show _=Value.slice _ _ _ from rfl).trans (by simp only [OwL.val,hll])) rfl (by assumption) (i:=(Jiz m i b).toNat) (by first | rfl | omega | (simp;omega)) (by first | omega | (dsimp only;omega) | (dsimp only;rw [List.length_set];omega) | (dsimp only;simp only [List.length_set];omega))) rfl):B9:=h a
end
theorem Tri.post_perm {P:Program} {f:FuncId} {args:Array Value} {L:List Blk} {R:List Sl} {Post Post':Jeq} (h:Tri P f args L R Post) (k:∀v L' R',Post v L' R'→∃L'',L'.Perm L''∧Post' v L'' R'):Tri P f args L R Post':=
  ⟨h.1,fun w G hh=>(h.2 w G hh).mono fun _ _ ⟨v,L',R',e,p,s⟩=>let ⟨L'',hp,p'⟩:=k v L' R' p;⟨v,L'',R',e,p',s.perm hp⟩⟩
set_option maxRecDepth 20000
attribute [local irreducible] CJ LJ DJ Tri YV Gives Jd5 Jbd Jbz Jd4 RV Jbf OwL.L
theorem Jkr {l:List Int} (h:0 < l.length):l.getLast?=some (l.getD (l.length - 1) 0):=by
  rw [List.getLast?_eq_getElem?,Jan (l:=l) (k:=l.length - 1) 0 (by omega)]
theorem Jw3 (m:XMine) (fl:Arr XSpan) (L:List Blk) (R:List Sl) (hm:MineR m R) (hfl:InR (Jl8 fl) R) (hv:Jbv m=0) (hn:fl.l.length=m.roads.l.length):
    Tri Tryz.prog 59 [m.val,fl.val].toArray L R (fun w L' R'=>∃(p:OwL Int) (S:List Sl),w=p.val∧p.ok 1 Jad∧CircIs m fl.l p.l∧p.L 3 Jad ++ L=L'∧S ++ R=R'):=by
  have hok:=Jd1 hv
  have hnp:=hok.places
  have hnr:=hok.roads
  refine Jae 45 Tryz.call59 Tryz.func59 rfl rfl rfl ?_
  refine Xai ?_
  intro b2
  refine Xbn ?_
  refine qbe ?_
  refine qbm ?_
  refine Jaq rfl (J12 m fl _ _ hm hfl hv hn) rfl ?_
  rintro v L' R' ⟨p,rfl,hpk,hpl,rfl,rfl⟩
  refine Ja2 (Jar rfl) rfl ?_
  refine Xcr ?_
  refine qaz ?_
  refine qa4 ?_
  refine Jby (A:=[]) (wd:=3) [] (fun _=>rfl) (by decide) hpk (fun s hs=>by cases hs) ?_
  refine Jg5 (by simp only [List.nil_append];rfl) ?_
  obtain ⟨R1,hR1⟩:∃R1,R1=J4m p.arr :: R:=⟨_,rfl⟩
  have hRR:∀r∈R,InR r R1:=fun r hr=>Jab (by rw [hR1];exact .tail _ hr)
  have har:InR (J4m p.arr) R1:=Jab (by rw [hR1];exact .head _)
  refine J2x (show _=R1 by rw [hR1]) ?_
  have hm1:MineR m R1:=⟨hm.places.mono hRR,hm.roads.mono hRR⟩
  have hin:Jqu m.places.l.length p.arr.l:=by show Jqu _ p.l;rw [hpl];exact J03 hok
  have hpn:p.l.length≤2 * m.roads.l.length:=by rw [hpl];exact Jmf _
  refine qay ?_
  refine Xa4 ?_
  refine qbe ?_
  refine qbm ?_
  refine Jaq rfl (Jvt m p.arr _ _ hm1 har hin hnp (by show p.l.length≤1000;omega)) rfl ?_
  rintro v L' R' ⟨q,rfl,hqk,hqO,rfl,rfl⟩
  have hqO':OnTo m (Jhe m fl.l) (Jhe m fl.l).length q.l:=by have:=hqO;rw [show p.arr.l=Jhe m fl.l from hpl] at this;exact this
  have hqs:=hqO'.sorted
  have hqn:=hqO.sub.length_le
  rw [List.length_take] at hqn
  refine qag ?_
  refine Xaz ?_
  refine Jai [(7,Value.slice _ _ _),(18,Value.slice _ _ _),(19,Value.int _ _),(20,Value.int _ _)] (by repeat' (first | exact trivial | refine And.intro rfl ?_)) fun tq0=>?_
  refine Jb0 [7,9,20,21,22,23,24,25,26,27,28,29,30,31,32,33,34,35,36,37,38,39,40,41,42,43] ((⟨fun g=>[(20,.int .i64 ((g.1.1:Nat):Int)),(7,g.1.2.val)],fun g=>g.1.2.L 3 Jad ++ (q.L 153 XArc.cells ++ (⟨b2,m.cells,31⟩ :: L)),fun _=>R1,fun g=>q.l.length - g.1.1⟩:Head {g:Nat×OwL Int // g.1≤q.l.length∧g.2.ok 1 Jad∧RdsTo q.l g.1 g.2.l})) (⟨(0,OwL.nil),by dsimp only;omega,OwL.nil_ok,RdsTo.zero⟩) (by repeat' (first | exact trivial | refine And.intro rfl ?_)) (by dsimp only;rw [Jcl,List.nil_append];exact List.Sublist.refl _) (Jac _) ?_
  rintro ⟨⟨k,r⟩,w1,w2,w3⟩ junk
  try dsimp only
  dsimp only at w1 w2 w3
  have hrl:=w3.len
  have hpn':p.arr.l.length≤256:=by show p.l.length≤256;omega
  refine Xay ?_
  refine q_c (fun hc0=>?_) (fun hc0=>?_)
  ·
   have hr0:=Jan (l:=q.l) (k:=k) default (by omega)
   obtain ⟨a,haa⟩:∃a,a=q.l.getD k default:=⟨_,rfl⟩
   rw [← haa] at hr0
   refine qbb ?_
   refine Ja2 (Jak tb (q) _ rfl rfl rfl rfl (by assumption) (i:=k) (by first | rfl | omega | (simp;omega)) (by first | omega | (dsimp only;omega) | (dsimp only;rw [List.length_set];omega) | (dsimp only;simp only [List.length_set];omega))) rfl ?_
   refine Ja2 (Jn7 (row:=[_,_,_]) tb (q) rfl rfl rfl (by repeat (first | apply OSeg.cons | exact OSeg.here | exact OSeg.last | exact OSeg.at (by assumption) | apply OSeg.app)) (by assumption) (fun _=>rfl) (by assumption) (by rfl) (by rfl)) rfl ?_
   refine qaq ?_
   intro b9
   refine Xd6 ?_
   refine Jbb tb [0,1,2,3,4,5,6,7,8,9,10,11,12,13] ([Blk.mk b9 _ _] ++ (r.L 3 Jad ++ [])) Jbn (by kernel_rfl) (by repeat (first | exact zs0 _ | exact zs1 _ | apply zs2 | apply zs3 | apply zs4 | apply zs5)) ?_
   refine J4g ?_
   refine Jbu (Je0 tb rfl rfl rfl) rfl rfl rfl ?_
   refine Jbu (Jjw rfl rfl) rfl rfl rfl ?_
   refine qb2 ?_
   refine Jcz (k:=27) (show _=Value.bool _ from rfl) (fun hg3=>?_) (fun hg3=>?_)
   ·
    replace hg3:=qb hg3
    iterate 9 refine qap ?_
    refine Xb0 ?_
    refine Jcu rfl ?_
    refine qay ?_
    refine Xcw ?_
    refine qcx ?_
    rintro v L' R' ⟨b41,rfl,rfl,hR41⟩
    replace hR41:=hR41.symm;subst hR41
    refine J8j ?_
    rintro v L' R' ⟨o42,rfl,hok42,rfl,rfl⟩
    refine Xdl ?_
    exact Jat ⟨(k + 1,(⟨o42,_⟩:OwL Int)),by dsimp only;omega,hok42,w3.yes hqs hr0 (by
    first
      | exact .inl (List.eq_nil_of_length_eq_zero (by omega))
      | (refine .inr ?_
         rw [Jkr (by omega)]
         intro e
         exact hc1 (Option.some.inj e)))⟩ (by repeat (first | exact Off.refl | apply Off.upd rfl | apply Off.havoc rfl | apply Off.updL rfl | apply Off.left rfl)) (by repeat' (first | exact trivial | refine And.intro rfl ?_)) (by repeat (first | exact zs0 _ | exact zs1 _ | apply zs2 | apply zs3 | apply zs4 | apply zs5)) (Jac _) (by dsimp only;omega)
   replace hg3:=qb hg3
   have hgl:=Jan (l:=r.l) (k:=r.l.length - 1) 0 (by omega)
   refine J4g ?_
   refine J4g ?_
   refine Jbu (Je0 tb rfl rfl rfl) rfl rfl rfl ?_
   refine qb7 ?_
   refine Jbu (Jak tb (r) _ rfl rfl rfl rfl (by assumption) (i:=r.l.length - 1) (by first | rfl | omega | (simp;omega)) (by first | omega | (dsimp only;omega) | (dsimp only;rw [List.length_set];omega) | (dsimp only;simp only [List.length_set];omega))) rfl rfl rfl ?_
   refine Jbu (Jaz tb (r) rfl rfl rfl (by repeat (first | apply OSeg.cons | exact OSeg.here | exact OSeg.last | exact OSeg.at (by assumption) | apply OSeg.app)) (by assumption) (fun _=>rfl) (by assumption) (by rfl)) rfl rfl rfl ?_
   refine Xae ?_
   refine Jbu (Jll rfl rfl) rfl rfl rfl ?_
   refine Xb0 ?_
   refine q_c (fun hc1=>?_) (fun hc1=>?_)
   ·
    refine qay ?_
    refine Xcw ?_
    refine qcx ?_
    rintro v L' R' ⟨b41,rfl,rfl,hR41⟩
    replace hR41:=hR41.symm;subst hR41
    refine J8j ?_
    rintro v L' R' ⟨o42,rfl,hok42,rfl,rfl⟩
    refine Xdl ?_
    exact Jat ⟨(k + 1,(⟨o42,_⟩:OwL Int)),by dsimp only;omega,hok42,w3.yes hqs hr0 (by
    first
      | exact .inl (List.eq_nil_of_length_eq_zero (by omega))
      | (refine .inr ?_
         rw [Jkr (by omega)]
         intro e
         exact hc1 (Option.some.inj e)))⟩ (by repeat (first | exact Off.refl | apply Off.upd rfl | apply Off.havoc rfl | apply Off.updL rfl | apply Off.left rfl)) (by repeat' (first | exact trivial | refine And.intro rfl ?_)) (by repeat (first | exact zs0 _ | exact zs1 _ | apply zs2 | apply zs3 | apply zs4 | apply zs5)) (Jac _) (by dsimp only;omega)
   refine Xa6 ?_
   exact q_k ⟨(k + 1,r),by dsimp only;omega,w2,w3.no hr0 (by rw [Jkr (by omega)];exact congrArg some (by omega))⟩
  obtain rfl:k=q.l.length:=by omega
  refine Xb5 ?_
  refine Jbe (L':=r.L 3 Jad ++ L) (R':=J4m p.arr :: R) (Jdi rfl (Jah (show _=Value.slice _ _ _ from rfl))) ?hp ?hL ?hR
  case hp=>exact ⟨r,[J4m p.arr],rfl,w2,RdsTo.done hqO' w3,rfl,rfl⟩
  case hL=>exact (by repeat (first | exact zs0 _ | exact zs1 _ | apply zs2 | apply zs3 | apply zs4 | apply zs5))
  case hR=>exact fun x hx=>Jab (by rw [hR1];exact hx)
theorem Jp1 (m:XMine) (fl:Arr XSpan) (L:List Blk) (R:List Sl) (hm:MineR m R):
    Tri Tryz.prog 65 [m.val,fl.val].toArray L R (fun v L' R'=>v=.bool (decide (Jbv m=0) && decide ((fl.l.length:Int)=m.roads.l.length))∧L=L'∧R=R'):=by
  refine Jae 16 Tryz.call65 Tryz.func65 rfl rfl rfl ?_
  refine Xai ?_
  intro b2
  refine Xbr ?_
  refine qbe ?_
  refine q_l rfl (Jep m _ _ hm) ?_
  refine qbn ?_
  refine qah ?_
  apply Jcd (G:=[_,_,_,_,_,_]) (j:=3) (cj:=8) rfl rfl (by rfl) rfl (show _=Value.bool _ from rfl) rfl
  ·
   intro hg4
   replace hg4:=qb hg4
   refine Xat ?_
   refine Xcx ?_
   exact qai
  intro junk4
  refine Xbb ?_
  refine q_b (L':=L) (R':=R) ?_
  exact ⟨rfl,rfl,rfl⟩
theorem Jy3 (m:XMine) (fl:Arr XSpan) (i:Nat) (back:Bool) (L:List Blk) (R:List Sl) (hm:MineR m R) (hfl:InR (Jl8 fl) R) (hi:i < m.roads.l.length) (hn:fl.l.length=m.roads.l.length):
    Tri Tryz.prog 67 [m.val,fl.val,.int .i64 (i:Int),.bool back].toArray L R (fun v L' R'=>v=.bool (J28 m fl.l i back)∧L=L'∧R=R'):=by
  have hmr:=hm.roads
  have hrg:=Jan (l:=m.roads.l) (k:=i) default hi
  have hsg:=Jan (l:=fl.l) (k:=i) default (by omega)
  refine Jae 28 Tryz.call67 Tryz.func67 rfl rfl rfl ?_
  refine Xai ?_
  intro b4
  refine Xb2 ?_
  refine Xak ?_
  refine J39 ?_
  refine Xba ?_
  refine qaf ?_
  refine q_c (fun hc0=>?_) (fun hc0=>?_)
  ·
   refine qae ?_
   refine Xcj ?_
   refine q_b (L':=L) (R':=R) ?_
   exact ⟨by rw [J28,hc0];rfl,rfl,rfl⟩
  refine qbo ?_
  refine Xdi ?_
  refine q_c (fun hc1=>?_) (fun hc1=>?_)
  ·
   refine qae ?_
   refine Xad ?_
   refine J39 ?_
   refine Xba ?_
   refine qaj ?_
   refine Xcj ?_
   refine q_b (L':=L) (R':=R) ?_
   exact ⟨by rw [J28,hc0,hc1];rfl,rfl,rfl⟩
  refine qbv ?_
  refine Xad ?_
  refine J39 ?_
  refine Xba ?_
  refine qa5 ?_
  refine Xbb ?_
  refine q_b (L':=L) (R':=R) ?_
  exact ⟨by rw [J28,hc0,hc1];rfl,rfl,rfl⟩
theorem Jxe (m:XMine) (i:Nat) (back:Bool) (L:List Blk) (R:List Sl) (hm:MineR m R) (hi:i < m.roads.l.length):
    Tri Tryz.prog 66 [m.val,.int .i64 (i:Int),.bool back].toArray L R (fun v L' R'=>v=.tuple #[.int .i64 (Jme m i back),.int .i64 (Jiz m i back)]∧L=L'∧R=R'):=by
  have hmr:=hm.roads
  have hrg:=Jan (l:=m.roads.l) (k:=i) default hi
  refine Jae 33 Tryz.call66 Tryz.func66 rfl rfl rfl ?_
  refine Xai ?_
  intro b3
  refine qad ?_
  refine Xa5 ?_
  refine Xdi ?_
  refine q_c (fun hc0=>?_) (fun hc0=>?_)
  ·
   refine Jam ?_
   refine J7e ?_
   refine Xa0 ?_
   refine J2j ?_
   refine Xcv ?_
   refine Xa0 ?_
   refine J2j ?_
   refine Xcv ?_
   refine qcg ?_
   refine qcg ?_
   refine Jbt (Jaa (Jc5 (Ja7 ?_)))
   refine q_r (L':=L) (R':=R) (Jc8 rfl (Jah (show _=Value.int _ _ from rfl)) (Jah (show _=Value.int _ _ from rfl))) ?_
   exact ⟨by rw [Jme,Jiz,hc0];rfl,rfl,rfl⟩
  refine qcl ?_
  refine J7e ?_
  refine Xa0 ?_
  refine J2j ?_
  refine Xcv ?_
  refine Xa0 ?_
  refine J2j ?_
  refine Xcv ?_
  refine qcg ?_
  refine qcg ?_
  refine Jbt (Jaa (Jc5 ?_))
  refine q_r (L':=L) (R':=R) (Jc8 rfl (Jah (show _=Value.int _ _ from rfl)) (Jah (show _=Value.int _ _ from rfl))) ?_
  exact ⟨by rw [Jme,Jiz,hc0];rfl,rfl,rfl⟩
def Jsa (d:Nat):Bool:=decide ((d:Int)=1)
def bn (b:Bool):Nat:=if b=true then 1 else 0
theorem J7s {b:Bool} {d:Nat} (h:bn b < d + 1) (hd:d < 2):bn b < d∨b=Jsa d:=by
  cases b with
  | false=>simp only [bn,Jsa] at h ⊢;by_cases e:d=0 <;> simp_all;omega
  | true=>simp only [bn,Jsa] at h ⊢;by_cases e:d=1 <;> simp_all;omega
theorem J5h {d:Nat} (hd:d < 2):bn (Jsa d) < d + 1:=by
  rcases Nat.lt_or_ge d 1 with h | h
  · obtain rfl : d = 0 := by omega
    decide
  · obtain rfl : d = 1 := by omega
    decide
theorem Jz7 {m:XMine} (hok:MineOk m) {i:Nat} (hi:i < m.roads.l.length) (b:Bool):(0≤Jme m i b∧Jme m i b < m.places.l.length)∧0≤Jiz m i b∧Jiz m i b < m.places.l.length:=by
  have hr:=hok.road i _ (Jan (l:=m.roads.l) (k:=i) default hi)
  have h1:=hr.fr
  have h2:=hr.to
  cases b with
  | false=>exact ⟨h1,h2⟩
  | true=>exact ⟨h2,h1⟩
def J88 (m:XMine) (fl:List XSpan) (w:Int) (l:List Bool) (j:Nat) (b:Bool):Prop:=J28 m fl j b=true→(j:Int)≠w→(m.places.l.getD (Jiz m j b).toNat default).surface=false→l.getD (Jme m j b).toNat false=true→l.getD (Jiz m j b).toNat false=true
theorem Juw (m:XMine) (fl:Arr XSpan) (seen:Arr Bool) (w:Int) (L:List Blk) (R:List Sl) (hm:MineR m R) (hfl:InR (Jl8 fl) R) (hs:InR (J2v seen) R) (hok:MineOk m) (hn:fl.l.length=m.roads.l.length) (hl:seen.l.length=m.places.l.length) (hs0:∀j:Nat,seen.l.getD j false=true→(m.places.l.getD j default).surface=false):
    Tri Tryz.prog 68 [m.val,fl.val,seen.val,.int .i64 w].toArray L R (fun v L' R'=>∃p:OwL Bool,v=p.val∧p.ok 1 blc∧SprIs m (Jhe m fl.l) w seen.l p.l∧p.L 4 blc ++ L=L'∧R=R'):=by
  have hmp:=hm.places
  have hnp:=hok.places
  have hnr:=hok.roads
  refine Jae 83 Tryz.call68 Tryz.func68 rfl rfl rfl ?_
  refine Xai ?_
  intro b4
  refine Xbn ?_
  refine qbm ?_
  refine Jfo (Jcx (f:=blc) (xs:=seen) tb rfl rfl rfl (by decide) rfl rfl (hs) (fun _=>rfl) (by omega)) rfl ?_
  rintro v L' R' ⟨o16,rfl,hok16,rfl,rfl⟩
  refine Xa4 ?_
  refine qaz ?_
  refine qa2 ?_
  refine Jai [(1,Value.slice _ _ _),(3,Value.int _ _),(4,Value.pointer _),(9,Value.slice _ _ _),(10,Value.bool _)] (by repeat' (first | exact trivial | refine And.intro rfl ?_)) fun tq0=>?_
  refine q_p [10,11,12,13,14,17,18,19,20,21,22,23,24,25,26,27,28,29,30,31,32,33,34,35,36,37,38,39,40,41,42,43,44,45,46,47,48,49,50,51,52,53,54,55,56,57,58,59,60,61,62,63,64,65,66,67,68,69,70,71,72,73,74,75,76,77,78,79,80,81] ((⟨fun q=>[(10,.bool q.1.1)],fun q=>(⟨o16,q.1.2⟩:OwL Bool).L 4 blc ++ (⟨b4,m.cells,31⟩ :: L),fun _=>R,fun q=>Jda q.1.2 * 2 + (if q.1.1=true then 1 else 0)⟩:Head {q:Bool×List Bool // (⟨o16,q.2⟩:OwL Bool).ok 1 blc∧SprTo m (Jhe m fl.l) w seen.l q.2∧(∀j:Nat,q.2.getD j false=true→(m.places.l.getD j default).surface=false)∧(q.1=false→∀(j:Nat) (b:Bool),j < m.roads.l.length→J88 m fl.l w q.2 j b)})) (⟨(true,seen.l),hok16,SprTo.init,hs0,fun h=>by cases h⟩) ?_
  rintro ⟨⟨again,l0⟩,q1,q2,q4,q3⟩ junk
  try dsimp only
  dsimp only at q1 q2 q3 q4
  refine qbi ?_
  refine Xdi ?_
  refine q_c (fun hc0=>?_) (fun hc0=>?_)
  ·
   refine Ja3 (Jaa (Ja1 (Jam (Jaf ?_))))
   refine Xbr ?_
   refine Xas ?_
   refine Jb8 [10,11,12,13,14,17,18,19,20,21,22,23,24,25,26,27,28,29,30,31,32,33,34,35,36,37,38,39,40,41,42,43,44,45,46,47,48,49,50,51,52,53,54,55,56,57,58,59,60,61,62,63,64,65,66,67,68,69,70,71,72,73,74,75,76,77,78,79,80,81] (by repeat (first | apply Off.upd rfl | apply Off.havoc rfl | refine Off.updL (t':=havoc _ _ _) rfl ?_ | exact Off.refl)) [(10,Value.bool _),(11,Value.int _ _)] (by repeat' (first | exact trivial | refine And.intro rfl ?_)) fun tq1=>?_
   refine q_p [10,11,12,13,14,18,19,20,21,22,23,24,25,26,27,28,29,30,31,32,33,34,35,36,37,38,39,40,41,42,43,44,45,46,47,48,49,50,51,52,53,54,55,56,57,58,59,60,61,62,63,64,65,66,67,68,69,70,71,72,73,74,75,76,77,78,79,80,81] ((⟨fun q=>[(11,.int .i64 ((q.1.1:Nat):Int)),(10,.bool q.1.2.1)],fun q=>(⟨o16,q.1.2.2⟩:OwL Bool).L 4 blc ++ (⟨b4,m.cells,31⟩ :: L),fun _=>R,fun q=>m.roads.l.length - q.1.1⟩:Head {q:Nat×Bool×List Bool // q.1≤m.roads.l.length∧(⟨o16,q.2.2⟩:OwL Bool).ok 1 blc∧SprTo m (Jhe m fl.l) w seen.l q.2.2∧(∀j:Nat,q.2.2.getD j false=true→(m.places.l.getD j default).surface=false)∧(q.2.1=true→Jda q.2.2 < Jda l0)∧(q.2.1=false→q.2.2=l0∧∀(j:Nat) (b:Bool),j < q.1→J88 m fl.l w l0 j b)})) (⟨(0,false,l0),by dsimp only;omega,q1,q2,q4,(fun h=>by cases h),fun _=>⟨rfl,fun j b hj=>by omega⟩⟩) ?_
   rintro ⟨⟨i,ch1,l1⟩,w1,w2,w3,w6,w4,w5⟩ junk
   try dsimp only
   dsimp only at w1 w2 w3 w4 w5 w6
   refine Xbo ?_
   refine q_c (fun hc1=>?_) (fun hc1=>?_)
   ·
    refine qbb ?_
    refine Xas ?_
    refine Jb8 [10,11,12,13,14,18,19,20,21,22,23,24,25,26,27,28,29,30,31,32,33,34,35,36,37,38,39,40,41,42,43,44,45,46,47,48,49,50,51,52,53,54,55,56,57,58,59,60,61,62,63,64,65,66,67,68,69,70,71,72,73,74,75,76,77,78,79,80,81] (by repeat (first | apply Off.upd rfl | apply Off.havoc rfl | refine Off.updL (t':=havoc _ _ _) rfl ?_ | exact Off.refl)) [(10,Value.bool _),(11,Value.int _ _),(12,Value.int _ _)] (by repeat' (first | exact trivial | refine And.intro rfl ?_)) fun tq2=>?_
    refine q_p [10,12,13,14,25,26,27,28,29,30,31,32,33,34,35,36,37,38,39,40,41,42,43,44,45,46,47,48,49,50,51,52,53,54,55,56,57,58,59,60,61,62,63,64,65,66,67,68,69,70,71,72,73,74,75,76,77,78,79,80,81] ((⟨fun q=>[(12,.int .i64 ((q.1.1:Nat):Int)),(10,.bool q.1.2.1)],fun q=>(⟨o16,q.1.2.2⟩:OwL Bool).L 4 blc ++ (⟨b4,m.cells,31⟩ :: L),fun _=>R,fun q=>2 - q.1.1⟩:Head {q:Nat×Bool×List Bool // q.1≤2∧(⟨o16,q.2.2⟩:OwL Bool).ok 1 blc∧SprTo m (Jhe m fl.l) w seen.l q.2.2∧(∀j:Nat,q.2.2.getD j false=true→(m.places.l.getD j default).surface=false)∧(q.2.1=true→Jda q.2.2 < Jda l0)∧(q.2.1=false→q.2.2=l0∧(∀(j:Nat) (b:Bool),j < i→J88 m fl.l w l0 j b)∧∀b:Bool,bn b < q.1→J88 m fl.l w l0 i b)})) (⟨(0,ch1,l1),by dsimp only;omega,w2,w3,w6,w4,fun h=>⟨(w5 h).1,(w5 h).2,fun b hb=>by dsimp only at hb;omega⟩⟩) ?_
    rintro ⟨⟨d,ch,l⟩,v1,v2,v3,v6,v4,v5⟩ junk
    try dsimp only
    dsimp only at v1 v2 v3 v4 v5 v6
    have hll:=v3.len
    refine Xaq ?_
    refine Xao ?_
    refine q_c (fun hc2=>?_) (fun hc2=>?_)
    ·
     have hi:i < m.roads.l.length:=by omega
     obtain ⟨b,hb⟩:∃b,b=Jsa d:=⟨_,rfl⟩
     have her:=Jz7 hok hi b
     have hgf:=Jan (l:=l) (k:=(Jme m i b).toNat) false (by omega)
     have hgt:=Jan (l:=l) (k:=(Jiz m i b).toNat) false (by omega)
     have hpf:=Jan (l:=m.places.l) (k:=(Jme m i b).toNat) default (by omega)
     have hpt:=Jan (l:=m.places.l) (k:=(Jiz m i b).toNat) default (by omega)
     refine qbb ?_
     refine qbe ?_
     refine Xbx ?_
     refine qbn ?_
     refine q_l rfl (Tri.cast (Jxe m i b _ _ hm hi) (by rw [hb];rfl)) ?_
     refine Ja2 (Jar rfl) rfl ?_
     refine Xdw ?_
     refine Xav ?_
     refine qaa ?_
     refine Xcp ?_
     apply Jcd (G:=[_,_,_,_,_,_]) (j:=3) (cj:=40) rfl rfl (by rfl) rfl (show _=Value.bool _ from rfl) rfl
     ·
      intro hg4
      replace hg4:=qb hg4
      refine qbe ?_
      refine Xdh ?_
      refine qbn ?_
      refine q_l rfl (Tri.cast (Jy3 m fl i b _ _ hm hfl hi hn) (by rw [hb];rfl)) ?_
      exact qai
     intro junk4
     refine qah ?_
     apply Jcd (G:=[_,_,_,_]) (j:=11) (cj:=48) rfl rfl (by rfl) rfl (show _=Value.bool _ from rfl) rfl
     ·
      intro hg12
      replace hg12:=qb hg12
      refine Xad ?_
      refine Ja2 (Jak tb ((⟨o16,l⟩:OwL Bool)) _ rfl rfl ((show _=Value.slice _ _ _ from rfl).trans (by simp only [OwL.val,hll])) rfl (by assumption) (i:=(Jme m i b).toNat) (by first | rfl | omega | (simp;omega)) (by first | omega | (dsimp only;omega) | (dsimp only;rw [List.length_set];omega) | (dsimp only;simp only [List.length_set];omega))) rfl ?_
      refine J6g ?_
      exact qai
     intro junk12
     refine qah ?_
     apply Jcd (G:=[_,_,_,_,_]) (j:=17) (cj:=54) rfl rfl (by rfl) rfl (show _=Value.bool _ from rfl) rfl
     ·
      intro hg18
      replace hg18:=qb hg18
      refine Xad ?_
      refine J7r ?_
      refine J6g ?_
      refine qb4 ?_
      exact qai
     intro junk18
     refine qah ?_
     apply Jcd (G:=[_,_,_,_,_,_,_]) (j:=24) (cj:=61) rfl rfl (by rfl) rfl (show _=Value.bool _ from rfl) rfl
     ·
      intro hg25
      replace hg25:=qb hg25
      refine Xak ?_
      refine Ja2 (by first | exact Jag tb rfl rfl rfl rfl (by first | assumption | exact zr (by simp)) (i:=(Jme m i b).toNat) (by first | rfl | omega | (simp;omega)) (by omega) | exact Jal tb rfl rfl rfl rfl (i:=(Jme m i b).toNat) (by first | rfl | omega | (simp;omega)) (by omega)) rfl ?_
      refine Xba ?_
      refine qb4 ?_
      exact qai
     intro junk25
     refine qah ?_
     apply Jcd (G:=[_,_,_,_,_,_,_]) (j:=33) (cj:=70) rfl rfl (by rfl) rfl (show _=Value.bool _ from rfl) rfl
     ·
      intro hg34
      replace hg34:=qb hg34
      refine Xak ?_
      refine Ja2 (by first | exact Jag tb rfl rfl rfl rfl (by first | assumption | exact zr (by simp)) (i:=(Jiz m i b).toNat) (by first | rfl | omega | (simp;omega)) (by omega) | exact Jal tb rfl rfl rfl rfl (i:=(Jiz m i b).toNat) (by first | rfl | omega | (simp;omega)) (by omega)) rfl ?_
      refine Xba ?_
      refine qb4 ?_
      exact qai
     intro junk34
     refine qaf ?_
     refine q_c (fun hc3=>?_) (fun hc3=>?_)
     ·
      refine Xby ?_
      refine J7r ?_
      refine Jfa (Jas tb ((⟨o16,l⟩:OwL Bool)) (true) rfl rfl rfl rfl (by repeat (first | apply OSeg.cons | exact OSeg.here | exact OSeg.last | exact OSeg.at (by assumption) | apply OSeg.app)) (by assumption) (fun _=>rfl) (by assumption) (by decide) (by rfl) (by rfl)) ?_
      rintro v L' R' ⟨rfl,rfl⟩
      refine qaz ?_
      refine Xa8 ?_
      have hf:l.getD (Jiz m i b).toNat false=false:=hc3.1.1.2
      have hlt:=Jjc (l:=l) (i:=(Jiz m i b).toNat) (by omega) hf
      have hle:Jda l≤Jda l0:=by
        cases ch with
        | true=>have:=v4 rfl;omega
        | false=>rw [(v5 rfl).1];exact Nat.le_refl _
      have hwy:Wy m (Jhe m fl.l) w (Jme m i b).toNat (Jiz m i b).toNat:=⟨⟨i,Jme m i b,Jiz m i b⟩,Jis.2 ⟨i,b,hi,hc3.1.1.1.1.2,rfl⟩,hc3.1.1.1.1.1,by show Jme m i b=_;omega,by show Jiz m i b=_;omega,hc3.2⟩
      exact Jat ⟨(d + 1,true,l.set (Jiz m i b).toNat true),by dsimp only;omega,OwL.len_ok Jdk v2 (by simp),v3.next hwy hc3.1.1.1.2 (by omega),(fun j hj=>by
        dsimp only at hj
        rw [Jfe (by omega)] at hj
        split at hj
        · rename_i e;rw [e];exact hc3.2
        · exact v6 j hj),(fun _=>by dsimp only;omega),fun h=>by cases h⟩ (by repeat (first | exact Off.refl | apply Off.upd rfl | apply Off.havoc rfl | apply Off.updL rfl | apply Off.left rfl)) (by repeat' (first | exact trivial | refine And.intro rfl ?_)) (by repeat (first | exact zs0 _ | exact zs1 _ | apply zs2 | apply zs3 | apply zs4 | apply zs5)) (Jac _) (by dsimp only;omega)
     refine Xa1 ?_
     exact Jat ⟨(d + 1,ch,l),by dsimp only;omega,v2,v3,v6,v4,fun h=>⟨(v5 h).1,(v5 h).2.1,fun b' hb'=>by
       rcases J7s hb' (by omega) with h1 | h1
       · exact (v5 h).2.2 b' h1
       · rw [← hb] at h1
         subst h1
         intro g1 g2 g3 g4
         rw [← (v5 h).1] at g4 ⊢
         rcases hc3 with ((((h1 | h1) | h1) | h1) | h1) | h1
         · exact absurd g2 h1
         · rw [g1] at h1;cases h1
         · rw [g4] at h1;cases h1
         · exact h1
         · rw [v6 _ g4] at h1;cases h1
         · rw [g3] at h1;cases h1⟩⟩ (by repeat (first | exact Off.refl | apply Off.upd rfl | apply Off.havoc rfl | apply Off.updL rfl | apply Off.left rfl)) (by repeat' (first | exact trivial | refine And.intro rfl ?_)) (by repeat (first | exact zs0 _ | exact zs1 _ | apply zs2 | apply zs3 | apply zs4 | apply zs5)) (Jac _) (by dsimp only;omega)
    obtain rfl:d=2:=by omega
    refine Jb6 (Jbk (Jcf (Ja6 (Jao (Jaa (Jaf ?_))))))
    refine Xah ?_
    exact Jat ⟨(i + 1,ch,l),by dsimp only;omega,v2,v3,v6,v4,fun h=>⟨(v5 h).1,fun j b hj=>by
    rcases Nat.lt_or_ge j i with h1 | h1
    · exact (v5 h).2.1 j b h1
    · obtain rfl : j = i := by dsimp only at hj; omega
      exact (v5 h).2.2 b (by cases b <;> decide)⟩⟩ (by repeat (first | exact Off.refl | apply Off.upd rfl | apply Off.havoc rfl | apply Off.updL rfl | apply Off.left rfl)) (by repeat' (first | exact trivial | refine And.intro rfl ?_)) (by repeat (first | exact zs0 _ | exact zs1 _ | apply zs2 | apply zs3 | apply zs4 | apply zs5)) (Jac _) (by dsimp only;omega)
   obtain rfl:i=m.roads.l.length:=by omega
   have hmeas:Jda l1 * 2 + (if ch1=true then 1 else 0) < Jda l0 * 2 + (if again=true then 1 else 0):=by
     rw [if_pos hc0]
     cases ch1 with
     | true=>have:=w4 rfl;simp;omega
     | false=>rw [(w5 rfl).1];simp
   refine Jb6 (Jbk (Jcf (Ja6 (Jao ?_))))
   exact Jat ⟨(ch1,l1),w2,w3,w6,fun h j b hj=>by rw [(w5 h).1];exact (w5 h).2 j b hj⟩ (by repeat (first | exact Off.refl | apply Off.upd rfl | apply Off.havoc rfl | apply Off.updL rfl | apply Off.left rfl)) (by repeat' (first | exact trivial | refine And.intro rfl ?_)) (by repeat (first | exact zs0 _ | exact zs1 _ | apply zs2 | apply zs3 | apply zs4 | apply zs5)) (Jac _) hmeas
  have hll:=q2.len
  refine Xb5 ?_
  refine q_r (L':=(⟨o16,l0⟩:OwL Bool).L 4 blc ++ L) (R':=R) (Jdi rfl (Jah (show _=Value.slice _ _ _ from rfl))) ?_
  exact ⟨⟨o16,l0⟩,by simp only [OwL.val,hll],q1,q2.done (fun u v hw hu=>by
  obtain ⟨a,ha,h1,h2,h3,h4⟩:=hw
  obtain ⟨i,b,hi,hc,rfl⟩:=Jis.1 ha
  dsimp only at h1 h2 h3
  have:=q3 hc0 i b hi hc h1 (by rw [h3,Int.toNat_natCast];exact h4) (by rw [h2,Int.toNat_natCast];exact hu)
  rw [h3,Int.toNat_natCast] at this
  exact this),rfl,rfl⟩
end Go.Proofs.YtihompplndcdeaaGreat
