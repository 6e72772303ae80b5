import Derived.Test.YtihompplndcdeaaGreatCircR
import Derived.Test.YtihompplndcdeaaGreatReach
section
/-
  The reference's circles. By an AI agent; no person has read it.
-/
namespace Go.Proofs.YtihompplndcdeaaGreat
open Go.Aw Go
set_option maxRecDepth 20000
attribute [local irreducible] CJ LJ DJ Tri YV Gives Jd5 Jbd Jbz Jd4 RV Jbf OwL.L
theorem Jtm {m:XMine} {fl:Arr XSpan} {p:OwL Bool} {w:Int} {A:List Blk} {R:List Sl} (hB:InB (p.L 4 blc) A) (hk:p.ok 1 blc) (hm:MineR m R) (hfl:InR (Jl8 fl) R) (hok:MineOk m) (hn:fl.l.length=m.roads.l.length) (hl:p.l.length=m.places.l.length) (hs0:∀j:Nat,p.l.getD j false=true→(m.places.l.getD j default).surface=false):
    Tri Tryz.prog 68 [m.val,fl.val,p.val,.int .i64 w].toArray A R (fun v L' R'=>∃q:OwL Bool,v=q.val∧q.ok 1 blc∧SprIs m (Jhe m fl.l) w p.l q.l∧q.L 4 blc ++ A=L'∧R=R'):=by
  have h:=Juw m fl p.arr w [] ([J2v p.arr] ++ R) ⟨hm.places.mono fun r h=>Jab (.tail _ h),hm.roads.mono fun r h=>Jab (.tail _ h)⟩ (hfl.mono fun r h=>Jab (.tail _ h)) (Jab (.head _)) hok hn hl hs0
  have h2:=Tri.lend (S:=[J2v p.arr]) (Post:=fun v L'=>∃q:OwL Bool,v=q.val∧q.ok 1 blc∧SprIs m (Jhe m fl.l) w p.l q.l∧q.L 4 blc ++ []=L') (Spl.rest (L:=A)) (fun w G hh s hs=>by
    rw [List.mem_singleton.1 hs]
    exact Jc3 hh hB hk Jdk (by decide) (fun s hs=>by cases hs)) (h.mono fun v L' R' ⟨q,a1,a2,a3,a4,a5⟩=>⟨⟨q,a1,a2,a3,a4⟩,a5⟩)
  exact Tri.post_perm h2 fun v L'' R' ⟨L',e,⟨q,a1,a2,a3,a4⟩,a5⟩=>⟨q.L 4 blc ++ A,by rw [← e,← a4,List.append_nil];exact List.perm_append_comm,q,a1,a2,a3,rfl,a5⟩
def OnB (m:XMine) (fl:List XSpan) (i d:Nat) (on:Bool):Prop:=on=true↔∃b:Bool,bn b < d∧Jge m fl i b
theorem OnB.zero {m:XMine} {fl:List XSpan} {i:Nat}:OnB m fl i 0 false:=⟨fun h=>(by cases h),fun ⟨b,h,_⟩=>(by omega)⟩
theorem OnB.no {m:XMine} {fl:List XSpan} {i d:Nat} {on:Bool} (h:OnB m fl i d on) (hd:d < 2) (hc:¬ Jge m fl i (Jsa d)):OnB m fl i (d + 1) on:=by
  refine h.trans ⟨fun ⟨b,h1,h2⟩=>⟨b,by omega,h2⟩,fun ⟨b,h1,h2⟩=>?_⟩
  rcases J7s h1 hd with h3 | h3
  · exact ⟨b,h3,h2⟩
  · rw [h3] at h2;exact absurd h2 hc
theorem OnB.yes {m:XMine} {fl:List XSpan} {i d:Nat} (hd:d < 2) (hc:Jge m fl i (Jsa d)):OnB m fl i (d + 1) true:=⟨fun _=>⟨_,J5h hd,hc⟩,fun _=>rfl⟩
theorem OnB.stay {m:XMine} {fl:List XSpan} {i d:Nat} {on:Bool} (h:OnB m fl i d on) (ho:on=true):OnB m fl i (d + 1) true:=⟨fun _=>let ⟨b,h1,h2⟩:=h.1 ho;⟨b,Nat.lt_succ_of_lt h1,h2⟩,fun _=>rfl⟩
theorem OnB.pick {m:XMine} {fl:List XSpan} {i d:Nat} {on x:Bool} (h:OnB m fl i d on) (ho:on=false) (hd:d < 2) (hx:x=true↔Jge m fl i (Jsa d)):OnB m fl i (d + 1) x:=by
  subst ho
  cases x with
  | false=>exact h.no hd fun hc=>by have:=hx.2 hc;cases this
  | true=>exact .yes hd (hx.1 rfl)
theorem OnB.done {m:XMine} {fl:List XSpan} {i:Nat} {on:Bool} (h:OnB m fl i 2 on):on=true↔(Jge m fl i false∨Jge m fl i true):=
  h.trans ⟨fun ⟨b,_,h2⟩=>by cases b with | false=>exact .inl h2 | true=>exact .inr h2,fun h=>h.elim (fun h=>⟨false,by decide,h⟩) (fun h=>⟨true,by decide,h⟩)⟩
theorem Jqv (m:XMine) (fl:Arr XSpan) (L:List Blk) (R:List Sl) (hm:MineR m R) (hfl:InR (Jl8 fl) R) (hv:Jbv m=0) (hn:fl.l.length=m.roads.l.length):
    Tri Tryz.prog 38 [m.val,fl.val].toArray L R (fun w L' R'=>∃p:OwL Int,w=p.val∧p.ok 1 Jad∧CircIs m fl.l p.l∧p.L 3 Jad ++ L=L'∧R=R'):=by
  have hmp:=hm.places
  have hok:=Jd1 hv
  have hnp:=hok.places
  have hnr:=hok.roads
  refine Jae 82 Tryz.call38 Tryz.func38 rfl rfl rfl ?_
  refine Xai ?_
  intro b2
  refine Xa4 ?_
  refine qbe ?_
  refine qbm ?_
  refine q_l rfl (Jp1 m fl _ _ hm) ?_
  refine Xbc ?_
  refine q_c (fun hc0=>?_) (fun hc0=>?_)
  ·
   (exfalso;rcases hc0 with h | h <;> omega)
  refine qbv ?_
  refine Xc9 ?_
  refine Jai [(1,Value.slice _ _ _),(2,Value.pointer _),(5,Value.slice _ _ _),(6,Value.int _ _)] (by repeat' (first | exact trivial | refine And.intro rfl ?_)) fun tq0=>?_
  refine Jb0 [5,6,7,8,9,10,11,16,17,18,19,20,21,22,23,24,25,26,27,28,29,30,31,32,33,34,35,36,37,38,39,40,41,42,43,44,45,46,47,48,49,50,51,52,53,54,55,56,57,58,59,60,61,62,63,64,65,66,67,68,69,70,71,72,73,74,75,76,77,78,79,80] ((⟨fun g=>[(6,.int .i64 ((g.1.1:Nat):Int)),(5,g.1.2.val)],fun g=>g.1.2.L 3 Jad ++ (⟨b2,m.cells,31⟩ :: L),fun _=>R,fun g=>m.roads.l.length - g.1.1⟩:Head {g:Nat×OwL Int // g.1≤m.roads.l.length∧g.2.ok 1 Jad∧CircTo m fl.l g.1 g.2.l})) (⟨(0,OwL.nil),by dsimp only;omega,OwL.nil_ok,CircTo.zero⟩) (by repeat' (first | exact trivial | refine And.intro rfl ?_)) (by dsimp only;rw [Jcl,List.nil_append];exact List.Sublist.refl _) (Jac _) ?_
  rintro ⟨⟨i,p⟩,w1,w2,w3⟩ junk
  try dsimp only
  dsimp only at w1 w2 w3
  have hpl:=w3.len
  refine Xbo ?_
  refine q_c (fun hc1=>?_) (fun hc1=>?_)
  ·
   have hi:i < m.roads.l.length:=by omega
   refine qbb ?_
   refine Xb2 ?_
   refine Xas ?_
   refine Jb8 [5,6,7,8,9,10,11,16,17,18,19,20,21,22,23,24,25,26,27,28,29,30,31,32,33,34,35,36,37,38,39,40,41,42,43,44,45,46,47,48,49,50,51,52,53,54,55,56,57,58,59,60,61,62,63,64,65,66,67,68,69,70,71,72,73,74,75,76,77,78,79,80] (by repeat (first | apply Off.upd rfl | apply Off.havoc rfl | refine Off.updL (t':=havoc _ _ _) rfl ?_ | exact Off.refl)) [(5,Value.slice _ _ _),(6,Value.int _ _),(7,Value.bool _),(8,Value.int _ _)] (by repeat' (first | exact trivial | refine And.intro rfl ?_)) fun tq1=>?_
   refine q_p [7,8,9,10,11,23,24,25,26,27,28,29,30,31,32,33,34,35,36,37,38,39,40,41,42,43,44,45,46,47,48,49,50,51,52,53,54,55,56,57,58,59,60,61,62,63,64,65,66,67,68,69,70,71,72,73,74,75] ((⟨fun g=>[(8,.int .i64 ((g.1.1:Nat):Int)),(7,.bool g.1.2)],fun _=>p.L 3 Jad ++ (⟨b2,m.cells,31⟩ :: L),fun _=>R,fun g=>2 - g.1.1⟩:Head {g:Nat×Bool // g.1≤2∧OnB m fl.l i g.1 g.2})) (⟨(0,false),by dsimp only;omega,OnB.zero⟩) ?_
   rintro ⟨⟨d,on⟩,v1,v2⟩ junk
   try dsimp only
   dsimp only at v1 v2
   refine Xaq ?_
   refine Xao ?_
   refine q_c (fun hc2=>?_) (fun hc2=>?_)
   ·
    obtain ⟨b,hb⟩:∃b,b=Jsa d:=⟨_,rfl⟩
    have her:=Jz7 hok hi b
    have hpf:=Jan (l:=m.places.l) (k:=(Jme m i b).toNat) default (by omega)
    have hpt:=Jan (l:=m.places.l) (k:=(Jiz m i b).toNat) default (by omega)
    refine qbb ?_
    refine qbe ?_
    refine Xbx ?_
    refine qbn ?_
    refine q_l rfl (Tri.cast (Jxe m i b _ _ hm hi) (by rw [hb];rfl)) ?_
    refine Ja2 (Jar rfl) rfl ?_
    refine Xdw ?_
    refine Xa5 ?_
    refine qbe ?_
    refine Xdh ?_
    refine qbn ?_
    refine q_l rfl (Tri.cast (Jy3 m fl i b _ _ hm hfl hi hn) (by rw [hb];rfl)) ?_
    refine Xdx ?_
    apply Jbw (G:=[_,_,_,_,_,_]) (j:=7) (cj:=42) rfl rfl (by rfl) rfl (show _=Value.bool _ from rfl) rfl
    ·
     intro hg8
     replace hg8:=qb hg8
     refine Xak ?_
     refine Ja2 (by first | exact Jag tb rfl rfl rfl rfl (by first | assumption | exact zr (by simp)) (i:=(Jme m i b).toNat) (by first | rfl | omega | (simp;omega)) (by omega) | exact Jal tb rfl rfl rfl rfl (i:=(Jme m i b).toNat) (by first | rfl | omega | (simp;omega)) (by omega)) rfl ?_
     refine Xba ?_
     exact qai
    intro junk8
    refine qah ?_
    apply Jbw (G:=[_,_,_,_,_,_]) (j:=15) (cj:=50) rfl rfl (by rfl) rfl (show _=Value.bool _ from rfl) rfl
    ·
     intro hg16
     replace hg16:=qb hg16
     refine Xak ?_
     refine Ja2 (by first | exact Jag tb rfl rfl rfl rfl (by first | assumption | exact zr (by simp)) (i:=(Jiz m i b).toNat) (by first | rfl | omega | (simp;omega)) (by omega) | exact Jal tb rfl rfl rfl rfl (i:=(Jiz m i b).toNat) (by first | rfl | omega | (simp;omega)) (by omega)) rfl ?_
     refine Xba ?_
     exact qai
    intro junk16
    refine qaf ?_
    refine q_c (fun hc3=>?_) (fun hc3=>?_)
    ·
     refine Jb6 (Jbk (Ja6 (Jaa (Jaf ?_))))
     refine Xah ?_
     exact Jat ⟨(d + 1,on),by dsimp only;omega,v2.no (by omega) (fun h=>by
     rw [← hb] at h
     obtain ⟨g1,g2,g3,_⟩:=h
     rcases hc3 with (h1 | h1) | h1
     · rw [g1] at h1;cases h1
     · rw [g2] at h1;cases h1
     · rw [g3] at h1;cases h1)⟩ (by repeat (first | exact Off.refl | apply Off.upd rfl | apply Off.havoc rfl | apply Off.updL rfl | apply Off.left rfl)) (by repeat' (first | exact trivial | refine And.intro rfl ?_)) (by repeat (first | exact zs0 _ | exact zs1 _ | apply zs2 | apply zs3 | apply zs4 | apply zs5)) (Jac _) (by dsimp only;omega)
    refine qbv ?_
    refine Xab ?_
    refine qc7 ?_
    rintro v L' R' ⟨b61,rfl,rfl,hR61⟩
    replace hR61:=hR61.symm;subst hR61
    refine qc4 ?_
    refine qa4 ?_
    refine Jg5 (Jf1 (f:=blc) (x:=false) rfl _) ?_
    obtain ⟨l0,hl0⟩:∃l0,l0=List.replicate m.places.l.length false:=⟨_,rfl⟩
    have hl0n:l0.length=m.places.l.length:=by rw [hl0];simp
    have hQ1:(⟨.own b61 m.places.l.length [],l0⟩:OwL Bool).ok 1 blc:=by rw [hl0];exact Jen Jdk (by simp only [maxLen];omega)
    have hQ2:=Jan (l:=l0) (k:=(Jiz m i b).toNat) false (by omega)
    have hS1:(⟨.own b61 m.places.l.length [],Jqr m.places.l.length (Jiz m i b).toNat⟩:OwL Bool).ok 1 blc:=OwL.len_ok Jdk hQ1 (by simp [Jqr,hl0n])
    refine Jg5 (show _=(⟨.own b61 m.places.l.length [],l0⟩:OwL Bool).L 4 blc ++ _ by rw [hl0]) ?_
    have hSl:(⟨.own b61 m.places.l.length [],Jqr m.places.l.length (Jiz m i b).toNat⟩:OwL Bool).l.length=m.places.l.length:=by simp [Jqr]
    have hss:∀j:Nat,(⟨.own b61 m.places.l.length [],Jqr m.places.l.length (Jiz m i b).toNat⟩:OwL Bool).l.getD j false=true→(m.places.l.getD j default).surface=false:=fun j hj=>by
      rw [(Jrm (by omega)).1 hj]
      exact hc3.2
    refine Xby ?_
    refine Ja2 (Jak tb ((⟨.own b61 m.places.l.length [],l0⟩:OwL Bool)) _ rfl rfl ((show _=Value.slice _ _ _ from rfl).trans (Jed hl0n)) rfl (by assumption) (i:=(Jiz m i b).toNat) (by first | rfl | omega | (simp;omega)) (by first | omega | (dsimp only;omega) | (dsimp only;rw [List.length_set];omega) | (dsimp only;simp only [List.length_set];omega))) rfl ?_
    refine Jfa (Jas tb ((⟨.own b61 m.places.l.length [],l0⟩:OwL Bool)) (true) rfl rfl rfl rfl (by repeat (first | apply OSeg.cons | exact OSeg.here | exact OSeg.last | exact OSeg.at (by assumption) | apply OSeg.app)) (by assumption) (fun _=>rfl) (by assumption) (by decide) (by rfl) (by rfl)) ?_
    rintro v L' R' ⟨rfl,rfl⟩
    refine qaf ?_
    refine Jg5 (show _=(⟨.own b61 m.places.l.length [],Jqr m.places.l.length (Jiz m i b).toNat⟩:OwL Bool).L 4 blc ++ _ by rw [hl0];rfl) ?_
    refine qay ?_
    refine qah ?_
    refine qah ?_
    refine Jfl (k:=66) (show _=Value.bool _ from rfl) (fun hg2=>?_) (fun hg2=>?_)
    ·
     replace hg2:=qb hg2
     have hjunk:True:=trivial
     iterate 8 refine Jfv rfl rfl ?_
     refine Ja2 (by first | exact Jco rfl rfl | exact Jb9 rfl rfl | exact Je9 rfl) rfl ?_
     refine qaz ?_
     refine Xa8 ?_
     first
       | exact q_k ⟨(d + 1,true),by dsimp only;omega,OnB.stay v2 hg2⟩
       | exact q_k ⟨(d + 1,q.l.getD (Jme m i b).toNat false),by dsimp only;omega,OnB.pick v2 hg2 (by omega) (by rw [← hb];exact hqi.trans ⟨fun h=>⟨hc3.1.1,hc3.1.2,hc3.2,h⟩,fun h=>h.2.2.2⟩)⟩
    replace hg2:=qb hg2
    refine Jct (Jbh (row:=[_,_]) tb rfl rfl rfl (by repeat (first | exact zi0 | apply zi1 | apply zi2)) (by rfl) (by rfl)) rfl rfl ?_
    refine Jct (Jar (show _=Value.slice _ _ _ from rfl)) rfl rfl ?_
    refine Jct (Jar (show _=Value.slice _ _ _ from rfl)) rfl rfl ?_
    refine Jct (Jar (show _=Value.int _ _ from rfl)) rfl rfl ?_
    refine Jnf rfl (Tri.cast (Jtm (A:=(⟨.own b61 m.places.l.length [],Jqr m.places.l.length (Jiz m i b).toNat⟩:OwL Bool).L 4 blc ++ _) (p:=(⟨.own b61 m.places.l.length [],Jqr m.places.l.length (Jiz m i b).toNat⟩:OwL Bool)) (w:=(i:Int)) (by repeat (first | exact Jaw | apply Jau | apply Jba)) hS1 hm hfl hok hn hSl hss) (by show #[_,_,Value.slice _ (List.length _) _,_]=_;rw [hSl];rfl)) rfl rfl ?_
    rintro v L' R' ⟨q,rfl,hqk,hqS,rfl,rfl⟩
    have hql:=hqS.len
    rw [hSl] at hql
    have hqg:=Jan (l:=q.l) (k:=(Jme m i b).toNat) false (by omega)
    have hqi:=J05 hqS (show (Jiz m i b).toNat < m.places.l.length by omega) (show (Jme m i b).toNat < m.places.l.length by omega)
    refine Jct (Jar (show _=Value.int _ _ from rfl)) rfl rfl ?_
    refine Jct (Jak tb (q) _ rfl rfl rfl rfl (by assumption) (i:=(Jme m i b).toNat) (by first | rfl | omega | (simp;omega)) (by first | omega | (dsimp only;omega) | (dsimp only;rw [List.length_set];omega) | (dsimp only;simp only [List.length_set];omega))) rfl rfl ?_
    refine Jct (Jaz tb (q) rfl rfl rfl (by repeat (first | apply OSeg.cons | exact OSeg.here | exact OSeg.last | exact OSeg.at (by assumption) | apply OSeg.app)) (by assumption) (fun _=>rfl) (by assumption) (by rfl)) rfl rfl ?_
    refine Ja2 (by first | exact Jco rfl rfl | exact Jb9 rfl rfl | exact Je9 rfl) rfl ?_
    refine qaz ?_
    refine Xa8 ?_
    first
      | exact q_k ⟨(d + 1,true),by dsimp only;omega,OnB.stay v2 hg2⟩
      | exact q_k ⟨(d + 1,q.l.getD (Jme m i b).toNat false),by dsimp only;omega,OnB.pick v2 hg2 (by omega) (by rw [← hb];exact hqi.trans ⟨fun h=>⟨hc3.1.1,hc3.1.2,hc3.2,h⟩,fun h=>h.2.2.2⟩)⟩
   obtain rfl:d=2:=by omega
   have hdn:=v2.done
   refine qbk ?_
   refine Xdi ?_
   refine q_c (fun hc4=>?_) (fun hc4=>?_)
   ·
    refine Xby ?_
    refine qcx ?_
    rintro v L' R' ⟨b79,rfl,rfl,hR79⟩
    replace hR79:=hR79.symm;subst hR79
    refine Jfo (Jap (f:=Jad) (p:=p) (a:=(i:Int)) tb rfl rfl rfl rfl (w2) (by repeat (first | apply OSeg.cons | exact OSeg.here | exact OSeg.last | exact OSeg.at (by assumption) | apply OSeg.app)) (Ja5 (by repeat (first | exact zi0 | apply zi1 | apply zi2)) rfl rfl) rfl (by first | omega | (simp only [List.length_cons,List.length_nil,List.length_append];omega))) rfl ?_
    rintro v L' R' ⟨o80,rfl,hok80,rfl,rfl⟩
    refine Xcd ?_
    exact q_k ⟨(i + 1,(⟨o80,_⟩:OwL Int)),by dsimp only;omega,hok80,w3.yes (hdn.1 hc4)⟩
   refine Xa1 ?_
   exact q_k ⟨(i + 1,p),by dsimp only;omega,w2,w3.no (fun h=>by rw [hdn.2 (.inl h)] at hc4;cases hc4) (fun h=>by rw [hdn.2 (.inr h)] at hc4;cases hc4)⟩
  obtain rfl:i=m.roads.l.length:=by omega
  refine Xb5 ?_
  refine q_r (L':=p.L 3 Jad ++ L) (R':=R) (Jdi rfl (Jah (show _=Value.slice _ _ _ from rfl))) ?_
  exact ⟨p,rfl,w2,w3.done,rfl,rfl⟩
end Go.Proofs.YtihompplndcdeaaGreat
end
section
/-
  Whether a list has a number: slices.Index, Contains, the reference's Has. By an AI agent; no person has read it.
-/
namespace Go.Proofs.YtihompplndcdeaaGreat
open Go.Aw Go
section
variable {A9 B9:Prop}
theorem J7f (a:A9) (h:A9→B9:=by exact Ja2 (by first | exact Jag tb rfl rfl rfl rfl (by first | assumption | exact zr (by simp)) (i:=k) (by first | rfl | omega | (simp;omega)) (by omega) | exact Jal tb rfl rfl rfl rfl (i:=k) (by first | rfl | omega | (simp;omega)) (by omega)) rfl):B9:=h a
end
theorem Tri.lendU {P : Program} {f : FuncId} {args : Array Value} {A : List Blk} {R S : List Sl} {u : Value}
    (hS:∀w,∀G:Nat→Prop,Holds (A ++ []) G R w→∀s∈S,Rep w (fun b=>G b∨∃e∈A,e.b=b) s)
    (h:Tri P f args [] (S ++ R) (fun v L' R'=>v=u∧[]=L'∧S ++ R=R')):Tri P f args A R (fun v L' R'=>v=u∧A=L'∧R=R'):=by
  have h2:=Tri.lend (S:=S) (Post:=fun v L'=>v=u∧[]=L') (Spl.rest (L:=A)) hS (h.mono fun v L' R' ⟨a1,a2,a3⟩=>⟨⟨a1,a2⟩,a3⟩)
  exact h2.mono fun v L'' R' ⟨L',e,⟨a1,a2⟩,a3⟩=>⟨a1,by rw [← a2,List.append_nil] at e;exact e,a3⟩
set_option maxRecDepth 20000
attribute [local irreducible] CJ LJ DJ Tri YV Gives Jd5 Jbd Jbz Jd4 RV Jbf OwL.L
theorem Jze (x:Arr Int) (a:Int) (L:List Blk) (R:List Sl) (hx:InR (isl x) R):
    Tri Tryz.prog 109 [x.val,.int .i64 a].toArray L R (fun v L' R'=>∃r:Int,v=.int .i64 r∧(0≤r↔a∈x.l)∧L=L'∧R=R'):=by
  refine Jv2 Tryz.call109 hx fun hcap=>?_
  refine Jae 19 Tryz.call109 Tryz.func109 rfl rfl rfl ?_
  refine Xaj ?_
  refine qaw ?_
  refine Xdj ?_
  refine Jai [(0,Value.slice _ _ _),(1,Value.int _ _),(7,Value.int _ _),(8,Value.int _ _)] (by repeat' (first | exact trivial | refine And.intro rfl ?_)) fun tq0=>?_
  refine q_s [4,5,8,9,10,11,12,13,14,15,16,17,18] (fun g:{k:Nat // k≤x.l.length∧∀j:Nat,j < k→x.l.getD j 0≠a}=>[(8,.int .i64 ((g.1:Nat):Int))]) (fun g=>x.l.length - g.1) (⟨0,by omega,fun j hj=>by omega⟩) ?_
  rintro ⟨k,hk,hal⟩ junk
  try dsimp only
  refine Xay ?_
  refine q_c (fun hc0=>?_) (fun hc0=>?_)
  ·
   have hg:=Jan (l:=x.l) (k:=k) 0 (by omega)
   refine Xb3 ?_
   refine Xav ?_
   refine Xad ?_
   refine J7f ?_
   refine qa7 ?_
   refine Xbq ?_
   refine q_c (fun hc1=>?_) (fun hc1=>?_)
   ·
    refine Xco ?_
    refine qbt ?_
    refine q_i (L':=L) (R':=R) ?_
    exact ⟨k,rfl,⟨fun _=>by rw [hc1];exact List.mem_of_getElem? hg,fun _=>by omega⟩,rfl,rfl⟩
   refine Xa6 ?_
   exact Jat (⟨k + 1,by omega,fun j hj=>by
   rcases Nat.lt_or_ge j k with h | h
   · exact hal j h
   · obtain rfl : j = k := by omega
     exact fun h=>hc1 h.symm⟩) (by repeat (first | exact Off.refl | apply Off.upd rfl | apply Off.havoc rfl | apply Off.updL rfl | apply Off.left rfl)) (by repeat' (first | exact trivial | refine And.intro rfl ?_)) (by repeat (first | exact zs0 _ | exact zs1 _ | apply zs2 | apply zs3 | apply zs4 | apply zs5)) (Jac _) (by dsimp only;omega)
  refine Xcu ?_
  refine q_i (L':=L) (R':=R) ?_
  refine ⟨-1,rfl,⟨fun h=>by omega,fun h=>?_⟩,rfl,rfl⟩
  obtain ⟨j,hj,rfl⟩:=List.getElem_of_mem h
  have:=hal j (by omega)
  rw [List.getD_eq_getElem?_getD,List.getElem?_eq_getElem hj] at this
  exact absurd rfl this
theorem Jt9 (x:Arr Int) (a:Int) (L:List Blk) (R:List Sl) (hx:InR (isl x) R):
    Tri Tryz.prog 87 [x.val,.int .i64 a].toArray L R (fun v L' R'=>v=.bool (decide (a∈x.l))∧L=L'∧R=R'):=by
  refine Jae 9 Tryz.call87 Tryz.func87 rfl rfl rfl ?_
  refine qae ?_
  refine Xbr ?_
  refine Xad ?_
  refine Jaq rfl (Jze x a _ _ hx) rfl ?_
  rintro v L' R' ⟨r,rfl,hr,rfl,rfl⟩
  refine qbz ?_
  refine Xbb ?_
  refine q_b (L':=L) (R':=R) ?_
  exact ⟨congrArg Value.bool (decide_eq_decide.2 hr),rfl,rfl⟩
theorem Jzg (l:Arr Int) (n:Int) (L:List Blk) (R:List Sl) (hl:InR (isl l) R):
    Tri Tryz.prog 64 [l.val,.int .i64 n].toArray L R (fun v L' R'=>v=.bool (decide (n∈l.l))∧L=L'∧R=R'):=by
  refine Jb7 Tryz.call64 hl fun hln=>?_
  refine Jae 18 Tryz.call64 Tryz.func64 rfl rfl rfl ?_
  refine qae ?_
  refine Xb2 ?_
  refine Xas ?_
  refine Jai [(0,Value.slice _ _ _),(1,Value.int _ _),(5,Value.int _ _)] (by repeat' (first | exact trivial | refine And.intro rfl ?_)) fun tq0=>?_
  refine q_s [4,5,6,7,8,9,10,11,12,13,14,15,16,17] (fun g:{k:Nat // k≤l.l.length∧∀j:Nat,j < k→l.l.getD j 0≠n}=>[(5,.int .i64 ((g.1:Nat):Int))]) (fun g=>l.l.length - g.1) (⟨0,by omega,fun j hj=>by omega⟩) ?_
  rintro ⟨k,hk,hal⟩ junk
  try dsimp only
  refine Xcg ?_
  refine q_c (fun hc0=>?_) (fun hc0=>?_)
  ·
   have hlg:=Jan (l:=l.l) (k:=k) 0 (by omega)
   refine qbb ?_
   refine Xad ?_
   refine J7f ?_
   refine qa7 ?_
   refine Xdy ?_
   refine q_c (fun hc1=>?_) (fun hc1=>?_)
   ·
    refine qae ?_
    refine Xdk ?_
    refine q_b (L':=L) (R':=R) ?_
    exact ⟨by rw [decide_eq_true (by rw [← hc1];exact List.mem_of_getElem? hlg)],rfl,rfl⟩
   refine Xa1 ?_
   exact Jat (⟨k + 1,by omega,fun j hj=>by
   rcases Nat.lt_or_ge j k with h | h
   · exact hal j h
   · obtain rfl : j = k := by omega
     exact hc1⟩) (by repeat (first | exact Off.refl | apply Off.upd rfl | apply Off.havoc rfl | apply Off.updL rfl | apply Off.left rfl)) (by repeat' (first | exact trivial | refine And.intro rfl ?_)) (by repeat (first | exact zs0 _ | exact zs1 _ | apply zs2 | apply zs3 | apply zs4 | apply zs5)) (Jac _) (by dsimp only;omega)
  refine qbk ?_
  refine Xbb ?_
  refine q_b (L':=L) (R':=R) ?_
  exact ⟨by
  rw [decide_eq_false]
  intro hm
  obtain ⟨j,hj⟩:=List.mem_iff_getElem?.1 hm
  have hjl:=(List.getElem?_eq_some_iff.1 hj).1
  exact hal j (by omega) (getD_some hj),rfl,rfl⟩
end Go.Proofs.YtihompplndcdeaaGreat
end
