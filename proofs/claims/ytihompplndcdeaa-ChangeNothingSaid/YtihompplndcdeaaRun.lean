/-
  The steps of a walk under short names: what a step asks is shown by the tactic that stands with its name. Written by a program of ours (mkrun.py). By an AI agent; no person has read it.
-/
import Derived.Test.YtihompplndcdeaaTab
import Derived.Test.YtihompplndcdeaaOwn
set_option linter.unusedVariables false
set_option linter.unusedSimpArgs false
namespace Go.Proofs.Ytihompplndcdeaa
open Go.Aw Go
section
variable {A B:Prop}
theorem qb {b v:Bool} {p:Prop} (h:b=v) (e:(b=v)=p:=by (try simp only [zb1,zb2,zb3,zb4,zb5,zb6,zb7,zb8]);(first | done | exact rfl)):p:=e.mp h
section
variable {P:Program} {fn:Func} {Post:Jed} {n m:Nat} {t:Nat→Value} {L L':List Blk} {R R':List Sl} {Q K:Jbd} {all:Array Oper} {ty:TypeId} {pos:String} {after:Array Edge} {rest:List Oper} {d:Tmp} {g:Option (Nat×Bool)} {Lc Lc2:List Blk} {late:List Nat} {v a:Value} {f:FuncId} {xs:List Operand} {ts:Array TypeId} {args:List Value} {L2:List Blk} {R2:List Sl}
theorem q_r (h:∀c n a w,Fr n t a→St c L R w→(results fn a.tmps).run Try.prog w=.ok v w) (hp:Post v L' R') (hL:L'.Sublist L:=by exact (by repeat (first | exact zs0 _ | exact zs1 _ | apply zs2 | apply zs3 | apply zs4 | apply zs5))) (hR:∀r∈R',InR r R:=by exact Jac _):Jdo Try.prog fn Post .ret t L R:=Jbj h hp hL hR
theorem q_i (hp:Post v L' R') (h:∀c n a w,Fr n t a→St c L R w→(results fn a.tmps).run Try.prog w=.ok v w:=by exact Jd4 rfl (Jal (show _=Value.int _ _ from rfl))) (hL:L'.Sublist L:=by exact (by repeat (first | exact zs0 _ | exact zs1 _ | apply zs2 | apply zs3 | apply zs4 | apply zs5))) (hR:∀r∈R',InR r R:=by exact Jac _):Jdo Try.prog fn Post .ret t L R:=Jbj h hp hL hR
theorem q_b (hp:Post v L' R') (h:∀c n a w,Fr n t a→St c L R w→(results fn a.tmps).run Try.prog w=.ok v w:=by exact Jd4 rfl (Jal (show _=Value.bool _ from rfl))) (hL:L'.Sublist L:=by exact (by repeat (first | exact zs0 _ | exact zs1 _ | apply zs2 | apply zs3 | apply zs4 | apply zs5))) (hR:∀r∈R',InR r R:=by exact Jac _):Jdo Try.prog fn Post .ret t L R:=Jbj h hp hL hR
theorem q_c {x:Operand} {A B:Code} {b:Bool} {p q:Prop} (ht:p→CJ Try.prog n A t L R Q) (hf:q→CJ Try.prog n B t L R Q) (hc:ev t x=.bool b:=by exact (show _=Value.bool _ from rfl)) (hp:(b=true)=p:=by (try simp only [zb1,zb2,zb3,zb4,zb5,zb6,zb7,zb8]);(first | done | exact rfl)) (hq:(b=false)=q:=by (try simp only [zb1,zb2,zb3,zb4,zb5,zb6,zb7,zb8]);(first | done | exact rfl)):CJ Try.prog n (.cond x A B) t L R Q:=
  Jtf hc (fun h=>ht (hp.mp h)) (fun h=>hf (hq.mp h))
theorem q_l (ha:xs.map (ev t)=args) (h:Tri Try.prog f args.toArray L R (fun v L' R'=>v=a∧L2=L'∧R2=R')) (k:LJ Try.prog n all rest (upd t d a) L2 R2 Q) (hd:Nat.blt d n=true:=by exact rfl):LJ Try.prog n all (⟨some d,.call ⟨.value (.func f),xs.toArray,ts⟩,ty,pos,after,none⟩ :: rest) t L R Q:=
  Jaq ha h hd fun _ _ _ ⟨e1,e2,e3⟩=>by subst e1;subst e2;subst e3;exact k
theorem q_d (ha:xs.map (ev t)=args) (h:Tri Try.prog f args.toArray L R (fun v L' R'=>v=a∧L2=L'∧R2=R')) (k:DJ Try.prog tb n all Lc K rest (upd t d a) L2 R2) (hw:Jdt all t g=true:=by exact rfl) (hd:Nat.blt d n=true:=by exact rfl) (hL:Lc.Sublist L2:=by exact (by repeat (first | exact zs0 _ | exact zs1 _ | apply zs2 | apply zs3 | apply zs4 | apply zs5))) (hR:∀r∈R,InR r R2:=by first | exact Jac _ | exact (fun r h=>Jab (by simp [h]))):DJ Try.prog tb n all Lc K (⟨some d,.call ⟨.value (.func f),xs.toArray,ts⟩,ty,pos,after,g⟩ :: rest) t L R:=
  Jdx ha h hw hd fun _ _ _ ⟨e1,e2,e3⟩=>by subst e1;subst e2;subst e3;exact ⟨hL,hR,k⟩
theorem q_k {γ:Type} {ws:List Nat} {t0:Nat→Value} {hd:Head γ} {m0:Nat} (g:γ) (ho:Off ws t0 t:=by exact (by repeat (first | exact Off.refl | apply Off.upd rfl | apply Off.havoc rfl | apply Off.updL rfl | apply Off.left rfl))) (hs:Jhz t (hd.slots g):=by exact (by repeat' (first | exact trivial | refine And.intro rfl ?_))) (hL:(hd.L g).Sublist L:=by exact (by repeat (first | exact zs0 _ | exact zs1 _ | apply zs2 | apply zs3 | apply zs4 | apply zs5))) (hR:∀r∈hd.R g,InR r R:=by exact Jac _) (hm:hd.m g < m0:=by dsimp only;omega):Jbk ws t0 hd m0 Q .normal t L R:=Jau g ho hs hL hR hm
theorem q_j {γ:Type} {ws:List Nat} {t0:Nat→Value} {hd:Head γ} (g:γ) (ho:Off ws t0 t:=by exact (by repeat (first | exact Off.refl | apply Off.upd rfl | apply Off.havoc rfl | apply Off.updL rfl | apply Off.left rfl))) (hs:Jhz t (hd.slots g):=by exact (by repeat' (first | exact trivial | refine And.intro rfl ?_))) (hL:(hd.L g).Sublist L:=by exact (by repeat (first | exact zs0 _ | exact zs1 _ | apply zs2 | apply zs3 | apply zs4 | apply zs5))) (hR:∀r∈hd.R g,InR r R:=by exact Jac _):J07 ws t0 hd Q .normal t L R:=Jiu g ho hs hL hR
theorem q_p {γ:Type} {body:Code} (ws:List Nat) (hd:Head γ) (g0:γ) (hstep:∀g junk,CJ Try.prog n body (updL (havoc ws t junk) (hd.slots g)) (hd.L g) (hd.R g) (Jbk ws t hd (hd.m g) Q)) (h0:Jhz t (hd.slots g0):=by exact (by repeat' (first | exact trivial | refine And.intro rfl ?_))) (hL:(hd.L g0).Sublist L:=by exact (by repeat (first | exact zs0 _ | exact zs1 _ | apply zs2 | apply zs3 | apply zs4 | apply zs5))) (hR:∀r∈hd.R g0,InR r R:=by exact Jac _):CJ Try.prog n (.loop body) t L R Q:=Jcc ws hd g0 h0 hL hR hstep
theorem q_s {γ:Type} {body:Code} (ws:List Nat) (slots:γ→List (Nat×Value)) (m:γ→Nat) (g0:γ) (hstep:∀g junk,CJ Try.prog n body (updL (havoc ws t junk) (slots g)) L R (Jbk ws t ⟨slots,fun _=>L,fun _=>R,m⟩ (m g) Q)) (h0:Jhz t (slots g0):=by exact (by repeat' (first | exact trivial | refine And.intro rfl ?_))):CJ Try.prog n (.loop body) t L R Q:=Jqf ws slots m g0 h0 hstep
end
theorem qaa (a:A) (h:A→B:=by exact Jax (Jap (show _=Value.int _ _ from rfl)) rfl):B:=h a
theorem qab (a:A) (h:A→B:=by exact Jax (Jcr tb rfl rfl rfl) rfl):B:=h a
theorem qac (a:A) (h:A→B:=by exact Jax (Jbl tb rfl rfl rfl (by repeat (first | exact zi0 | apply zi1 | apply zi2)) (by rfl)) rfl):B:=h a
theorem qad (a:A) (h:A→B:=by exact Jax (Jcy (show _=Value.int _ _ from rfl)) rfl):B:=h a
theorem qae (a:A) (h:A→B:=by intro a;refine Jan (Jaj ?_);exact a):B:=h a
theorem qaf (a:A) (h:A→B:=by intro a;refine Jbr (Jaa ?_);exact a):B:=h a
theorem qag (a:A) (h:A→B:=by exact Jax (Jew tb rfl rfl rfl) rfl):B:=h a
theorem qah (a:A) (h:A→B:=by exact Jax (Jap (show _=Value.bool _ from rfl)) rfl):B:=h a
theorem qai (h:B:=by exact Jrx (show _=Value.bool _ from rfl) (by repeat (first | exact Off.refl | apply Off.upd rfl | apply Off.havoc rfl | apply Off.updL rfl | apply Off.left rfl)) (by repeat (first | exact zs0 _ | exact zs1 _ | apply zs2 | apply zs3 | apply zs4 | apply zs5)) (by first | exact Jac _ | exact fun r h=>Jab (by simp [h]))):B:=h
theorem qaj (a:A) (h:A→B:=by exact Jax (Jna rfl rfl) rfl):B:=h a
theorem qak (a:A) (h:A→B:=by exact Jyj tb rfl rfl rfl rfl (by repeat (first | apply zu0 | apply zu1 | apply zu2)) (by rfl) (by rfl)):B:=h a
theorem qal (a:A) (h:A→B:=by exact Jbx (Jcr tb rfl rfl rfl) rfl rfl rfl):B:=h a
theorem qam (a:A) (h:A→B:=by intro a;refine Jbr (Jaa (Jan (Jaj ?_)));exact a):B:=h a
theorem qan (a:A) (h:A→B:=by exact Jb1 (Jcr tb rfl rfl rfl) rfl rfl rfl rfl):B:=h a
theorem qao (a:A) (h:A→B:=by exact Jbx (Jap (show _=Value.int _ _ from rfl)) rfl rfl rfl):B:=h a
theorem qap (a:A) (h:A→B:=by exact J3q rfl rfl rfl):B:=h a
theorem qaq (a:A) (h:A→B:=by exact J0r tb rfl rfl):B:=h a
theorem qar (a:A) (h:A→B:=by exact Jax (by first | exact Jkb rfl rfl (by omega) (by omega) | exact Jn7 rfl rfl (by omega) (by omega) | exact Jny rfl rfl) rfl):B:=h a
theorem qas (a:A) (h:A→B:=by intro a;refine ⟨(by repeat (first | exact zs0 _ | exact zs1 _ | apply zs2 | apply zs3 | apply zs4 | apply zs5)),(by first | exact Jac _ | exact (fun r h=>Jab (by simp [h]))),?_⟩;exact a):B:=h a
theorem qat (a:A) (h:A→B:=by exact Jbx (Jbl tb rfl rfl rfl (by repeat (first | exact zi0 | apply zi1 | apply zi2)) (by rfl)) rfl rfl rfl):B:=h a
theorem qau (a:A) (h:A→B:=by exact Jb1 (Jbl tb rfl rfl rfl (by repeat (first | exact zi0 | apply zi1 | apply zi2)) (by rfl)) rfl rfl rfl rfl):B:=h a
theorem qav (a:A) (h:A→B:=by intro a;refine Jbr ?_;exact a):B:=h a
theorem qaw (a:A) (h:A→B:=by intro a;refine Jbr (Jaa (Jan (Jan (Jaj ?_))));exact a):B:=h a
theorem qax (a:A) (h:A→B:=by exact J3v rfl rfl):B:=h a
theorem qay (a:A) (h:A→B:=by intro a;refine Jaj ?_;exact a):B:=h a
theorem qaz (a:A) (h:A→B:=by exact Jax (Jcy (show _=Value.bool _ from rfl)) rfl):B:=h a
theorem qa0 (a:A) (h:A→B:=by intro a;refine Jbr (Jaa (Jee ?_));exact a):B:=h a
theorem qa1 (a:A) (h:A→B:=by intro a;refine ⟨(by repeat (first | exact zs0 _ | exact zs1 _ | apply zs2 | apply zs3 | apply zs4 | apply zs5)),Jac _,?_⟩;exact a):B:=h a
theorem qa2 (a:A) (h:A→B:=by intro a;refine Jbr (Jaa (Ja9 ?_));exact a):B:=h a
theorem qa3 (a:A) (h:A→B:=by exact Jax (by first | exact Jaf tb rfl rfl rfl rfl (by first | assumption | exact zr (by simp)) rfl (by omega) | exact Jah tb rfl rfl rfl rfl rfl (by omega)) rfl):B:=h a
theorem qa4 (a:A) (h:A→B:=by intro a;refine Jbr (Jaa (Jan ?_));exact a):B:=h a
theorem qa5 (a:A) (h:A→B:=by exact Jax (Jnf rfl rfl) rfl):B:=h a
theorem qa6 (a:A) (h:A→B:=by exact Jax (Jap (show _=Value.pointer _ from rfl)) rfl):B:=h a
theorem qa7 (a:A) (h:A→B:=by exact Jax (by first | exact Jfy tb rfl rfl rfl (by first | assumption | exact zr (by simp)) (by assumption) (by rfl) | exact Jbl tb rfl rfl rfl (by repeat (first | exact zi0 | apply zi1 | apply zi2)) (by rfl) | exact Jbl tb rfl rfl rfl (by repeat (first | exact zi0 | apply zi1 | apply zi2)) (Jgl (by assumption)) | exact Jbl tb rfl rfl rfl (by repeat (first | exact zi0 | apply zi1 | apply zi2)) (Jf0 (fun _=>rfl) (by assumption) rfl)) rfl):B:=h a
theorem qa8 (a:A) (h:A→B:=by exact Jax (Jba (row:=[_,_,_,_]) tb rfl rfl rfl (by repeat (first | exact zi0 | apply zi1 | apply zi2)) (by rfl) (by rfl)) rfl):B:=h a
theorem qa9 (a:A) (h:A→B:=by exact Jax (by first | exact Jmd rfl rfl (by omega) (by omega) | exact Jr4 rfl rfl) rfl):B:=h a
theorem qba (a:A) (h:A→B:=by intro a;refine Jzz ?_;exact a):B:=h a
theorem qbb (a:A) (h:A→B:=by intro a;refine Ja4 (Jaa (Jan (Ja9 (Jan (Jaj ?_)))));exact a):B:=h a
theorem qbc (a:A) (h:A→B:=by exact Jbx (Jba (row:=[_,_,_,_]) tb rfl rfl rfl (by repeat (first | exact zi0 | apply zi1 | apply zi2)) (by rfl) (by rfl)) rfl rfl rfl):B:=h a
theorem qbd (a:A) (h:A→B:=by exact Jbx (Jba (row:=[_,_]) tb rfl rfl rfl (by repeat (first | exact zi0 | apply zi1 | apply zi2)) (by rfl) (by rfl)) rfl rfl rfl):B:=h a
theorem qbe (a:A) (h:A→B:=by exact Jax (Jba (row:=[_,_]) tb rfl rfl rfl (by repeat (first | exact zi0 | apply zi1 | apply zi2)) (by rfl) (by rfl)) rfl):B:=h a
theorem qbf (a:A) (h:A→B:=by exact Jb1 (Jap (show _=Value.int _ _ from rfl)) rfl rfl rfl rfl):B:=h a
theorem qbg (a:A) (h:A→B:=by exact Jxy rfl rfl rfl rfl (by repeat (first | apply zu0 | apply zu1 | apply zu2)) (by rfl) (by rfl) (by repeat (first | exact zs0 _ | exact zs1 _ | apply zs2 | apply zs3 | apply zs4 | apply zs5))):B:=h a
theorem qbh (a:A) (h:A→B:=by intro a;refine Jbr (Jaa (Jee (Jbg ?_)));exact a):B:=h a
theorem qbi (a:A) (h:A→B:=by intro a;refine Jan (Jan (Jaj ?_));exact a):B:=h a
theorem qbj (a:A) (h:A→B:=by intro a;refine Ja4 (Ja7 (Jaa (Jaj ?_)));exact a):B:=h a
theorem qbk (a:A) (h:A→B:=by intro a;refine Jcs (Jbv (Jcp (Jbf (Jaa (Jan (Jaj ?_))))));exact a):B:=h a
theorem qbl (a:A) (h:A→B:=by exact Jbx (by first | exact Jfy tb rfl rfl rfl (by first | assumption | exact zr (by simp)) (by assumption) (by rfl) | exact Jbl tb rfl rfl rfl (by repeat (first | exact zi0 | apply zi1 | apply zi2)) (by rfl) | exact Jbl tb rfl rfl rfl (by repeat (first | exact zi0 | apply zi1 | apply zi2)) (Jgl (by assumption)) | exact Jbl tb rfl rfl rfl (by repeat (first | exact zi0 | apply zi1 | apply zi2)) (Jf0 (fun _=>rfl) (by assumption) rfl)) rfl rfl rfl):B:=h a
theorem qbm (a:A) (h:A→B:=by exact Jax (Jap (show _=Value.slice _ _ _ from rfl)) rfl):B:=h a
theorem qbn (a:A) (h:A→B:=by exact Jax (Jm8 rfl rfl) rfl):B:=h a
theorem qbo (a:A) (h:A→B:=by intro a;refine Ja4 (Jaa (Jan (Jan (Jaj ?_))));exact a):B:=h a
theorem qbp (a:A) (h:A→B:=by exact Jbx (by first | exact Jdf rfl rfl | exact Jcx rfl rfl | exact Jg7 rfl) rfl rfl rfl):B:=h a
theorem qbq (a:A) (h:A→B:=by exact Jax (Jlo rfl rfl) rfl):B:=h a
theorem qbr (a:A) (h:A→B:=by exact Jz8 rfl rfl):B:=h a
theorem qbs (a:A) (h:A→B:=by exact Jax (Jd8 rfl rfl) rfl):B:=h a
theorem qbt (a:A) (h:A→B:=by intro a;refine Jbr (Jaa (Jee (Ja6 (Jbg (Jdb (Ja6 (Jbg ?_)))))));exact a):B:=h a
theorem qbu (a:A) (h:A→B:=by intro a;refine Jb8 (Jaa ?_);exact a):B:=h a
theorem qbv (a:A) (h:A→B:=by intro a;refine Ja4 (Jaa (Jan (Jaj ?_)));exact a):B:=h a
theorem qbw (a:A) (h:A→B:=by exact Jex (v:=Value.slice _ _ _) rfl rfl rfl rfl (by repeat (first | apply zu0 | apply zu1 | apply zu2)) (by first | exact Jie (by omega) | rfl) (by first | exact Jh2 | rfl) (by rfl) (by repeat (first | exact zs0 _ | exact zs1 _ | apply zs2 | apply zs3 | apply zs4 | apply zs5))):B:=h a
theorem qbx (a:A) (h:A→B:=by exact Jax (Jv1 rfl rfl) rfl):B:=h a
theorem qby (a:A) (h:A→B:=by intro a;refine Jb8 (Ja7 (Jaa (Jaj ?_)));exact a):B:=h a
theorem qbz (a:A) (h:A→B:=by exact Jax (Jkw rfl rfl) rfl):B:=h a
theorem qb0 (a:A) (h:A→B:=by exact Jax (Jho tb rfl rfl rfl) rfl):B:=h a
theorem qb1 (a:A) (h:A→B:=by exact Jlf (by simp only [List.cons_append,List.nil_append];rfl)):B:=h a
theorem qb2 (a:A) (h:A→B:=by exact Jbx (Jap (show _=Value.bool _ from rfl)) rfl rfl rfl):B:=h a
theorem qb3 (a:A) (h:A→B:=by exact Jb1 (Jap (show _=Value.pointer _ from rfl)) rfl rfl rfl rfl):B:=h a
theorem qb4 (a:A) (h:A→B:=by exact Jax (Jpy rfl) rfl):B:=h a
theorem qb5 (a:A) (h:A→B:=by exact Jbx (by first | exact Jaf tb rfl rfl rfl rfl (by first | assumption | exact zr (by simp)) rfl (by omega) | exact Jah tb rfl rfl rfl rfl rfl (by omega)) rfl rfl rfl):B:=h a
theorem qb6 (a:A) (h:A→B:=by exact Jex (v:=Value.int _ _) rfl rfl rfl rfl (by repeat (first | apply zu0 | apply zu1 | apply zu2)) (by first | exact Jie (by omega) | rfl) (by first | exact Jh2 | rfl) (by rfl) (by repeat (first | exact zs0 _ | exact zs1 _ | apply zs2 | apply zs3 | apply zs4 | apply zs5))):B:=h a
theorem qb7 (a:A) (h:A→B:=by exact Jbx (by first | exact Jmd rfl rfl (by omega) (by omega) | exact Jr4 rfl rfl) rfl rfl rfl):B:=h a
theorem qb8 (a:A) (h:A→B:=by exact Jbx (Jap (show _=Value.pointer _ from rfl)) rfl rfl rfl):B:=h a
theorem qb9 (a:A) (h:A→B:=by intro a;refine Jb8 (Jaa (Jan ?_));exact a):B:=h a
theorem qca (a:A) (h:A→B:=by intro a;refine Jc1 ?_ Jw7;exact a):B:=h a
theorem qcb (a:A) (h:A→B:=by exact Jbx (Ja3 rfl) rfl rfl rfl):B:=h a
theorem qcc (a:A) (h:A→B:=by exact Jb1 (by first | exact Jmd rfl rfl (by omega) (by omega) | exact Jr4 rfl rfl) rfl rfl rfl rfl):B:=h a
theorem qcd (a:A) (h:A→B:=by exact Jax (Jbo (qs:=[(0,(Value.int _ _).cells.toList),(1,(Value.int _ _).cells.toList)]) (out:=[_,_]) tb rfl rfl rfl rfl) rfl):B:=h a
theorem qce (a:A) (h:A→B:=by exact Jbx (Jho tb rfl rfl rfl) rfl rfl rfl):B:=h a
theorem qcf (a:A) (h:A→B:=by intro a;refine Jcs (Jbv (Jcp (Jbf (Jaa (Jan (Jan (Jaj ?_)))))));exact a):B:=h a
theorem qcg (a:A) (h:A→B:=by exact Jbx (Jcy (show _=Value.int _ _ from rfl)) rfl rfl rfl):B:=h a
theorem qch (a:A) (h:A→B:=by intro a;refine Jbr (Jaa (Jee (Jbg (Ja6 (Jbg (Jdb (Ja6 (Jbg ?_))))))));exact a):B:=h a
theorem qci (a:A) (h:A→B:=by exact Jb1 (by first | exact Jfy tb rfl rfl rfl (by first | assumption | exact zr (by simp)) (by assumption) (by rfl) | exact Jbl tb rfl rfl rfl (by repeat (first | exact zi0 | apply zi1 | apply zi2)) (by rfl) | exact Jbl tb rfl rfl rfl (by repeat (first | exact zi0 | apply zi1 | apply zi2)) (Jgl (by assumption)) | exact Jbl tb rfl rfl rfl (by repeat (first | exact zi0 | apply zi1 | apply zi2)) (Jf0 (fun _=>rfl) (by assumption) rfl)) rfl rfl rfl rfl):B:=h a
theorem qcj (a:A) (h:A→B:=by exact Jb1 (by first | exact Jkb rfl rfl (by omega) (by omega) | exact Jn7 rfl rfl (by omega) (by omega) | exact Jny rfl rfl) rfl rfl rfl rfl):B:=h a
theorem qck (a:A) (h:A→B:=by exact Jax (Jbo (qs:=[]) (out:=[_,_]) tb rfl rfl rfl rfl) rfl):B:=h a
theorem qcl (a:A) (h:A→B:=by intro a;refine Ja4 (Jaa (Jan ?_));exact a):B:=h a
theorem qcm (a:A) (h:A→B:=by exact Jax (by first | exact Jqt rfl rfl (by omega) (by omega) | exact Jt8 rfl rfl (by omega) (by omega) | exact Jrv rfl rfl) rfl):B:=h a
theorem qcn (a:A) (h:A→B:=by exact Jnd (v:=Value.int _ _) tb rfl rfl rfl rfl (by repeat (first | apply zu0 | apply zu1 | apply zu2)) (by first | exact Jie (by omega) | rfl) (by first | exact Jh2 | rfl) (by rfl)):B:=h a
theorem qco (a:A) (h:A→B:=by intro a;refine Jbr (Jaa (Jan (Jan ?_)));exact a):B:=h a
theorem qcp (a:A) (h:A→B:=by exact Jgf (Jcr tb rfl rfl rfl) rfl rfl rfl rfl):B:=h a
theorem qcq (a:A) (h:A→B:=by exact Jax (Jkq rfl (by omega) (by omega)) rfl):B:=h a
theorem qcr (a:A) (h:A→B:=by exact Jb1 (by first | exact Jbl tb rfl rfl rfl (by repeat (first | exact zi0 | apply zi1 | apply zi2)) (Jf0 (fun _=>rfl) (by assumption) rfl) | exact Jbl tb rfl rfl rfl (by repeat (first | exact zi0 | apply zi1 | apply zi2)) (Jpb (fun _=>rfl) (by assumption) rfl) | exact Jbl tb rfl rfl rfl (by repeat (first | exact zi0 | apply zi1 | apply zi2)) (Jgl (by assumption)) | exact Jbl tb rfl rfl rfl (by repeat (first | exact zi0 | apply zi1 | apply zi2)) (by rfl)) rfl rfl rfl rfl):B:=h a
theorem qcs (a:A) (h:A→B:=by intro a;refine Jbr (Ja7 (Jaa (Jaj ?_)));exact a):B:=h a
theorem qct (a:A) (h:A→B:=by exact Jb1 (Jap (show _=Value.slice _ _ _ from rfl)) rfl rfl rfl rfl):B:=h a
theorem qcu (a:A) (h:A→B:=by exact Jgf (Jbl tb rfl rfl rfl (by repeat (first | exact zi0 | apply zi1 | apply zi2)) (by rfl)) rfl rfl rfl rfl):B:=h a
theorem qcv (a:A) (h:A→B:=by exact Jb1 (Jho tb rfl rfl rfl) rfl rfl rfl rfl):B:=h a
theorem qcw (a:A) (h:A→B:=by exact Jb1 (Jbo (qs:=[(0,(Value.int _ _).cells.toList),(1,(Value.int _ _).cells.toList)]) (out:=[_,_]) tb rfl rfl rfl rfl) rfl rfl rfl rfl):B:=h a
theorem qcx (a:A) (h:A→B:=by exact Jh0 (Jas (qs:=[(0,(Value.int _ _).cells.toList)]) (out:=[_]) tb rfl rfl rfl rfl rfl rfl rfl) rfl):B:=h a
theorem qcy (a:A) (h:A→B:=by exact Jnd (v:=Value.slice _ _ _) tb rfl rfl rfl rfl (by repeat (first | apply zu0 | apply zu1 | apply zu2)) (by first | exact Jie (by omega) | rfl) (by first | exact Jh2 | rfl) (by rfl)):B:=h a
theorem qcz (a:A) (h:A→B:=by exact Jax (Jkz (e:=3) tb rfl (by kernel_rfl) rfl rfl rfl rfl rfl) rfl):B:=h a
theorem qc0 (h:B:=by exact Jau ⟨(_,_),by dsimp only;omega,by dsimp only;omega,by dsimp only;omega,e⟩ (by repeat (first | exact Off.refl | apply Off.upd rfl | apply Off.havoc rfl | apply Off.updL rfl | apply Off.left rfl)) ⟨rfl,rfl,trivial⟩ (by repeat (first | exact zs0 _ | exact zs1 _ | apply zs2 | apply zs3 | apply zs4 | apply zs5)) (Jac _) (by dsimp only;omega)):B:=h
theorem qc1 (a:A) (h:A→B:=by exact Jax (Jcy (show _=Value.pointer _ from rfl)) rfl):B:=h a
theorem qc2 (a:A) (h:A→B:=by exact Jbx (by first | exact Jkb rfl rfl (by omega) (by omega) | exact Jn7 rfl rfl (by omega) (by omega) | exact Jny rfl rfl) rfl rfl rfl):B:=h a
theorem qc3 (a:A) (h:A→B:=by intro a;refine Jcs (Jbv (Jcp (Jbf (Jaa (Jan ?_)))));exact a):B:=h a
theorem qc4 (a:A) (h:A→B:=by exact Jax (Jcy (show _=Value.slice _ _ _ from rfl)) rfl):B:=h a
theorem qc5 (a:A) (h:A→B:=by exact Jb1 (by first | exact Jaf tb rfl rfl rfl rfl (by first | assumption | exact zr (by simp)) rfl (by omega) | exact Jah tb rfl rfl rfl rfl rfl (by omega)) rfl rfl rfl rfl):B:=h a
theorem qc6 (a:A) (h:A→B:=by intro a;refine Jb8 (Jaa (Jan (Jan (Jaj ?_))));exact a):B:=h a
theorem qc7 (a:A) (h:A→B:=by exact Jh0 (Jia tb rfl rfl rfl rfl rfl rfl rfl (by omega) (by omega)) rfl):B:=h a
theorem qc8 (a:A) (h:A→B:=by exact Jax (by first | exact Jc4 (row:=[_,_,_,_,_,_,_,_,_,_]) tb rfl rfl rfl (by first | assumption | exact zr (by simp)) (by assumption) (by rfl) (by rfl) | exact Jba (row:=[_,_,_,_,_,_,_,_,_,_]) tb rfl rfl rfl (by repeat (first | exact zi0 | apply zi1 | apply zi2)) (by rfl) (by rfl)) rfl):B:=h a
theorem qc9 (a:A) (h:A→B:=by exact Jti (Jas (qs:=[(0,(Value.int _ _).cells.toList)]) (out:=[_]) tb rfl rfl rfl rfl rfl rfl rfl) rfl rfl rfl):B:=h a
theorem qda (a:A) (h:A→B:=by exact Jax (by first | exact Jy9 rfl rfl (by omega) (by omega) | exact Jx7 rfl rfl (by omega)) rfl):B:=h a
theorem qdb (a:A) (h:A→B:=by intro a;refine Jbr (Jaa (Jee (Ja6 (Jbg ?_))));exact a):B:=h a
theorem qdc (a:A) (h:A→B:=by exact Jdi rfl (Jas (qs:=[(0,(Value.int _ _).cells.toList)]) (out:=[_]) tb rfl rfl rfl rfl rfl rfl rfl) rfl rfl):B:=h a
theorem qdd (a:A) (h:A→B:=by exact Jax (by first | exact Jv4 rfl rfl (by omega) (by omega) (by omega) | exact Jzd rfl rfl (by omega) (by omega) (by omega) | exact Jve rfl rfl (by omega)) rfl):B:=h a
theorem qde (a:A) (h:A→B:=by exact Jb1 (Jba (row:=[_,_,_,_]) tb rfl rfl rfl (by repeat (first | exact zi0 | apply zi1 | apply zi2)) (by rfl) (by rfl)) rfl rfl rfl rfl):B:=h a
theorem qdf (a:A) (h:A→B:=by exact Jbx (Jbe tb ((⟨roads.o,rl⟩:OwL XRoad)) rfl rfl rfl (by repeat (first | apply OSeg.cons | exact OSeg.here | exact OSeg.last | exact OSeg.at (by assumption) | apply OSeg.app)) (by assumption) (fun _=>rfl) (by assumption) (by rfl)) rfl rfl rfl):B:=h a
theorem qdg (a:A) (h:A→B:=by exact Jax (by first | exact Jlw tb rfl rfl rfl (by omega) (by omega) | exact Jnw tb rfl rfl rfl (by omega) (by omega) | exact Jit tb rfl rfl rfl) rfl):B:=h a
theorem qdh (a:A) (h:A→B:=by exact Jbx (by first | exact Jqt rfl rfl (by omega) (by omega) | exact Jt8 rfl rfl (by omega) (by omega) | exact Jrv rfl rfl) rfl rfl rfl):B:=h a
theorem qdi (a:A) (h:A→B:=by exact Jax (Jba (row:=[_,_,_,_,_,_,_,_,_,_,_,_]) tb rfl rfl rfl (by repeat (first | exact zi0 | apply zi1 | apply zi2)) (by rfl) (by rfl)) rfl):B:=h a
theorem qdj (a:A) (h:A→B:=by exact Jgf (by first | exact Jmd rfl rfl (by omega) (by omega) | exact Jr4 rfl rfl) rfl rfl rfl rfl):B:=h a
theorem qdk (a:A) (h:A→B:=by exact Jax (by first | exact Jc4 (row:=[_,_,_]) tb rfl rfl rfl (by first | assumption | exact zr (by simp)) (by assumption) (by rfl) (by rfl) | exact Jba (row:=[_,_,_]) tb rfl rfl rfl (by repeat (first | exact zi0 | apply zi1 | apply zi2)) (by rfl) (by rfl)) rfl):B:=h a
theorem qdl (a:A) (h:A→B:=by exact Jax (by first | exact Jc4 (row:=[_,_]) tb rfl rfl rfl (by first | assumption | exact zr (by simp)) (by assumption) (by rfl) (by rfl) | exact Jba (row:=[_,_]) tb rfl rfl rfl (by repeat (first | exact zi0 | apply zi1 | apply zi2)) (by rfl) (by rfl)) rfl):B:=h a
theorem qdm (a:A) (h:A→B:=by exact Jbx (by first | exact Jlw tb rfl rfl rfl (by omega) (by omega) | exact Jnw tb rfl rfl rfl (by omega) (by omega) | exact Jit tb rfl rfl rfl) rfl rfl rfl):B:=h a
theorem qdn (a:A) (h:A→B:=by exact Jdi rfl (Jas (qs:=[(0,(Value.agg _).cells.toList)]) (out:=[_,_,_,_,_,_,_,_,_,_]) tb rfl rfl rfl rfl rfl rfl rfl) rfl rfl):B:=h a
theorem qdo (a:A) (h:A→B:=by exact Jbx (by first | exact Jc4 (row:=[_,_]) tb rfl rfl rfl (by first | assumption | exact zr (by simp)) (by assumption) (by rfl) (by rfl) | exact Jba (row:=[_,_]) tb rfl rfl rfl (by repeat (first | exact zi0 | apply zi1 | apply zi2)) (by rfl) (by rfl)) rfl rfl rfl):B:=h a
theorem qdp (a:A) (h:A→B:=by exact Jbx (by first | exact Jc4 (row:=[_,_,_,_]) tb rfl rfl rfl (by first | assumption | exact zr (by simp)) (by assumption) (by rfl) (by rfl) | exact Jba (row:=[_,_,_,_]) tb rfl rfl rfl (by repeat (first | exact zi0 | apply zi1 | apply zi2)) (by rfl) (by rfl)) rfl rfl rfl):B:=h a
theorem qdq (a:A) (h:A→B:=by exact Jbx (Jbo (qs:=[(0,(Value.slice _ _ _).cells.toList),(1,(Value.slice _ _ _).cells.toList)]) (out:=[_,_]) tb rfl rfl rfl rfl) rfl rfl rfl):B:=h a
theorem qdr (a:A) (h:A→B:=by exact Jax (by first | exact Jc4 (row:=[_,_,_,_]) tb rfl rfl rfl (by first | assumption | exact zr (by simp)) (by assumption) (by rfl) (by rfl) | exact Jba (row:=[_,_,_,_]) tb rfl rfl rfl (by repeat (first | exact zi0 | apply zi1 | apply zi2)) (by rfl) (by rfl)) rfl):B:=h a
theorem qds (a:A) (h:A→B:=by exact Jbx (by first | exact Jaf tb rfl rfl rfl rfl (by first | assumption | exact zr (by simp)) (i:=k) (by first | rfl | omega | (simp;omega)) (by omega) | exact Jah tb rfl rfl rfl rfl (i:=k) (by first | rfl | omega | (simp;omega)) (by omega)) rfl rfl rfl):B:=h a
theorem qdt (a:A) (h:A→B:=by exact Jax (by first | exact Jaf tb rfl rfl rfl rfl (by first | assumption | exact zr (by simp)) (i:=0) (by first | rfl | omega | (simp;omega)) (by omega) | exact Jah tb rfl rfl rfl rfl (i:=0) (by first | rfl | omega | (simp;omega)) (by omega)) rfl):B:=h a
theorem qdu (a:A) (h:A→B:=by exact Jbx (by first | exact Jaf tb rfl rfl rfl rfl (by first | assumption | exact zr (by simp)) (i:=0) (by first | rfl | omega | (simp;omega)) (by omega) | exact Jah tb rfl rfl rfl rfl (i:=0) (by first | rfl | omega | (simp;omega)) (by omega)) rfl rfl rfl):B:=h a
theorem qdv (a:A) (h:A→B:=by exact Jbx (by first | exact Jc4 (row:=[_,_,_]) tb rfl rfl rfl (by first | assumption | exact zr (by simp)) (by assumption) (by rfl) (by rfl) | exact Jba (row:=[_,_,_]) tb rfl rfl rfl (by repeat (first | exact zi0 | apply zi1 | apply zi2)) (by rfl) (by rfl)) rfl rfl rfl):B:=h a
theorem qdw (a:A) (h:A→B:=by exact Jax (by first | exact Jc4 (row:=[_,_,_,_,_]) tb rfl rfl rfl (by first | assumption | exact zr (by simp)) (by assumption) (by rfl) (by rfl) | exact Jba (row:=[_,_,_,_,_]) tb rfl rfl rfl (by repeat (first | exact zi0 | apply zi1 | apply zi2)) (by rfl) (by rfl)) rfl):B:=h a
theorem qdx (a:A) (h:A→B:=by exact Jax (by first | exact Jc4 (row:=[_,_,_,_,_,_,_,_,_,_,_,_]) tb rfl rfl rfl (by first | assumption | exact zr (by simp)) (by assumption) (by rfl) (by rfl) | exact Jba (row:=[_,_,_,_,_,_,_,_,_,_,_,_]) tb rfl rfl rfl (by repeat (first | exact zi0 | apply zi1 | apply zi2)) (by rfl) (by rfl)) rfl):B:=h a
theorem qdy (a:A) (h:A→B:=by exact Jbx (by first | exact Jaf tb rfl rfl rfl rfl (by first | assumption | exact zr (by simp)) (i:=k + 1) (by first | rfl | omega | (simp;omega)) (by omega) | exact Jah tb rfl rfl rfl rfl (i:=k + 1) (by first | rfl | omega | (simp;omega)) (by omega)) rfl rfl rfl):B:=h a
theorem qd0 (h:B:=by exact Jau ⟨k + 1,by omega,by omega⟩ (by repeat (first | exact Off.refl | apply Off.upd rfl | apply Off.havoc rfl | apply Off.updL rfl | apply Off.left rfl)) ⟨rfl,rfl,trivial⟩ (by repeat (first | exact zs0 _ | exact zs1 _ | apply zs2 | apply zs3 | apply zs4 | apply zs5)) (Jac _) (by dsimp only;omega)):B:=h
theorem qd1 (a:A) (h:A→B:=by exact Jb1 (by first | exact Jc4 (row:=[_,_]) tb rfl rfl rfl (by first | assumption | exact zr (by simp)) (by assumption) (by rfl) (by rfl) | exact Jba (row:=[_,_]) tb rfl rfl rfl (by repeat (first | exact zi0 | apply zi1 | apply zi2)) (by rfl) (by rfl)) rfl rfl rfl rfl):B:=h a
theorem qd2 (a:A) (h:A→B:=by exact Jb1 (by first | exact Jaf tb rfl rfl rfl rfl (by first | assumption | exact zr (by simp)) (i:=0) (by first | rfl | omega | (simp;omega)) (by omega) | exact Jah tb rfl rfl rfl rfl (i:=0) (by first | rfl | omega | (simp;omega)) (by omega)) rfl rfl rfl rfl):B:=h a
theorem qd3 (a:A) (h:A→B:=by exact Jb1 (by first | exact Jaf tb rfl rfl rfl rfl (by first | assumption | exact zr (by simp)) (i:=f.curve.l.length - 1) (by first | rfl | omega | (simp;omega)) (by omega) | exact Jah tb rfl rfl rfl rfl (i:=f.curve.l.length - 1) (by first | rfl | omega | (simp;omega)) (by omega)) rfl rfl rfl rfl):B:=h a
end
section
structure Hd9 (p:Prop):Prop where x:p
variable {A9 B9:Prop}
theorem Xaa (a:A9)(h:Hd9 A9→B9:=by intro a;refine qab ?_;refine qac ?_;exact a.x):B9:=h ⟨a⟩
theorem Xab (a:A9)(h:Hd9 A9→B9:=by intro a;refine qab ?_;refine qac ?_;refine qag ?_;exact a.x):B9:=h ⟨a⟩
theorem Xac (a:A9)(h:Hd9 A9→B9:=by intro a;refine qan ?_;refine qau ?_;exact a.x):B9:=h ⟨a⟩
theorem Xad (a:A9)(h:Hd9 A9→B9:=by intro a;refine qal ?_;refine qat ?_;exact a.x):B9:=h ⟨a⟩
theorem Xae (a:A9)(h:Hd9 A9→B9:=by intro a;refine qar ?_;refine qaa ?_;exact a.x):B9:=h ⟨a⟩
theorem Xaf (a:A9)(h:Hd9 A9→B9:=by intro a;refine qae ?_;refine qad ?_;exact a.x):B9:=h ⟨a⟩
theorem Xag (a:A9)(h:Hd9 A9→B9:=by intro a;refine qar ?_;refine qaa ?_;refine qav ?_;exact a.x):B9:=h ⟨a⟩
theorem Xah (a:A9)(h:Hd9 A9→B9:=by intro a;refine qab ?_;refine qac ?_;refine qaa ?_;exact a.x):B9:=h ⟨a⟩
theorem Xai (a:A9)(h:Hd9 A9→B9:=by intro a;refine qad ?_;refine qam ?_;exact a.x):B9:=h ⟨a⟩
theorem Xaj (a:A9)(h:Hd9 A9→B9:=by intro a;refine qae ?_;refine qax ?_;exact a.x):B9:=h ⟨a⟩
theorem Xak (a:A9)(h:Hd9 A9→B9:=by intro a;refine qad ?_;refine qav ?_;exact a.x):B9:=h ⟨a⟩
theorem Xal (a:A9)(h:Hd9 A9→B9:=by intro a;refine qbm ?_;refine qaa ?_;exact a.x):B9:=h ⟨a⟩
theorem Xam (a:A9)(h:Hd9 A9→B9:=by intro a;refine qaa ?_;refine qar ?_;exact a.x):B9:=h ⟨a⟩
theorem Xan (a:A9)(h:Hd9 A9→B9:=by intro a;refine qaj ?_;refine qaf ?_;exact a.x):B9:=h ⟨a⟩
theorem Xap (a:A9)(h:Hd9 A9→B9:=by intro a;refine qbi ?_;refine qaa ?_;exact a.x):B9:=h ⟨a⟩
theorem Xar (a:A9)(h:Hd9 A9→B9:=by intro a;refine qae ?_;refine qaj ?_;refine qa4 ?_;exact a.x):B9:=h ⟨a⟩
theorem Xas (a:A9)(h:Hd9 A9→B9:=by intro a;refine qaa ?_;refine qa2 ?_;exact a.x):B9:=h ⟨a⟩
theorem Xat (a:A9)(h:Hd9 A9→B9:=by intro a;refine qbm ?_;refine qag ?_;exact a.x):B9:=h ⟨a⟩
theorem Xau (a:A9)(h:Hd9 A9→B9:=by intro a;refine qad ?_;refine qa0 ?_;exact a.x):B9:=h ⟨a⟩
theorem Xav (a:A9)(h:Hd9 A9→B9:=by intro a;refine qad ?_;refine qa2 ?_;exact a.x):B9:=h ⟨a⟩
theorem Xaw (a:A9)(h:Hd9 A9→B9:=by intro a;refine qad ?_;refine qaw ?_;exact a.x):B9:=h ⟨a⟩
theorem Xax (a:A9)(h:Hd9 A9→B9:=by intro a;refine qad ?_;refine qam ?_;refine qaa ?_;exact a.x):B9:=h ⟨a⟩
theorem Xay (a:A9)(h:Hd9 A9→B9:=by intro a;refine qbj ?_;refine qar ?_;refine qaa ?_;refine qav ?_;exact a.x):B9:=h ⟨a⟩
theorem Xaz (a:A9)(h:Hd9 A9→B9:=by intro a;refine qa8 ?_;refine qbe ?_;exact a.x):B9:=h ⟨a⟩
theorem Xa0 (a:A9)(h:Hd9 A9→B9:=by intro a;refine qal ?_;refine qat ?_;refine qao ?_;exact a.x):B9:=h ⟨a⟩
theorem Xa1 (a:A9)(h:Hd9 A9→B9:=by intro a;refine qab ?_;refine qac ?_;refine qab ?_;refine qac ?_;exact a.x):B9:=h ⟨a⟩
theorem Xa2 (a:A9)(h:Hd9 A9→B9:=by intro a;refine qaj ?_;refine qah ?_;exact a.x):B9:=h ⟨a⟩
theorem Xa3 (a:A9)(h:Hd9 A9→B9:=by intro a;refine qbq ?_;refine qaf ?_;exact a.x):B9:=h ⟨a⟩
theorem Xa4 (a:A9)(h:Hd9 A9→B9:=by intro a;refine qad ?_;refine qbh ?_;exact a.x):B9:=h ⟨a⟩
theorem Xa5 (a:A9)(h:Hd9 A9→B9:=by intro a;refine qcs ?_;refine qar ?_;refine qaa ?_;refine qav ?_;exact a.x):B9:=h ⟨a⟩
theorem Xa6 (a:A9)(h:Hd9 A9→B9:=by intro a;refine qbs ?_;refine qbs ?_;exact a.x):B9:=h ⟨a⟩
theorem Xa7 (a:A9)(h:Hd9 A9→B9:=by intro a;refine qab ?_;refine qab ?_;refine qac ?_;refine qag ?_;exact a.x):B9:=h ⟨a⟩
theorem Xa8 (a:A9)(h:Hd9 A9→B9:=by intro a;refine qbb ?_;refine qaa ?_;exact a.x):B9:=h ⟨a⟩
theorem Xa9 (a:A9)(h:Hd9 A9→B9:=by intro a;refine qaz ?_;refine qa0 ?_;exact a.x):B9:=h ⟨a⟩
theorem Xba (a:A9)(h:Hd9 A9→B9:=by intro a;refine qan ?_;refine qau ?_;refine qbf ?_;exact a.x):B9:=h ⟨a⟩
theorem Xbb (a:A9)(h:Hd9 A9→B9:=by intro a;refine qae ?_;refine qaa ?_;exact a.x):B9:=h ⟨a⟩
theorem Xbc (a:A9)(h:Hd9 A9→B9:=by intro a;refine qb0 ?_;refine qa7 ?_;exact a.x):B9:=h ⟨a⟩
theorem Xbd (a:A9)(h:Hd9 A9→B9:=by intro a;refine qab ?_;refine qac ?_;refine qag ?_;refine qaj ?_;refine qaf ?_;exact a.x):B9:=h ⟨a⟩
theorem Xbe (a:A9)(h:Hd9 A9→B9:=by intro a;refine qak ?_;refine qam ?_;exact a.x):B9:=h ⟨a⟩
theorem Xbf (a:A9)(h:Hd9 A9→B9:=by intro a;refine qae ?_;refine qc4 ?_;exact a.x):B9:=h ⟨a⟩
theorem Xbg (a:A9)(h:Hd9 A9→B9:=by intro a;refine qbj ?_;refine qaa ?_;refine qar ?_;refine qad ?_;refine qav ?_;exact a.x):B9:=h ⟨a⟩
theorem Xbh (a:A9)(h:Hd9 A9→B9:=by intro a;refine qae ?_;refine qaz ?_;exact a.x):B9:=h ⟨a⟩
theorem Xbi (a:A9)(h:Hd9 A9→B9:=by intro a;refine qbp ?_;refine qbu ?_;exact a.x):B9:=h ⟨a⟩
theorem Xbj (a:A9)(h:Hd9 A9→B9:=by intro a;refine qae ?_;refine qad ?_;refine qbt ?_;exact a.x):B9:=h ⟨a⟩
theorem Xbk (a:A9)(h:Hd9 A9→B9:=by intro a;refine qak ?_;refine qaw ?_;exact a.x):B9:=h ⟨a⟩
theorem Xbl (a:A9)(h:Hd9 A9→B9:=by intro a;refine qbm ?_;refine qc4 ?_;exact a.x):B9:=h ⟨a⟩
theorem Xbm (a:A9)(h:Hd9 A9→B9:=by intro a;refine qab ?_;refine qac ?_;refine qag ?_;refine qaa ?_;refine qa2 ?_;exact a.x):B9:=h ⟨a⟩
theorem Xbn (a:A9)(h:Hd9 A9→B9:=by intro a;refine qae ?_;refine qad ?_;refine qbh ?_;exact a.x):B9:=h ⟨a⟩
theorem Xbo (a:A9)(h:Hd9 A9→B9:=by intro a;refine qc4 ?_;refine qaw ?_;exact a.x):B9:=h ⟨a⟩
theorem Xbp (a:A9)(h:Hd9 A9→B9:=by intro a;refine qak ?_;refine qa0 ?_;exact a.x):B9:=h ⟨a⟩
theorem Xbq (a:A9)(h:Hd9 A9→B9:=by intro a;refine qbi ?_;refine qaa ?_;refine qab ?_;refine qac ?_;refine qag ?_;refine qaj ?_;refine qaf ?_;exact a.x):B9:=h ⟨a⟩
theorem Xbr (a:A9)(h:Hd9 A9→B9:=by intro a;refine qb8 ?_;refine qcb ?_;exact a.x):B9:=h ⟨a⟩
theorem Xbs (a:A9)(h:Hd9 A9→B9:=by intro a;refine qay ?_;refine qaa ?_;exact a.x):B9:=h ⟨a⟩
theorem Xbt (a:A9)(h:Hd9 A9→B9:=by intro a;refine qaz ?_;refine qaf ?_;exact a.x):B9:=h ⟨a⟩
theorem Xbu (a:A9)(h:Hd9 A9→B9:=by intro a;refine qb4 ?_;refine qaf ?_;exact a.x):B9:=h ⟨a⟩
theorem Xbv (a:A9)(h:Hd9 A9→B9:=by intro a;refine qad ?_;refine qam ?_;refine qaa ?_;refine qbq ?_;refine qaf ?_;exact a.x):B9:=h ⟨a⟩
theorem Xbw (a:A9)(h:Hd9 A9→B9:=by intro a;refine qbs ?_;refine qbs ?_;refine qc4 ?_;exact a.x):B9:=h ⟨a⟩
theorem Xbx (a:A9)(h:Hd9 A9→B9:=by intro a;refine qa5 ?_;refine qaf ?_;exact a.x):B9:=h ⟨a⟩
theorem Xby (a:A9)(h:Hd9 A9→B9:=by intro a;refine qbm ?_;refine qc4 ?_;refine qa0 ?_;exact a.x):B9:=h ⟨a⟩
theorem Xbz (a:A9)(h:Hd9 A9→B9:=by intro a;refine qa1 ?_;refine qba ?_;exact a.x):B9:=h ⟨a⟩
theorem Xb0 (a:A9)(h:Hd9 A9→B9:=by intro a;refine qal ?_;refine qbw ?_;exact a.x):B9:=h ⟨a⟩
theorem Xb1 (a:A9)(h:Hd9 A9→B9:=by intro a;refine qab ?_;refine qcn ?_;exact a.x):B9:=h ⟨a⟩
theorem Xb2 (a:A9)(h:Hd9 A9→B9:=by intro a;refine qbn ?_;refine qaf ?_;exact a.x):B9:=h ⟨a⟩
theorem Xb3 (a:A9)(h:Hd9 A9→B9:=by intro a;refine qad ?_;refine qa4 ?_;exact a.x):B9:=h ⟨a⟩
theorem Xb4 (a:A9)(h:Hd9 A9→B9:=by intro a;refine qab ?_;refine qbe ?_;exact a.x):B9:=h ⟨a⟩
theorem Xb5 (a:A9)(h:Hd9 A9→B9:=by intro a;refine qbq ?_;refine qah ?_;exact a.x):B9:=h ⟨a⟩
theorem Xb6 (a:A9)(h:Hd9 A9→B9:=by intro a;refine qal ?_;refine qat ?_;refine qao ?_;refine qb5 ?_;exact a.x):B9:=h ⟨a⟩
theorem Xb7 (a:A9)(h:Hd9 A9→B9:=by intro a;refine qby ?_;refine qaa ?_;refine qar ?_;refine qad ?_;refine qav ?_;exact a.x):B9:=h ⟨a⟩
theorem Xb8 (a:A9)(h:Hd9 A9→B9:=by intro a;refine qcp ?_;refine qcu ?_;exact a.x):B9:=h ⟨a⟩
theorem Xb9 (a:A9)(h:Hd9 A9→B9:=by intro a;refine qce ?_;refine qbl ?_;exact a.x):B9:=h ⟨a⟩
theorem Xca (a:A9)(h:Hd9 A9→B9:=by intro a;refine qcs ?_;refine qaa ?_;refine qar ?_;refine qad ?_;refine qav ?_;exact a.x):B9:=h ⟨a⟩
theorem Xcb (a:A9)(h:Hd9 A9→B9:=by intro a;refine qaa ?_;refine qa9 ?_;exact a.x):B9:=h ⟨a⟩
theorem Xcc (a:A9)(h:Hd9 A9→B9:=by intro a;refine qaa ?_;refine qcm ?_;exact a.x):B9:=h ⟨a⟩
theorem Xcd (a:A9)(h:Hd9 A9→B9:=by intro a;refine qak ?_;refine qam ?_;refine qab ?_;refine qac ?_;exact a.x):B9:=h ⟨a⟩
theorem Xce (a:A9)(h:Hd9 A9→B9:=by intro a;refine qbk ?_;refine qad ?_;refine qa0 ?_;exact a.x):B9:=h ⟨a⟩
theorem Xcf (a:A9)(h:Hd9 A9→B9:=by intro a;refine qc4 ?_;refine qam ?_;exact a.x):B9:=h ⟨a⟩
theorem Xcg (a:A9)(h:Hd9 A9→B9:=by intro a;refine qay ?_;refine qbm ?_;refine qaa ?_;exact a.x):B9:=h ⟨a⟩
theorem Xch (a:A9)(h:Hd9 A9→B9:=by intro a;refine qbm ?_;refine qab ?_;refine qac ?_;exact a.x):B9:=h ⟨a⟩
theorem Xci (a:A9)(h:Hd9 A9→B9:=by intro a;refine qbb ?_;refine qab ?_;refine qac ?_;refine qaa ?_;exact a.x):B9:=h ⟨a⟩
theorem Xcj (a:A9)(h:Hd9 A9→B9:=by intro a;refine qae ?_;refine qad ?_;refine qch ?_;exact a.x):B9:=h ⟨a⟩
theorem Xck (a:A9)(h:Hd9 A9→B9:=by intro a;refine qba ?_;refine qb6 ?_;exact a.x):B9:=h ⟨a⟩
theorem Xcl (a:A9)(h:Hd9 A9→B9:=by intro a;refine qbm ?_;refine qag ?_;refine qaa ?_;refine qa2 ?_;exact a.x):B9:=h ⟨a⟩
theorem Xcm (a:A9)(h:Hd9 A9→B9:=by intro a;refine qad ?_;refine qaw ?_;refine qaa ?_;exact a.x):B9:=h ⟨a⟩
theorem Xcn (a:A9)(h:Hd9 A9→B9:=by intro a;refine qan ?_;refine qan ?_;refine qau ?_;exact a.x):B9:=h ⟨a⟩
theorem Xco (a:A9)(h:Hd9 A9→B9:=by intro a;refine qbk ?_;refine qbm ?_;refine qc4 ?_;refine qa0 ?_;exact a.x):B9:=h ⟨a⟩
theorem Xcp (a:A9)(h:Hd9 A9→B9:=by intro a;refine qab ?_;refine qac ?_;refine qa5 ?_;exact a.x):B9:=h ⟨a⟩
theorem Xcq (a:A9)(h:Hd9 A9→B9:=by intro a;refine qbo ?_;refine qad ?_;refine qa2 ?_;exact a.x):B9:=h ⟨a⟩
theorem Xcr (a:A9)(h:Hd9 A9→B9:=by intro a;refine qbn ?_;refine qah ?_;exact a.x):B9:=h ⟨a⟩
theorem Xcs (a:A9)(h:Hd9 A9→B9:=by intro a;refine qbe ?_;refine qak ?_;refine qa0 ?_;exact a.x):B9:=h ⟨a⟩
theorem Xct (a:A9)(h:Hd9 A9→B9:=by intro a;refine qaz ?_;refine qam ?_;exact a.x):B9:=h ⟨a⟩
theorem Xcu (a:A9)(h:Hd9 A9→B9:=by intro a;refine qdl ?_;refine qaq ?_;exact a.x):B9:=h ⟨a⟩
theorem Xcv (a:A9)(h:Hd9 A9→B9:=by intro a;refine qak ?_;refine qaw ?_;refine qab ?_;refine qac ?_;exact a.x):B9:=h ⟨a⟩
theorem Xcw (a:A9)(h:Hd9 A9→B9:=by intro a;refine qae ?_;refine qc4 ?_;refine qad ?_;refine qbh ?_;exact a.x):B9:=h ⟨a⟩
theorem Xcx (a:A9)(h:Hd9 A9→B9:=by intro a;refine qct ?_;refine qan ?_;refine qau ?_;exact a.x):B9:=h ⟨a⟩
theorem Xcy (a:A9)(h:Hd9 A9→B9:=by intro a;refine qbm ?_;refine qag ?_;refine qaj ?_;refine qaf ?_;exact a.x):B9:=h ⟨a⟩
theorem Xcz (a:A9)(h:Hd9 A9→B9:=by intro a;refine qc4 ?_;refine qcs ?_;refine qar ?_;refine qaa ?_;refine qav ?_;exact a.x):B9:=h ⟨a⟩
theorem Xc0 (a:A9)(h:Hd9 A9→B9:=by intro a;refine qan ?_;refine qba ?_;refine qb6 ?_;exact a.x):B9:=h ⟨a⟩
theorem Xc1 (a:A9)(h:Hd9 A9→B9:=by intro a;refine qa3 ?_;refine qa7 ?_;exact a.x):B9:=h ⟨a⟩
theorem Xc2 (a:A9)(h:Hd9 A9→B9:=by intro a;refine qab ?_;refine qab ?_;refine qac ?_;refine qaa ?_;exact a.x):B9:=h ⟨a⟩
theorem Xc3 (a:A9)(h:Hd9 A9→B9:=by intro a;refine qaz ?_;refine qaw ?_;exact a.x):B9:=h ⟨a⟩
theorem Xc4 (a:A9)(h:Hd9 A9→B9:=by intro a;refine qae ?_;refine qad ?_;refine qdb ?_;exact a.x):B9:=h ⟨a⟩
theorem Xc5 (a:A9)(h:Hd9 A9→B9:=by intro a;refine qb8 ?_;refine qcb ?_;refine qal ?_;refine qat ?_;exact a.x):B9:=h ⟨a⟩
theorem Xc6 (a:A9)(h:Hd9 A9→B9:=by intro a;refine qa9 ?_;refine qab ?_;refine qcn ?_;exact a.x):B9:=h ⟨a⟩
end
end Go.Proofs.Ytihompplndcdeaa
