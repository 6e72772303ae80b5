/-
  The steps of a walk under short names: what a step asks is shown by the tactic that stands with its name. Written by a program of ours (mkrun.py). By an AI agent; no person has read it.
-/
import Derived.Test.YtchfclmokpbldaaGreatTab
import Derived.Test.YtchfclmokpbldaaGreatOwn
set_option linter.unusedVariables false
set_option linter.unusedSimpArgs false
namespace Go.Proofs.YtchfclmokpbldaaGreat
open Go.Aw Go
section
variable {A B:Prop}
theorem qb {b v:Bool} {p:Prop} (h:b=v) (e:(b=v)=p:=by (try simp only [zb1,zb2,zb3,zb4,zb5,zb6,zb7,zb8]);(first | done | exact rfl)):p:=e.mp h
section
variable {P:Program} {fn:Func} {Post:Yn} {n m:Nat} {t:Nat→Value} {L L':List Blk} {R R':List Sl} {Q K:Kp} {all:Array Oper} {ty:TypeId} {pos:String} {after:Array Edge} {rest:List Oper} {d:Tmp} {g:Option (Nat×Bool)} {Lc Lc2:List Blk} {late:List Nat} {v a:Value} {f:FuncId} {xs:List Operand} {ts:Array TypeId} {args:List Value} {L2:List Blk} {R2:List Sl}
theorem q_r (h:∀c n a w,Fr n t a→St c L R w→(results fn a.tmps).run Tryz.prog w=.ok v w) (hp:Post v L' R') (hL:L'.Sublist L:=by exact zi) (hR:∀r∈R',InR r R:=by exact Jc _):Uh Tryz.prog fn Post .ret t L R:=Ks h hp hL hR
theorem q_i (hp:Post v L' R') (h:∀c n a w,Fr n t a→St c L R w→(results fn a.tmps).run Tryz.prog w=.ok v w:=by exact Ya rfl zzc) (hL:L'.Sublist L:=by exact zi) (hR:∀r∈R',InR r R:=by exact Jc _):Uh Tryz.prog fn Post .ret t L R:=Ks h hp hL hR
theorem q_b (hp:Post v L' R') (h:∀c n a w,Fr n t a→St c L R w→(results fn a.tmps).run Tryz.prog w=.ok v w:=by exact Ya rfl zHc) (hL:L'.Sublist L:=by exact zi) (hR:∀r∈R',InR r R:=by exact Jc _):Uh Tryz.prog fn Post .ret t L R:=Ks h hp hL hR
theorem q_c {x:Operand} {A B:Code} {b:Bool} {p q:Prop} (ht:p→CJ Tryz.prog n A t L R Q) (hf:q→CJ Tryz.prog n B t L R Q) (hc:ev t x=.bool b:=by exact zdb) (hp:(b=true)=p:=by (try simp only [zb1,zb2,zb3,zb4,zb5,zb6,zb7,zb8]);(first | done | exact rfl)) (hq:(b=false)=q:=by (try simp only [zb1,zb2,zb3,zb4,zb5,zb6,zb7,zb8]);(first | done | exact rfl)):CJ Tryz.prog n (.cond x A B) t L R Q:=
  Zoc hc (fun h=>ht (hp.mp h)) (fun h=>hf (hq.mp h))
theorem q_l (ha:xs.map (ev t)=args) (h:Tri Tryz.prog f args.toArray L R (fun v L' R'=>v=a∧L2=L'∧R2=R')) (k:LJ Tryz.prog n all rest (upd t d a) L2 R2 Q) (hd:Nat.blt d n=true:=by exact rfl):LJ Tryz.prog n all (⟨some d,.call ⟨.value (.func f),xs.toArray,ts⟩,ty,pos,after,none⟩ :: rest) t L R Q:=
  Js ha h hd fun _ _ _ ⟨e1,e2,e3⟩=>by subst e1;subst e2;subst e3;exact k
theorem q_d (ha:xs.map (ev t)=args) (h:Tri Tryz.prog f args.toArray L R (fun v L' R'=>v=a∧L2=L'∧R2=R')) (k:DJ Tryz.prog tb n all Lc K rest (upd t d a) L2 R2) (hw:V1 all t g=true:=by exact rfl) (hd:Nat.blt d n=true:=by exact rfl) (hL:Lc.Sublist L2:=by exact zi) (hR:∀r∈R,InR r R2:=by first | exact Jc _ | exact (fun r h=>Ja (by simp [h]))):DJ Tryz.prog tb n all Lc K (⟨some d,.call ⟨.value (.func f),xs.toArray,ts⟩,ty,pos,after,g⟩ :: rest) t L R:=
  Yt ha h hw hd fun _ _ _ ⟨e1,e2,e3⟩=>by subst e1;subst e2;subst e3;exact ⟨hL,hR,k⟩
theorem q_k {γ:Type} {ws:List Nat} {t0:Nat→Value} {hd:Head γ} {m0:Nat} (g:γ) (ho:Off ws t0 t:=by exact zm) (hs:Vha t (hd.slots g):=by exact zg) (hL:(hd.L g).Sublist L:=by exact zi) (hR:∀r∈hd.R g,InR r R:=by exact Jc _) (hm:hd.m g < m0:=by dsimp only;omega):Ke ws t0 hd m0 Q .normal t L R:=Kf g ho hs hL hR hm
theorem q_j {γ:Type} {ws:List Nat} {t0:Nat→Value} {hd:Head γ} (g:γ) (ho:Off ws t0 t:=by exact zm) (hs:Vha t (hd.slots g):=by exact zg) (hL:(hd.L g).Sublist L:=by exact zi) (hR:∀r∈hd.R g,InR r R:=by exact Jc _):K7e ws t0 hd Q .normal t L R:=Jyc g ho hs hL hR
theorem q_p {γ:Type} {body:Code} (ws:List Nat) (hd:Head γ) (g0:γ) (hstep:∀g junk,CJ Tryz.prog n body (updL (havoc ws t junk) (hd.slots g)) (hd.L g) (hd.R g) (Ke ws t hd (hd.m g) Q)) (h0:Vha t (hd.slots g0):=by exact zg) (hL:(hd.L g0).Sublist L:=by exact zi) (hR:∀r∈hd.R g0,InR r R:=by exact Jc _):CJ Tryz.prog n (.loop body) t L R Q:=Vm ws hd g0 h0 hL hR hstep
theorem q_s {γ:Type} {body:Code} (ws:List Nat) (slots:γ→List (Nat×Value)) (m:γ→Nat) (g0:γ) (hstep:∀g junk,CJ Tryz.prog n body (updL (havoc ws t junk) (slots g)) L R (Ke ws t ⟨slots,fun _=>L,fun _=>R,m⟩ (m g) Q)) (h0:Vha t (slots g0):=by exact zg):CJ Tryz.prog n (.loop body) t L R Q:=Jnc ws slots m g0 h0 hstep
end
theorem qaa (a:A) (h:A→B:=by exact Jx (Jy zeb) rfl):B:=h a
theorem qab (a:A) (h:A→B:=by exact Jx zzb rfl):B:=h a
theorem qac (a:A) (h:A→B:=by exact Jx zKb rfl):B:=h a
theorem qad (a:A) (h:A→B:=by exact Jx (Ud zeb) rfl):B:=h a
theorem qae (a:A) (h:A→B:=by intro a;refine Jn (Jh ?_);exact a):B:=h a
theorem qaf (a:A) (h:A→B:=by intro a;refine J6 (Jb ?_);exact a):B:=h a
theorem qag (a:A) (h:A→B:=by exact Jx ztb rfl):B:=h a
theorem qah (a:A) (h:A→B:=by exact Jx (Jy zdb) rfl):B:=h a
theorem qai (h:B:=by exact Vxc zdb zm zi (by first | exact Jc _ | exact fun r h=>Ja (by simp [h]))):B:=h
theorem qaj (a:A) (h:A→B:=by exact Jx zlc rfl):B:=h a
theorem qak (a:A) (h:A→B:=by exact Z0d tb rfl rfl rfl rfl zA zb zb):B:=h a
theorem qal (a:A) (h:A→B:=by exact Kv zzb rfl rfl rfl):B:=h a
theorem qam (a:A) (h:A→B:=by intro a;refine J6 (Jb (Jn (Jh ?_)));exact a):B:=h a
theorem qan (a:A) (h:A→B:=by exact Kx zzb rfl rfl rfl rfl):B:=h a
theorem qao (a:A) (h:A→B:=by exact Kv (Jy zeb) rfl rfl rfl):B:=h a
theorem qap (a:A) (h:A→B:=by exact Jbf rfl rfl rfl):B:=h a
theorem qaq (a:A) (h:A→B:=by exact K3e tb rfl rfl):B:=h a
theorem qar (a:A) (h:A→B:=by exact Jx zqa rfl):B:=h a
theorem qat (a:A) (h:A→B:=by exact Kv zKb rfl rfl rfl):B:=h a
theorem qau (a:A) (h:A→B:=by exact Kx zKb rfl rfl rfl rfl):B:=h a
theorem qav (a:A) (h:A→B:=by intro a;refine J6 ?_;exact a):B:=h a
theorem qaw (a:A) (h:A→B:=by intro a;refine J6 (Jb (Jn (Jn (Jh ?_))));exact a):B:=h a
theorem qax (a:A) (h:A→B:=by exact Z3e rfl rfl):B:=h a
theorem qay (a:A) (h:A→B:=by intro a;refine Jh ?_;exact a):B:=h a
theorem qaz (a:A) (h:A→B:=by exact Jx (Ud zdb) rfl):B:=h a
theorem qa0 (a:A) (h:A→B:=by intro a;refine J6 (Jb (Uo ?_));exact a):B:=h a
theorem qa1 (a:A) (h:A→B:=by intro a;refine ⟨zi,Jc _,?_⟩;exact a):B:=h a
theorem qa2 (a:A) (h:A→B:=by intro a;refine J6 (Jb (Kg ?_));exact a):B:=h a
theorem qa3 (a:A) (h:A→B:=by exact Jx zKa rfl):B:=h a
theorem qa4 (a:A) (h:A→B:=by intro a;refine J6 (Jb (Jn ?_));exact a):B:=h a
theorem qa5 (a:A) (h:A→B:=by exact Jx (U0c rfl rfl) rfl):B:=h a
theorem qa6 (a:A) (h:A→B:=by exact Jx (Jy zGb) rfl):B:=h a
theorem qa7 (a:A) (h:A→B:=by exact Jx zfa rfl):B:=h a
theorem qa8 (a:A) (h:A→B:=by exact Jx zdc rfl):B:=h a
theorem qa9 (a:A) (h:A→B:=by exact Jx zDa rfl):B:=h a
theorem qba (a:A) (h:A→B:=by intro a;refine Yhd ?_;exact a):B:=h a
theorem qbb (a:A) (h:A→B:=by intro a;refine J5 (Jb (Jn (Kg (Jn (Jh ?_)))));exact a):B:=h a
theorem qbc (a:A) (h:A→B:=by exact Kv zdc rfl rfl rfl):B:=h a
theorem qbd (a:A) (h:A→B:=by exact Kv zEb rfl rfl rfl):B:=h a
theorem qbe (a:A) (h:A→B:=by exact Jx zEb rfl):B:=h a
theorem qbf (a:A) (h:A→B:=by exact Kx (Jy zeb) rfl rfl rfl rfl):B:=h a
theorem qbg (a:A) (h:A→B:=by exact Jqe rfl rfl rfl rfl zA zb zb zi):B:=h a
theorem qbh (a:A) (h:A→B:=by intro a;refine J6 (Jb (Uo (J7 ?_)));exact a):B:=h a
theorem qbi (a:A) (h:A→B:=by intro a;refine Jn (Jn (Jh ?_));exact a):B:=h a
theorem qbj (a:A) (h:A→B:=by intro a;refine J5 (Ji (Jb (Jh ?_)));exact a):B:=h a
theorem qbk (a:A) (h:A→B:=by intro a;refine K8 (Kq (Uf (Kc (Jb (Jn (Jh ?_))))));exact a):B:=h a
theorem qbl (a:A) (h:A→B:=by exact Kv zfa rfl rfl rfl):B:=h a
theorem qbm (a:A) (h:A→B:=by exact Jx zKc rfl):B:=h a
theorem qbn (a:A) (h:A→B:=by exact Jx zRb rfl):B:=h a
theorem qbo (a:A) (h:A→B:=by intro a;refine J5 (Jb (Jn (Jn (Jh ?_))));exact a):B:=h a
theorem qbp (a:A) (h:A→B:=by exact Kv zL rfl rfl rfl):B:=h a
theorem qbq (a:A) (h:A→B:=by exact Jx zwc rfl):B:=h a
theorem qbr (a:A) (h:A→B:=by exact Ule rfl rfl):B:=h a
theorem qbs (a:A) (h:A→B:=by exact Jx zNb rfl):B:=h a
theorem qbt (a:A) (h:A→B:=by intro a;refine J6 (Jb (Uo (J3 (J7 (Va (J3 (J7 ?_)))))));exact a):B:=h a
theorem qbu (a:A) (h:A→B:=by intro a;refine J1 (Jb ?_);exact a):B:=h a
theorem qbv (a:A) (h:A→B:=by intro a;refine J5 (Jb (Jn (Jh ?_)));exact a):B:=h a
theorem qbw (a:A) (h:A→B:=by exact Zh (v:=Value.slice _ _ _) rfl rfl rfl rfl zA zea zaa zb zi):B:=h a
theorem qbx (a:A) (h:A→B:=by exact Jx (V4e rfl rfl) rfl):B:=h a
theorem qby (a:A) (h:A→B:=by intro a;refine J1 (Ji (Jb (Jh ?_)));exact a):B:=h a
theorem qbz (a:A) (h:A→B:=by exact Jx (Zob rfl rfl) rfl):B:=h a
theorem qb0 (a:A) (h:A→B:=by exact Jx (U3a tb rfl rfl rfl) rfl):B:=h a
theorem qb1 (a:A) (h:A→B:=by exact Uv (by simp only [List.cons_append,List.nil_append];rfl)):B:=h a
theorem qb2 (a:A) (h:A→B:=by exact Kv (Jy zdb) rfl rfl rfl):B:=h a
theorem qb3 (a:A) (h:A→B:=by exact Kx (Jy zGb) rfl rfl rfl rfl):B:=h a
theorem qb4 (a:A) (h:A→B:=by exact Jx (Jnb rfl) rfl):B:=h a
theorem qb5 (a:A) (h:A→B:=by exact Kv zKa rfl rfl rfl):B:=h a
theorem qb6 (a:A) (h:A→B:=by exact Zh (v:=Value.int _ _) rfl rfl rfl rfl zA zea zaa zb zi):B:=h a
theorem qb7 (a:A) (h:A→B:=by exact Kv zDa rfl rfl rfl):B:=h a
theorem qb8 (a:A) (h:A→B:=by exact Kv (Jy zGb) rfl rfl rfl):B:=h a
theorem qb9 (a:A) (h:A→B:=by intro a;refine J1 (Jb (Jn ?_));exact a):B:=h a
theorem qca (a:A) (h:A→B:=by intro a;refine Jq ?_ Ved;exact a):B:=h a
theorem qcb (a:A) (h:A→B:=by exact Kv zIb rfl rfl rfl):B:=h a
theorem qcc (a:A) (h:A→B:=by exact Kx zDa rfl rfl rfl rfl):B:=h a
theorem qcd (a:A) (h:A→B:=by exact Jx zAb rfl):B:=h a
theorem qce (a:A) (h:A→B:=by exact Kv (U3a tb rfl rfl rfl) rfl rfl rfl):B:=h a
theorem qcf (a:A) (h:A→B:=by intro a;refine K8 (Kq (Uf (Kc (Jb (Jn (Jn (Jh ?_)))))));exact a):B:=h a
theorem qcg (a:A) (h:A→B:=by exact Kv (Ud zeb) rfl rfl rfl):B:=h a
theorem qch (a:A) (h:A→B:=by intro a;refine J6 (Jb (Uo (J7 (J3 (J7 (Va (J3 (J7 ?_))))))));exact a):B:=h a
theorem qci (a:A) (h:A→B:=by exact Kx zfa rfl rfl rfl rfl):B:=h a
theorem qcj (a:A) (h:A→B:=by exact Kx zqa rfl rfl rfl rfl):B:=h a
theorem qck (a:A) (h:A→B:=by exact Jx (Kb (qs:=[]) (out:=[_,_]) tb rfl rfl rfl rfl) rfl):B:=h a
theorem qcl (a:A) (h:A→B:=by intro a;refine J5 (Jb (Jn ?_));exact a):B:=h a
theorem qcm (a:A) (h:A→B:=by exact Jx zCa rfl):B:=h a
theorem qcn (a:A) (h:A→B:=by exact Voa (v:=Value.int _ _) tb rfl rfl rfl rfl zA zea zaa zb):B:=h a
theorem qco (a:A) (h:A→B:=by intro a;refine J6 (Jb (Jn (Jn ?_)));exact a):B:=h a
theorem qcp (a:A) (h:A→B:=by exact V8 zzb rfl rfl rfl rfl):B:=h a
theorem qcq (a:A) (h:A→B:=by exact Jx (J8d rfl za za) rfl):B:=h a
theorem qcr (a:A) (h:A→B:=by exact Kx (by first | exact K0 tb rfl rfl rfl zf (Kda (fun _=>rfl) zh rfl) | exact K0 tb rfl rfl rfl zf (Zqb (fun _=>rfl) zh rfl) | exact K0 tb rfl rfl rfl zf (K2a zh) | exact K0 tb rfl rfl rfl zf zb) rfl rfl rfl rfl):B:=h a
theorem qcs (a:A) (h:A→B:=by intro a;refine J6 (Ji (Jb (Jh ?_)));exact a):B:=h a
theorem qct (a:A) (h:A→B:=by exact Kx zKc rfl rfl rfl rfl):B:=h a
theorem qcu (a:A) (h:A→B:=by exact V8 zKb rfl rfl rfl rfl):B:=h a
theorem qcv (a:A) (h:A→B:=by exact Kx (U3a tb rfl rfl rfl) rfl rfl rfl rfl):B:=h a
theorem qcw (a:A) (h:A→B:=by exact Kx zAb rfl rfl rfl rfl):B:=h a
theorem qcx (a:A) (h:A→B:=by exact Y9 zJb rfl):B:=h a
theorem qcy (a:A) (h:A→B:=by exact Voa (v:=Value.slice _ _ _) tb rfl rfl rfl rfl zA zea zaa zb):B:=h a
theorem qcz (a:A) (h:A→B:=by exact Jx (Uac (e:=3) tb rfl ze rfl rfl rfl rfl rfl) rfl):B:=h a
theorem qc0 (h:B:=by exact Kf ⟨(_,_),by dsimp only;omega,by dsimp only;omega,by dsimp only;omega,e⟩ zm ⟨rfl,rfl,trivial⟩ zi zqb zx):B:=h
theorem qc1 (a:A) (h:A→B:=by exact Jx (Ud zGb) rfl):B:=h a
theorem qc2 (a:A) (h:A→B:=by exact Kv zqa rfl rfl rfl):B:=h a
theorem qc3 (a:A) (h:A→B:=by intro a;refine K8 (Kq (Uf (Kc (Jb (Jn ?_)))));exact a):B:=h a
theorem qc4 (a:A) (h:A→B:=by exact Jx (Ud zfb) rfl):B:=h a
theorem qc5 (a:A) (h:A→B:=by exact Kx zKa rfl rfl rfl rfl):B:=h a
theorem qc6 (a:A) (h:A→B:=by intro a;refine J1 (Jb (Jn (Jn (Jh ?_))));exact a):B:=h a
theorem qc7 (a:A) (h:A→B:=by exact Y9 zQb rfl):B:=h a
theorem qc8 (a:A) (h:A→B:=by exact Jx zTa rfl):B:=h a
theorem qc9 (a:A) (h:A→B:=by exact Y6c zJb rfl rfl rfl):B:=h a
theorem qda (a:A) (h:A→B:=by exact Jx (by first | exact Z8d rfl rfl za za | exact Z2d rfl rfl za) rfl):B:=h a
theorem qdb (a:A) (h:A→B:=by intro a;refine J6 (Jb (Uo (J3 (J7 ?_))));exact a):B:=h a
theorem qdd (a:A) (h:A→B:=by exact Jx zSa rfl):B:=h a
theorem qde (a:A) (h:A→B:=by exact Kx zdc rfl rfl rfl rfl):B:=h a
theorem qdg (a:A) (h:A→B:=by exact Jx zpa rfl):B:=h a
theorem qdh (a:A) (h:A→B:=by exact Kv zCa rfl rfl rfl):B:=h a
theorem qdi (a:A) (h:A→B:=by exact Jx (Jl (row:=[_,_,_,_,_,_,_,_,_,_,_,_]) tb rfl rfl rfl zf zb zb) rfl):B:=h a
theorem qdk (a:A) (h:A→B:=by exact Jx zXa rfl):B:=h a
theorem qdl (a:A) (h:A→B:=by exact Jx zEa rfl):B:=h a
theorem qdm (a:A) (h:A→B:=by exact Kv zpa rfl rfl rfl):B:=h a
theorem qdo (a:A) (h:A→B:=by exact Kv zEa rfl rfl rfl):B:=h a
theorem qdp (a:A) (h:A→B:=by exact Kv zsa rfl rfl rfl):B:=h a
theorem qdq (a:A) (h:A→B:=by exact Kv zyb rfl rfl rfl):B:=h a
theorem qdr (a:A) (h:A→B:=by exact Jx zsa rfl):B:=h a
theorem qds (a:A) (h:A→B:=by exact Kv zB rfl rfl rfl):B:=h a
theorem qdt (a:A) (h:A→B:=by exact Jx zua rfl):B:=h a
theorem qdu (a:A) (h:A→B:=by exact Kv zua rfl rfl rfl):B:=h a
theorem qdv (a:A) (h:A→B:=by exact Kv zXa rfl rfl rfl):B:=h a
theorem qdw (a:A) (h:A→B:=by exact Jx (by first | exact Ku (row:=[_,_,_,_,_]) tb rfl rfl rfl zt zh zb zb | exact Jl (row:=[_,_,_,_,_]) tb rfl rfl rfl zf zb zb) rfl):B:=h a
theorem qdx (a:A) (h:A→B:=by exact Jx (by first | exact Ku (row:=[_,_,_,_,_,_,_,_,_,_,_,_]) tb rfl rfl rfl zt zh zb zb | exact Jl (row:=[_,_,_,_,_,_,_,_,_,_,_,_]) tb rfl rfl rfl zf zb zb) rfl):B:=h a
theorem qdy (a:A) (h:A→B:=by exact Kv (by first | exact Jf tb rfl rfl rfl rfl zt (i:=k + 1) zk za | exact Jk tb rfl rfl rfl rfl (i:=k + 1) zk za) rfl rfl rfl):B:=h a
theorem qd0 (h:B:=by exact Kf ⟨k + 1,by omega,by omega⟩ zm ⟨rfl,rfl,trivial⟩ zi zqb zx):B:=h
theorem qd1 (a:A) (h:A→B:=by exact Kx zEa rfl rfl rfl rfl):B:=h a
theorem qd2 (a:A) (h:A→B:=by exact Kx zua rfl rfl rfl rfl):B:=h a
end
section
structure Hd9 (p:Prop):Prop where x:p
variable {A9 B9:Prop}
theorem Xaa (a:A9)(h:Hd9 A9→B9:=by intro a;refine qab ?_;refine qac ?_;exact a.x):B9:=h ⟨a⟩
theorem Xab (a:A9)(h:Hd9 A9→B9:=by intro a;refine qae ?_;refine qad ?_;exact a.x):B9:=h ⟨a⟩
theorem Xac (a:A9)(h:Hd9 A9→B9:=by intro a;refine qab ?_;refine qac ?_;refine qag ?_;exact a.x):B9:=h ⟨a⟩
theorem Xad (a:A9)(h:Hd9 A9→B9:=by intro a;refine qar ?_;refine qaa ?_;exact a.x):B9:=h ⟨a⟩
theorem Xae (a:A9)(h:Hd9 A9→B9:=by intro a;refine qar ?_;refine qaa ?_;refine qav ?_;exact a.x):B9:=h ⟨a⟩
theorem Xaf (a:A9)(h:Hd9 A9→B9:=by intro a;refine qad ?_;refine qam ?_;exact a.x):B9:=h ⟨a⟩
theorem Xag (a:A9)(h:Hd9 A9→B9:=by intro a;refine qae ?_;refine qax ?_;exact a.x):B9:=h ⟨a⟩
theorem Xah (a:A9)(h:Hd9 A9→B9:=by intro a;refine qad ?_;refine qa0 ?_;exact a.x):B9:=h ⟨a⟩
theorem Xai (a:A9)(h:Hd9 A9→B9:=by intro a;refine qad ?_;refine qbh ?_;exact a.x):B9:=h ⟨a⟩
theorem Xak (a:A9)(h:Hd9 A9→B9:=by intro a;refine qae ?_;refine qaj ?_;refine qa4 ?_;exact a.x):B9:=h ⟨a⟩
theorem Xam (a:A9)(h:Hd9 A9→B9:=by intro a;refine qab ?_;refine qac ?_;refine qaa ?_;exact a.x):B9:=h ⟨a⟩
theorem Xan (a:A9)(h:Hd9 A9→B9:=by intro a;refine qal ?_;refine qat ?_;exact a.x):B9:=h ⟨a⟩
theorem Xao (a:A9)(h:Hd9 A9→B9:=by intro a;refine qaz ?_;refine qaf ?_;exact a.x):B9:=h ⟨a⟩
theorem Xap (a:A9)(h:Hd9 A9→B9:=by intro a;refine qbm ?_;refine qag ?_;exact a.x):B9:=h ⟨a⟩
theorem Xaq (a:A9)(h:Hd9 A9→B9:=by intro a;refine qbq ?_;refine qaf ?_;exact a.x):B9:=h ⟨a⟩
theorem Xar (a:A9)(h:Hd9 A9→B9:=by intro a;refine qan ?_;refine qau ?_;exact a.x):B9:=h ⟨a⟩
theorem Xas (a:A9)(h:Hd9 A9→B9:=by intro a;refine qad ?_;refine qaw ?_;exact a.x):B9:=h ⟨a⟩
theorem Xat (a:A9)(h:Hd9 A9→B9:=by intro a;refine qad ?_;refine qam ?_;refine qaa ?_;exact a.x):B9:=h ⟨a⟩
theorem Xau (a:A9)(h:Hd9 A9→B9:=by intro a;refine qbm ?_;refine qaa ?_;exact a.x):B9:=h ⟨a⟩
theorem Xav (a:A9)(h:Hd9 A9→B9:=by intro a;refine qaj ?_;refine qah ?_;exact a.x):B9:=h ⟨a⟩
theorem Xaw (a:A9)(h:Hd9 A9→B9:=by intro a;refine qab ?_;refine qac ?_;refine qag ?_;refine qaa ?_;refine qa2 ?_;exact a.x):B9:=h ⟨a⟩
theorem Xax (a:A9)(h:Hd9 A9→B9:=by intro a;refine qbj ?_;refine qar ?_;refine qaa ?_;refine qav ?_;exact a.x):B9:=h ⟨a⟩
theorem Xay (a:A9)(h:Hd9 A9→B9:=by intro a;refine qbn ?_;refine qaz ?_;refine qaf ?_;exact a.x):B9:=h ⟨a⟩
theorem Xaz (a:A9)(h:Hd9 A9→B9:=by intro a;refine qak ?_;refine qad ?_;refine qbh ?_;exact a.x):B9:=h ⟨a⟩
theorem Xa0 (a:A9)(h:Hd9 A9→B9:=by intro a;refine qak ?_;refine qam ?_;exact a.x):B9:=h ⟨a⟩
theorem Xa1 (a:A9)(h:Hd9 A9→B9:=by intro a;refine qab ?_;refine qac ?_;refine qa5 ?_;exact a.x):B9:=h ⟨a⟩
theorem Xa2 (a:A9)(h:Hd9 A9→B9:=by intro a;refine qbb ?_;refine qaa ?_;exact a.x):B9:=h ⟨a⟩
theorem Xa3 (a:A9)(h:Hd9 A9→B9:=by intro a;refine qay ?_;refine qaa ?_;exact a.x):B9:=h ⟨a⟩
theorem Xa4 (a:A9)(h:Hd9 A9→B9:=by intro a;refine qbs ?_;refine qbs ?_;exact a.x):B9:=h ⟨a⟩
theorem Xa5 (a:A9)(h:Hd9 A9→B9:=by intro a;refine qae ?_;refine qad ?_;refine qbh ?_;exact a.x):B9:=h ⟨a⟩
theorem Xa6 (a:A9)(h:Hd9 A9→B9:=by intro a;refine qae ?_;refine qad ?_;refine qdb ?_;exact a.x):B9:=h ⟨a⟩
theorem Xa7 (a:A9)(h:Hd9 A9→B9:=by intro a;refine qad ?_;refine qam ?_;refine qaa ?_;refine qbq ?_;refine qaf ?_;exact a.x):B9:=h ⟨a⟩
theorem Xa8 (a:A9)(h:Hd9 A9→B9:=by intro a;refine qcs ?_;refine qar ?_;refine qaa ?_;refine qav ?_;exact a.x):B9:=h ⟨a⟩
theorem Xa9 (a:A9)(h:Hd9 A9→B9:=by intro a;refine qak ?_;refine qaw ?_;exact a.x):B9:=h ⟨a⟩
theorem Xba (a:A9)(h:Hd9 A9→B9:=by intro a;refine qaz ?_;refine qa0 ?_;exact a.x):B9:=h ⟨a⟩
theorem Xbb (a:A9)(h:Hd9 A9→B9:=by intro a;refine qae ?_;refine qaz ?_;exact a.x):B9:=h ⟨a⟩
theorem Xbc (a:A9)(h:Hd9 A9→B9:=by intro a;refine qae ?_;refine qaa ?_;exact a.x):B9:=h ⟨a⟩
theorem Xbd (a:A9)(h:Hd9 A9→B9:=by intro a;refine qb4 ?_;refine qaf ?_;exact a.x):B9:=h ⟨a⟩
theorem Xbe (a:A9)(h:Hd9 A9→B9:=by intro a;refine qab ?_;refine qac ?_;refine qab ?_;refine qac ?_;exact a.x):B9:=h ⟨a⟩
theorem Xbf (a:A9)(h:Hd9 A9→B9:=by intro a;refine qbp ?_;refine qb2 ?_;exact a.x):B9:=h ⟨a⟩
theorem Xbg (a:A9)(h:Hd9 A9→B9:=by intro a;refine qab ?_;refine qac ?_;refine qaj ?_;refine qah ?_;exact a.x):B9:=h ⟨a⟩
theorem Xbh (a:A9)(h:Hd9 A9→B9:=by intro a;refine qaa ?_;refine qaa ?_;exact a.x):B9:=h ⟨a⟩
theorem Xbi (a:A9)(h:Hd9 A9→B9:=by intro a;refine qae ?_;refine qbn ?_;refine qaz ?_;refine qaf ?_;exact a.x):B9:=h ⟨a⟩
theorem Xbj (a:A9)(h:Hd9 A9→B9:=by intro a;refine qab ?_;refine qcn ?_;exact a.x):B9:=h ⟨a⟩
theorem Xbk (a:A9)(h:Hd9 A9→B9:=by intro a;refine qad ?_;refine qav ?_;exact a.x):B9:=h ⟨a⟩
theorem Xbl (a:A9)(h:Hd9 A9→B9:=by intro a;refine qak ?_;refine qad ?_;refine qa0 ?_;exact a.x):B9:=h ⟨a⟩
theorem Xbm (a:A9)(h:Hd9 A9→B9:=by intro a;refine qab ?_;refine qac ?_;refine qbn ?_;exact a.x):B9:=h ⟨a⟩
theorem Xbn (a:A9)(h:Hd9 A9→B9:=by intro a;refine qad ?_;refine qaz ?_;exact a.x):B9:=h ⟨a⟩
theorem Xbo (a:A9)(h:Hd9 A9→B9:=by intro a;refine qaj ?_;refine qaf ?_;exact a.x):B9:=h ⟨a⟩
theorem Xbp (a:A9)(h:Hd9 A9→B9:=by intro a;refine qab ?_;refine qcy ?_;exact a.x):B9:=h ⟨a⟩
theorem Xbq (a:A9)(h:Hd9 A9→B9:=by intro a;refine qb8 ?_;refine qcb ?_;exact a.x):B9:=h ⟨a⟩
theorem Xbr (a:A9)(h:Hd9 A9→B9:=by intro a;refine qak ?_;refine qa0 ?_;exact a.x):B9:=h ⟨a⟩
theorem Xbs (a:A9)(h:Hd9 A9→B9:=by intro a;refine qc4 ?_;refine qc4 ?_;exact a.x):B9:=h ⟨a⟩
theorem Xbt (a:A9)(h:Hd9 A9→B9:=by intro a;refine qbm ?_;refine qag ?_;refine qaa ?_;refine qa2 ?_;exact a.x):B9:=h ⟨a⟩
theorem Xbu (a:A9)(h:Hd9 A9→B9:=by intro a;refine qbp ?_;refine qbu ?_;exact a.x):B9:=h ⟨a⟩
theorem Xbv (a:A9)(h:Hd9 A9→B9:=by intro a;refine qb0 ?_;refine qa7 ?_;exact a.x):B9:=h ⟨a⟩
theorem Xbw (a:A9)(h:Hd9 A9→B9:=by intro a;refine qae ?_;refine qad ?_;refine qbt ?_;exact a.x):B9:=h ⟨a⟩
theorem Xbx (a:A9)(h:Hd9 A9→B9:=by intro a;refine qbq ?_;refine qah ?_;exact a.x):B9:=h ⟨a⟩
theorem Xby (a:A9)(h:Hd9 A9→B9:=by intro a;refine qaa ?_;refine qak ?_;refine qad ?_;refine qbh ?_;exact a.x):B9:=h ⟨a⟩
theorem Xbz (a:A9)(h:Hd9 A9→B9:=by intro a;refine qaa ?_;refine qa5 ?_;exact a.x):B9:=h ⟨a⟩
theorem Xb0 (a:A9)(h:Hd9 A9→B9:=by intro a;refine qab ?_;refine qac ?_;refine qaj ?_;exact a.x):B9:=h ⟨a⟩
theorem Xb1 (a:A9)(h:Hd9 A9→B9:=by intro a;refine qal ?_;refine qat ?_;refine qao ?_;exact a.x):B9:=h ⟨a⟩
theorem Xb2 (a:A9)(h:Hd9 A9→B9:=by intro a;refine qak ?_;refine qam ?_;refine qab ?_;refine qac ?_;exact a.x):B9:=h ⟨a⟩
theorem Xb3 (a:A9)(h:Hd9 A9→B9:=by intro a;refine qad ?_;refine qa4 ?_;exact a.x):B9:=h ⟨a⟩
theorem Xb4 (a:A9)(h:Hd9 A9→B9:=by intro a;refine qad ?_;refine qa2 ?_;exact a.x):B9:=h ⟨a⟩
theorem Xb5 (a:A9)(h:Hd9 A9→B9:=by intro a;refine qaa ?_;refine qaj ?_;refine qah ?_;exact a.x):B9:=h ⟨a⟩
theorem Xb6 (a:A9)(h:Hd9 A9→B9:=by intro a;refine qaa ?_;refine qa9 ?_;exact a.x):B9:=h ⟨a⟩
theorem Xb7 (a:A9)(h:Hd9 A9→B9:=by intro a;refine qbk ?_;refine qad ?_;refine qa0 ?_;exact a.x):B9:=h ⟨a⟩
theorem Xb8 (a:A9)(h:Hd9 A9→B9:=by intro a;refine qae ?_;refine qab ?_;refine qac ?_;exact a.x):B9:=h ⟨a⟩
theorem Xb9 (a:A9)(h:Hd9 A9→B9:=by intro a;refine qc4 ?_;refine qaw ?_;exact a.x):B9:=h ⟨a⟩
theorem Xca (a:A9)(h:Hd9 A9→B9:=by intro a;refine qay ?_;refine qbm ?_;refine qaa ?_;exact a.x):B9:=h ⟨a⟩
theorem Xcb (a:A9)(h:Hd9 A9→B9:=by intro a;refine qa8 ?_;refine qbe ?_;exact a.x):B9:=h ⟨a⟩
theorem Xcc (a:A9)(h:Hd9 A9→B9:=by intro a;refine qb4 ?_;refine qah ?_;exact a.x):B9:=h ⟨a⟩
theorem Xcd (a:A9)(h:Hd9 A9→B9:=by intro a;refine qbn ?_;refine qaf ?_;exact a.x):B9:=h ⟨a⟩
theorem Xce (a:A9)(h:Hd9 A9→B9:=by intro a;refine qbi ?_;refine qaa ?_;exact a.x):B9:=h ⟨a⟩
theorem Xcf (a:A9)(h:Hd9 A9→B9:=by intro a;refine qbv ?_;refine qad ?_;refine qa0 ?_;exact a.x):B9:=h ⟨a⟩
theorem Xcg (a:A9)(h:Hd9 A9→B9:=by intro a;refine qbm ?_;refine qab ?_;refine qac ?_;exact a.x):B9:=h ⟨a⟩
theorem Xch (a:A9)(h:Hd9 A9→B9:=by intro a;refine qam ?_;refine qab ?_;refine qac ?_;exact a.x):B9:=h ⟨a⟩
theorem Xci (a:A9)(h:Hd9 A9→B9:=by intro a;refine qaa ?_;refine qa9 ?_;refine qad ?_;refine qav ?_;exact a.x):B9:=h ⟨a⟩
theorem Xcj (a:A9)(h:Hd9 A9→B9:=by intro a;refine qbz ?_;refine qaf ?_;exact a.x):B9:=h ⟨a⟩
theorem Xck (a:A9)(h:Hd9 A9→B9:=by intro a;refine qab ?_;refine qab ?_;refine qac ?_;refine qag ?_;exact a.x):B9:=h ⟨a⟩
theorem Xcl (a:A9)(h:Hd9 A9→B9:=by intro a;refine qbo ?_;refine qab ?_;refine qac ?_;refine qag ?_;refine qaa ?_;refine qa2 ?_;exact a.x):B9:=h ⟨a⟩
theorem Xcm (a:A9)(h:Hd9 A9→B9:=by intro a;refine qc4 ?_;refine qa4 ?_;exact a.x):B9:=h ⟨a⟩
theorem Xcn (a:A9)(h:Hd9 A9→B9:=by intro a;refine qaa ?_;refine qar ?_;exact a.x):B9:=h ⟨a⟩
theorem Xco (a:A9)(h:Hd9 A9→B9:=by intro a;refine qab ?_;refine qac ?_;refine qag ?_;refine qa5 ?_;exact a.x):B9:=h ⟨a⟩
theorem Xcp (a:A9)(h:Hd9 A9→B9:=by intro a;refine qbk ?_;refine qbm ?_;exact a.x):B9:=h ⟨a⟩
theorem Xcq (a:A9)(h:Hd9 A9→B9:=by intro a;refine qc4 ?_;refine qa0 ?_;exact a.x):B9:=h ⟨a⟩
theorem Xcr (a:A9)(h:Hd9 A9→B9:=by intro a;refine qb8 ?_;refine qcb ?_;refine qal ?_;refine qat ?_;exact a.x):B9:=h ⟨a⟩
theorem Xcs (a:A9)(h:Hd9 A9→B9:=by intro a;refine qae ?_;refine qad ?_;refine qch ?_;exact a.x):B9:=h ⟨a⟩
theorem Xct (a:A9)(h:Hd9 A9→B9:=by intro a;refine qbo ?_;refine qab ?_;refine qac ?_;refine qbn ?_;exact a.x):B9:=h ⟨a⟩
theorem Xcu (a:A9)(h:Hd9 A9→B9:=by intro a;refine qct ?_;refine qan ?_;refine qau ?_;exact a.x):B9:=h ⟨a⟩
theorem Xcv (a:A9)(h:Hd9 A9→B9:=by intro a;refine qdr ?_;refine qaq ?_;exact a.x):B9:=h ⟨a⟩
theorem Xcw (a:A9)(h:Hd9 A9→B9:=by intro a;refine qae ?_;refine qc4 ?_;exact a.x):B9:=h ⟨a⟩
theorem Xcx (a:A9)(h:Hd9 A9→B9:=by intro a;refine qbs ?_;refine qbs ?_;refine qaq ?_;exact a.x):B9:=h ⟨a⟩
theorem Xcy (a:A9)(h:Hd9 A9→B9:=by intro a;refine qay ?_;refine qbm ?_;exact a.x):B9:=h ⟨a⟩
theorem Xcz (a:A9)(h:Hd9 A9→B9:=by intro a;refine qa1 ?_;refine qba ?_;exact a.x):B9:=h ⟨a⟩
theorem Xc0 (a:A9)(h:Hd9 A9→B9:=by intro a;refine qal ?_;refine qbw ?_;exact a.x):B9:=h ⟨a⟩
theorem Xc1 (a:A9)(h:Hd9 A9→B9:=by intro a;refine qag ?_;refine qaa ?_;refine qa2 ?_;exact a.x):B9:=h ⟨a⟩
theorem Xc2 (a:A9)(h:Hd9 A9→B9:=by intro a;refine qak ?_;refine qa4 ?_;exact a.x):B9:=h ⟨a⟩
theorem Xc3 (a:A9)(h:Hd9 A9→B9:=by intro a;refine qaa ?_;refine qcm ?_;exact a.x):B9:=h ⟨a⟩
theorem Xc4 (a:A9)(h:Hd9 A9→B9:=by intro a;refine qam ?_;refine qbm ?_;exact a.x):B9:=h ⟨a⟩
theorem Xc5 (a:A9)(h:Hd9 A9→B9:=by intro a;refine qae ?_;refine qab ?_;exact a.x):B9:=h ⟨a⟩
theorem Xc6 (a:A9)(h:Hd9 A9→B9:=by intro a;refine qcp ?_;refine qcu ?_;exact a.x):B9:=h ⟨a⟩
theorem Xc7 (a:A9)(h:Hd9 A9→B9:=by intro a;refine qby ?_;refine qar ?_;refine qaa ?_;refine qav ?_;exact a.x):B9:=h ⟨a⟩
theorem Xc8 (a:A9)(h:Hd9 A9→B9:=by intro a;refine qan ?_;refine qau ?_;refine qbf ?_;exact a.x):B9:=h ⟨a⟩
theorem Xc9 (a:A9)(h:Hd9 A9→B9:=by intro a;refine qct ?_;refine qbf ?_;exact a.x):B9:=h ⟨a⟩
theorem Xda (a:A9)(h:Hd9 A9→B9:=by intro a;refine qba ?_;refine qbg ?_;exact a.x):B9:=h ⟨a⟩
theorem Xdb (a:A9)(h:Hd9 A9→B9:=by intro a;refine qad ?_;refine qaw ?_;refine qaa ?_;exact a.x):B9:=h ⟨a⟩
theorem Xdc (a:A9)(h:Hd9 A9→B9:=by intro a;refine qbe ?_;refine qak ?_;refine qa0 ?_;exact a.x):B9:=h ⟨a⟩
theorem Xdd (a:A9)(h:Hd9 A9→B9:=by intro a;refine qak ?_;refine qad ?_;exact a.x):B9:=h ⟨a⟩
theorem Xde (a:A9)(h:Hd9 A9→B9:=by intro a;refine qam ?_;refine qaa ?_;exact a.x):B9:=h ⟨a⟩
theorem Xdf (a:A9)(h:Hd9 A9→B9:=by intro a;refine qa6 ?_;refine qaa ?_;exact a.x):B9:=h ⟨a⟩
theorem Xdg (a:A9)(h:Hd9 A9→B9:=by intro a;refine qbg ?_;refine qcg ?_;exact a.x):B9:=h ⟨a⟩
theorem Xdh (a:A9)(h:Hd9 A9→B9:=by intro a;refine qal ?_;refine qal ?_;refine qat ?_;exact a.x):B9:=h ⟨a⟩
theorem Xdi (a:A9)(h:Hd9 A9→B9:=by intro a;refine qbk ?_;refine qaa ?_;exact a.x):B9:=h ⟨a⟩
theorem Xdj (a:A9)(h:Hd9 A9→B9:=by intro a;refine qae ?_;refine qaa ?_;refine qad ?_;exact a.x):B9:=h ⟨a⟩
theorem Xdk (a:A9)(h:Hd9 A9→B9:=by intro a;refine qbo ?_;refine qab ?_;refine qac ?_;refine qbn ?_;refine qaf ?_;exact a.x):B9:=h ⟨a⟩
theorem Xdl (a:A9)(h:Hd9 A9→B9:=by intro a;refine qae ?_;refine qaa ?_;refine qad ?_;refine qbh ?_;exact a.x):B9:=h ⟨a⟩
theorem Xdm (a:A9)(h:Hd9 A9→B9:=by intro a;refine qcg ?_;refine qcg ?_;exact a.x):B9:=h ⟨a⟩
theorem Xdn (a:A9)(h:Hd9 A9→B9:=by intro a;refine qa9 ?_;refine qab ?_;refine qcn ?_;exact a.x):B9:=h ⟨a⟩
theorem Xdo (a:A9)(h:Hd9 A9→B9:=by intro a;refine qaa ?_;refine qar ?_;refine qad ?_;refine qav ?_;exact a.x):B9:=h ⟨a⟩
theorem Xdp (a:A9)(h:Hd9 A9→B9:=by intro a;refine qab ?_;refine qbe ?_;exact a.x):B9:=h ⟨a⟩
theorem Xdq (a:A9)(h:Hd9 A9→B9:=by intro a;refine qdl ?_;refine qaq ?_;exact a.x):B9:=h ⟨a⟩
end
end Go.Proofs.YtchfclmokpbldaaGreat
