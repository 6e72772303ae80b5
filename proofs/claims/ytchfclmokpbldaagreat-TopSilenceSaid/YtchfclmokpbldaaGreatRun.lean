/-
  The steps of a walk under short names: what a step asks is shown by the tactic that stands with its name. Written by a program of ours (mkrun.py). By an AI agent; no person has read it.
-/
import Derived.Test.YtchfclmokpbldaaGreatTab
import Derived.Test.YtchfclmokpbldaaGreatOwn
set_option linter.all false
set_option maxHeartbeats 4000000
namespace Go.Proofs.YtchfclmokpbldaaGreat
open Go.Aw Go
section
variable {A B:Prop}
def qb {b v:Bool} {p:Prop} (h:b=v) (e:(b=v)=p:=by (try simp only [zb1,zb2,zb3,zb4,zb5,zb6,zb7,zb8]);(first | done | exact rfl)):p:=e.mp h
section
variable {P:Program} {fn:Func} {Post:Y8} {n m:Nat} {t:Nat→Value} {L M:LB} {R U:LS} {Q K:Kz} {all:Array Oper} {ty:TypeId} {pos:String} {after:Array Edge} {rest:List Oper} {d:Tmp} {g:Option (Nat×Bool)} {Lc Lc2:LB} {late:List Nat} {v a:Value} {f:FuncId} {xs:List Operand} {ts:Array TypeId} {args:List Value} {L2:LB} {R2:LS}
def q_r (M:LB) (U:LS) (h:∀c n a w,Fr n t a→St c L R w→(results fn a.tmps).run Tryz.prog w=.ok v w) (hp:Post v M U) (hL:M.Sublist L:=by exact zg) (hR:∀r∈U,InR r R:=by exact Jc _):Ur Tryz.prog fn Post .ret t L R:=Kv h hp hL hR
def q_i (M:LB) (U:LS) (hp:Post v M U) (h:∀c n a w,Fr n t a→St c L R w→(results fn a.tmps).run Tryz.prog w=.ok v w:=by exact Va rfl zSc) (hL:M.Sublist L:=by exact zg) (hR:∀r∈U,InR r R:=by exact Jc _):Ur Tryz.prog fn Post .ret t L R:=Kv h hp hL hR
def q_b (M:LB) (U:LS) (hp:Post v M U) (h:∀c n a w,Fr n t a→St c L R w→(results fn a.tmps).run Tryz.prog w=.ok v w:=by exact Va rfl zcd) (hL:M.Sublist L:=by exact zg) (hR:∀r∈U,InR r R:=by exact Jc _):Ur Tryz.prog fn Post .ret t L R:=Kv h hp hL hR
def q_c {x:Operand} {A B:Code} {b:Bool} {p q:Prop} (ht:p→CJ Tryz.prog n A t L R Q) (hf:q→CJ Tryz.prog n B t L R Q) (hc:ev t x=.bool b:=by exact zmb) (hp:(b=true)=p:=by (try simp only [zb1,zb2,zb3,zb4,zb5,zb6,zb7,zb8]);(first | done | exact rfl)) (hq:(b=false)=q:=by (try simp only [zb1,zb2,zb3,zb4,zb5,zb6,zb7,zb8]);(first | done | exact rfl)):CJ Tryz.prog n (.cond x A B) t L R Q:=
 Kgd hc (fun h=>ht (hp.mp h)) (fun h=>hf (hq.mp h))
def q_l (ha:xs.map (ev t)=args) (h:Tri Tryz.prog f args.toArray L R (fun v M U=>v=a∧L2=M∧R2=U)) (k:LJ Tryz.prog n all rest (upd t d a) L2 R2 Q) (hd:Nat.blt d n=true:=by exact rfl):LJ Tryz.prog n all (⟨some d,.call ⟨.value (.func f),xs.toArray,ts⟩,ty,pos,after,none⟩ :: rest) t L R Q:=
 Jo ha h hd fun _ _ _ ⟨e1,e2,e3⟩=>by subst e1;subst e2;subst e3;exact k
def q_d (ha:xs.map (ev t)=args) (h:Tri Tryz.prog f args.toArray L R (fun v M U=>v=a∧L2=M∧R2=U)) (k:DJ Tryz.prog tb n all Lc K rest (upd t d a) L2 R2) (hw:Yx all t g=true:=by exact rfl) (hd:Nat.blt d n=true:=by exact rfl) (hL:Lc.Sublist L2:=by exact zg) (hR:∀r∈R,InR r R2:=by first | exact Jc _ | exact (fun r h=>Ja (by simp [h]))):DJ Tryz.prog tb n all Lc K (⟨some d,.call ⟨.value (.func f),xs.toArray,ts⟩,ty,pos,after,g⟩ :: rest) t L R:=
 Yn ha h hw hd fun _ _ _ ⟨e1,e2,e3⟩=>by subst e1;subst e2;subst e3;exact ⟨hL,hR,k⟩
def q_k {γ:Type} {ws:List Nat} {t0:Nat→Value} {hd:Head γ} {m0:Nat} (g:γ) (ho:Off ws t0 t:=by exact zm) (hs:Yma t (hd.slots g):=by exact zh) (hL:(hd.L g).Sublist L:=by exact zg) (hR:∀r∈hd.R g,InR r R:=by exact Jc _) (hm:hd.m g < m0:=by dsimp only;omega):Km ws t0 hd m0 Q .normal t L R:=Ki g ho hs hL hR hm
def q_j {γ:Type} {ws:List Nat} {t0:Nat→Value} {hd:Head γ} (g:γ) (ho:Off ws t0 t:=by exact zm) (hs:Yma t (hd.slots g):=by exact zh) (hL:(hd.L g).Sublist L:=by exact zg) (hR:∀r∈hd.R g,InR r R:=by exact Jc _):Uff ws t0 hd Q .normal t L R:=Zha g ho hs hL hR
def q_p {γ:Type} {body:Code} (ws:List Nat) (hd:Head γ) (g0:γ) (hstep:∀g junk,CJ Tryz.prog n body (updL (havoc ws t junk) (hd.slots g)) (hd.L g) (hd.R g) (Km ws t hd (hd.m g) Q)) (h0:Yma t (hd.slots g0):=by exact zh) (hL:(hd.L g0).Sublist L:=by exact zg) (hR:∀r∈hd.R g0,InR r R:=by exact Jc _):CJ Tryz.prog n (.loop body) t L R Q:=Ub ws hd g0 h0 hL hR hstep
def q_s {γ:Type} {body:Code} (ws:List Nat) (slots:γ→List (Nat×Value)) (m:γ→Nat) (g0:γ) (hstep:∀g junk,CJ Tryz.prog n body (updL (havoc ws t junk) (slots g)) L R (Km ws t ⟨slots,fun _=>L,fun _=>R,m⟩ (m g) Q)) (h0:Yma t (slots g0):=by exact zh):CJ Tryz.prog n (.loop body) t L R Q:=Vgc ws slots m g0 h0 hstep
end
def qaa(h:A→B:=by exact Jy (Jx znb) rfl):=h
def qab(h:A→B:=by exact Jy zFb rfl):=h
def qac(h:A→B:=by exact Jy zRb rfl):=h
def qad(h:A→B:=by exact Jy (Ud znb) rfl):=h
def qae(h:A→B:=by intro a;refine Jp (Jh ?_);exact a):=h
def qaf(h:A→B:=by intro a;refine J7 (Jb ?_);exact a):=h
def qag(h:A→B:=by exact Jy zKb rfl):=h
def qah(h:A→B:=by exact Jy (Jx zmb) rfl):=h
def qai(h:B:=by exact Yyc zmb zm zg (by first | exact Jc _ | exact fun r h=>Ja (by simp [h]))):=h
def qaj(h:A→B:=by exact Jy zPc rfl):=h
def qak(h:A→B:=by exact Uxe tb rfl rfl rfl rfl zB zb zb):=h
def qal(h:A→B:=by exact K0 zFb rfl rfl rfl):=h
def qam(h:A→B:=by intro a;refine J7 (Jb (Jp (Jh ?_)));exact a):=h
def qan(h:A→B:=by exact Kp zFb rfl rfl rfl rfl):=h
def qao(h:A→B:=by exact K0 (Jx znb) rfl rfl rfl):=h
def qap(h:A→B:=by exact Vof rfl rfl rfl):=h
def qaq(h:A→B:=by exact Z6e tb rfl rfl):=h
def qar(h:A→B:=by exact Jy zua rfl):=h
def qat(h:A→B:=by exact K0 zRb rfl rfl rfl):=h
def qau(h:A→B:=by exact Kp zRb rfl rfl rfl rfl):=h
def qav(h:A→B:=by intro a;refine J7 ?_;exact a):=h
def qaw(h:A→B:=by intro a;refine J7 (Jb (Jp (Jp (Jh ?_))));exact a):=h
def qax(h:A→B:=by exact Vmf rfl rfl):=h
def qay(h:A→B:=by intro a;refine Jh ?_;exact a):=h
def qaz(h:A→B:=by exact Jy (Ud zmb) rfl):=h
def qa0(h:A→B:=by intro a;refine J7 (Jb (K6 ?_));exact a):=h
def qa1(h:A→B:=by intro a;refine ⟨zg,Jc _,?_⟩;exact a):=h
def qa2(h:A→B:=by intro a;refine J7 (Jb (Kc ?_));exact a):=h
def qa3(h:A→B:=by exact Jy zxa rfl):=h
def qa4(h:A→B:=by intro a;refine J7 (Jb (Jp ?_));exact a):=h
def qa5(h:A→B:=by exact Jy (Yuc rfl rfl) rfl):=h
def qa6(h:A→B:=by exact Jy (Jx zJb) rfl):=h
def qa7(h:A→B:=by exact Jy zja rfl):=h
def qa8(h:A→B:=by exact Jy zxc rfl):=h
def qa9(h:A→B:=by exact Jy zFa rfl):=h
def qba(h:A→B:=by intro a;refine Yke ?_;exact a):=h
def qbb(h:A→B:=by intro a;refine J3 (Jb (Jp (Kc (Jp (Jh ?_)))));exact a):=h
def qbc(h:A→B:=by exact K0 zxc rfl rfl rfl):=h
def qbd(h:A→B:=by exact K0 zGb rfl rfl rfl):=h
def qbe(h:A→B:=by exact Jy zGb rfl):=h
def qbf(h:A→B:=by exact Kp (Jx znb) rfl rfl rfl rfl):=h
def qbg(h:A→B:=by exact K6e rfl rfl rfl rfl zB zb zb zg):=h
def qbh(h:A→B:=by intro a;refine J7 (Jb (K6 (J6 ?_)));exact a):=h
def qbi(h:A→B:=by intro a;refine Jp (Jp (Jh ?_));exact a):=h
def qbj(h:A→B:=by intro a;refine J3 (Jf (Jb (Jh ?_)));exact a):=h
def qbk(h:A→B:=by intro a;refine K7 (Kq (K4 (Kb (Jb (Jp (Jh ?_))))));exact a):=h
def qbl(h:A→B:=by exact K0 zja rfl rfl rfl):=h
def qbm(h:A→B:=by exact Jy zdd rfl):=h
def qbn(h:A→B:=by exact Jy zyc rfl):=h
def qbo(h:A→B:=by intro a;refine J3 (Jb (Jp (Jp (Jh ?_))));exact a):=h
def qbp(h:A→B:=by exact K0 zN rfl rfl rfl):=h
def qbq(h:A→B:=by exact Jy (Ypb rfl rfl) rfl):=h
def qbr(h:A→B:=by exact Kvf rfl rfl):=h
def qbs(h:A→B:=by exact Jy zbc rfl):=h
def qbt(h:A→B:=by intro a;refine J7 (Jb (K6 (J9 (J6 (Yb (J9 (J6 ?_)))))));exact a):=h
def qbu(h:A→B:=by intro a;refine J1 (Jb ?_);exact a):=h
def qbv(h:A→B:=by intro a;refine J3 (Jb (Jp (Jh ?_)));exact a):=h
def qbw(h:A→B:=by exact Jla (v:=Value.slice _ _ _) rfl rfl rfl rfl zB zaa zV zb zg):=h
def qbx(h:A→B:=by exact Jy (Uzf rfl rfl) rfl):=h
def qby(h:A→B:=by intro a;refine J1 (Jf (Jb (Jh ?_)));exact a):=h
def qbz(h:A→B:=by exact Jy (Kxc rfl rfl) rfl):=h
def qb0(h:A→B:=by exact Jy (Jhb tb rfl rfl rfl) rfl):=h
def qb1(h:A→B:=by exact U0 (by simp only [yu,yx];rfl)):=h
def qb2(h:A→B:=by exact K0 (Jx zmb) rfl rfl rfl):=h
def qb3(h:A→B:=by exact Kp (Jx zJb) rfl rfl rfl rfl):=h
def qb4(h:A→B:=by exact Jy (Kab rfl) rfl):=h
def qb5(h:A→B:=by exact K0 zxa rfl rfl rfl):=h
def qb6(h:A→B:=by exact Jla (v:=Value.int _ _) rfl rfl rfl rfl zB zaa zV zb zg):=h
def qb7(h:A→B:=by exact K0 zFa rfl rfl rfl):=h
def qb8(h:A→B:=by exact K0 (Jx zJb) rfl rfl rfl):=h
def qb9(h:A→B:=by intro a;refine J1 (Jb (Jp ?_));exact a):=h
def qca(h:A→B:=by intro a;refine Js ?_ Kce;exact a):=h
def qcb(h:A→B:=by exact K0 zSb rfl rfl rfl):=h
def qcc(h:A→B:=by exact Kp zFa rfl rfl rfl rfl):=h
def qcd(h:A→B:=by exact Jy zEb rfl):=h
def qce(h:A→B:=by exact K0 (Jhb tb rfl rfl rfl) rfl rfl rfl):=h
def qcf(h:A→B:=by intro a;refine K7 (Kq (K4 (Kb (Jb (Jp (Jp (Jh ?_)))))));exact a):=h
def qcg(h:A→B:=by exact K0 (Ud znb) rfl rfl rfl):=h
def qch(h:A→B:=by intro a;refine J7 (Jb (K6 (J6 (J9 (J6 (Yb (J9 (J6 ?_))))))));exact a):=h
def qci(h:A→B:=by exact Kp zja rfl rfl rfl rfl):=h
def qcj(h:A→B:=by exact Kp zua rfl rfl rfl rfl):=h
def qck(h:A→B:=by exact Jy (J8 (qs:=[]) (out:=[_,_]) tb rfl rfl rfl rfl) rfl):=h
def qcl(h:A→B:=by intro a;refine J3 (Jb (Jp ?_));exact a):=h
def qcm(h:A→B:=by exact Jy zEa rfl):=h
def qcn(h:A→B:=by exact Uha (v:=Value.int _ _) tb rfl rfl rfl rfl zB zaa zV zb):=h
def qco(h:A→B:=by intro a;refine J7 (Jb (Jp (Jp ?_)));exact a):=h
def qcp(h:A→B:=by exact Vf zFb rfl rfl rfl rfl):=h
def qcq(h:A→B:=by exact Jy (J1b rfl za za) rfl):=h
def qcr(h:A→B:=by exact Kp (by first | exact K2 tb rfl rfl rfl zf (Uea yf zi rfl) | exact K2 tb rfl rfl rfl zf (Krc yf zi rfl) | exact K2 tb rfl rfl rfl zf (Vaa zi) | exact K2 tb rfl rfl rfl zf zb) rfl rfl rfl rfl):=h
def qcs(h:A→B:=by intro a;refine J7 (Jf (Jb (Jh ?_)));exact a):=h
def qct(h:A→B:=by exact Kp zdd rfl rfl rfl rfl):=h
def qcu(h:A→B:=by exact Vf zRb rfl rfl rfl rfl):=h
def qcv(h:A→B:=by exact Kp (Jhb tb rfl rfl rfl) rfl rfl rfl rfl):=h
def qcw(h:A→B:=by exact Kp zEb rfl rfl rfl rfl):=h
def qcx(h:A→B:=by exact Y3 zMb rfl):=h
def qcy(h:A→B:=by exact Uha (v:=Value.slice _ _ _) tb rfl rfl rfl rfl zB zaa zV zb):=h
def qcz(h:A→B:=by exact Jy zFc rfl):=h
def qc0(h:B:=by exact Ki ⟨(_,_),by dsimp only;omega,by dsimp only;omega,by dsimp only;omega,e⟩ zm ⟨rfl,rfl,trivial⟩ zg zBb zu):=h
def qc1(h:A→B:=by exact Jy (Ud zJb) rfl):=h
def qc2(h:A→B:=by exact K0 zua rfl rfl rfl):=h
def qc3(h:A→B:=by intro a;refine K7 (Kq (K4 (Kb (Jb (Jp ?_)))));exact a):=h
def qc4(h:A→B:=by exact Jy (Ud zob) rfl):=h
def qc5(h:A→B:=by exact Kp zxa rfl rfl rfl rfl):=h
def qc6(h:A→B:=by intro a;refine J1 (Jb (Jp (Jp (Jh ?_))));exact a):=h
def qc7(h:A→B:=by exact Y3 zic rfl):=h
def qc8(h:A→B:=by exact Jy zab rfl):=h
def qc9(h:A→B:=by exact Umb zMb rfl rfl rfl):=h
def qda(h:A→B:=by exact Jy (by first | exact V5e rfl rfl za za | exact V6e rfl rfl za) rfl):=h
def qdb(h:A→B:=by intro a;refine J7 (Jb (K6 (J9 (J6 ?_))));exact a):=h
def qdc(h:A→B:=by exact Kw rfl zMb rfl rfl):=h
def qdd(h:A→B:=by exact Jy zZa rfl):=h
def qde(h:A→B:=by exact Kp zxc rfl rfl rfl rfl):=h
def qdf(h:A→B:=by exact K0 (Ke tb ((⟨roads.o,rl⟩:OwL XRoad)) rfl rfl rfl zj zi yf zi zb) rfl rfl rfl):=h
def qdg(h:A→B:=by exact Jy zia rfl):=h
def qdh(h:A→B:=by exact K0 zEa rfl rfl rfl):=h
def qdi(h:A→B:=by exact Jy (Jm (row:=[_,_,_,_,_,_,_,_,_,_,_,_]) tb rfl rfl rfl zf zb zb) rfl):=h
def qdk(h:A→B:=by exact Jy zeb rfl):=h
def qdl(h:A→B:=by exact Jy zJa rfl):=h
def qdm(h:A→B:=by exact K0 zia rfl rfl rfl):=h
def qdn(h:A→B:=by exact Kw rfl zTb rfl rfl):=h
def qdo(h:A→B:=by exact K0 zJa rfl rfl rfl):=h
def qdp(h:A→B:=by exact K0 zIa rfl rfl rfl):=h
def qdq(h:A→B:=by exact K0 zOb rfl rfl rfl):=h
def qdr(h:A→B:=by exact Jy zIa rfl):=h
def qds(h:A→B:=by exact K0 zC rfl rfl rfl):=h
def qdt(h:A→B:=by exact Jy zPa rfl):=h
def qdu(h:A→B:=by exact K0 zPa rfl rfl rfl):=h
def qdv(h:A→B:=by exact K0 zeb rfl rfl rfl):=h
def qdw(h:A→B:=by exact Jy (by first | exact Ky (row:=[_,_,_,_,_]) tb rfl rfl rfl zy zi zb zb | exact Jm (row:=[_,_,_,_,_]) tb rfl rfl rfl zf zb zb) rfl):=h
def qdx(h:A→B:=by exact Jy (by first | exact Ky (row:=[_,_,_,_,_,_,_,_,_,_,_,_]) tb rfl rfl rfl zy zi zb zb | exact Jm (row:=[_,_,_,_,_,_,_,_,_,_,_,_]) tb rfl rfl rfl zf zb zb) rfl):=h
def qdy(h:A→B:=by exact K0 zkb rfl rfl rfl):=h
def qd0(h:B:=by exact Ki ⟨k + 1,by omega,by omega⟩ zm ⟨rfl,rfl,trivial⟩ zg zBb zu):=h
def qd1(h:A→B:=by exact Kp zJa rfl rfl rfl rfl):=h
def qd2(h:A→B:=by exact Kp zPa rfl rfl rfl rfl):=h
def qd3(h:A→B:=by exact Kp zGa rfl rfl rfl rfl):=h
end
section
structure Hd9 (p:Prop):Prop where x:p
variable {A B:Prop}
def Xaa(h:A→B:=by exact qab∘qac):=h
def Xab(h:A→B:=by exact qab∘qac∘qag):=h
def Xac(h:A→B:=by exact qae∘qad):=h
def Xad(h:A→B:=by exact qar∘qaa):=h
def Xae(h:A→B:=by exact qar∘qaa∘qav):=h
def Xaf(h:A→B:=by exact qae∘qax):=h
def Xag(h:A→B:=by exact qad∘qam):=h
def Xah(h:A→B:=by exact qab∘qac∘qaa):=h
def Xai(h:A→B:=by exact qad∘qa0):=h
def Xaj(h:A→B:=by exact qan∘qau):=h
def Xak(h:A→B:=by exact qal∘qat):=h
def Xal(h:A→B:=by exact qad∘qbh):=h
def Xan(h:A→B:=by exact qae∘qaj∘qa4):=h
def Xao(h:A→B:=by exact qaa∘qa2):=h
def Xap(h:A→B:=by exact qad∘qaw):=h
def Xaq(h:A→B:=by exact qbm∘qag):=h
def Xar(h:A→B:=by exact qaz∘qaf):=h
def Xas(h:A→B:=by exact qbm∘qaa):=h
def Xat(h:A→B:=by exact qbq∘qaf):=h
def Xau(h:A→B:=by exact qaj∘qah):=h
def Xav(h:A→B:=by exact qad∘qam∘qaa):=h
def Xaw(h:A→B:=by exact qad∘qav):=h
def Xax(h:A→B:=by exact qbn∘qaz∘qaf):=h
def Xay(h:A→B:=by exact qbj∘qar∘qaa∘qav):=h
def Xaz(h:A→B:=by exact qab∘qac∘qag∘qaa∘qa2):=h
def Xa0(h:A→B:=by exact qak∘qam):=h
def Xa1(h:A→B:=by exact qbi∘qaa):=h
def Xa2(h:A→B:=by exact qaa∘qar):=h
def Xa3(h:A→B:=by exact qak∘qad∘qbh):=h
def Xa4(h:A→B:=by exact qbb∘qaa):=h
def Xa5(h:A→B:=by exact qab∘qcn):=h
def Xa6(h:A→B:=by exact qbs∘qbs):=h
def Xa7(h:A→B:=by exact qae∘qad∘qbh):=h
def Xa8(h:A→B:=by exact qcs∘qar∘qaa∘qav):=h
def Xa9(h:A→B:=by exact qay∘qaa):=h
def Xba(h:A→B:=by exact qad∘qa2):=h
def Xbb(h:A→B:=by exact qaj∘qaf):=h
def Xbc(h:A→B:=by exact qak∘qaw):=h
def Xbd(h:A→B:=by exact qak∘qa0):=h
def Xbe(h:A→B:=by exact qab∘qac∘qab∘qac):=h
def Xbf(h:A→B:=by exact qab∘qcy):=h
def Xbg(h:A→B:=by exact qae∘qad∘qdb):=h
def Xbh(h:A→B:=by exact qae∘qaz):=h
def Xbi(h:A→B:=by exact qad∘qam∘qaa∘qbq∘qaf):=h
def Xbj(h:A→B:=by exact qae∘qbn∘qaz∘qaf):=h
def Xbk(h:A→B:=by exact qaz∘qa0):=h
def Xbl(h:A→B:=by exact qb4∘qaf):=h
def Xbm(h:A→B:=by exact qbn∘qaf):=h
def Xbn(h:A→B:=by exact qaa∘qa9):=h
def Xbo(h:A→B:=by exact qaa∘qar∘qad∘qav):=h
def Xbp(h:A→B:=by exact qb8∘qcb):=h
def Xbq(h:A→B:=by exact qae∘qaa):=h
def Xbr(h:A→B:=by exact qab∘qac∘qa5):=h
def Xbs(h:A→B:=by exact qbp∘qb2):=h
def Xbt(h:A→B:=by exact qab∘qac∘qaj∘qah):=h
def Xbu(h:A→B:=by exact qal∘qbw):=h
def Xbv(h:A→B:=by exact qal∘qat∘qao):=h
def Xbw(h:A→B:=by exact qad∘qaz):=h
def Xbx(h:A→B:=by exact qb0∘qa7):=h
def Xby(h:A→B:=by exact qad∘qaw∘qaa):=h
def Xbz(h:A→B:=by exact qc4∘qaw):=h
def Xb0(h:A→B:=by exact qak∘qad∘qa0):=h
def Xb1(h:A→B:=by exact qa1∘qba):=h
def Xb2(h:A→B:=by exact qaa∘qa9∘qad∘qav):=h
def Xb3(h:A→B:=by exact qbq∘qah):=h
def Xb4(h:A→B:=by exact qc4∘qc4):=h
def Xb5(h:A→B:=by exact qbm∘qag∘qaa∘qa2):=h
def Xb6(h:A→B:=by exact qa6∘qaa):=h
def Xb7(h:A→B:=by exact qbp∘qbu):=h
def Xb8(h:A→B:=by exact qbm∘qab∘qac):=h
def Xb9(h:A→B:=by exact qak∘qam∘qab∘qac):=h
def Xca(h:A→B:=by exact qa5∘qaf):=h
def Xcb(h:A→B:=by exact qad∘qa4):=h
def Xcc(h:A→B:=by exact qbn∘qah):=h
def Xcd(h:A→B:=by exact qaa∘qaa):=h
def Xce(h:A→B:=by exact qab∘qab∘qac∘qag):=h
def Xcf(h:A→B:=by exact qan∘qau∘qbf):=h
def Xcg(h:A→B:=by exact qay∘qbm∘qaa):=h
def Xch(h:A→B:=by exact qae∘qad∘qbt):=h
def Xci(h:A→B:=by exact qaa∘qak∘qad∘qbh):=h
def Xcj(h:A→B:=by exact qan∘qau∘qb3):=h
def Xck(h:A→B:=by exact qal∘qbw∘qby):=h
def Xcl(h:A→B:=by exact qae∘qab∘qac):=h
def Xcm(h:A→B:=by exact qba∘qbg):=h
def Xcn(h:A→B:=by exact qc4∘qa0):=h
def Xco(h:A→B:=by exact qae∘qaq):=h
def Xcp(h:A→B:=by exact qaa∘qa5):=h
def Xcq(h:A→B:=by exact qab∘qac∘qaj):=h
def Xcr(h:A→B:=by exact qay∘qbm):=h
def Xcs(h:A→B:=by exact qdr∘qaq):=h
def Xct(h:A→B:=by exact qab∘qac∘qaa∘qa9):=h
def Xcu(h:A→B:=by exact qae∘qc4):=h
def Xcv(h:A→B:=by exact qaa∘qaj∘qah):=h
def Xcw(h:A→B:=by exact qbz∘qaf):=h
def Xcx(h:A→B:=by exact qbk∘qad∘qa0):=h
def Xcy(h:A→B:=by exact qa8∘qbe):=h
def Xcz(h:A→B:=by exact qam∘qab∘qac):=h
def Xc0(h:A→B:=by exact qay∘qa6):=h
def Xc1(h:A→B:=by exact qak∘qa4):=h
def Xc2(h:A→B:=by exact qbo∘qab∘qac):=h
def Xc3(h:A→B:=by exact qbv∘qad∘qa0):=h
def Xc4(h:A→B:=by exact qbo∘qab∘qac∘qag∘qaa∘qa2):=h
def Xc5(h:A→B:=by exact qbe∘qak∘qa0):=h
def Xc6(h:A→B:=by exact qbv∘qaa):=h
def Xc7(h:A→B:=by exact qbk∘qbm):=h
def Xc8(h:A→B:=by exact qa1∘qal∘qbw∘qby):=h
def Xc9(h:A→B:=by exact qam∘qaa):=h
def Xda(h:A→B:=by exact qb4∘qah):=h
def Xdb(h:A→B:=by exact qac∘qag):=h
def Xdc(h:A→B:=by exact qbs∘qbs∘qad):=h
def Xdd(h:A→B:=by exact qam∘qa6):=h
def Xde(h:A→B:=by exact qb8∘qcb∘qal∘qat):=h
def Xdf(h:A→B:=by exact qbk∘qaa):=h
def Xdg(h:A→B:=by exact qae∘qad∘qch):=h
def Xdh(h:A→B:=by exact qcp∘qcu):=h
def Xdi(h:A→B:=by exact qct∘qan∘qau):=h
def Xdj(h:A→B:=by exact qc4∘qa4):=h
def Xdk(h:A→B:=by exact qbv∘qbm∘qaa):=h
def Xdl(h:A→B:=by exact qak∘qaw∘qab∘qac):=h
def Xdm(h:A→B:=by exact qae∘qaz∘qbh):=h
def Xdn(h:A→B:=by exact qaa∘qcm):=h
def Xdo(h:A→B:=by exact qcs∘qaa∘qar∘qad∘qav):=h
def Xdp(h:A→B:=by exact qbg∘qcg):=h
def Xdq(h:A→B:=by exact qam∘qbm):=h
def Xdr(h:A→B:=by exact qae∘qab):=h
def Xds(h:A→B:=by exact qcg∘qcg):=h
def Xdt(h:A→B:=by exact qak∘qbh):=h
def Xdu(h:A→B:=by exact qct∘qbf):=h
def Xdv(h:A→B:=by exact qab∘qab∘qac):=h
def Xdw(h:A→B:=by exact qab∘qac∘qag∘qa5):=h
def Xdx(h:A→B:=by exact qab∘qac∘qaa∘qa9∘qbq):=h
def Xdy(h:A→B:=by exact qbv∘qbm):=h
def Xdz(h:A→B:=by exact qbm∘qag∘qa9):=h
def Xd0(h:A→B:=by exact qbi∘qaa∘qaa):=h
def Xd1(h:A→B:=by exact qbb∘qa6):=h
def Xd2(h:A→B:=by exact qal∘qal∘qat):=h
def Xd3(h:A→B:=by exact qbk∘qaa∘qad∘qa0):=h
def Xd4(h:A→B:=by exact qae∘qaa∘qad):=h
def Xd5(h:A→B:=by exact qbo∘qab∘qac∘qbn∘qaf):=h
def Xd6(h:A→B:=by exact qae∘qaa∘qad∘qbh):=h
def Xd7(h:A→B:=by exact qab∘qcn∘qam):=h
def Xd8(h:A→B:=by exact qab∘qac∘qag∘qaj∘qaf):=h
def Xd9(h:A→B:=by exact qab∘qbe):=h
def Xea(h:A→B:=by exact qdl∘qaq):=h
def Xeb(h:A→B:=by exact qan∘qba):=h
def Xec(h:A→B:=by exact qaa∘qab∘qac∘qag):=h
end
end Go.Proofs.YtchfclmokpbldaaGreat
