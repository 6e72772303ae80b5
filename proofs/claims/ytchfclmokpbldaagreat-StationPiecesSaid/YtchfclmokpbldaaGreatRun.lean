/-
  The steps of a walk under short names: what a step asks is shown by the tactic that stands with its name. Written by a program of ours (mkrun.py). By an AI agent; no person has read it.
-/
import Derived.Test.YtchfclmokpbldaaGreatTab
import Derived.Test.YtchfclmokpbldaaGreatOwn
set_option linter.all false
set_option maxHeartbeats 4000000
namespace Go.Proofs.YtchfclmokpbldaaGreat
open Go.Aw Go
section
variable {A B:Prop}
def qb {b v:Bool} {p:Prop} (h:b=v) (e:(b=v)=p:=by (try simp only [zb1,zb2,zb3,zb4,zb5,zb6,zb7,zb8]);(first | done | exact rfl)):p:=e.mp h
section
variable {P:Program} {fn:Func} {Post:Yo} {n m:Nat} {t:Nat→Value} {L M:LB} {R U:LS} {Q K:Kt} {all:Array Oper} {ty:TypeId} {pos:String} {after:Array Edge} {rest:List Oper} {d:Tmp} {g:Option (Nat×Bool)} {Lc Lc2:LB} {late:List Nat} {v a:Value} {f:FuncId} {xs:List Operand} {ts:Array TypeId} {args:List Value} {L2:LB} {R2:LS}
def q_r (M:LB) (U:LS) (h:∀c n a w,Fr n t a→St c L R w→(results fn a.tmps).run Tryz.prog w=.ok v w) (hp:Post v M U) (hL:M.Sublist L:=by exact zi) (hR:∀r∈U,InR r R:=by exact Jc _):Un Tryz.prog fn Post .ret t L R:=K0 h hp hL hR
def q_i (M:LB) (U:LS) (hp:Post v M U) (h:∀c n a w,Fr n t a→St c L R w→(results fn a.tmps).run Tryz.prog w=.ok v w:=by exact U8 rfl zEc) (hL:M.Sublist L:=by exact zi) (hR:∀r∈U,InR r R:=by exact Jc _):Un Tryz.prog fn Post .ret t L R:=K0 h hp hL hR
def q_b (M:LB) (U:LS) (hp:Post v M U) (h:∀c n a w,Fr n t a→St c L R w→(results fn a.tmps).run Tryz.prog w=.ok v w:=by exact U8 rfl zNc) (hL:M.Sublist L:=by exact zi) (hR:∀r∈U,InR r R:=by exact Jc _):Un Tryz.prog fn Post .ret t L R:=K0 h hp hL hR
def q_c {x:Operand} {A B:Code} {b:Bool} {p q:Prop} (ht:p→CJ Tryz.prog n A t L R Q) (hf:q→CJ Tryz.prog n B t L R Q) (hc:ev t x=.bool b:=by exact zfb) (hp:(b=true)=p:=by (try simp only [zb1,zb2,zb3,zb4,zb5,zb6,zb7,zb8]);(first | done | exact rfl)) (hq:(b=false)=q:=by (try simp only [zb1,zb2,zb3,zb4,zb5,zb6,zb7,zb8]);(first | done | exact rfl)):CJ Tryz.prog n (.cond x A B) t L R Q:=
 Jwd hc (fun h=>ht (hp.mp h)) (fun h=>hf (hq.mp h))
def q_l (ha:xs.map (ev t)=args) (h:Tri Tryz.prog f args.toArray L R (fun v M U=>v=a∧L2=M∧R2=U)) (k:LJ Tryz.prog n all rest (upd t d a) L2 R2 Q) (hd:Nat.blt d n=true:=by exact rfl):LJ Tryz.prog n all (⟨some d,.call ⟨.value (.func f),xs.toArray,ts⟩,ty,pos,after,none⟩ :: rest) t L R Q:=
 Jq ha h hd fun _ _ _ ⟨e1,e2,e3⟩=>by subst e1;subst e2;subst e3;exact k
def q_d (ha:xs.map (ev t)=args) (h:Tri Tryz.prog f args.toArray L R (fun v M U=>v=a∧L2=M∧R2=U)) (k:DJ Tryz.prog tb n all Lc K rest (upd t d a) L2 R2) (hw:Yj all t g=true:=by exact rfl) (hd:Nat.blt d n=true:=by exact rfl) (hL:Lc.Sublist L2:=by exact zi) (hR:∀r∈R,InR r R2:=by first | exact Jc _ | exact (fun r h=>Ja (by simp [h]))):DJ Tryz.prog tb n all Lc K (⟨some d,.call ⟨.value (.func f),xs.toArray,ts⟩,ty,pos,after,g⟩ :: rest) t L R:=
 Yp ha h hw hd fun _ _ _ ⟨e1,e2,e3⟩=>by subst e1;subst e2;subst e3;exact ⟨hL,hR,k⟩
def q_k {γ:Type} {ws:List Nat} {t0:Nat→Value} {hd:Head γ} {m0:Nat} (g:γ) (ho:Off ws t0 t:=by exact zm) (hs:Vta t (hd.slots g):=by exact zh) (hL:(hd.L g).Sublist L:=by exact zi) (hR:∀r∈hd.R g,InR r R:=by exact Jc _) (hm:hd.m g < m0:=by dsimp only;omega):Kj ws t0 hd m0 Q .normal t L R:=Kq g ho hs hL hR hm
def q_j {γ:Type} {ws:List Nat} {t0:Nat→Value} {hd:Head γ} (g:γ) (ho:Off ws t0 t:=by exact zm) (hs:Vta t (hd.slots g):=by exact zh) (hL:(hd.L g).Sublist L:=by exact zi) (hR:∀r∈hd.R g,InR r R:=by exact Jc _):Yqe ws t0 hd Q .normal t L R:=Yra g ho hs hL hR
def q_p {γ:Type} {body:Code} (ws:List Nat) (hd:Head γ) (g0:γ) (hstep:∀g junk,CJ Tryz.prog n body (updL (havoc ws t junk) (hd.slots g)) (hd.L g) (hd.R g) (Kj ws t hd (hd.m g) Q)) (h0:Vta t (hd.slots g0):=by exact zh) (hL:(hd.L g0).Sublist L:=by exact zi) (hR:∀r∈hd.R g0,InR r R:=by exact Jc _):CJ Tryz.prog n (.loop body) t L R Q:=K7 ws hd g0 h0 hL hR hstep
def q_s {γ:Type} {body:Code} (ws:List Nat) (slots:γ→List (Nat×Value)) (m:γ→Nat) (g0:γ) (hstep:∀g junk,CJ Tryz.prog n body (updL (havoc ws t junk) (slots g)) L R (Kj ws t ⟨slots,fun _=>L,fun _=>R,m⟩ (m g) Q)) (h0:Vta t (slots g0):=by exact zh):CJ Tryz.prog n (.loop body) t L R Q:=Jvc ws slots m g0 h0 hstep
end
def qaa(h:A→B:=by exact Jx (Jz zgb) rfl):=h
def qab(h:A→B:=by exact Jx zsb rfl):=h
def qac(h:A→B:=by exact Jx zIb rfl):=h
def qad(h:A→B:=by exact Jx (Uz zgb) rfl):=h
def qae(h:A→B:=by intro a;refine Jl (Jf ?_);exact a):=h
def qaf(h:A→B:=by intro a;refine J5 (Jb ?_);exact a):=h
def qag(h:A→B:=by exact Jx zzb rfl):=h
def qah(h:A→B:=by exact Jx (Jz zfb) rfl):=h
def qai(h:B:=by exact Uvc zfb zm zi (by first | exact Jc _ | exact fun r h=>Ja (by simp [h]))):=h
def qaj(h:A→B:=by exact Jx (Zhb rfl rfl) rfl):=h
def qak(h:A→B:=by exact Jze tb rfl rfl rfl rfl zB zb zb):=h
def qal(h:A→B:=by exact K3 zsb rfl rfl rfl):=h
def qam(h:A→B:=by intro a;refine J5 (Jb (Jl (Jf ?_)));exact a):=h
def qan(h:A→B:=by exact Kn zsb rfl rfl rfl rfl):=h
def qao(h:A→B:=by exact K3 (Jz zgb) rfl rfl rfl):=h
def qap(h:A→B:=by exact Uaf rfl rfl rfl):=h
def qaq(h:A→B:=by exact V5e tb rfl rfl):=h
def qar(h:A→B:=by exact Jx zta rfl):=h
def qat(h:A→B:=by exact K3 zIb rfl rfl rfl):=h
def qau(h:A→B:=by exact Kn zIb rfl rfl rfl rfl):=h
def qav(h:A→B:=by intro a;refine J5 ?_;exact a):=h
def qaw(h:A→B:=by intro a;refine J5 (Jb (Jl (Jl (Jf ?_))));exact a):=h
def qax(h:A→B:=by exact Jqf rfl rfl):=h
def qay(h:A→B:=by intro a;refine Jf ?_;exact a):=h
def qaz(h:A→B:=by exact Jx (Uz zfb) rfl):=h
def qa0(h:A→B:=by intro a;refine J5 (Jb (Up ?_));exact a):=h
def qa1(h:A→B:=by intro a;refine ⟨zi,Jc _,?_⟩;exact a):=h
def qa2(h:A→B:=by intro a;refine J5 (Jb (Kb ?_));exact a):=h
def qa3(h:A→B:=by exact Jx zya rfl):=h
def qa4(h:A→B:=by intro a;refine J5 (Jb (Jl ?_));exact a):=h
def qa5(h:A→B:=by exact Jx (Vcc rfl rfl) rfl):=h
def qa6(h:A→B:=by exact Jx (Jz zBb) rfl):=h
def qa7(h:A→B:=by exact Jx zaa rfl):=h
def qa8(h:A→B:=by exact Jx znc rfl):=h
def qa9(h:A→B:=by exact Jx zFa rfl):=h
def qba(h:A→B:=by intro a;refine Kre ?_;exact a):=h
def qbb(h:A→B:=by intro a;refine J1 (Jb (Jl (Kb (Jl (Jf ?_)))));exact a):=h
def qbc(h:A→B:=by exact K3 znc rfl rfl rfl):=h
def qbd(h:A→B:=by exact K3 zwb rfl rfl rfl):=h
def qbe(h:A→B:=by exact Jx zwb rfl):=h
def qbf(h:A→B:=by exact Kn (Jz zgb) rfl rfl rfl rfl):=h
def qbg(h:A→B:=by exact Jge rfl rfl rfl rfl zB zb zb zi):=h
def qbh(h:A→B:=by intro a;refine J5 (Jb (Up (Kg ?_)));exact a):=h
def qbi(h:A→B:=by intro a;refine Jl (Jl (Jf ?_));exact a):=h
def qbj(h:A→B:=by intro a;refine J1 (Jd (Jb (Jf ?_)));exact a):=h
def qbk(h:A→B:=by intro a;refine K4 (Km (K2 (J8 (Jb (Jl (Jf ?_))))));exact a):=h
def qbl(h:A→B:=by exact K3 zaa rfl rfl rfl):=h
def qbm(h:A→B:=by exact Jx zOc rfl):=h
def qbn(h:A→B:=by exact Jx zec rfl):=h
def qbo(h:A→B:=by intro a;refine J1 (Jb (Jl (Jl (Jf ?_))));exact a):=h
def qbp(h:A→B:=by exact K3 zN rfl rfl rfl):=h
def qbq(h:A→B:=by exact Jx (Unc rfl rfl) rfl):=h
def qbr(h:A→B:=by exact Vne rfl rfl):=h
def qbs(h:A→B:=by exact Jx zZb rfl):=h
def qbt(h:A→B:=by intro a;refine J5 (Jb (Up (Kc (Kg (Vx (Kc (Kg ?_)))))));exact a):=h
def qbu(h:A→B:=by intro a;refine J3 (Jb ?_);exact a):=h
def qbv(h:A→B:=by intro a;refine J1 (Jb (Jl (Jf ?_)));exact a):=h
def qbw(h:A→B:=by exact Zw (v:=Value.slice _ _ _) rfl rfl rfl rfl zB zZ zV zb zi):=h
def qbx(h:A→B:=by exact Jx (Y6e rfl rfl) rfl):=h
def qby(h:A→B:=by intro a;refine J3 (Jd (Jb (Jf ?_)));exact a):=h
def qbz(h:A→B:=by exact Jx (Uod rfl rfl) rfl):=h
def qb0(h:A→B:=by exact Jx (Uqa tb rfl rfl rfl) rfl):=h
def qb1(h:A→B:=by exact V0 (by simp only [yz,yw];rfl)):=h
def qb2(h:A→B:=by exact K3 (Jz zfb) rfl rfl rfl):=h
def qb3(h:A→B:=by exact Kn (Jz zBb) rfl rfl rfl rfl):=h
def qb4(h:A→B:=by exact Jx (Kpb rfl) rfl):=h
def qb5(h:A→B:=by exact K3 zya rfl rfl rfl):=h
def qb6(h:A→B:=by exact Zw (v:=Value.int _ _) rfl rfl rfl rfl zB zZ zV zb zi):=h
def qb7(h:A→B:=by exact K3 zFa rfl rfl rfl):=h
def qb8(h:A→B:=by exact K3 (Jz zBb) rfl rfl rfl):=h
def qb9(h:A→B:=by intro a;refine J3 (Jb (Jl ?_));exact a):=h
def qca(h:A→B:=by intro a;refine Jp ?_ V5d;exact a):=h
def qcb(h:A→B:=by exact K3 zJb rfl rfl rfl):=h
def qcc(h:A→B:=by exact Kn zFa rfl rfl rfl rfl):=h
def qcd(h:A→B:=by exact Jx zub rfl):=h
def qce(h:A→B:=by exact K3 (Uqa tb rfl rfl rfl) rfl rfl rfl):=h
def qcf(h:A→B:=by intro a;refine K4 (Km (K2 (J8 (Jb (Jl (Jl (Jf ?_)))))));exact a):=h
def qcg(h:A→B:=by exact K3 (Uz zgb) rfl rfl rfl):=h
def qch(h:A→B:=by intro a;refine J5 (Jb (Up (Kg (Kc (Kg (Vx (Kc (Kg ?_))))))));exact a):=h
def qci(h:A→B:=by exact Kn zaa rfl rfl rfl rfl):=h
def qcj(h:A→B:=by exact Kn zta rfl rfl rfl rfl):=h
def qck(h:A→B:=by exact Jx (J4 (qs:=[]) (out:=[_,_]) tb rfl rfl rfl rfl) rfl):=h
def qcl(h:A→B:=by intro a;refine J1 (Jb (Jl ?_));exact a):=h
def qcm(h:A→B:=by exact Jx zEa rfl):=h
def qcn(h:A→B:=by exact Uga (v:=Value.int _ _) tb rfl rfl rfl rfl zB zZ zV zb):=h
def qco(h:A→B:=by intro a;refine J5 (Jb (Jl (Jl ?_)));exact a):=h
def qcp(h:A→B:=by exact Vy zsb rfl rfl rfl rfl):=h
def qcq(h:A→B:=by exact Jx (Z1a rfl za za) rfl):=h
def qcr(h:A→B:=by exact Kn (by first | exact Kx tb rfl rfl rfl zf (Jqa yf zg rfl) | exact Kx tb rfl rfl rfl zf (Zrb yf zg rfl) | exact Kx tb rfl rfl rfl zf (Kpa zg) | exact Kx tb rfl rfl rfl zf zb) rfl rfl rfl rfl):=h
def qcs(h:A→B:=by intro a;refine J5 (Jd (Jb (Jf ?_)));exact a):=h
def qct(h:A→B:=by exact Kn zOc rfl rfl rfl rfl):=h
def qcu(h:A→B:=by exact Vy zIb rfl rfl rfl rfl):=h
def qcv(h:A→B:=by exact Kn (Uqa tb rfl rfl rfl) rfl rfl rfl rfl):=h
def qcw(h:A→B:=by exact Kn zub rfl rfl rfl rfl):=h
def qcx(h:A→B:=by exact Yl zEb rfl):=h
def qcy(h:A→B:=by exact Uga (v:=Value.slice _ _ _) tb rfl rfl rfl rfl zB zZ zV zb):=h
def qcz(h:A→B:=by exact Jx zuc rfl):=h
def qc0(h:B:=by exact Kq ⟨(_,_),by dsimp only;omega,by dsimp only;omega,by dsimp only;omega,e⟩ zm ⟨rfl,rfl,trivial⟩ zi zxb zw):=h
def qc1(h:A→B:=by exact Jx (Uz zBb) rfl):=h
def qc2(h:A→B:=by exact K3 zta rfl rfl rfl):=h
def qc3(h:A→B:=by intro a;refine K4 (Km (K2 (J8 (Jb (Jl ?_)))));exact a):=h
def qc4(h:A→B:=by exact Jx (Uz zhb) rfl):=h
def qc5(h:A→B:=by exact Kn zya rfl rfl rfl rfl):=h
def qc6(h:A→B:=by intro a;refine J3 (Jb (Jl (Jl (Jf ?_))));exact a):=h
def qc7(h:A→B:=by exact Yl zac rfl):=h
def qc8(h:A→B:=by exact Jx zVa rfl):=h
def qc9(h:A→B:=by exact J1b zEb rfl rfl rfl):=h
def qda(h:A→B:=by exact Jx (by first | exact Z2d rfl rfl za za | exact Kbe rfl rfl za) rfl):=h
def qdb(h:A→B:=by intro a;refine J5 (Jb (Up (Kc (Kg ?_))));exact a):=h
def qdc(h:A→B:=by exact Kw rfl zEb rfl rfl):=h
def qdd(h:A→B:=by exact Jx zUa rfl):=h
def qde(h:A→B:=by exact Kn znc rfl rfl rfl rfl):=h
def qdf(h:A→B:=by exact K3 (Kd tb ((⟨roads.o,rl⟩:OwL XRoad)) rfl rfl rfl zj zg yf zg zb) rfl rfl rfl):=h
def qdg(h:A→B:=by exact Jx zha rfl):=h
def qdh(h:A→B:=by exact K3 zEa rfl rfl rfl):=h
def qdi(h:A→B:=by exact Jx (Jo (row:=[_,_,_,_,_,_,_,_,_,_,_,_]) tb rfl rfl rfl zf zb zb) rfl):=h
def qdk(h:A→B:=by exact Jx zXa rfl):=h
def qdl(h:A→B:=by exact Jx zHa rfl):=h
def qdm(h:A→B:=by exact K3 zha rfl rfl rfl):=h
def qdn(h:A→B:=by exact Kw rfl zKb rfl rfl):=h
def qdo(h:A→B:=by exact K3 zHa rfl rfl rfl):=h
def qdp(h:A→B:=by exact K3 zva rfl rfl rfl):=h
def qdq(h:A→B:=by exact K3 zGb rfl rfl rfl):=h
def qdr(h:A→B:=by exact Jx zva rfl):=h
def qds(h:A→B:=by exact K3 zD rfl rfl rfl):=h
def qdt(h:A→B:=by exact Jx zxa rfl):=h
def qdu(h:A→B:=by exact K3 zxa rfl rfl rfl):=h
def qdv(h:A→B:=by exact K3 zXa rfl rfl rfl):=h
def qdw(h:A→B:=by exact Jx (by first | exact Kz (row:=[_,_,_,_,_]) tb rfl rfl rfl zx zg zb zb | exact Jo (row:=[_,_,_,_,_]) tb rfl rfl rfl zf zb zb) rfl):=h
def qdx(h:A→B:=by exact Jx (by first | exact Kz (row:=[_,_,_,_,_,_,_,_,_,_,_,_]) tb rfl rfl rfl zx zg zb zb | exact Jo (row:=[_,_,_,_,_,_,_,_,_,_,_,_]) tb rfl rfl rfl zf zb zb) rfl):=h
def qdy(h:A→B:=by exact K3 zcb rfl rfl rfl):=h
def qd0(h:B:=by exact Kq ⟨k + 1,by omega,by omega⟩ zm ⟨rfl,rfl,trivial⟩ zi zxb zw):=h
def qd1(h:A→B:=by exact Kn zHa rfl rfl rfl rfl):=h
def qd2(h:A→B:=by exact Kn zxa rfl rfl rfl rfl):=h
def qd3(h:A→B:=by exact Kn zGa rfl rfl rfl rfl):=h
end
section
structure Hd9 (p:Prop):Prop where x:p
variable {A B:Prop}
def Xaa(h:A→B:=by exact qab∘qac):=h
def Xab(h:A→B:=by exact qab∘qac∘qag):=h
def Xac(h:A→B:=by exact qae∘qad):=h
def Xad(h:A→B:=by exact qar∘qaa):=h
def Xae(h:A→B:=by exact qar∘qaa∘qav):=h
def Xaf(h:A→B:=by exact qan∘qau):=h
def Xag(h:A→B:=by exact qae∘qax):=h
def Xah(h:A→B:=by exact qad∘qam):=h
def Xai(h:A→B:=by exact qad∘qa0):=h
def Xaj(h:A→B:=by exact qab∘qac∘qaa):=h
def Xak(h:A→B:=by exact qbm∘qag):=h
def Xal(h:A→B:=by exact qal∘qat):=h
def Xan(h:A→B:=by exact qae∘qaj∘qa4):=h
def Xao(h:A→B:=by exact qaa∘qa2):=h
def Xap(h:A→B:=by exact qaz∘qaf):=h
def Xaq(h:A→B:=by exact qad∘qaw):=h
def Xar(h:A→B:=by exact qad∘qav):=h
def Xas(h:A→B:=by exact qbm∘qaa):=h
def Xat(h:A→B:=by exact qaj∘qah):=h
def Xau(h:A→B:=by exact qad∘qam∘qaa):=h
def Xav(h:A→B:=by exact qad∘qbh):=h
def Xaw(h:A→B:=by exact qbi∘qaa):=h
def Xax(h:A→B:=by exact qbq∘qaf):=h
def Xay(h:A→B:=by exact qbn∘qaz∘qaf):=h
def Xaz(h:A→B:=by exact qab∘qac∘qag∘qaa∘qa2):=h
def Xa0(h:A→B:=by exact qaa∘qar):=h
def Xa1(h:A→B:=by exact qak∘qam):=h
def Xa2(h:A→B:=by exact qaj∘qaf):=h
def Xa3(h:A→B:=by exact qbj∘qar∘qaa∘qav):=h
def Xa4(h:A→B:=by exact qad∘qa2):=h
def Xa5(h:A→B:=by exact qab∘qac∘qa5):=h
def Xa6(h:A→B:=by exact qae∘qad∘qbh):=h
def Xa7(h:A→B:=by exact qab∘qcn):=h
def Xa8(h:A→B:=by exact qak∘qa0):=h
def Xa9(h:A→B:=by exact qab∘qcy):=h
def Xba(h:A→B:=by exact qaa∘qa9):=h
def Xbb(h:A→B:=by exact qbb∘qaa):=h
def Xbc(h:A→B:=by exact qae∘qad∘qdb):=h
def Xbd(h:A→B:=by exact qaa∘qar∘qad∘qav):=h
def Xbe(h:A→B:=by exact qb8∘qcb):=h
def Xbf(h:A→B:=by exact qbn∘qaf):=h
def Xbg(h:A→B:=by exact qb4∘qaf):=h
def Xbh(h:A→B:=by exact qak∘qaw):=h
def Xbi(h:A→B:=by exact qay∘qaa):=h
def Xbj(h:A→B:=by exact qcs∘qar∘qaa∘qav):=h
def Xbk(h:A→B:=by exact qae∘qbn∘qaz∘qaf):=h
def Xbl(h:A→B:=by exact qaz∘qa0):=h
def Xbm(h:A→B:=by exact qae∘qaz):=h
def Xbn(h:A→B:=by exact qab∘qac∘qaj∘qah):=h
def Xbo(h:A→B:=by exact qab∘qac∘qab∘qac):=h
def Xbp(h:A→B:=by exact qad∘qam∘qaa∘qbq∘qaf):=h
def Xbq(h:A→B:=by exact qal∘qbw):=h
def Xbr(h:A→B:=by exact qae∘qaa):=h
def Xbs(h:A→B:=by exact qa1∘qba):=h
def Xbt(h:A→B:=by exact qbs∘qbs):=h
def Xbu(h:A→B:=by exact qaa∘qa9∘qad∘qav):=h
def Xbv(h:A→B:=by exact qc4∘qaw):=h
def Xbw(h:A→B:=by exact qc4∘qc4):=h
def Xbx(h:A→B:=by exact qal∘qat∘qao):=h
def Xby(h:A→B:=by exact qa6∘qaa):=h
def Xbz(h:A→B:=by exact qad∘qaz):=h
def Xb0(h:A→B:=by exact qak∘qad∘qbh):=h
def Xb1(h:A→B:=by exact qa5∘qaf):=h
def Xb2(h:A→B:=by exact qak∘qam∘qab∘qac):=h
def Xb3(h:A→B:=by exact qb0∘qa7):=h
def Xb4(h:A→B:=by exact qad∘qa4):=h
def Xb5(h:A→B:=by exact qaa∘qaj∘qah):=h
def Xb6(h:A→B:=by exact qab∘qab∘qac∘qag):=h
def Xb7(h:A→B:=by exact qae∘qad∘qbt):=h
def Xb8(h:A→B:=by exact qan∘qau∘qb3):=h
def Xb9(h:A→B:=by exact qal∘qbw∘qby):=h
def Xca(h:A→B:=by exact qaa∘qa5):=h
def Xcb(h:A→B:=by exact qae∘qab∘qac):=h
def Xcc(h:A→B:=by exact qbm∘qag∘qaa∘qa2):=h
def Xcd(h:A→B:=by exact qay∘qbm∘qaa):=h
def Xce(h:A→B:=by exact qan∘qau∘qbf):=h
def Xcf(h:A→B:=by exact qak∘qad∘qa0):=h
def Xcg(h:A→B:=by exact qae∘qaq):=h
def Xch(h:A→B:=by exact qay∘qa6):=h
def Xci(h:A→B:=by exact qam∘qaa):=h
def Xcj(h:A→B:=by exact qbz∘qaf):=h
def Xck(h:A→B:=by exact qab∘qac∘qaj):=h
def Xcl(h:A→B:=by exact qbm∘qab∘qac):=h
def Xcm(h:A→B:=by exact qa8∘qbe):=h
def Xcn(h:A→B:=by exact qbq∘qah):=h
def Xco(h:A→B:=by exact qbv∘qad∘qa0):=h
def Xcp(h:A→B:=by exact qbo∘qab∘qac∘qag∘qaa∘qa2):=h
def Xcq(h:A→B:=by exact qbn∘qah):=h
def Xcr(h:A→B:=by exact qam∘qab∘qac):=h
def Xcs(h:A→B:=by exact qbe∘qak∘qa0):=h
def Xct(h:A→B:=by exact qc4∘qa0):=h
def Xcu(h:A→B:=by exact qa1∘qal∘qbw∘qby):=h
def Xcv(h:A→B:=by exact qb4∘qah):=h
def Xcw(h:A→B:=by exact qac∘qag):=h
def Xcx(h:A→B:=by exact qbk∘qad∘qa0):=h
def Xcy(h:A→B:=by exact qbv∘qaa):=h
def Xcz(h:A→B:=by exact qae∘qc4):=h
def Xc0(h:A→B:=by exact qay∘qbm):=h
def Xc1(h:A→B:=by exact qbp∘qbu):=h
def Xc2(h:A→B:=by exact qam∘qa6):=h
def Xc3(h:A→B:=by exact qaa∘qaj∘qaf):=h
def Xc4(h:A→B:=by exact qb8∘qcb∘qal∘qat):=h
def Xc5(h:A→B:=by exact qaa∘qcm):=h
def Xc6(h:A→B:=by exact qae∘qad∘qch):=h
def Xc7(h:A→B:=by exact qbo∘qab∘qac):=h
def Xc8(h:A→B:=by exact qcp∘qcu):=h
def Xc9(h:A→B:=by exact qct∘qan∘qau):=h
def Xda(h:A→B:=by exact qc4∘qa4):=h
def Xdb(h:A→B:=by exact qct∘qbf):=h
def Xdc(h:A→B:=by exact qba∘qbg):=h
def Xdd(h:A→B:=by exact qbk∘qbm):=h
def Xde(h:A→B:=by exact qbp∘qb2):=h
def Xdf(h:A→B:=by exact qcs∘qaa∘qar∘qad∘qav):=h
def Xdg(h:A→B:=by exact qbk∘qaa):=h
def Xdh(h:A→B:=by exact qae∘qab):=h
def Xdi(h:A→B:=by exact qab∘qac∘qag∘qa5):=h
def Xdj(h:A→B:=by exact qdr∘qaq):=h
def Xdk(h:A→B:=by exact qak∘qbh):=h
def Xdl(h:A→B:=by exact qcg∘qcg):=h
def Xdm(h:A→B:=by exact qaa∘qak∘qad∘qbh):=h
def Xdn(h:A→B:=by exact qbb∘qa6):=h
def Xdo(h:A→B:=by exact qak∘qa4):=h
def Xdp(h:A→B:=by exact qal∘qal∘qat):=h
def Xdq(h:A→B:=by exact qbo∘qab∘qac∘qbn∘qaf):=h
def Xdr(h:A→B:=by exact qae∘qaa∘qad∘qbh):=h
def Xds(h:A→B:=by exact qab∘qab∘qac):=h
def Xdt(h:A→B:=by exact qa9∘qab∘qcn):=h
def Xdu(h:A→B:=by exact qab∘qac∘qag∘qaj∘qaf):=h
def Xdv(h:A→B:=by exact qab∘qbe):=h
def Xdw(h:A→B:=by exact qdl∘qaq):=h
def Xdx(h:A→B:=by exact qan∘qba):=h
end
end Go.Proofs.YtchfclmokpbldaaGreat
