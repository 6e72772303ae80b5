/-
  The steps of a walk under short names: what a step asks is shown by the tactic that stands with its name. Written by a program of ours (mkrun.py). By an AI agent; no person has read it.
-/
import Derived.Test.YtchfclmokpbldaaGreatTab
import Derived.Test.YtchfclmokpbldaaGreatOwn
set_option linter.all false
set_option maxHeartbeats 4000000
namespace Go.Proofs.YtchfclmokpbldaaGreat
open Go.Aw Go
section
variable {A B:Prop}
def qb {b v:Bool} {p:Prop} (h:b=v) (e:(b=v)=p:=by (try simp only [zb1,zb2,zb3,zb4,zb5,zb6,zb7,zb8]);(first | done | exact rfl)):p:=e.mp h
section
variable {P:Program} {fn:Func} {Post:Yy} {n m:Nat} {t:Nat→Value} {L M:LB} {R U:LS} {Q K:Kt} {all:Array Oper} {ty:TypeId} {pos:String} {after:Array Edge} {rest:List Oper} {d:Tmp} {g:Option (Nat×Bool)} {Lc Lc2:LB} {late:List Nat} {v a:Value} {f:FuncId} {xs:List Operand} {ts:Array TypeId} {args:List Value} {L2:LB} {R2:LS}
def q_r (M:LB) (U:LS) (h:∀c n a w,Fr n t a→St c L R w→(results fn a.tmps).run Tryz.prog w=.ok v w) (hp:Post v M U) (hL:M.Sublist L:=by exact zi) (hR:∀r∈U,InR r R:=by exact Jd _):Uz Tryz.prog fn Post .ret t L R:=Kq h hp hL hR
def q_i (M:LB) (U:LS) (hp:Post v M U) (h:∀c n a w,Fr n t a→St c L R w→(results fn a.tmps).run Tryz.prog w=.ok v w:=by exact Yc rfl zBc) (hL:M.Sublist L:=by exact zi) (hR:∀r∈U,InR r R:=by exact Jd _):Uz Tryz.prog fn Post .ret t L R:=Kq h hp hL hR
def q_b (M:LB) (U:LS) (hp:Post v M U) (h:∀c n a w,Fr n t a→St c L R w→(results fn a.tmps).run Tryz.prog w=.ok v w:=by exact Yc rfl zFc) (hL:M.Sublist L:=by exact zi) (hR:∀r∈U,InR r R:=by exact Jd _):Uz Tryz.prog fn Post .ret t L R:=Kq h hp hL hR
def q_c {x:Operand} {A B:Code} {b:Bool} {p q:Prop} (ht:p→CJ Tryz.prog n A t L R Q) (hf:q→CJ Tryz.prog n B t L R Q) (hc:ev t x=.bool b:=by exact zfb) (hp:(b=true)=p:=by (try simp only [zb1,zb2,zb3,zb4,zb5,zb6,zb7,zb8]);(first | done | exact rfl)) (hq:(b=false)=q:=by (try simp only [zb1,zb2,zb3,zb4,zb5,zb6,zb7,zb8]);(first | done | exact rfl)):CJ Tryz.prog n (.cond x A B) t L R Q:=
 Kad hc (fun h=>ht (hp.mp h)) (fun h=>hf (hq.mp h))
def q_l (ha:xs.map (ev t)=args) (h:Tri Tryz.prog f args.toArray L R (fun v M U=>v=a∧L2=M∧R2=U)) (k:LJ Tryz.prog n all rest (upd t d a) L2 R2 Q) (hd:Nat.blt d n=true:=by exact rfl):LJ Tryz.prog n all (⟨some d,.call ⟨.value (.func f),xs.toArray,ts⟩,ty,pos,after,none⟩ :: rest) t L R Q:=
 Jy ha h hd fun _ _ _ ⟨e1,e2,e3⟩=>by subst e1;subst e2;subst e3;exact k
def q_d (ha:xs.map (ev t)=args) (h:Tri Tryz.prog f args.toArray L R (fun v M U=>v=a∧L2=M∧R2=U)) (k:DJ Tryz.prog tb n all Lc K rest (upd t d a) L2 R2) (hw:Yk all t g=true:=by exact rfl) (hd:Nat.blt d n=true:=by exact rfl) (hL:Lc.Sublist L2:=by exact zi) (hR:∀r∈R,InR r R2:=by first | exact Jd _ | exact (fun r h=>Ja (by simp [h]))):DJ Tryz.prog tb n all Lc K (⟨some d,.call ⟨.value (.func f),xs.toArray,ts⟩,ty,pos,after,g⟩ :: rest) t L R:=
 Yj ha h hw hd fun _ _ _ ⟨e1,e2,e3⟩=>by subst e1;subst e2;subst e3;exact ⟨hL,hR,k⟩
def q_k {γ:Type} {ws:List Nat} {t0:Nat→Value} {hd:Head γ} {m0:Nat} (g:γ) (ho:Off ws t0 t:=by exact zm) (hs:Yea t (hd.slots g):=by exact zh) (hL:(hd.L g).Sublist L:=by exact zi) (hR:∀r∈hd.R g,InR r R:=by exact Jd _) (hm:hd.m g < m0:=by dsimp only;omega):Kj ws t0 hd m0 Q .normal t L R:=Kr g ho hs hL hR hm
def q_j {γ:Type} {ws:List Nat} {t0:Nat→Value} {hd:Head γ} (g:γ) (ho:Off ws t0 t:=by exact zm) (hs:Yea t (hd.slots g):=by exact zh) (hL:(hd.L g).Sublist L:=by exact zi) (hR:∀r∈hd.R g,InR r R:=by exact Jd _):Jvf ws t0 hd Q .normal t L R:=Ubc g ho hs hL hR
def q_p {γ:Type} {body:Code} (ws:List Nat) (hd:Head γ) (g0:γ) (hstep:∀g junk,CJ Tryz.prog n body (updL (havoc ws t junk) (hd.slots g)) (hd.L g) (hd.R g) (Kj ws t hd (hd.m g) Q)) (h0:Yea t (hd.slots g0):=by exact zh) (hL:(hd.L g0).Sublist L:=by exact zi) (hR:∀r∈hd.R g0,InR r R:=by exact Jd _):CJ Tryz.prog n (.loop body) t L R Q:=Vx ws hd g0 h0 hL hR hstep
def q_s {γ:Type} {body:Code} (ws:List Nat) (slots:γ→List (Nat×Value)) (m:γ→Nat) (g0:γ) (hstep:∀g junk,CJ Tryz.prog n body (updL (havoc ws t junk) (slots g)) L R (Kj ws t ⟨slots,fun _=>L,fun _=>R,m⟩ (m g) Q)) (h0:Yea t (slots g0):=by exact zh):CJ Tryz.prog n (.loop body) t L R Q:=K4c ws slots m g0 h0 hstep
end
def qaa(h:A→B:=by exact Jx (Jt zgb) rfl):=h
def qab(h:A→B:=by exact Jx zub rfl):=h
def qac(h:A→B:=by exact Jx zHb rfl):=h
def qad(h:A→B:=by exact Jx (Uc zgb) rfl):=h
def qae(h:A→B:=by intro a;refine Jr (Jh ?_);exact a):=h
def qaf(h:A→B:=by intro a;refine J6 (Jc ?_);exact a):=h
def qag(h:A→B:=by exact Jx zBb rfl):=h
def qah(h:A→B:=by exact Jx (Jt zfb) rfl):=h
def qai(h:B:=by exact Zac zfb zm zi (by first | exact Jd _ | exact fun r h=>Ja (by simp [h]))):=h
def qaj(h:A→B:=by exact Jx zyc rfl):=h
def qak(h:A→B:=by exact Vie tb rfl rfl rfl rfl zy zb zb):=h
def qal(h:A→B:=by exact K2 zub rfl rfl rfl):=h
def qam(h:A→B:=by intro a;refine J6 (Jc (Jr (Jh ?_)));exact a):=h
def qan(h:A→B:=by exact Ku zub rfl rfl rfl rfl):=h
def qao(h:A→B:=by exact K2 (Jt zgb) rfl rfl rfl):=h
def qap(h:A→B:=by exact K1f rfl rfl rfl):=h
def qaq(h:A→B:=by exact Ype tb rfl rfl):=h
def qar(h:A→B:=by exact Jx zfa rfl):=h
def qat(h:A→B:=by exact K2 zHb rfl rfl rfl):=h
def qau(h:A→B:=by exact Ku zHb rfl rfl rfl rfl):=h
def qav(h:A→B:=by intro a;refine J6 ?_;exact a):=h
def qaw(h:A→B:=by intro a;refine J6 (Jc (Jr (Jr (Jh ?_))));exact a):=h
def qax(h:A→B:=by exact Uuf rfl rfl):=h
def qay(h:A→B:=by intro a;refine Jh ?_;exact a):=h
def qaz(h:A→B:=by exact Jx (Uc zfb) rfl):=h
def qa0(h:A→B:=by intro a;refine J6 (Jc (U4 ?_));exact a):=h
def qa1(h:A→B:=by intro a;refine ⟨zi,Jd _,?_⟩;exact a):=h
def qa2(h:A→B:=by intro a;refine J6 (Jc (Km ?_));exact a):=h
def qa3(h:A→B:=by exact Jx zMa rfl):=h
def qa4(h:A→B:=by intro a;refine J6 (Jc (Jr ?_));exact a):=h
def qa5(h:A→B:=by exact Jx (Kvc rfl rfl) rfl):=h
def qa6(h:A→B:=by exact Jx (Jt zEb) rfl):=h
def qa7(h:A→B:=by exact Jx zha rfl):=h
def qa8(h:A→B:=by exact Jx zgc rfl):=h
def qa9(h:A→B:=by exact Jx zEa rfl):=h
def qba(h:A→B:=by intro a;refine Kde ?_;exact a):=h
def qbb(h:A→B:=by intro a;refine Ka (Jc (Jr (Km (Jr (Jh ?_)))));exact a):=h
def qbc(h:A→B:=by exact K2 zgc rfl rfl rfl):=h
def qbd(h:A→B:=by exact K2 zIb rfl rfl rfl):=h
def qbe(h:A→B:=by exact Jx zIb rfl):=h
def qbf(h:A→B:=by exact Ku (Jt zgb) rfl rfl rfl rfl):=h
def qbg(h:A→B:=by exact Jze rfl rfl rfl rfl zy zb zb zi):=h
def qbh(h:A→B:=by intro a;refine J6 (Jc (U4 (Ke ?_)));exact a):=h
def qbi(h:A→B:=by intro a;refine Jr (Jr (Jh ?_));exact a):=h
def qbj(h:A→B:=by intro a;refine Ka (Jk (Jc (Jh ?_)));exact a):=h
def qbk(h:A→B:=by intro a;refine Ug (Kw (Ux (Kd (Jc (Jr (Jh ?_))))));exact a):=h
def qbl(h:A→B:=by exact K2 zha rfl rfl rfl):=h
def qbm(h:A→B:=by exact Jx zMc rfl):=h
def qbn(h:A→B:=by exact Jx zac rfl):=h
def qbo(h:A→B:=by intro a;refine Ka (Jc (Jr (Jr (Jh ?_))));exact a):=h
def qbp(h:A→B:=by exact K2 zJ rfl rfl rfl):=h
def qbq(h:A→B:=by exact Jx (Jnc rfl rfl) rfl):=h
def qbr(h:A→B:=by exact Zle rfl rfl):=h
def qbs(h:A→B:=by exact Jx zJb rfl):=h
def qbt(h:A→B:=by intro a;refine J6 (Jc (U4 (J8 (Ke (Yg (J8 (Ke ?_)))))));exact a):=h
def qbu(h:A→B:=by intro a;refine Jz (Jc ?_);exact a):=h
def qbv(h:A→B:=by intro a;refine Ka (Jc (Jr (Jh ?_)));exact a):=h
def qbw(h:A→B:=by exact Zi (v:=Value.slice _ _ _) rfl rfl rfl rfl zy zga zda zb zi):=h
def qbx(h:A→B:=by exact Jx (Khf rfl rfl) rfl):=h
def qby(h:A→B:=by intro a;refine Jz (Jk (Jc (Jh ?_)));exact a):=h
def qbz(h:A→B:=by exact Jx (Jkc rfl rfl) rfl):=h
def qb0(h:A→B:=by exact Jx (Vha tb rfl rfl rfl) rfl):=h
def qb1(h:A→B:=by exact Vf (by simp only [yp,yv];rfl)):=h
def qb2(h:A→B:=by exact K2 (Jt zfb) rfl rfl rfl):=h
def qb3(h:A→B:=by exact Ku (Jt zEb) rfl rfl rfl rfl):=h
def qb4(h:A→B:=by exact Jx (V8a rfl) rfl):=h
def qb5(h:A→B:=by exact K2 zMa rfl rfl rfl):=h
def qb6(h:A→B:=by exact Zi (v:=Value.int _ _) rfl rfl rfl rfl zy zga zda zb zi):=h
def qb7(h:A→B:=by exact K2 zEa rfl rfl rfl):=h
def qb8(h:A→B:=by exact K2 (Jt zEb) rfl rfl rfl):=h
def qb9(h:A→B:=by intro a;refine Jz (Jc (Jr ?_));exact a):=h
def qca(h:A→B:=by intro a;refine Jn ?_ Zvd;exact a):=h
def qcb(h:A→B:=by exact K2 zLb rfl rfl rfl):=h
def qcc(h:A→B:=by exact Ku zEa rfl rfl rfl rfl):=h
def qcd(h:A→B:=by exact Jx zDb rfl):=h
def qce(h:A→B:=by exact K2 (Vha tb rfl rfl rfl) rfl rfl rfl):=h
def qcf(h:A→B:=by intro a;refine Ug (Kw (Ux (Kd (Jc (Jr (Jr (Jh ?_)))))));exact a):=h
def qcg(h:A→B:=by exact K2 (Uc zgb) rfl rfl rfl):=h
def qch(h:A→B:=by intro a;refine J6 (Jc (U4 (Ke (J8 (Ke (Yg (J8 (Ke ?_))))))));exact a):=h
def qci(h:A→B:=by exact Ku zha rfl rfl rfl rfl):=h
def qcj(h:A→B:=by exact Ku zfa rfl rfl rfl rfl):=h
def qck(h:A→B:=by exact Jx (Kf (qs:=[]) (out:=[_,_]) tb rfl rfl rfl rfl) rfl):=h
def qcl(h:A→B:=by intro a;refine Ka (Jc (Jr ?_));exact a):=h
def qcm(h:A→B:=by exact Jx zta rfl):=h
def qcn(h:A→B:=by exact Ura (v:=Value.int _ _) tb rfl rfl rfl rfl zy zga zda zb):=h
def qco(h:A→B:=by intro a;refine J6 (Jc (Jr (Jr ?_)));exact a):=h
def qcp(h:A→B:=by exact V2 zub rfl rfl rfl rfl):=h
def qcq(h:A→B:=by exact Jx (U7d rfl za za) rfl):=h
def qcr(h:A→B:=by exact Ku (by first | exact Kv tb rfl rfl rfl zf (Kwa yf zg rfl) | exact Kv tb rfl rfl rfl zf (J7c yf zg rfl) | exact Kv tb rfl rfl rfl zf (U9a zg) | exact Kv tb rfl rfl rfl zf zb) rfl rfl rfl rfl):=h
def qcs(h:A→B:=by intro a;refine J6 (Jk (Jc (Jh ?_)));exact a):=h
def qct(h:A→B:=by exact Ku zMc rfl rfl rfl rfl):=h
def qcu(h:A→B:=by exact V2 zHb rfl rfl rfl rfl):=h
def qcv(h:A→B:=by exact Ku (Vha tb rfl rfl rfl) rfl rfl rfl rfl):=h
def qcw(h:A→B:=by exact Ku zDb rfl rfl rfl rfl):=h
def qcx(h:A→B:=by exact Jqa zMb rfl):=h
def qcy(h:A→B:=by exact Ura (v:=Value.slice _ _ _) tb rfl rfl rfl rfl zy zga zda zb):=h
def qcz(h:A→B:=by exact Jx (Zsc (e:=3) tb rfl zc rfl rfl rfl rfl rfl) rfl):=h
def qc0(h:B:=by exact Kr ⟨(_,_),by dsimp only;omega,by dsimp only;omega,by dsimp only;omega,e⟩ zm ⟨rfl,rfl,trivial⟩ zi ztb zx):=h
def qc1(h:A→B:=by exact Jx (Uc zEb) rfl):=h
def qc2(h:A→B:=by exact K2 zfa rfl rfl rfl):=h
def qc3(h:A→B:=by intro a;refine Ug (Kw (Ux (Kd (Jc (Jr ?_)))));exact a):=h
def qc4(h:A→B:=by exact Jx (Uc zhb) rfl):=h
def qc5(h:A→B:=by exact Ku zMa rfl rfl rfl rfl):=h
def qc6(h:A→B:=by intro a;refine Jz (Jc (Jr (Jr (Jh ?_))));exact a):=h
def qc7(h:A→B:=by exact Jqa zNb rfl):=h
def qc8(h:A→B:=by exact Jx zVa rfl):=h
def qc9(h:A→B:=by exact K0d zMb rfl rfl rfl):=h
def qda(h:A→B:=by exact Jx (by first | exact K5e rfl rfl za za | exact U6e rfl rfl za) rfl):=h
def qdb(h:A→B:=by intro a;refine J6 (Jc (U4 (J8 (Ke ?_))));exact a):=h
def qdd(h:A→B:=by exact Jx zUa rfl):=h
def qde(h:A→B:=by exact Ku zgc rfl rfl rfl rfl):=h
def qdg(h:A→B:=by exact Jx zsa rfl):=h
def qdh(h:A→B:=by exact K2 zta rfl rfl rfl):=h
def qdi(h:A→B:=by exact Jx (Jm (row:=[_,_,_,_,_,_,_,_,_,_,_,_]) tb rfl rfl rfl zf zb zb) rfl):=h
def qdk(h:A→B:=by exact Jx zZa rfl):=h
def qdl(h:A→B:=by exact Jx zGa rfl):=h
def qdm(h:A→B:=by exact K2 zsa rfl rfl rfl):=h
def qdo(h:A→B:=by exact K2 zGa rfl rfl rfl):=h
def qdp(h:A→B:=by exact K2 zFa rfl rfl rfl):=h
def qdq(h:A→B:=by exact K2 zrb rfl rfl rfl):=h
def qdr(h:A→B:=by exact Jx zFa rfl):=h
def qds(h:A→B:=by exact K2 zB rfl rfl rfl):=h
def qdt(h:A→B:=by exact Jx zwa rfl):=h
def qdu(h:A→B:=by exact K2 zwa rfl rfl rfl):=h
def qdv(h:A→B:=by exact K2 zZa rfl rfl rfl):=h
def qdw(h:A→B:=by exact Jx (by first | exact Kz (row:=[_,_,_,_,_]) tb rfl rfl rfl zt zg zb zb | exact Jm (row:=[_,_,_,_,_]) tb rfl rfl rfl zf zb zb) rfl):=h
def qdx(h:A→B:=by exact Jx (by first | exact Kz (row:=[_,_,_,_,_,_,_,_,_,_,_,_]) tb rfl rfl rfl zt zg zb zb | exact Jm (row:=[_,_,_,_,_,_,_,_,_,_,_,_]) tb rfl rfl rfl zf zb zb) rfl):=h
def qdy(h:A→B:=by exact K2 (by first | exact Jf tb rfl rfl rfl rfl zt (i:=k + 1) zk za | exact Jl tb rfl rfl rfl rfl (i:=k + 1) zk za) rfl rfl rfl):=h
def qd0(h:B:=by exact Kr ⟨k + 1,by omega,by omega⟩ zm ⟨rfl,rfl,trivial⟩ zi ztb zx):=h
def qd1(h:A→B:=by exact Ku zGa rfl rfl rfl rfl):=h
def qd2(h:A→B:=by exact Ku zwa rfl rfl rfl rfl):=h
end
section
structure Hd9 (p:Prop):Prop where x:p
variable {A B:Prop}
def Xaa(h:A→B:=by exact qab∘qac):=h
def Xab(h:A→B:=by exact qab∘qac∘qag):=h
def Xac(h:A→B:=by exact qae∘qad):=h
def Xad(h:A→B:=by exact qar∘qaa):=h
def Xae(h:A→B:=by exact qar∘qaa∘qav):=h
def Xaf(h:A→B:=by exact qae∘qax):=h
def Xag(h:A→B:=by exact qad∘qam):=h
def Xah(h:A→B:=by exact qad∘qa0):=h
def Xai(h:A→B:=by exact qad∘qbh):=h
def Xak(h:A→B:=by exact qae∘qaj∘qa4):=h
def Xal(h:A→B:=by exact qaa∘qa2):=h
def Xam(h:A→B:=by exact qab∘qac∘qaa):=h
def Xan(h:A→B:=by exact qal∘qat):=h
def Xao(h:A→B:=by exact qbq∘qaf):=h
def Xap(h:A→B:=by exact qad∘qaw):=h
def Xaq(h:A→B:=by exact qbm∘qag):=h
def Xar(h:A→B:=by exact qan∘qau):=h
def Xas(h:A→B:=by exact qaz∘qaf):=h
def Xat(h:A→B:=by exact qbm∘qaa):=h
def Xau(h:A→B:=by exact qad∘qam∘qaa):=h
def Xav(h:A→B:=by exact qaj∘qah):=h
def Xaw(h:A→B:=by exact qab∘qac∘qag∘qaa∘qa2):=h
def Xax(h:A→B:=by exact qbj∘qar∘qaa∘qav):=h
def Xay(h:A→B:=by exact qak∘qam):=h
def Xaz(h:A→B:=by exact qak∘qad∘qbh):=h
def Xa0(h:A→B:=by exact qbb∘qaa):=h
def Xa1(h:A→B:=by exact qay∘qaa):=h
def Xa2(h:A→B:=by exact qaz∘qa0):=h
def Xa3(h:A→B:=by exact qbs∘qbs):=h
def Xa4(h:A→B:=by exact qbn∘qaz∘qaf):=h
def Xa5(h:A→B:=by exact qab∘qac∘qa5):=h
def Xa6(h:A→B:=by exact qae∘qad∘qbh):=h
def Xa7(h:A→B:=by exact qcs∘qar∘qaa∘qav):=h
def Xa8(h:A→B:=by exact qak∘qaw):=h
def Xa9(h:A→B:=by exact qae∘qad∘qdb):=h
def Xba(h:A→B:=by exact qad∘qam∘qaa∘qbq∘qaf):=h
def Xbb(h:A→B:=by exact qb4∘qaf):=h
def Xbc(h:A→B:=by exact qab∘qac∘qaj∘qah):=h
def Xbd(h:A→B:=by exact qae∘qaa):=h
def Xbe(h:A→B:=by exact qae∘qaz):=h
def Xbf(h:A→B:=by exact qad∘qav):=h
def Xbg(h:A→B:=by exact qaa∘qaa):=h
def Xbh(h:A→B:=by exact qab∘qcn):=h
def Xbi(h:A→B:=by exact qbp∘qb2):=h
def Xbj(h:A→B:=by exact qab∘qac∘qbn):=h
def Xbk(h:A→B:=by exact qad∘qaz):=h
def Xbl(h:A→B:=by exact qak∘qad∘qa0):=h
def Xbm(h:A→B:=by exact qaj∘qaf):=h
def Xbn(h:A→B:=by exact qab∘qcy):=h
def Xbo(h:A→B:=by exact qb8∘qcb):=h
def Xbp(h:A→B:=by exact qae∘qbn∘qaz∘qaf):=h
def Xbq(h:A→B:=by exact qab∘qac∘qab∘qac):=h
def Xbr(h:A→B:=by exact qak∘qa0):=h
def Xbs(h:A→B:=by exact qc4∘qc4):=h
def Xbt(h:A→B:=by exact qbm∘qag∘qaa∘qa2):=h
def Xbu(h:A→B:=by exact qbq∘qah):=h
def Xbv(h:A→B:=by exact qb0∘qa7):=h
def Xbw(h:A→B:=by exact qbp∘qbu):=h
def Xbx(h:A→B:=by exact qak∘qam∘qab∘qac):=h
def Xby(h:A→B:=by exact qae∘qad∘qbt):=h
def Xbz(h:A→B:=by exact qaa∘qak∘qad∘qbh):=h
def Xb0(h:A→B:=by exact qc4∘qaw):=h
def Xb1(h:A→B:=by exact qbi∘qaa):=h
def Xb2(h:A→B:=by exact qad∘qaw∘qaa):=h
def Xb3(h:A→B:=by exact qay∘qbm∘qaa):=h
def Xb4(h:A→B:=by exact qal∘qat∘qao):=h
def Xb5(h:A→B:=by exact qad∘qa4):=h
def Xb6(h:A→B:=by exact qab∘qab∘qac∘qag):=h
def Xb7(h:A→B:=by exact qae∘qab∘qac):=h
def Xb8(h:A→B:=by exact qaa∘qa5):=h
def Xb9(h:A→B:=by exact qaa∘qa9):=h
def Xca(h:A→B:=by exact qbk∘qad∘qa0):=h
def Xcb(h:A→B:=by exact qab∘qac∘qaj):=h
def Xcc(h:A→B:=by exact qad∘qa2):=h
def Xcd(h:A→B:=by exact qa8∘qbe):=h
def Xce(h:A→B:=by exact qb4∘qah):=h
def Xcf(h:A→B:=by exact qbv∘qad∘qa0):=h
def Xcg(h:A→B:=by exact qaa∘qar):=h
def Xch(h:A→B:=by exact qba∘qbg):=h
def Xci(h:A→B:=by exact qbm∘qab∘qac):=h
def Xcj(h:A→B:=by exact qam∘qab∘qac):=h
def Xck(h:A→B:=by exact qae∘qc4):=h
def Xcl(h:A→B:=by exact qc4∘qa0):=h
def Xcm(h:A→B:=by exact qbn∘qaf):=h
def Xcn(h:A→B:=by exact qbz∘qaf):=h
def Xco(h:A→B:=by exact qbo∘qab∘qac∘qag∘qaa∘qa2):=h
def Xcp(h:A→B:=by exact qab∘qac∘qag∘qa5):=h
def Xcq(h:A→B:=by exact qbo∘qaa):=h
def Xcr(h:A→B:=by exact qaa∘qa9∘qad∘qav):=h
def Xcs(h:A→B:=by exact qbk∘qbm):=h
def Xct(h:A→B:=by exact qb8∘qcb∘qal∘qat):=h
def Xcu(h:A→B:=by exact qae∘qad∘qch):=h
def Xcv(h:A→B:=by exact qbo∘qab∘qac∘qbn):=h
def Xcw(h:A→B:=by exact qct∘qan∘qau):=h
def Xcx(h:A→B:=by exact qc4∘qa4):=h
def Xcy(h:A→B:=by exact qay∘qbm):=h
def Xcz(h:A→B:=by exact qac∘qag):=h
def Xc0(h:A→B:=by exact qa1∘qba):=h
def Xc1(h:A→B:=by exact qal∘qbw):=h
def Xc2(h:A→B:=by exact qa6∘qaa):=h
def Xc3(h:A→B:=by exact qak∘qa4):=h
def Xc4(h:A→B:=by exact qal∘qal∘qat):=h
def Xc5(h:A→B:=by exact qbk∘qaa):=h
def Xc6(h:A→B:=by exact qaa∘qcm):=h
def Xc7(h:A→B:=by exact qam∘qbm):=h
def Xc8(h:A→B:=by exact qae∘qab):=h
def Xc9(h:A→B:=by exact qcp∘qcu):=h
def Xda(h:A→B:=by exact qby∘qar∘qaa∘qav):=h
def Xdb(h:A→B:=by exact qdr∘qaq):=h
def Xdc(h:A→B:=by exact qan∘qau∘qbf):=h
def Xdd(h:A→B:=by exact qct∘qbf):=h
def Xde(h:A→B:=by exact qbe∘qak∘qa0):=h
def Xdf(h:A→B:=by exact qaa∘qar∘qad∘qav):=h
def Xdg(h:A→B:=by exact qdw∘qaq):=h
def Xdh(h:A→B:=by exact qam∘qaa):=h
def Xdi(h:A→B:=by exact qbg∘qcg):=h
def Xdj(h:A→B:=by exact qae∘qaa∘qad):=h
def Xdk(h:A→B:=by exact qbo∘qab∘qac∘qbn∘qaf):=h
def Xdl(h:A→B:=by exact qae∘qaa∘qad∘qbh):=h
def Xdm(h:A→B:=by exact qab∘qab∘qac):=h
def Xdn(h:A→B:=by exact qcg∘qcg):=h
def Xdo(h:A→B:=by exact qa9∘qab∘qcn):=h
def Xdp(h:A→B:=by exact qab∘qbe):=h
def Xdq(h:A→B:=by exact qdl∘qaq):=h
def Xdr(h:A→B:=by exact qbs∘qbs∘qaq):=h
end
end Go.Proofs.YtchfclmokpbldaaGreat
