/-
  The steps of a walk under short names: what a step asks is shown by the tactic that stands with its name. Written by a program of ours (mkrun.py). By an AI agent; no person has read it.
-/
import Derived.Test.YtchfclmokpbldaaGreatTab
import Derived.Test.YtchfclmokpbldaaGreatOwn
set_option linter.all false
set_option maxHeartbeats 4000000
namespace Go.Proofs.YtchfclmokpbldaaGreat
open Go.Aw Go
section
variable {A B:Prop}
def qb {b v:Bool} {p:Prop} (h:b=v) (e:(b=v)=p:=by (try simp only [zb1,zb2,zb3,zb4,zb5,zb6,zb7,zb8]);(first | done | exact rfl)):p:=e.mp h
section
variable {P:Program} {fn:Func} {Post:Zc} {n m:Nat} {t:Nat→Value} {L M:LB} {R U:LS} {Q K:K2} {all:Array Oper} {ty:TypeId} {pos:String} {after:Array Edge} {rest:List Oper} {d:Tmp} {g:Option (Nat×Bool)} {Lc Lc2:LB} {late:List Nat} {v a:Value} {f:FuncId} {xs:List Operand} {ts:Array TypeId} {args:List Value} {L2:LB} {R2:LS}
def q_r (M:LB) (U:LS) (h:∀c n a w,Fr n t a→St c L R w→(results fn a.tmps).run Tryz.prog w=.ok v w) (hp:Post v M U) (hL:M.Sublist L:=by exact zk) (hR:∀r∈U,InR r R:=by exact Jc _):U8 Tryz.prog fn Post .ret t L R:=Ku h hp hL hR
def q_i (M:LB) (U:LS) (hp:Post v M U) (h:∀c n a w,Fr n t a→St c L R w→(results fn a.tmps).run Tryz.prog w=.ok v w:=by exact U3 rfl zed) (hL:M.Sublist L:=by exact zk) (hR:∀r∈U,InR r R:=by exact Jc _):U8 Tryz.prog fn Post .ret t L R:=Ku h hp hL hR
def q_b (M:LB) (U:LS) (hp:Post v M U) (h:∀c n a w,Fr n t a→St c L R w→(results fn a.tmps).run Tryz.prog w=.ok v w:=by exact U3 rfl zjd) (hL:M.Sublist L:=by exact zk) (hR:∀r∈U,InR r R:=by exact Jc _):U8 Tryz.prog fn Post .ret t L R:=Ku h hp hL hR
def q_c {x:Operand} {A B:Code} {b:Bool} {p q:Prop} (ht:p→CJ Tryz.prog n A t L R Q) (hf:q→CJ Tryz.prog n B t L R Q) (hc:ev t x=.bool b:=by exact ztb) (hp:(b=true)=p:=by (try simp only [zb1,zb2,zb3,zb4,zb5,zb6,zb7,zb8]);(first | done | exact rfl)) (hq:(b=false)=q:=by (try simp only [zb1,zb2,zb3,zb4,zb5,zb6,zb7,zb8]);(first | done | exact rfl)):CJ Tryz.prog n (.cond x A B) t L R Q:=
 Urd hc (fun h=>ht (hp.mp h)) (fun h=>hf (hq.mp h))
def q_l (ha:xs.map (ev t)=args) (h:Tri Tryz.prog f args.toArray L R (fun v M U=>v=a∧L2=M∧R2=U)) (k:LJ Tryz.prog n all rest (upd t d a) L2 R2 Q) (hd:Nat.blt d n=true:=by exact rfl):LJ Tryz.prog n all (⟨some d,.call ⟨.value (.func f),xs.toArray,ts⟩,ty,pos,after,none⟩ :: rest) t L R Q:=
 Ju ha h hd fun _ _ _ ⟨e1,e2,e3⟩=>by subst e1;subst e2;subst e3;exact k
def q_d (ha:xs.map (ev t)=args) (h:Tri Tryz.prog f args.toArray L R (fun v M U=>v=a∧L2=M∧R2=U)) (k:DJ Tryz.prog tb n all Lc K rest (upd t d a) L2 R2) (hw:Y9 all t g=true:=by exact rfl) (hd:Nat.blt d n=true:=by exact rfl) (hL:Lc.Sublist L2:=by exact zk) (hR:∀r∈R,InR r R2:=by first | exact Jc _ | exact (fun r h=>Jb (by simp [h]))):DJ Tryz.prog tb n all Lc K (⟨some d,.call ⟨.value (.func f),xs.toArray,ts⟩,ty,pos,after,g⟩ :: rest) t L R:=
 Vn ha h hw hd fun _ _ _ ⟨e1,e2,e3⟩=>by subst e1;subst e2;subst e3;exact ⟨hL,hR,k⟩
def q_k {γ:Type} {ws:List Nat} {t0:Nat→Value} {hd:Head γ} {m0:Nat} (g:γ) (ho:Off ws t0 t:=by exact zp) (hs:V4a t (hd.slots g):=by exact zg) (hL:(hd.L g).Sublist L:=by exact zk) (hR:∀r∈hd.R g,InR r R:=by exact Jc _) (hm:hd.m g < m0:=by dsimp only;omega):Kp ws t0 hd m0 Q .normal t L R:=Ka g ho hs hL hR hm
def q_j {γ:Type} {ws:List Nat} {t0:Nat→Value} {hd:Head γ} (g:γ) (ho:Off ws t0 t:=by exact zp) (hs:V4a t (hd.slots g):=by exact zg) (hL:(hd.L g).Sublist L:=by exact zk) (hR:∀r∈hd.R g,InR r R:=by exact Jc _):Vre ws t0 hd Q .normal t L R:=K2a g ho hs hL hR
def q_p {γ:Type} {body:Code} (ws:List Nat) (hd:Head γ) (g0:γ) (hstep:∀g junk,CJ Tryz.prog n body (updL (havoc ws t junk) (hd.slots g)) (hd.L g) (hd.R g) (Kp ws t hd (hd.m g) Q)) (h0:V4a t (hd.slots g0):=by exact zg) (hL:(hd.L g0).Sublist L:=by exact zk) (hR:∀r∈hd.R g0,InR r R:=by exact Jc _):CJ Tryz.prog n (.loop body) t L R Q:=K8 ws hd g0 h0 hL hR hstep
def q_s {γ:Type} {body:Code} (ws:List Nat) (slots:γ→List (Nat×Value)) (m:γ→Nat) (g0:γ) (hstep:∀g junk,CJ Tryz.prog n body (updL (havoc ws t junk) (slots g)) L R (Kp ws t ⟨slots,fun _=>L,fun _=>R,m⟩ (m g) Q)) (h0:V4a t (slots g0):=by exact zg):CJ Tryz.prog n (.loop body) t L R Q:=Uuc ws slots m g0 h0 hstep
end
def qaa(h:A→B:=by exact J0 (J2 zub) rfl):=h
def qab(h:A→B:=by exact J0 zIb rfl):=h
def qac(h:A→B:=by exact J0 zOb rfl):=h
def qad(h:A→B:=by exact J0 (Ux zub) rfl):=h
def qae(h:A→B:=by intro a;refine Ji (Je ?_);exact a):=h
def qaf(h:A→B:=by intro a;refine J6 (Ja ?_);exact a):=h
def qag(h:A→B:=by exact J0 zHb rfl):=h
def qah(h:A→B:=by exact J0 (J2 ztb) rfl):=h
def qai(h:B:=by exact Zkc ztb zp zk (by first | exact Jc _ | exact fun r h=>Jb (by simp [h]))):=h
def qaj(h:A→B:=by exact J0 zBc rfl):=h
def qak(h:A→B:=by exact Zyd tb rfl rfl rfl rfl zD ze ze):=h
def qal(h:A→B:=by exact Kq zIb rfl rfl rfl):=h
def qam(h:A→B:=by intro a;refine J6 (Ja (Ji (Je ?_)));exact a):=h
def qan(h:A→B:=by exact Kz zIb rfl rfl rfl rfl):=h
def qao(h:A→B:=by exact Kq (J2 zub) rfl rfl rfl):=h
def qap(h:A→B:=by exact Ugf rfl rfl rfl):=h
def qaq(h:A→B:=by exact Yee tb rfl rfl):=h
def qar(h:A→B:=by exact J0 zva rfl):=h
def qat(h:A→B:=by exact Kq zOb rfl rfl rfl):=h
def qau(h:A→B:=by exact Kz zOb rfl rfl rfl rfl):=h
def qav(h:A→B:=by intro a;refine J6 ?_;exact a):=h
def qaw(h:A→B:=by intro a;refine J6 (Ja (Ji (Ji (Je ?_))));exact a):=h
def qax(h:A→B:=by exact Uhf rfl rfl):=h
def qay(h:A→B:=by intro a;refine Je ?_;exact a):=h
def qaz(h:A→B:=by exact J0 (Ux ztb) rfl):=h
def qa0(h:A→B:=by intro a;refine J6 (Ja (Ud ?_));exact a):=h
def qa1(h:A→B:=by intro a;refine ⟨zk,Jc _,?_⟩;exact a):=h
def qa2(h:A→B:=by intro a;refine J6 (Ja (Jy ?_));exact a):=h
def qa3(h:A→B:=by exact J0 zwa rfl):=h
def qa4(h:A→B:=by intro a;refine J6 (Ja (Ji ?_));exact a):=h
def qa5(h:A→B:=by exact J0 zKc rfl):=h
def qa6(h:A→B:=by exact J0 (J2 zSb) rfl):=h
def qa7(h:A→B:=by exact J0 zba rfl):=h
def qa8(h:A→B:=by exact J0 zuc rfl):=h
def qa9(h:A→B:=by exact J0 zHa rfl):=h
def qba(h:A→B:=by intro a;refine K6e ?_;exact a):=h
def qbb(h:A→B:=by intro a;refine Jt (Ja (Ji (Jy (Ji (Je ?_)))));exact a):=h
def qbc(h:A→B:=by exact Kq zuc rfl rfl rfl):=h
def qbd(h:A→B:=by exact Kq zKb rfl rfl rfl):=h
def qbe(h:A→B:=by exact J0 zKb rfl):=h
def qbf(h:A→B:=by exact Kz (J2 zub) rfl rfl rfl rfl):=h
def qbg(h:A→B:=by exact Zud rfl rfl rfl rfl zD ze ze zk):=h
def qbh(h:A→B:=by intro a;refine J6 (Ja (Ud (J1 ?_)));exact a):=h
def qbi(h:A→B:=by intro a;refine Ji (Ji (Je ?_));exact a):=h
def qbj(h:A→B:=by intro a;refine Jt (Jg (Ja (Je ?_)));exact a):=h
def qbk(h:A→B:=by intro a;refine K5 (Kk (K1 (J8 (Ja (Ji (Je ?_))))));exact a):=h
def qbl(h:A→B:=by exact Kq zba rfl rfl rfl):=h
def qbm(h:A→B:=by exact J0 zrd rfl):=h
def qbn(h:A→B:=by exact J0 zvc rfl):=h
def qbo(h:A→B:=by intro a;refine Jt (Ja (Ji (Ji (Je ?_))));exact a):=h
def qbp(h:A→B:=by exact Kq zQ rfl rfl rfl):=h
def qbq(h:A→B:=by exact J0 (Vtb rfl rfl) rfl):=h
def qbr(h:A→B:=by exact Vme rfl rfl):=h
def qbs(h:A→B:=by exact J0 zkc rfl):=h
def qbt(h:A→B:=by intro a;refine J6 (Ja (Ud (Jv (J1 (K9 (Jv (J1 ?_)))))));exact a):=h
def qbu(h:A→B:=by intro a;refine J9 (Ja ?_);exact a):=h
def qbv(h:A→B:=by intro a;refine Jt (Ja (Ji (Je ?_)));exact a):=h
def qbw(h:A→B:=by exact Jja (v:=Value.slice _ _ _) rfl rfl rfl rfl zD zga zda ze zk):=h
def qbx(h:A→B:=by exact J0 (Vbd rfl rfl) rfl):=h
def qby(h:A→B:=by intro a;refine J9 (Jg (Ja (Je ?_)));exact a):=h
def qbz(h:A→B:=by exact J0 zJc rfl):=h
def qb0(h:A→B:=by exact J0 zMc rfl):=h
def qb1(h:A→B:=by exact V4 (by simp only [yA,yv];rfl)):=h
def qb2(h:A→B:=by exact Kq (J2 ztb) rfl rfl rfl):=h
def qb3(h:A→B:=by exact Kz (J2 zSb) rfl rfl rfl rfl):=h
def qb4(h:A→B:=by exact J0 (Uva rfl) rfl):=h
def qb5(h:A→B:=by exact Kq zwa rfl rfl rfl):=h
def qb6(h:A→B:=by exact Jja (v:=Value.int _ _) rfl rfl rfl rfl zD zga zda ze zk):=h
def qb7(h:A→B:=by exact Kq zHa rfl rfl rfl):=h
def qb8(h:A→B:=by exact Kq (J2 zSb) rfl rfl rfl):=h
def qb9(h:A→B:=by intro a;refine J9 (Ja (Ji ?_));exact a):=h
def qca(h:A→B:=by intro a;refine Jx ?_ Ypd;exact a):=h
def qcb(h:A→B:=by exact Kq zXb rfl rfl rfl):=h
def qcc(h:A→B:=by exact Kz zHa rfl rfl rfl rfl):=h
def qcd(h:A→B:=by exact J0 zac rfl):=h
def qce(h:A→B:=by exact Kq zMc rfl rfl rfl):=h
def qcf(h:A→B:=by intro a;refine K5 (Kk (K1 (J8 (Ja (Ji (Ji (Je ?_)))))));exact a):=h
def qcg(h:A→B:=by exact Kq (Ux zub) rfl rfl rfl):=h
def qch(h:A→B:=by intro a;refine J6 (Ja (Ud (J1 (Jv (J1 (K9 (Jv (J1 ?_))))))));exact a):=h
def qci(h:A→B:=by exact Kz zba rfl rfl rfl rfl):=h
def qcj(h:A→B:=by exact Kz zva rfl rfl rfl rfl):=h
def qck(h:A→B:=by exact J0 (Kf (qs:=[]) (out:=[_,_]) tb rfl rfl rfl rfl) rfl):=h
def qcl(h:A→B:=by intro a;refine Jt (Ja (Ji ?_));exact a):=h
def qcm(h:A→B:=by exact J0 zOa rfl):=h
def qcn(h:A→B:=by exact Uoa (v:=Value.int _ _) tb rfl rfl rfl rfl zD zga zda ze):=h
def qco(h:A→B:=by intro a;refine J6 (Ja (Ji (Ji ?_)));exact a):=h
def qcp(h:A→B:=by exact V6 zIb rfl rfl rfl rfl):=h
def qcq(h:A→B:=by exact J0 (Vqb rfl zc zc) rfl):=h
def qcr(h:A→B:=by exact Kz (by first | exact Ks tb rfl rfl rfl zh (Jma yf zi rfl) | exact Ks tb rfl rfl rfl zh (J5c yf zi rfl) | exact Ks tb rfl rfl rfl zh (J7a zi) | exact Ks tb rfl rfl rfl zh ze) rfl rfl rfl rfl):=h
def qcs(h:A→B:=by intro a;refine J6 (Jg (Ja (Je ?_)));exact a):=h
def qct(h:A→B:=by exact Kz zrd rfl rfl rfl rfl):=h
def qcu(h:A→B:=by exact V6 zOb rfl rfl rfl rfl):=h
def qcv(h:A→B:=by exact Kz zMc rfl rfl rfl rfl):=h
def qcw(h:A→B:=by exact Kz zac rfl rfl rfl rfl):=h
def qcx(h:A→B:=by exact Y6 zTb rfl):=h
def qcy(h:A→B:=by exact Uoa (v:=Value.slice _ _ _) tb rfl rfl rfl rfl zD zga zda ze):=h
def qcz(h:A→B:=by exact J0 zQc rfl):=h
def qc0(h:B:=by exact Ka ⟨(_,_),by dsimp only;omega,by dsimp only;omega,by dsimp only;omega,e⟩ zp ⟨rfl,rfl,trivial⟩ zk zJb zt):=h
def qc1(h:A→B:=by exact J0 (Ux zSb) rfl):=h
def qc2(h:A→B:=by exact Kq zva rfl rfl rfl):=h
def qc3(h:A→B:=by intro a;refine K5 (Kk (K1 (J8 (Ja (Ji ?_)))));exact a):=h
def qc4(h:A→B:=by exact J0 (Ux zvb) rfl):=h
def qc5(h:A→B:=by exact Kz zwa rfl rfl rfl rfl):=h
def qc6(h:A→B:=by intro a;refine J9 (Ja (Ji (Ji (Je ?_))));exact a):=h
def qc7(h:A→B:=by exact Y6 zoc rfl):=h
def qc8(h:A→B:=by exact J0 zPa rfl):=h
def qc9(h:A→B:=by exact Keb zTb rfl rfl rfl):=h
def qda(h:A→B:=by exact J0 (by first | exact Z5d rfl rfl zc zc | exact Kqe rfl rfl zc) rfl):=h
def qdb(h:A→B:=by intro a;refine J6 (Ja (Ud (Jv (J1 ?_))));exact a):=h
def qdc(h:A→B:=by exact K3 rfl zTb rfl rfl):=h
def qdd(h:A→B:=by exact J0 zhb rfl):=h
def qde(h:A→B:=by exact Kz zuc rfl rfl rfl rfl):=h
def qdf(h:A→B:=by exact Kq (Kc tb ((⟨roads.o,rl⟩:OwL XRoad)) rfl rfl rfl zm zi yf zi ze) rfl rfl rfl):=h
def qdg(h:A→B:=by exact J0 zgb rfl):=h
def qdh(h:A→B:=by exact Kq zOa rfl rfl rfl):=h
def qdi(h:A→B:=by exact J0 (Jn (row:=[_,_,_,_,_,_,_,_,_,_,_,_]) tb rfl rfl rfl zh ze ze) rfl):=h
def qdj(h:A→B:=by exact V6 zHa rfl rfl rfl rfl):=h
def qdk(h:A→B:=by exact J0 znb rfl):=h
def qdl(h:A→B:=by exact J0 zTa rfl):=h
def qdm(h:A→B:=by exact Kq zgb rfl rfl rfl):=h
def qdn(h:A→B:=by exact K3 rfl zbc rfl rfl):=h
def qdo(h:A→B:=by exact Kq zTa rfl rfl rfl):=h
def qdp(h:A→B:=by exact Kq zIa rfl rfl rfl):=h
def qdq(h:A→B:=by exact Kq zMb rfl rfl rfl):=h
def qdr(h:A→B:=by exact J0 zIa rfl):=h
def qds(h:A→B:=by exact Kq zC rfl rfl rfl):=h
def qdt(h:A→B:=by exact J0 zKa rfl):=h
def qdu(h:A→B:=by exact Kq zKa rfl rfl rfl):=h
def qdv(h:A→B:=by exact Kq znb rfl rfl rfl):=h
def qdw(h:A→B:=by exact J0 zmb rfl):=h
def qdx(h:A→B:=by exact J0 (by first | exact Kw (row:=[_,_,_,_,_,_,_,_,_,_,_,_]) tb rfl rfl rfl zB zi ze ze | exact Jn (row:=[_,_,_,_,_,_,_,_,_,_,_,_]) tb rfl rfl rfl zh ze ze) rfl):=h
def qdy(h:A→B:=by exact Kq zsb rfl rfl rfl):=h
def qd0(h:B:=by exact Ka ⟨k + 1,by omega,by omega⟩ zp ⟨rfl,rfl,trivial⟩ zk zJb zt):=h
def qd1(h:A→B:=by exact Kz zTa rfl rfl rfl rfl):=h
def qd2(h:A→B:=by exact Kz zKa rfl rfl rfl rfl):=h
def qd3(h:A→B:=by exact Kz zQa rfl rfl rfl rfl):=h
end
section
structure Hd9 (p:Prop):Prop where x:p
variable {A B:Prop}
def Xaa(h:A→B:=by exact qab∘qac):=h
def Xab(h:A→B:=by exact qab∘qac∘qag):=h
def Xac(h:A→B:=by exact qae∘qad):=h
def Xad(h:A→B:=by exact qar∘qad):=h
def Xae(h:A→B:=by exact qal∘qat):=h
def Xaf(h:A→B:=by exact qab∘qac∘qaa):=h
def Xag(h:A→B:=by exact qae∘qax):=h
def Xah(h:A→B:=by exact qan∘qau):=h
def Xai(h:A→B:=by exact qaa∘qar∘qad):=h
def Xaj(h:A→B:=by exact qbm∘qaa):=h
def Xak(h:A→B:=by exact qaa∘qar∘qad∘qav):=h
def Xal(h:A→B:=by exact qar∘qaa):=h
def Xam(h:A→B:=by exact qad∘qa0):=h
def Xan(h:A→B:=by exact qar∘qaa∘qav):=h
def Xao(h:A→B:=by exact qaj∘qaf):=h
def Xap(h:A→B:=by exact qbi∘qaa):=h
def Xaq(h:A→B:=by exact qbm∘qag):=h
def Xar(h:A→B:=by exact qad∘qam):=h
def Xas(h:A→B:=by exact qaj∘qah):=h
def Xat(h:A→B:=by exact qad∘qa2):=h
def Xau(h:A→B:=by exact qad∘qaw):=h
def Xav(h:A→B:=by exact qad∘qbh):=h
def Xaw(h:A→B:=by exact qbq∘qaf):=h
def Xay(h:A→B:=by exact qae∘qaj∘qa4):=h
def Xaz(h:A→B:=by exact qaz∘qaf):=h
def Xa0(h:A→B:=by exact qaa∘qa2):=h
def Xa1(h:A→B:=by exact qae∘qad∘qbh):=h
def Xa2(h:A→B:=by exact qad∘qam∘qaa):=h
def Xa3(h:A→B:=by exact qae∘qaz):=h
def Xa4(h:A→B:=by exact qbj∘qaa∘qar∘qad∘qav):=h
def Xa5(h:A→B:=by exact qab∘qac∘qa5):=h
def Xa6(h:A→B:=by exact qbn∘qaf):=h
def Xa7(h:A→B:=by exact qab∘qac∘qaj∘qah):=h
def Xa8(h:A→B:=by exact qal∘qat∘qao):=h
def Xa9(h:A→B:=by exact qab∘qac∘qag∘qaj∘qaf):=h
def Xba(h:A→B:=by exact qbn∘qaz∘qaf):=h
def Xbb(h:A→B:=by exact qaz∘qa0):=h
def Xbc(h:A→B:=by exact qae∘qad∘qdb):=h
def Xbd(h:A→B:=by exact qb0∘qa7):=h
def Xbe(h:A→B:=by exact qak∘qam):=h
def Xbf(h:A→B:=by exact qak∘qa0):=h
def Xbg(h:A→B:=by exact qb4∘qaf):=h
def Xbh(h:A→B:=by exact qab∘qac∘qag∘qaa∘qa2):=h
def Xbi(h:A→B:=by exact qak∘qaw):=h
def Xbj(h:A→B:=by exact qad∘qam∘qaa∘qbq∘qaf):=h
def Xbk(h:A→B:=by exact qbj∘qar∘qaa∘qav):=h
def Xbl(h:A→B:=by exact qab∘qac∘qab∘qac):=h
def Xbm(h:A→B:=by exact qbi∘qaa∘qab∘qac∘qag∘qaj∘qaf):=h
def Xbn(h:A→B:=by exact qae∘qaa):=h
def Xbo(h:A→B:=by exact qab∘qcy):=h
def Xbp(h:A→B:=by exact qa8∘qbe):=h
def Xbq(h:A→B:=by exact qbs∘qbs):=h
def Xbr(h:A→B:=by exact qae∘qad∘qbt):=h
def Xbs(h:A→B:=by exact qab∘qcn):=h
def Xbt(h:A→B:=by exact qbp∘qbu):=h
def Xbu(h:A→B:=by exact qaa∘qaa):=h
def Xbv(h:A→B:=by exact qbb∘qaa):=h
def Xbw(h:A→B:=by exact qb8∘qcb):=h
def Xbx(h:A→B:=by exact qae∘qbn∘qaz∘qaf):=h
def Xby(h:A→B:=by exact qal∘qbw):=h
def Xbz(h:A→B:=by exact qc4∘qaw):=h
def Xb0(h:A→B:=by exact qay∘qaa):=h
def Xb1(h:A→B:=by exact qcs∘qar∘qaa∘qav):=h
def Xb2(h:A→B:=by exact qad∘qaz):=h
def Xb3(h:A→B:=by exact qa1∘qba):=h
def Xb4(h:A→B:=by exact qbv∘qad∘qa0):=h
def Xb5(h:A→B:=by exact qab∘qac∘qag∘qa5):=h
def Xb6(h:A→B:=by exact qcs∘qaa∘qar∘qad∘qav):=h
def Xb7(h:A→B:=by exact qc4∘qc4):=h
def Xb8(h:A→B:=by exact qbq∘qah):=h
def Xb9(h:A→B:=by exact qbp∘qb2):=h
def Xca(h:A→B:=by exact qbk∘qad∘qa0):=h
def Xcb(h:A→B:=by exact qak∘qad∘qbh):=h
def Xcc(h:A→B:=by exact qac∘qag):=h
def Xcd(h:A→B:=by exact qby∘qaa∘qar∘qad∘qav):=h
def Xce(h:A→B:=by exact qad∘qav):=h
def Xcf(h:A→B:=by exact qaa∘qaj∘qah):=h
def Xcg(h:A→B:=by exact qab∘qab∘qac∘qag):=h
def Xch(h:A→B:=by exact qbo∘qab∘qac):=h
def Xci(h:A→B:=by exact qae∘qaz∘qbt):=h
def Xcj(h:A→B:=by exact qbo∘qad∘qa2):=h
def Xck(h:A→B:=by exact qaa∘qa9):=h
def Xcl(h:A→B:=by exact qay∘qbm∘qaa):=h
def Xcm(h:A→B:=by exact qbm∘qag∘qaj∘qaf):=h
def Xcn(h:A→B:=by exact qbn∘qah):=h
def Xco(h:A→B:=by exact qae∘qad∘qch):=h
def Xcp(h:A→B:=by exact qab∘qac∘qaj):=h
def Xcq(h:A→B:=by exact qae∘qab):=h
def Xcr(h:A→B:=by exact qbi∘qaa∘qbm∘qag∘qaj∘qaf):=h
def Xcs(h:A→B:=by exact qbe∘qak∘qa0):=h
def Xct(h:A→B:=by exact qae∘qaq):=h
def Xcu(h:A→B:=by exact qaa∘qa5):=h
def Xcv(h:A→B:=by exact qak∘qam∘qab∘qac):=h
def Xcw(h:A→B:=by exact qcp∘qcu):=h
def Xcx(h:A→B:=by exact qae∘qaa∘qad∘qbh):=h
def Xcy(h:A→B:=by exact qan∘qau∘qbf):=h
def Xcz(h:A→B:=by exact qbb∘qab∘qac∘qaa):=h
def Xc0(h:A→B:=by exact qae∘qaz∘qbh):=h
def Xc1(h:A→B:=by exact qbo∘qab∘qac∘qbn∘qaf):=h
def Xc2(h:A→B:=by exact qa6∘qaa):=h
def Xc3(h:A→B:=by exact qab∘qab∘qac∘qaa):=h
def Xc4(h:A→B:=by exact qab∘qbe):=h
def Xc5(h:A→B:=by exact qbm∘qc4):=h
def Xc6(h:A→B:=by exact qaa∘qak∘qad∘qbh):=h
def Xc7(h:A→B:=by exact qak∘qad∘qa0):=h
def Xc8(h:A→B:=by exact qae∘qab∘qac):=h
def Xc9(h:A→B:=by exact qbm∘qab∘qac):=h
def Xda(h:A→B:=by exact qan∘qau∘qb3):=h
def Xdb(h:A→B:=by exact qa1∘qal∘qbw):=h
def Xdc(h:A→B:=by exact qaa∘qaj∘qaf):=h
def Xdd(h:A→B:=by exact qb4∘qah):=h
def Xde(h:A→B:=by exact qbk∘qaz∘qa0):=h
def Xdf(h:A→B:=by exact qad∘qa4):=h
def Xdg(h:A→B:=by exact qbz∘qaf):=h
def Xdh(h:A→B:=by exact qbv∘qbm∘qaa):=h
def Xdi(h:A→B:=by exact qae∘qc4):=h
def Xdj(h:A→B:=by exact qak∘qbh):=h
def Xdk(h:A→B:=by exact qaa∘qa9∘qad∘qav):=h
def Xdl(h:A→B:=by exact qcf∘qad∘qa2):=h
def Xdm(h:A→B:=by exact qaz∘qaw):=h
def Xdn(h:A→B:=by exact qbm∘qag∘qaa∘qa2):=h
def Xdo(h:A→B:=by exact qao∘qds):=h
def Xdp(h:A→B:=by exact qab∘qac∘qag∘qbz):=h
def Xdq(h:A→B:=by exact qa5∘qaf):=h
def Xdr(h:A→B:=by exact qam∘qaa):=h
def Xds(h:A→B:=by exact qbk∘qaa):=h
def Xdt(h:A→B:=by exact qb0∘qa7∘qaa):=h
def Xdu(h:A→B:=by exact qam∘qab∘qac):=h
def Xdv(h:A→B:=by exact qan∘qau∘qan∘qau):=h
def Xdw(h:A→B:=by exact qan∘qba):=h
def Xdx(h:A→B:=by exact qbv∘qbm):=h
def Xdy(h:A→B:=by exact qal∘qal∘qat):=h
def Xdz(h:A→B:=by exact qak∘qaw∘qab∘qac):=h
def Xd0(h:A→B:=by exact qam∘qbm):=h
def Xd1(h:A→B:=by exact qc4∘qco):=h
def Xd2(h:A→B:=by exact qct∘qan∘qau):=h
def Xd3(h:A→B:=by exact qc4∘qa4):=h
def Xd4(h:A→B:=by exact qba∘qbg):=h
def Xd5(h:A→B:=by exact qab∘qac∘qaa∘qa9):=h
def Xd6(h:A→B:=by exact qal∘qat∘qao∘qb5):=h
def Xd7(h:A→B:=by exact qan∘qba∘qb6):=h
def Xd8(h:A→B:=by exact qbo∘qab∘qac∘qag∘qaa∘qa2):=h
def Xd9(h:A→B:=by exact qam∘qa6):=h
def Xea(h:A→B:=by exact qbi∘qaa∘qaa∘qaj∘qaf):=h
def Xeb(h:A→B:=by exact qb8∘qcb∘qal∘qat):=h
def Xec(h:A→B:=by exact qah∘qb4∘qaf):=h
def Xed(h:A→B:=by exact qaa∘qcm):=h
def Xee(h:A→B:=by exact qae∘qbm∘qaa):=h
def Xef(h:A→B:=by exact qbk∘qbe∘qak∘qa0):=h
def Xeg(h:A→B:=by exact qdr∘qaq):=h
def Xeh(h:A→B:=by exact qad∘qaw∘qab∘qac):=h
def Xei(h:A→B:=by exact qdl∘qaq):=h
def Xej(h:A→B:=by exact qbm∘qc4∘qa0):=h
def Xek(h:A→B:=by exact qbm∘qag∘qbz):=h
def Xel(h:A→B:=by exact qay∘qa6):=h
def Xem(h:A→B:=by exact qak∘qa4):=h
def Xen(h:A→B:=by exact qbk∘qaa∘qad∘qa0):=h
def Xeo(h:A→B:=by exact qc8∘qaq):=h
def Xep(h:A→B:=by exact qbs∘qbs∘qad):=h
def Xeq(h:A→B:=by exact qbx∘qaf):=h
def Xer(h:A→B:=by exact qby∘qar∘qaa∘qav):=h
def Xes(h:A→B:=by exact qa8∘qbe∘qbm):=h
def Xet(h:A→B:=by exact qad∘qbt):=h
def Xeu(h:A→B:=by exact qcg∘qcg):=h
def Xev(h:A→B:=by exact qal∘qat∘qao∘qds):=h
def Xew(h:A→B:=by exact qae∘qaz∘qaw):=h
def Xex(h:A→B:=by exact qb0∘qa7∘qbq):=h
def Xey(h:A→B:=by exact qct∘qbf):=h
def Xez(h:A→B:=by exact qab∘qab∘qac):=h
def Xe0(h:A→B:=by exact qab∘qac∘qag∘qab∘qac∘qag):=h
def Xe1(h:A→B:=by exact qbl∘qb7):=h
def Xe2(h:A→B:=by exact qay∘qad∘qa2):=h
def Xe3(h:A→B:=by exact qbs∘qbs∘qc4):=h
def Xe4(h:A→B:=by exact qae∘qck):=h
def Xe5(h:A→B:=by exact qa9∘qab∘qcn):=h
def Xe6(h:A→B:=by exact qab∘qac∘qaa∘qa9∘qbq):=h
end
end Go.Proofs.YtchfclmokpbldaaGreat
