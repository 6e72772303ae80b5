/-
  The steps of a walk under short names: what a step asks is shown by the tactic that stands with its name. Written by a program of ours (mkrun.py). By an AI agent; no person has read it.
-/
import Derived.Test.YtchfclmokpbldaaGreatTab
import Derived.Test.YtchfclmokpbldaaGreatOwn
set_option linter.all false
set_option maxHeartbeats 4000000
namespace Go.Proofs.YtchfclmokpbldaaGreat
open Go.Aw Go
section
variable {A B:Prop}
def qb {b v:Bool} {p:Prop} (h:b=v) (e:(b=v)=p:=by (try simp only [zb1,zb2,zb3,zb4,zb5,zb6,zb7,zb8]);(first | done | exact rfl)):p:=e.mp h
section
variable {P:Program} {fn:Func} {Post:Ys} {n m:Nat} {t:Nat→Value} {L U:LB} {R J:LS} {Q K:Kw} {all:Array Oper} {ty:TypeId} {pos:String} {after:Array Edge} {rest:List Oper} {d:Tmp} {g:Option (Nat×Bool)} {Lc Lc2:LB} {late:List Nat} {v a:Value} {f:FuncId} {xs:List Operand} {ts:Array TypeId} {args:List Value} {L2:LB} {R2:LS}
def q_r (U:LB) (J:LS) (h:∀c n a w,Fr n t a→St c L R w→(results fn a.tmps).run Tryz.prog w=.ok v w) (hp:Post v U J) (hL:U.Sublist L:=by exact zi) (hR:∀r∈J,InR r R:=by exact Jc _):Ut Tryz.prog fn Post .ret t L R:=K2 h hp hL hR
def q_i (U:LB) (J:LS) (hp:Post v U J) (h:∀c n a w,Fr n t a→St c L R w→(results fn a.tmps).run Tryz.prog w=.ok v w:=by exact Vs rfl zPc) (hL:U.Sublist L:=by exact zi) (hR:∀r∈J,InR r R:=by exact Jc _):Ut Tryz.prog fn Post .ret t L R:=K2 h hp hL hR
def q_b (U:LB) (J:LS) (hp:Post v U J) (h:∀c n a w,Fr n t a→St c L R w→(results fn a.tmps).run Tryz.prog w=.ok v w:=by exact Vs rfl zTc) (hL:U.Sublist L:=by exact zi) (hR:∀r∈J,InR r R:=by exact Jc _):Ut Tryz.prog fn Post .ret t L R:=K2 h hp hL hR
def q_c {x:Operand} {A B:Code} {b:Bool} {p q:Prop} (ht:p→CJ Tryz.prog n A t L R Q) (hf:q→CJ Tryz.prog n B t L R Q) (hc:ev t x=.bool b:=by exact zmb) (hp:(b=true)=p:=by (try simp only [zb1,zb2,zb3,zb4,zb5,zb6,zb7,zb8]);(first | done | exact rfl)) (hq:(b=false)=q:=by (try simp only [zb1,zb2,zb3,zb4,zb5,zb6,zb7,zb8]);(first | done | exact rfl)):CJ Tryz.prog n (.cond x A B) t L R Q:=
 Ukd hc (fun h=>ht (hp.mp h)) (fun h=>hf (hq.mp h))
def q_l (ha:xs.map (ev t)=args) (h:Tri Tryz.prog f args.toArray L R (fun v U J=>v=a∧L2=U∧R2=J)) (k:LJ Tryz.prog n all rest (upd t d a) L2 R2 Q) (hd:Nat.blt d n=true:=by exact rfl):LJ Tryz.prog n all (⟨some d,.call ⟨.value (.func f),xs.toArray,ts⟩,ty,pos,after,none⟩ :: rest) t L R Q:=
 Jv ha h hd fun _ _ _ ⟨e1,e2,e3⟩=>by subst e1;subst e2;subst e3;exact k
def q_d (ha:xs.map (ev t)=args) (h:Tri Tryz.prog f args.toArray L R (fun v U J=>v=a∧L2=U∧R2=J)) (k:DJ Tryz.prog tb n all Lc K rest (upd t d a) L2 R2) (hw:Yq all t g=true:=by exact rfl) (hd:Nat.blt d n=true:=by exact rfl) (hL:Lc.Sublist L2:=by exact zi) (hR:∀r∈R,InR r R2:=by first | exact Jc _ | exact (fun r h=>Ja (by simp [h]))):DJ Tryz.prog tb n all Lc K (⟨some d,.call ⟨.value (.func f),xs.toArray,ts⟩,ty,pos,after,g⟩ :: rest) t L R:=
 Vo ha h hw hd fun _ _ _ ⟨e1,e2,e3⟩=>by subst e1;subst e2;subst e3;exact ⟨hL,hR,k⟩
def q_k {γ:Type} {ws:List Nat} {t0:Nat→Value} {hd:Head γ} {m0:Nat} (g:γ) (ho:Off ws t0 t:=by exact zm) (hs:Yja t (hd.slots g):=by exact zh) (hL:(hd.L g).Sublist L:=by exact zi) (hR:∀r∈hd.R g,InR r R:=by exact Jc _) (hm:hd.m g < m0:=by dsimp only;omega):Kj ws t0 hd m0 Q .normal t L R:=Ka g ho hs hL hR hm
def q_j {γ:Type} {ws:List Nat} {t0:Nat→Value} {hd:Head γ} (g:γ) (ho:Off ws t0 t:=by exact zm) (hs:Yja t (hd.slots g):=by exact zh) (hL:(hd.L g).Sublist L:=by exact zi) (hR:∀r∈hd.R g,InR r R:=by exact Jc _):Klf ws t0 hd Q .normal t L R:=V0b g ho hs hL hR
def q_p {γ:Type} {body:Code} (ws:List Nat) (hd:Head γ) (g0:γ) (hstep:∀g junk,CJ Tryz.prog n body (updL (havoc ws t junk) (hd.slots g)) (hd.L g) (hd.R g) (Kj ws t hd (hd.m g) Q)) (h0:Yja t (hd.slots g0):=by exact zh) (hL:(hd.L g0).Sublist L:=by exact zi) (hR:∀r∈hd.R g0,InR r R:=by exact Jc _):CJ Tryz.prog n (.loop body) t L R Q:=Up ws hd g0 h0 hL hR hstep
def q_s {γ:Type} {body:Code} (ws:List Nat) (slots:γ→List (Nat×Value)) (m:γ→Nat) (g0:γ) (hstep:∀g junk,CJ Tryz.prog n body (updL (havoc ws t junk) (slots g)) L R (Kj ws t ⟨slots,fun _=>L,fun _=>R,m⟩ (m g) Q)) (h0:Yja t (slots g0):=by exact zh):CJ Tryz.prog n (.loop body) t L R Q:=V3c ws slots m g0 h0 hstep
end
def qaa(h:A→B:=by exact Jw (Jz znb) rfl):=h
def qab(h:A→B:=by exact Jw zzb rfl):=h
def qac(h:A→B:=by exact Jw zHb rfl):=h
def qad(h:A→B:=by exact Jw (K8 znb) rfl):=h
def qae(h:A→B:=by intro a;refine Jq (Jg ?_);exact a):=h
def qaf(h:A→B:=by intro a;refine J9 (Jb ?_);exact a):=h
def qag(h:A→B:=by exact Jw zPb rfl):=h
def qah(h:A→B:=by exact Jw (Jz zmb) rfl):=h
def qai(h:B:=by exact Jnd zmb zm zi (by first | exact Jc _ | exact fun r h=>Ja (by simp [h]))):=h
def qaj(h:A→B:=by exact Jw zvc rfl):=h
def qak(h:A→B:=by exact V5e tb rfl rfl rfl rfl zC zb zb):=h
def qal(h:A→B:=by exact Ks zzb rfl rfl rfl):=h
def qam(h:A→B:=by intro a;refine J9 (Jb (Jq (Jg ?_)));exact a):=h
def qan(h:A→B:=by exact Ku zzb rfl rfl rfl rfl):=h
def qao(h:A→B:=by exact Ks (Jz znb) rfl rfl rfl):=h
def qap(h:A→B:=by exact Ujf rfl rfl rfl):=h
def qaq(h:A→B:=by exact Zve tb rfl rfl):=h
def qar(h:A→B:=by exact Jw zva rfl):=h
def qat(h:A→B:=by exact Ks zHb rfl rfl rfl):=h
def qau(h:A→B:=by exact Ku zHb rfl rfl rfl rfl):=h
def qav(h:A→B:=by intro a;refine J9 ?_;exact a):=h
def qaw(h:A→B:=by intro a;refine J9 (Jb (Jq (Jq (Jg ?_))));exact a):=h
def qax(h:A→B:=by exact Yif rfl rfl):=h
def qay(h:A→B:=by intro a;refine Jg ?_;exact a):=h
def qaz(h:A→B:=by exact Jw (K8 zmb) rfl):=h
def qa0(h:A→B:=by intro a;refine J9 (Jb (Uk ?_));exact a):=h
def qa1(h:A→B:=by intro a;refine ⟨zi,Jc _,?_⟩;exact a):=h
def qa2(h:A→B:=by intro a;refine J9 (Jb (Ki ?_));exact a):=h
def qa3(h:A→B:=by exact Jw zya rfl):=h
def qa4(h:A→B:=by intro a;refine J9 (Jb (Jq ?_));exact a):=h
def qa5(h:A→B:=by exact Jw (U9b rfl rfl) rfl):=h
def qa6(h:A→B:=by exact Jw (Jz zNb) rfl):=h
def qa7(h:A→B:=by exact Jw zma rfl):=h
def qa8(h:A→B:=by exact Jw zuc rfl):=h
def qa9(h:A→B:=by exact Jw zJa rfl):=h
def qba(h:A→B:=by intro a;refine Kbe ?_;exact a):=h
def qbb(h:A→B:=by intro a;refine J5 (Jb (Jq (Ki (Jq (Jg ?_)))));exact a):=h
def qbc(h:A→B:=by exact Ks zuc rfl rfl rfl):=h
def qbd(h:A→B:=by exact Ks zGb rfl rfl rfl):=h
def qbe(h:A→B:=by exact Jw zGb rfl):=h
def qbf(h:A→B:=by exact Ku (Jz znb) rfl rfl rfl rfl):=h
def qbg(h:A→B:=by exact K5e rfl rfl rfl rfl zC zb zb zi):=h
def qbh(h:A→B:=by intro a;refine J9 (Jb (Uk (Kh ?_)));exact a):=h
def qbi(h:A→B:=by intro a;refine Jq (Jq (Jg ?_));exact a):=h
def qbj(h:A→B:=by intro a;refine J5 (Jh (Jb (Jg ?_)));exact a):=h
def qbk(h:A→B:=by intro a;refine K9 (Km (Uc (J6 (Jb (Jq (Jg ?_))))));exact a):=h
def qbl(h:A→B:=by exact Ks zma rfl rfl rfl):=h
def qbm(h:A→B:=by exact Jw zZc rfl):=h
def qbn(h:A→B:=by exact Jw zFc rfl):=h
def qbo(h:A→B:=by intro a;refine J5 (Jb (Jq (Jq (Jg ?_))));exact a):=h
def qbp(h:A→B:=by exact Ks zN rfl rfl rfl):=h
def qbq(h:A→B:=by exact Jw (Zyb rfl rfl) rfl):=h
def qbr(h:A→B:=by exact Jcf rfl rfl):=h
def qbs(h:A→B:=by exact Jw zXb rfl):=h
def qbt(h:A→B:=by intro a;refine J9 (Jb (Uk (Kd (Kh (Ym (Kd (Kh ?_)))))));exact a):=h
def qbu(h:A→B:=by intro a;refine J1 (Jb ?_);exact a):=h
def qbv(h:A→B:=by intro a;refine J5 (Jb (Jq (Jg ?_)));exact a):=h
def qbw(h:A→B:=by exact Z3 (v:=Value.slice _ _ _) rfl rfl rfl rfl zC zca zY zb zi):=h
def qbx(h:A→B:=by exact Jw (Ywc rfl rfl) rfl):=h
def qby(h:A→B:=by intro a;refine J1 (Jh (Jb (Jg ?_)));exact a):=h
def qbz(h:A→B:=by exact Jw (Kvc rfl rfl) rfl):=h
def qb0(h:A→B:=by exact Jw (Jmb tb rfl rfl rfl) rfl):=h
def qb1(h:A→B:=by exact U2 (by simp only [yr,yv];rfl)):=h
def qb2(h:A→B:=by exact Ks (Jz zmb) rfl rfl rfl):=h
def qb3(h:A→B:=by exact Ku (Jz zNb) rfl rfl rfl rfl):=h
def qb4(h:A→B:=by exact Jw (U5a rfl) rfl):=h
def qb5(h:A→B:=by exact Ks zya rfl rfl rfl):=h
def qb6(h:A→B:=by exact Z3 (v:=Value.int _ _) rfl rfl rfl rfl zC zca zY zb zi):=h
def qb7(h:A→B:=by exact Ks zJa rfl rfl rfl):=h
def qb8(h:A→B:=by exact Ks (Jz zNb) rfl rfl rfl):=h
def qb9(h:A→B:=by intro a;refine J1 (Jb (Jq ?_));exact a):=h
def qca(h:A→B:=by intro a;refine Jt ?_ Jse;exact a):=h
def qcb(h:A→B:=by exact Ks zQb rfl rfl rfl):=h
def qcc(h:A→B:=by exact Ku zJa rfl rfl rfl rfl):=h
def qcd(h:A→B:=by exact Jw zEb rfl):=h
def qce(h:A→B:=by exact Ks (Jmb tb rfl rfl rfl) rfl rfl rfl):=h
def qcf(h:A→B:=by intro a;refine K9 (Km (Uc (J6 (Jb (Jq (Jq (Jg ?_)))))));exact a):=h
def qcg(h:A→B:=by exact Ks (K8 znb) rfl rfl rfl):=h
def qch(h:A→B:=by intro a;refine J9 (Jb (Uk (Kh (Kd (Kh (Ym (Kd (Kh ?_))))))));exact a):=h
def qci(h:A→B:=by exact Ku zma rfl rfl rfl rfl):=h
def qcj(h:A→B:=by exact Ku zva rfl rfl rfl rfl):=h
def qck(h:A→B:=by exact Jw (J8 (qs:=[]) (out:=[_,_]) tb rfl rfl rfl rfl) rfl):=h
def qcl(h:A→B:=by intro a;refine J5 (Jb (Jq ?_));exact a):=h
def qcm(h:A→B:=by exact Jw zHa rfl):=h
def qcn(h:A→B:=by exact Uva (v:=Value.int _ _) tb rfl rfl rfl rfl zC zca zY zb):=h
def qco(h:A→B:=by intro a;refine J9 (Jb (Jq (Jq ?_)));exact a):=h
def qcp(h:A→B:=by exact Vd zzb rfl rfl rfl rfl):=h
def qcq(h:A→B:=by exact Jw (Zha rfl za za) rfl):=h
def qcr(h:A→B:=by exact Ku (by first | exact Kz tb rfl rfl rfl zf (K8a yf zg rfl) | exact Kz tb rfl rfl rfl zf (Knc yf zg rfl) | exact Kz tb rfl rfl rfl zf (Uxa zg) | exact Kz tb rfl rfl rfl zf zb) rfl rfl rfl rfl):=h
def qcs(h:A→B:=by intro a;refine J9 (Jh (Jb (Jg ?_)));exact a):=h
def qct(h:A→B:=by exact Ku zZc rfl rfl rfl rfl):=h
def qcu(h:A→B:=by exact Vd zHb rfl rfl rfl rfl):=h
def qcv(h:A→B:=by exact Ku (Jmb tb rfl rfl rfl) rfl rfl rfl rfl):=h
def qcw(h:A→B:=by exact Ku zEb rfl rfl rfl rfl):=h
def qcx(h:A→B:=by exact Za zLb rfl):=h
def qcy(h:A→B:=by exact Uva (v:=Value.slice _ _ _) tb rfl rfl rfl rfl zC zca zY zb):=h
def qcz(h:A→B:=by exact Jw zDc rfl):=h
def qc0(h:B:=by exact Ka ⟨(_,_),by dsimp only;omega,by dsimp only;omega,by dsimp only;omega,e⟩ zm ⟨rfl,rfl,trivial⟩ zi zAb zx):=h
def qc1(h:A→B:=by exact Jw (K8 zNb) rfl):=h
def qc2(h:A→B:=by exact Ks zva rfl rfl rfl):=h
def qc3(h:A→B:=by intro a;refine K9 (Km (Uc (J6 (Jb (Jq ?_)))));exact a):=h
def qc4(h:A→B:=by exact Jw (K8 zob) rfl):=h
def qc5(h:A→B:=by exact Ku zya rfl rfl rfl rfl):=h
def qc6(h:A→B:=by intro a;refine J1 (Jb (Jq (Jq (Jg ?_))));exact a):=h
def qc7(h:A→B:=by exact Za zZb rfl):=h
def qc8(h:A→B:=by exact Jw zbb rfl):=h
def qc9(h:A→B:=by exact Joc zLb rfl rfl rfl):=h
def qda(h:A→B:=by exact Jw zIa rfl):=h
def qdb(h:A→B:=by intro a;refine J9 (Jb (Uk (Kd (Kh ?_))));exact a):=h
def qdc(h:A→B:=by exact Kq rfl zLb rfl rfl):=h
def qdd(h:A→B:=by exact Jw zGa rfl):=h
def qde(h:A→B:=by exact Ku zuc rfl rfl rfl rfl):=h
def qdf(h:A→B:=by exact Ks (J4 tb ((⟨roads.o,rl⟩:OwL XRoad)) rfl rfl rfl zj zg yf zg zb) rfl rfl rfl):=h
def qdg(h:A→B:=by exact Jw zua rfl):=h
def qdh(h:A→B:=by exact Ks zHa rfl rfl rfl):=h
def qdi(h:A→B:=by exact Jw (Js (row:=[_,_,_,_,_,_,_,_,_,_,_,_]) tb rfl rfl rfl zf zb zb) rfl):=h
def qdk(h:A→B:=by exact Jw zfb rfl):=h
def qdl(h:A→B:=by exact Jw zMa rfl):=h
def qdm(h:A→B:=by exact Ks zua rfl rfl rfl):=h
def qdn(h:A→B:=by exact Kq rfl zic rfl rfl):=h
def qdo(h:A→B:=by exact Ks zMa rfl rfl rfl):=h
def qdp(h:A→B:=by exact Ks zLa rfl rfl rfl):=h
def qdq(h:A→B:=by exact Ks zOb rfl rfl rfl):=h
def qdr(h:A→B:=by exact Jw zLa rfl):=h
def qds(h:A→B:=by exact Ks zD rfl rfl rfl):=h
def qdt(h:A→B:=by exact Jw zRa rfl):=h
def qdu(h:A→B:=by exact Ks zRa rfl rfl rfl):=h
def qdv(h:A→B:=by exact Ks zfb rfl rfl rfl):=h
def qdw(h:A→B:=by exact Jw (by first | exact K4 (row:=[_,_,_,_,_]) tb rfl rfl rfl zu zg zb zb | exact Js (row:=[_,_,_,_,_]) tb rfl rfl rfl zf zb zb) rfl):=h
def qdx(h:A→B:=by exact Jw (by first | exact K4 (row:=[_,_,_,_,_,_,_,_,_,_,_,_]) tb rfl rfl rfl zu zg zb zb | exact Js (row:=[_,_,_,_,_,_,_,_,_,_,_,_]) tb rfl rfl rfl zf zb zb) rfl):=h
def qdy(h:A→B:=by exact Ks zkb rfl rfl rfl):=h
def qd0(h:B:=by exact Ka ⟨k + 1,by omega,by omega⟩ zm ⟨rfl,rfl,trivial⟩ zi zAb zx):=h
def qd1(h:A→B:=by exact Ku zMa rfl rfl rfl rfl):=h
def qd2(h:A→B:=by exact Ku zRa rfl rfl rfl rfl):=h
def qd3(h:A→B:=by exact Ku zKa rfl rfl rfl rfl):=h
end
section
structure Hd9 (p:Prop):Prop where x:p
variable {A B:Prop}
def Xaa(h:A→B:=by exact qab∘qac):=h
def Xab(h:A→B:=by exact qab∘qac∘qag):=h
def Xac(h:A→B:=by exact qar∘qaa):=h
def Xad(h:A→B:=by exact qar∘qaa∘qav):=h
def Xae(h:A→B:=by exact qae∘qad):=h
def Xaf(h:A→B:=by exact qae∘qax):=h
def Xag(h:A→B:=by exact qad∘qam):=h
def Xah(h:A→B:=by exact qab∘qac∘qaa):=h
def Xaj(h:A→B:=by exact qae∘qaj∘qa4):=h
def Xak(h:A→B:=by exact qan∘qau):=h
def Xal(h:A→B:=by exact qal∘qat):=h
def Xam(h:A→B:=by exact qad∘qa0):=h
def Xao(h:A→B:=by exact qad∘qbh):=h
def Xap(h:A→B:=by exact qbm∘qag):=h
def Xaq(h:A→B:=by exact qbm∘qaa):=h
def Xar(h:A→B:=by exact qad∘qaw):=h
def Xas(h:A→B:=by exact qaz∘qaf):=h
def Xat(h:A→B:=by exact qbq∘qaf):=h
def Xau(h:A→B:=by exact qad∘qam∘qaa):=h
def Xav(h:A→B:=by exact qaj∘qah):=h
def Xaw(h:A→B:=by exact qbj∘qar∘qaa∘qav):=h
def Xax(h:A→B:=by exact qad∘qav):=h
def Xay(h:A→B:=by exact qab∘qac∘qag∘qaa∘qa2):=h
def Xaz(h:A→B:=by exact qak∘qam):=h
def Xa0(h:A→B:=by exact qab∘qac∘qab∘qac):=h
def Xa1(h:A→B:=by exact qbb∘qaa):=h
def Xa2(h:A→B:=by exact qbn∘qaz∘qaf):=h
def Xa3(h:A→B:=by exact qak∘qad∘qbh):=h
def Xa4(h:A→B:=by exact qcs∘qar∘qaa∘qav):=h
def Xa5(h:A→B:=by exact qay∘qaa):=h
def Xa6(h:A→B:=by exact qbi∘qaa):=h
def Xa7(h:A→B:=by exact qad∘qaz):=h
def Xa8(h:A→B:=by exact qae∘qad∘qbh):=h
def Xa9(h:A→B:=by exact qak∘qaw):=h
def Xba(h:A→B:=by exact qbs∘qbs):=h
def Xbb(h:A→B:=by exact qad∘qam∘qaa∘qbq∘qaf):=h
def Xbc(h:A→B:=by exact qb0∘qa7):=h
def Xbd(h:A→B:=by exact qaj∘qaf):=h
def Xbe(h:A→B:=by exact qae∘qad∘qdb):=h
def Xbf(h:A→B:=by exact qaa∘qar):=h
def Xbg(h:A→B:=by exact qab∘qac∘qa5):=h
def Xbh(h:A→B:=by exact qbp∘qb2):=h
def Xbi(h:A→B:=by exact qae∘qaa):=h
def Xbj(h:A→B:=by exact qb4∘qaf):=h
def Xbk(h:A→B:=by exact qab∘qcn):=h
def Xbl(h:A→B:=by exact qak∘qa0):=h
def Xbm(h:A→B:=by exact qab∘qac∘qaj∘qah):=h
def Xbn(h:A→B:=by exact qb8∘qcb):=h
def Xbo(h:A→B:=by exact qab∘qcy):=h
def Xbp(h:A→B:=by exact qc4∘qc4):=h
def Xbq(h:A→B:=by exact qad∘qa2):=h
def Xbr(h:A→B:=by exact qbm∘qag∘qaa∘qa2):=h
def Xbs(h:A→B:=by exact qaz∘qa0):=h
def Xbt(h:A→B:=by exact qae∘qaz):=h
def Xbu(h:A→B:=by exact qbn∘qaf):=h
def Xbv(h:A→B:=by exact qae∘qbn∘qaz∘qaf):=h
def Xbw(h:A→B:=by exact qaa∘qar∘qad∘qav):=h
def Xbx(h:A→B:=by exact qbm∘qab∘qac):=h
def Xby(h:A→B:=by exact qal∘qat∘qao):=h
def Xbz(h:A→B:=by exact qaa∘qa9):=h
def Xb0(h:A→B:=by exact qbp∘qbu):=h
def Xb1(h:A→B:=by exact qal∘qbw):=h
def Xb2(h:A→B:=by exact qak∘qad∘qa0):=h
def Xb3(h:A→B:=by exact qay∘qbm∘qaa):=h
def Xb4(h:A→B:=by exact qaa∘qaa):=h
def Xb5(h:A→B:=by exact qc4∘qaw):=h
def Xb6(h:A→B:=by exact qa5∘qaf):=h
def Xb7(h:A→B:=by exact qbq∘qah):=h
def Xb8(h:A→B:=by exact qc4∘qam):=h
def Xb9(h:A→B:=by exact qak∘qam∘qab∘qac):=h
def Xca(h:A→B:=by exact qad∘qa4):=h
def Xcb(h:A→B:=by exact qan∘qau∘qbf):=h
def Xcc(h:A→B:=by exact qaa∘qa9∘qad∘qav):=h
def Xcd(h:A→B:=by exact qa1∘qba):=h
def Xce(h:A→B:=by exact qab∘qab∘qac∘qag):=h
def Xcf(h:A→B:=by exact qae∘qad∘qbt):=h
def Xcg(h:A→B:=by exact qaa∘qak∘qad∘qbh):=h
def Xch(h:A→B:=by exact qbk∘qbm):=h
def Xci(h:A→B:=by exact qc4∘qa0):=h
def Xcj(h:A→B:=by exact qay∘qbm):=h
def Xck(h:A→B:=by exact qaa∘qaj∘qah):=h
def Xcl(h:A→B:=by exact qbn∘qah):=h
def Xcm(h:A→B:=by exact qb4∘qah):=h
def Xcn(h:A→B:=by exact qaa∘qa5):=h
def Xco(h:A→B:=by exact qa6∘qaa):=h
def Xcp(h:A→B:=by exact qak∘qa4):=h
def Xcq(h:A→B:=by exact qbk∘qad∘qa0):=h
def Xcr(h:A→B:=by exact qae∘qab∘qac):=h
def Xcs(h:A→B:=by exact qba∘qbg):=h
def Xct(h:A→B:=by exact qa8∘qbe):=h
def Xcu(h:A→B:=by exact qbz∘qaf):=h
def Xcv(h:A→B:=by exact qab∘qac∘qaj):=h
def Xcw(h:A→B:=by exact qct∘qan∘qau):=h
def Xcx(h:A→B:=by exact qbo∘qab∘qac):=h
def Xcy(h:A→B:=by exact qbv∘qad∘qa0):=h
def Xcz(h:A→B:=by exact qbe∘qak∘qa0):=h
def Xc0(h:A→B:=by exact qc4∘qa4):=h
def Xc1(h:A→B:=by exact qag∘qaa∘qa2):=h
def Xc2(h:A→B:=by exact qbo∘qab∘qac∘qag∘qaa∘qa2):=h
def Xc3(h:A→B:=by exact qcp∘qcu):=h
def Xc4(h:A→B:=by exact qby∘qar∘qaa∘qav):=h
def Xc5(h:A→B:=by exact qad∘qaw∘qaa):=h
def Xc6(h:A→B:=by exact qcg∘qcg):=h
def Xc7(h:A→B:=by exact qdk∘qaq):=h
def Xc8(h:A→B:=by exact qam∘qaa):=h
def Xc9(h:A→B:=by exact qb8∘qcb∘qal∘qat):=h
def Xda(h:A→B:=by exact qae∘qad∘qch):=h
def Xdb(h:A→B:=by exact qak∘qbh):=h
def Xdc(h:A→B:=by exact qab∘qab∘qac):=h
def Xdd(h:A→B:=by exact qc4∘qco):=h
def Xde(h:A→B:=by exact qam∘qab∘qac):=h
def Xdf(h:A→B:=by exact qbg∘qcg):=h
def Xdg(h:A→B:=by exact qbk∘qaa):=h
def Xdh(h:A→B:=by exact qaa∘qcm):=h
def Xdi(h:A→B:=by exact qae∘qab):=h
def Xdj(h:A→B:=by exact qab∘qac∘qag∘qa5):=h
def Xdk(h:A→B:=by exact qdr∘qaq):=h
def Xdl(h:A→B:=by exact qct∘qbf):=h
def Xdm(h:A→B:=by exact qan∘qan∘qau):=h
def Xdn(h:A→B:=by exact qdl∘qaq):=h
def Xdo(h:A→B:=by exact qao∘qao):=h
def Xdp(h:A→B:=by exact qad∘qad∘qaz):=h
def Xdq(h:A→B:=by exact qbw∘qal∘qbw):=h
def Xdr(h:A→B:=by exact qc4∘qcs∘qar∘qaa∘qav):=h
def Xds(h:A→B:=by exact qah∘qaf):=h
def Xdt(h:A→B:=by exact qal∘qal∘qat):=h
def Xdu(h:A→B:=by exact qam∘qbm):=h
def Xdv(h:A→B:=by exact qae∘qaa∘qad):=h
def Xdw(h:A→B:=by exact qbo∘qab∘qac∘qbn∘qaf):=h
def Xdx(h:A→B:=by exact qae∘qaa∘qad∘qbh):=h
def Xdy(h:A→B:=by exact qab∘qac∘qaa∘qa9):=h
def Xdz(h:A→B:=by exact qbv∘qaa):=h
def Xd0(h:A→B:=by exact qab∘qbe):=h
def Xd1(h:A→B:=by exact qa9∘qab∘qcn):=h
def Xd2(h:A→B:=by exact qae∘qaq):=h
def Xd3(h:A→B:=by exact qbs∘qbs∘qc4):=h
end
end Go.Proofs.YtchfclmokpbldaaGreat
