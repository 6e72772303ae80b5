/-
  Merged texts. By an AI agent.
-/
import Derived.Test.YtchfclmokpbldaaGreatSiteS
import Derived.Test.YtchfclmokpbldaaGreatChecks
set_option linter.all false
set_option maxHeartbeats 4000000
set_option maxRecDepth 20000
variable{A B:Prop}
namespace Go.Proofs.YtchfclmokpbldaaGreat
open Go.Aw Go Go.Proofs.Tryz
section
attribute [local irreducible] cQ dF dV aM cP eC e5 e1 e2 e6 eX e4 J.L
def MQ(h:A->B:=by exact aI mM rfl):=h
def a6l(h:A->B:=by exact aI Il rfl):=h
def a0W(h:A->B:=by exact Rm (v:=Value.bool _) N rfl rfl rfl rfl sX Ws Xr aB):=h
def aEa(h:B:=by exact⟨by rw[c5,v4,if_neg aU,if_pos Ig];first|rfl|rw[show w.over=false by simpa using dY],rfl,rfl⟩):=h
def aI9(h:B:=by exact⟨by rw[c5,v4,if_neg aU,if_neg Wq,if_pos D];first|rfl|rw[dG],rfl,rfl⟩):=h
def b0E(h:B:=by exact⟨by rw[c5,v4,if_neg aU,if_neg Wq,if_neg fY,if_pos (by first|(rw[if_pos h2];omega)|(rw[if_neg h2];omega))],rfl,rfl⟩):=h
def aZV(h:B:=by exact⟨by rw[c5,v4,if_neg aU,if_neg Wq,if_neg fY,if_neg (by first|(rw[if_pos h2];omega)|(rw[if_neg h2];omega))];first|(rw[if_pos h2,dG];done)|(rw[if_neg h2,dG];done),rfl,rfl⟩):=h
def aZL(h:B:=by exact⟨by rw[c5,v4,if_neg aU,if_neg Wq,if_neg fY,if_pos (by first|(rw[if_pos D];omega)|(rw[if_neg D];omega))],rfl,rfl⟩):=h
def aZ7(h:B:=by exact⟨by rw[c5,v4,if_neg aU,if_neg Wq,if_neg fY,if_neg (by first|(rw[if_pos D];omega)|(rw[if_neg D];omega))];first|(rw[if_pos D,dG];done)|(rw[if_neg D,dG];done),rfl,rfl⟩):=h
def a6i(l:yW)(L:aR)(R:aO):
 aM prog 177 [l.val].toArray L R (λv E G=>v=.int .i64 (JE l)/\L=E/\R=G):=by
 refine b6 28 call177 func177 rfl rfl rfl ?_;apply(dB);intro gL;apply hH∘Dq∘dE;apply cA (Z:=[_,_,_]) (j:=3) (a9:=6) rfl rfl aB rfl aY rfl;·exact Nz
 intro h8;apply(dE);apply cA (Z:=[_,_,_,_,_]) (j:=8) (a9:=11) rfl rfl aB rfl aY rfl;·intro gH;replace gH:=bB gH;exact(j0) UM
 intro uY;exact aOP
def a6K(l:yW)(L:aR)(R:aO):
 aM prog 224 [l.val].toArray L R (λv E G=>v=.int .i64 (JE l)/\L=E/\R=G):=by
 refine b6 28 call224 func224 rfl rfl rfl ?_;apply(dB);intro gL;apply hH∘qO;apply cA (Z:=[_,_,_,_,_]) (j:=3) (a9:=6) rfl rfl aB rfl aY rfl;·intro eR;replace eR:=bB eR;exact(j0) UM
 intro h8;apply(dE);apply cA (Z:=[_,_,_]) (j:=10) (a9:=13) rfl rfl aB rfl aY rfl;·intro pE;replace pE:=bB pE;exact a3Y
 intro a2F;exact aOP
def a5A(x:bC)(n:Int)(L:aR)(R:aO):
 aM prog 230 [x.val,.int .i64 n].toArray L R (λv E G=>v=.int .i64 (uP x n)/\L=E/\R=G):=by
 refine b6 21 call230 func230 rfl rfl rfl ?_;apply(dB);intro eH;apply(dM);refine eZ (a8 (bK (fR (bK (c2 ?_)))));apply j0∘KH∘w8;refine U ?_ ?_<;>intro aQ;·apply(uL);refine cX L R ?_;exact⟨by rw[uP,if_pos aQ],rfl,rfl⟩
 apply dC∘gK∘GQ∘w8;refine U ?_ ?_<;>intro bL;·apply(uL);refine cX L R ?_;exact⟨by rw[uP,if_neg D,if_pos bL],rfl,rfl⟩
 apply dC∘gK∘GP∘w8;refine U ?_ ?_<;>intro cC;·apply(uL);exact aPs
 refine eP (hI (a8 (bK (c2 ?_))));apply(vB);exact aPw
def a7b(x:bC)(n:Int)(L:aR)(R:aO):
 aM prog 299 [x.val,.int .i64 n].toArray L R (λv E G=>v=.int .i64 (uP x n)/\L=E/\R=G):=by
 refine b6 18 call299 func299 rfl rfl rfl ?_;apply(dB);intro eH;apply hH∘j0∘HS;refine U ?_ ?_<;>intro aQ;·apply(kM);refine cX L R ?_;exact⟨by rw[uP,if_pos aQ],rfl,rfl⟩
 apply hN∘gK∘D7;refine U ?_ ?_<;>intro bL;·apply(kM);refine cX L R ?_;exact⟨by rw[uP,if_neg D,if_pos bL],rfl,rfl⟩
 apply hN∘gK∘CP;refine U ?_ ?_<;>intro cC;·apply(kM);exact aPs
 apply(PN);exact aPw
def a6t{l:yW}:JE l=0↔F2 l:=by rw[JE];split<;>simp_all
def a6Z{l:yW}{w:fU}{t:Int}(O:F2 l)(X:¬(t<0\/2147483648<t\/t<w.A2))(aU:I6 w):yP l w t=0:=by rw[yP,if_neg (λh=>h O),if_neg X,if_neg (λh=>h aU)]
def a43{l:yW}{w:fU}{x:bC}{t:Int}{e:Int}(h:yP l w t=e)(W:e≠0):Kc l w x t=aK7:=by rw[Kc,if_neg D]
def a1v{l:yW}{w:fU}{x:bC}{t:Int}(h:yP l w t=0):Kc l w x t=v4 l w x t:=by rw[Kc,if_pos h]
def aYh(l:yW)(w:fU)(x:bC)(t:Int)(L:aR)(R:aO):
 aM prog 228 [l.val,w.val,x.val,.int .i64 t].toArray L R (λv E G=>v=.tuple #[(Kc l w x t).val,.int .i64 (yP l w t)]/\L=E/\R=G):=by
 refine b6 97 call228 func228 rfl rfl rfl ?_;apply(dB);intro eD;apply(iV);intro gQ;apply(iV);intro i1;apply(dZ);intro h6;apply hH∘MQ;refine cD rfl (a6i l _ _) ?_;apply(j7);refine U ?_ ?_<;>intro aQ;·exact aTl
 have aX:F2 l:=a6t.1 D;apply(LC);apply cA (Z:=[_,_]) (j:=2) (a9:=19) rfl rfl aB rfl aY rfl;·exact G3
 intro mK;apply(dE);apply cA (Z:=[_,_,_,_]) (j:=6) (a9:=23) rfl rfl aB rfl aY rfl;·intro kF;replace kF:=bB kF;exact(cE) O1
 intro IJ;apply(b9);refine U ?_ ?_<;>intro bL;·exact aQz
 have fH:¬(t<0\/2147483648<t\/t<w.A2):=by(try simp at bL);omega
 apply hN∘qO;apply cA (Z:=[_,_,_]) (j:=3) (a9:=33) rfl rfl aB rfl aY rfl;·exact DR
 intro h8;apply(dE);apply cA (Z:=[_,_,_]) (j:=8) (a9:=38) rfl rfl aB rfl aY rfl;·exact Ce
 intro uY;apply(dE);apply cA (Z:=[_,_,_,_,_]) (j:=13) (a9:=43) rfl rfl aB rfl aY rfl;·intro oL;replace oL:=bB oL;exact(j0) MI
 intro Q3;apply(dE);apply cA (Z:=[_,_,_,_,_,_,_,_]) (j:=20) (a9:=50) rfl rfl aB rfl aY rfl;·
  intro J4;replace J4:=bB J4;apply fD∘p9;apply iR (Z:=[_,_,_]) (j:=24) (a9:=54) rfl rfl aB rfl aY rfl;·intro N3;replace N3:=bB N3;exact(fD) I0
  intro aBs;exact g4
 intro Vh;apply(b9);refine U ?_ ?_<;>intro cC;·exact aOZ
 have c5:yP l w t=0:=a6Z aX fH (by rw[I6];cases dG:w.over<;>simp[dG]at cC|- <;>omega);rw[a1v c5];apply SW∘vZ;refine eZ (a8 (bK (fR (bK (c2 ?_)))));apply nZ∘fD;refine cD rfl (a5A x l.cut _ _) ?_;apply RC∘w8;refine U ?_ ?_<;>intro dX;·apply eB∘e7∘a0W∘vZ;refine eZ (hI (a8 (bK (c2 ?_))));apply MQ∘oH;refine bQ L R rJ ?_;exact⟨by rw[c5,v4,if_pos dX],rfl,rfl⟩
 have aU:¬uP x l.cut≠-1:=dX;apply LB∘XI∘w8;refine U ?_ ?_<;>intro dY;·refine eP (hI (a8 (bK (c2 ?_))));apply MQ∘oH;refine bQ L R rJ ?_;exact aEa
 have dG:w.over=true:=by simpa using dY
 apply dC∘j0∘KH∘w8;refine U ?_ ?_<;>intro h1;·apply eB∘vZ;refine eZ (hI (a8 (bK (c2 ?_))));apply MQ∘oH;refine bQ L R rJ ?_;exact aI9
 have fY:¬l.clear<x.bW:=by omega
 apply tD∘fD∘CP;refine U ?_ ?_<;>intro h2;·
  apply tR∘vZ∘FX∘fD∘j3∘fD∘D7;refine U ?_ ?_<;>intro n8;·exact aSn
  exact aS7
 apply e0∘NF∘j3∘fD∘D7;refine U ?_ ?_<;>intro n8;·exact aSn
 exact aS7
def aZY(l:yW)(w:fU)(x:bC)(t:Int)(L:aR)(R:aO):
 aM prog 301 [l.val,w.val,x.val,.int .i64 t].toArray L R (λv E G=>v=.tuple #[(Kc l w x t).val,.int .i64 (yP l w t)]/\L=E/\R=G):=by
 refine b6 92 call301 func301 rfl rfl rfl ?_;apply(dB);intro eD;apply(iV);intro gQ;apply(iV);intro i1;apply(dZ);intro h6;apply hH∘MQ;refine cD rfl (a6K l _ _) ?_;apply(j7);refine U ?_ ?_<;>intro aQ;·exact aTl
 have aX:F2 l:=a6t.1 D;apply(LC);apply cA (Z:=[_,_]) (j:=2) (a9:=19) rfl rfl aB rfl aY rfl;·exact G3
 intro mK;apply(dE);apply cA (Z:=[_,_,_,_]) (j:=6) (a9:=23) rfl rfl aB rfl aY rfl;·intro kF;replace kF:=bB kF;exact(cE) O1
 intro IJ;apply(b9);refine U ?_ ?_<;>intro bL;·exact aQz
 have fH:¬(t<0\/2147483648<t\/t<w.A2):=by(try simp at bL);omega
 apply hN∘qO;apply cA (Z:=[_,_,_]) (j:=3) (a9:=33) rfl rfl aB rfl aY rfl;·exact Nz
 intro h8;apply(dE);apply cA (Z:=[_,_,_,_,_]) (j:=8) (a9:=38) rfl rfl aB rfl aY rfl;·intro gH;replace gH:=bB gH;exact(j0) MI
 intro uY;apply(dE);apply cA (Z:=[_,_,_,_,_,_,_,_]) (j:=15) (a9:=45) rfl rfl aB rfl aY rfl;·
  intro vM;replace vM:=bB vM;apply fD∘p9;apply iR (Z:=[_,_,_]) (j:=19) (a9:=49) rfl rfl aB rfl aY rfl;·intro AR;replace AR:=bB AR;exact(fD) I0
  intro bAn;exact g4
 intro a2G;apply(b9);refine U ?_ ?_<;>intro cC;·exact aOZ
 have qC:I6 w:=by rw[I6];cases dG:w.over<;>simp[dG]at cC|- <;>omega
 have c5:yP l w t=0:=a6Z aX fH qC;have GL:=qC.2.1;rw[a1v c5];apply SW∘vZ∘rF∘nZ∘fD;refine cD rfl (a7b x l.cut _ _) ?_;apply(rR);refine U ?_ ?_<;>intro dX;·apply a6A∘a0W∘NB∘MQ∘p8;refine bQ L R rJ ?_;exact⟨by rw[c5,v4,if_pos dX],rfl,rfl⟩
 have aU:¬uP x l.cut≠-1:=dX;apply D5∘nK;refine U ?_ ?_<;>intro dY;·apply dC∘MQ∘p8;refine bQ L R rJ ?_;exact aEa
 have dG:w.over=true:=by simpa using dY
 apply hN∘j0∘HS;refine U ?_ ?_<;>intro h1;·apply dC∘NB∘MQ∘p8;refine bQ L R rJ ?_;exact aI9
 have fY:¬l.clear<x.bW:=by omega
 apply(a6z);refine U ?_ ?_<;>intro h2;·apply tR∘vZ∘rF∘NF∘j3∘fD∘D7;exact aPz
 apply hN∘NF∘j3∘fD∘D7;exact aPz
end
def Cx(l:List jE)(j:Nat):Prop:=
 ((l.getD j default).kind=1/\0<=(l.getD j default).cond/\(l.getD j default).cond<64)\/
 ((l.getD j default).kind=2/\1<=j/\(l.getD j default).left=(j:Int)-1)\/
 (((l.getD j default).kind=3\/(l.getD j default).kind=4)/\1<=j/\(l.getD j default).right=(j:Int)-1/\0<=(l.getD j default).left/\(l.getD j default).left<(j:Int))
def YG{l:List jE}: ∀(n:Nat) (i f d:Int),oG l n i=some (f,d)->(0<=f/\f<=i)/\(1<=d/\d<=n)/\∀j:Nat,f<=(j:Int)->(j:Int)<=i->Cx l j
 |0,i,f,d,h=>by rw[oG]at h;cases h
 |n+1,i,f,d,h=>by
  rw[oG]at h
  split at h
  ·cases h
  rename_i aE
  have a7T:∀j:Nat,(j:Int)=i->l.getD j default=l.getD i.toNat default:=λj a6=>by rw[<-a6,xP]
  split at h
  ·rename_i O
   split at h
   ·rename_i X
    cases h
    refine⟨by omega,by omega,λj xJ wB=>?_⟩
    have a6:=a7T j D
    rw[Cx,a6]
    exact .inl ⟨O,X.2.2.1,X.2.2.2⟩
   ·cases h
  split at h
  ·rename_i O
   split at h
   ·cases h
   rename_i EG b8Z aP
   split at h
   ·rename_i X
    cases h
    obtain⟨Q2,Ve,XA⟩:=YG n _ _ _ aP
    refine⟨by omega,by omega,λj xJ wB=>?_⟩
    by_cases a6:(j:Int)=i
    ·have Lu:=a7T j a6
     rw[Cx,Lu]
     exact .inr (.inl ⟨O,by omega,by omega⟩)
    ·exact XA j xJ D
   ·cases h
  split at h
  ·rename_i O
   split at h
   ·cases h
   rename_i m r aP
   split at h
   ·rename_i X
    split at h
    ·cases h
    rename_i EG q cJ
    cases h
    obtain⟨Q2,Ve,XA⟩:=YG n _ _ _ aP
    obtain⟨g9,fI,o5⟩:=YG n _ _ _ cJ
    refine⟨by omega,by omega,λj xJ wB=>?_⟩
    by_cases a6:(j:Int)=i
    ·have Lu:=a7T j a6
     rw[Cx,Lu]
     exact .inr (.inr ⟨O,by omega,by omega,by omega,by omega⟩)
    ·rcases IY (j:Int) m with a3|a3
     ·exact o5 j xJ D
     ·exact XA j a3 D
   ·cases h
  ·cases h
def Jr{l:List jE}:BC l=true↔(1<=l.length/\l.length<=64)/\∃d,oG l l.length ((l.length:Int)-1)=some (0,d)/\d<=16:=by
 rw[BC,nH,decide_eq_true_eq];constructor;·
  rintro⟨O,X⟩;refine⟨O,?_⟩;split at X;·cases X
  ·rename_i f d aP;simp only[decide_eq_true_eq]at X;obtain⟨rfl,bM⟩:=X;exact⟨d,aP,bM⟩
 ·rintro⟨O,d,aP,bM⟩;refine⟨O,?_⟩;rw[aP];simpa using bM
def aF2{l:List jE}(h:BC l=true)(j:Nat)(a6:j<l.length):Cx l j:=by obtain⟨O,d,aP,_⟩:=Jr.1 h;exact(YG _ _ _ _ aP).2.2 j D D
def SX{l:List jE}{dR:List Int}: ∀k,(n2 l dR k).length=k
 |0=>rfl
 |k+1=>by rw[n2,l9,SX k];rfl
def UY{l:List jE}{dR:List Int}: ∀{k j:Nat},j<k->(n2 l dR k).getD j 0=AB dR (n2 l dR j) (l.getD j default)
 |0,j,h=>by omega
 |k+1,j,h=>by
  have aX:=SX (l:=l) (dR:=dR) k
  rw[n2,m8]
  rcases hF j k with O|O
  ·rw[XU D,<-m8]
   exact UY O
  ·obtain rfl:j=k:=by omega
   rw[Nv D,aX,Nat.sub_self]
   rfl
def RT(a b:Int):Prop:=(-1<=a/\a<=1)/\(-1<=b/\b<=1)/\(a=0\/a=b)
def aW4{dR MA v Hs:List Int}{x:jE}(b1:dR.length=MA.length)(cY:∀j:Nat,dR.getD j 0=0\/dR.getD j 0=MA.getD j 0)(M:∀j:Nat,-1<=MA.getD j 0/\MA.getD j 0<=1)(h:∀j:Nat,RT (v.getD j 0) (Hs.getD j 0)):RT (AB dR v x) (AB MA Hs x):=by
 have O:=h x.left.toNat;have X:=h x.right.toNat;rw[RT]at O X;rw[AB,AB];split;·have aU:=cY x.cond.toNat;have cK:=M x.cond.toNat;rw[UZ,UZ,<-b1,RT];split<;>split<;>omega
 split;·rw[RT];omega
 split;·rw[RT];omega
 ·rw[RT];omega
def aHN{l:List jE}{dR MA:List Int}(b1:dR.length=MA.length)(cY: ∀j:Nat,dR.getD j 0=0\/dR.getD j 0=MA.getD j 0)(M: ∀j:Nat,-1<=MA.getD j 0/\MA.getD j 0<=1): ∀k j:Nat,RT ((n2 l dR k).getD j 0) ((n2 l MA k).getD j 0)
 |0,j=>by rw[n2,n2];simp[RT]
 |k+1,j=>by
  have aX:=SX (l:=l) (dR:=dR) k
  have aMA:=SX (l:=l) (dR:=MA) k
  rcases hF j (k+1)with O|O
  ·rw[UY O,UY O]
   rcases hF j k with X|X
   ·have:=aHN (l:=l) b1 cY M k j
    rw[UY X,UY X]at this
    exact this
   ·obtain rfl:j=k:=by omega
    exact aW4 b1 cY M (aHN b1 cY M j)
  ·have eV:(n2 l dR (k+1)).length=k+1:=SX _
   have fN:(n2 l MA (k+1)).length=k+1:=SX _
   rw[m8,m8,uF D,uF D]
   simp[RT]
def aZI{dR v:List Int}{x:jE}(h:∀j:Nat,-1<=v.getD j 0/\v.getD j 0<=1):-1<=AB dR v x/\AB dR v x<=1:=by
 have O:=h x.left.toNat;have X:=h x.right.toNat;rw[AB];split;·rw[UZ];split<;>omega
 split;·omega
 split<;>omega
def a0J{l:List jE}{dR:List Int}: ∀k j:Nat,-1<=(n2 l dR k).getD j 0/\(n2 l dR k).getD j 0<=1
 |0,j=>by rw[n2];simp
 |k+1,j=>by
  rcases hF j (k+1)with O|O
  ·rw[UY O]
   rcases hF j k with X|X
   ·have:=a0J (l:=l) (dR:=dR) k j
    rw[UY X]at this
    exact this
   ·obtain rfl:j=k:=by omega
    exact aZI (a0J j)
  ·have eV:(n2 l dR (k+1)).length=k+1:=SX _
   rw[m8,uF D]
   simp
end Go.Proofs.YtchfclmokpbldaaGreat
namespace Go.Proofs.YtchfclmokpbldaaGreat
open Go.Aw Go Go.Proofs.Tryz
set_option maxRecDepth 20000
attribute [local irreducible] cQ dF dV aM cP eC e5 e1 e2 e6 eX e4 J.L
def aGn(h:A->B:=by exact bE (FB aY) rfl rfl rfl):=h
def aWb(h:B:=by exact⟨i,1,_,rfl,⟨by omega,λh=>by rw[qU,if_pos a31],λh=>by rw[qU,if_neg a31]⟩,rfl,rfl⟩):=h
def aFz(h:A->B:=by exact dT rfl (c6 (i-1) _ D D D) rfl):=h
def aXv(h:B:=by exact⟨f,max q r+1,eH,rfl,⟨by omega,λh=>by rw[qU,Et.A9 h],λh=>by rw[qU,Et.no h]⟩,rfl,rfl⟩):=h
def aTL(h:B:=by exact⟨0,0,false,rfl,⟨by omega,(λh=>by cases h),λ_=>by rw[oG,if_neg aQ,<-K,if_neg bL,if_neg cC,if_neg D]⟩,rfl,rfl⟩):=h
structure Zm(l:List jE)(n:Nat)(i f d:Int)(b:Bool):Prop where
 tT:0<=d/\d<=n
 A9:b=true->oG l n i=some (f,d)
 no:b=false->oG l n i=none
def Qp{l:List jE}{i:Int}(h:i<0): ∀n,oG l n i=none
 |0=>rfl
 |n+1=>by rw[oG,if_pos h]
def aHT{l:List jE}{n:Nat}{i:Int}{x:jE}(b2:¬i<0)(K:x=l.getD i.toNat default)(O:¬x.kind=1)(X:x.kind=2):
 oG l (n+1) i=match oG l n (i-1)with
  |none=>none
  |some (f,d)=>if x.cond=0/\x.right=0/\x.left=i-1 then some (f,d+1)else none:=by rw[oG,if_neg b2,<-K,if_neg O];exact if_pos X
def aLl{l:List jE}{n:Nat}{i:Int}{x:jE}(b2:¬i<0)(K:x=l.getD i.toNat default)(O:¬x.kind=1)(X:¬x.kind=2)(aU:x.kind=3\/x.kind=4):
 oG l (n+1) i=match oG l n (i-1)with
  |none=>none
  |some (m,r)=>if x.cond=0/\x.right=i-1/\x.left=m-1 then
   match oG l n (m-1)with
   |none=>none
   |some (f,q)=>some (f,max q r+1)else none:=by rw[oG,if_neg b2,<-K,if_neg O,if_neg X];exact if_pos aU
def aWQ(l:a4 jE)(n:Nat)(i:Int)(L:aR)(R:aO)(aE:i<0):
 aM prog 175 [l.val,.int .i64 i].toArray L R (λv E G=>∃(f d:Int) (b:Bool),v=.tuple #[.int .i64 f,.int .i64 d,.bool b]/\Zm l.l n i f d b/\L=E/\R=G):=by
 refine b6 122 call175 func175 rfl rfl rfl ?_;apply m3∘Du∘Dt;refine U ?_ ?_<;>intro aQ;·apply m3∘D6∘A3;refine bQ L R In ?_;exact⟨0,0,false,rfl,⟨by omega,(λh=>by cases h),λ_=>Qp aE n⟩,rfl,rfl⟩
 (exfalso;omega)
def aUs(l:a4 jE)(n:Nat)(R:aO)(aX:aL (D1 l) R)(b1:n<=64)
 (c6:∀(i:Int) (L:aR),i<n->i<l.l.length->-1<=i->aM prog 175 [l.val,.int .i64 i].toArray L R (λv E G=>∃(f d:Int) (b:Bool),v=.tuple #[.int .i64 f,.int .i64 d,.bool b]/\Zm l.l n i f d b/\L=E/\R=G))
 (i:Int) (L:aR) (aE:i<n+1) (WO:i<l.l.length) (GG:-1<=i):
 aM prog 175 [l.val,.int .i64 i].toArray L R (λv E G=>∃(f d:Int) (b:Bool),v=.tuple #[.int .i64 f,.int .i64 d,.bool b]/\Zm l.l (n+1) i f d b/\L=E/\R=G):=by
 refine b6 122 call175 func175 rfl rfl rfl ?_;apply m3∘Du∘Dt;refine U ?_ ?_<;>intro aQ;·apply m3∘D6∘A3;refine bQ L R In ?_;exact⟨0,0,false,rfl,⟨by omega,(λh=>by cases h),λ_=>Qp aQ _⟩,rfl,rfl⟩
 have pX:=bJ (l:=l.l) (k:=i.toNat) default D;obtain⟨x,K⟩:∃x,x=l.l.getD i.toNat default:=⟨_,rfl⟩;rw[<-K]at pX;apply(NC);refine aI aQ7 rfl ?_;apply(LG);intro o0;apply(F0);refine eZ (a8 (fR (bK (c2 ?_))));apply(vX);refine U ?_ ?_<;>intro bL;·
  refine bK ?_;refine gZ N [0,1,2,3,4,5,6,7,8,9,10,11,12,13,14,15,16,17,18,19,20,21] ([bN.mk o0 _ _]) dO bI bA ?_;apply hK∘g7;refine bE BA rfl rfl rfl ?_;apply(sS);refine lQ (k:=30) aY (λeR=>?_) (λeR=>?_);·
   replace eR:=bB eR;apply(g7);refine bE BA rfl rfl rfl ?_;apply(k1);refine lQ (k:=35) aY (λgH=>?_) (λgH=>?_);·
    replace gH:=bB gH;apply(g7);refine bE G4 rfl rfl rfl ?_;apply(k1);refine lQ (k:=40) aY (λoL=>?_) (λoL=>?_);·replace oL:=bB oL;apply(g7);refine bE E0 rfl rfl rfl ?_;exact a3R
    replace oL:=bB oL;(iterate 3 apply(iU));exact a3R
   replace gH:=bB gH;(iterate 3 apply(iU));apply(k1);(iterate 3 apply(iU));exact a3R
  replace eR:=bB eR;iterate 3 apply(iU)
  apply(k1);iterate 3 apply(iU)
  apply(k1);iterate 3 apply(iU)
  exact a3R
 apply(oI);refine U ?_ ?_<;>intro cC;·
  apply SN∘j3∘aFz;rintro v E G ⟨f,d,b,rfl,kX,rfl,rfl⟩;have a8q:=kX.tT;refine aI iL rfl ?_;iterate 3 apply(IQ)
  apply dM∘D6∘j2;refine gZ N [0,1,2,3,4,5,6,7,8,9,10,11,12,13,14,15,16,17,18,19,20,21,22,23] ([bN.mk o0 _ _]) dO bI bA ?_;apply hK∘hK∘GR∘sS∘sS;refine lQ (k:=59) aY (λeR=>?_) (λeR=>?_);·
   replace eR:=bB eR;apply(g7);refine bE BA rfl rfl rfl ?_;apply(k1);refine lQ (k:=64) aY (λgH=>?_) (λgH=>?_);·
    replace gH:=bB gH;apply(g7);refine bE BA rfl rfl rfl ?_;apply(k1);refine lQ (k:=69) aY (λoL=>?_) (λoL=>?_);·replace oL:=bB oL;apply l1∘vQ;refine bE BA rfl rfl rfl ?_;exact a3c
    replace oL:=bB oL;(iterate 5 apply(iU));exact a3c
   replace gH:=bB gH;(iterate 3 apply(iU));apply(k1);(iterate 5 apply(iU));exact a3c
  replace eR:=bB eR;iterate 3 apply(iU)
  apply(k1);iterate 3 apply(iU)
  apply(k1);iterate 5 apply(iU)
  exact a3c
 apply tD∘vX;refine U ?_ ?_<;>intro dX;·refine eP (a8 ?_);exact aO5
 apply eB∘vX;exact aO5
def aJ8(l:a4 jE)(R:aO)(aX:aL (D1 l) R):∀(n:Nat),n<=64->∀(i:Int) (L:aR),i<n->i<l.l.length->-1<=i->
 aM prog 175 [l.val,.int .i64 i].toArray L R (λv E G=>∃(f d:Int) (b:Bool),v=.tuple #[.int .i64 f,.int .i64 d,.bool b]/\Zm l.l n i f d b/\L=E/\R=G)
 |0,_,i,L,aE,_,_=>aWQ l 0 i L R D
 |n+1,b1,i,L,aE,WO,GG=>aUs l n R aX D (λi L O X aU=>aJ8 l R aX n D i L O X aU) i L aE WO GG
def aEs(l:a4 jE)(L:aR)(R:aO)(aX:aL (D1 l) R):
 aM prog 99 [l.val].toArray L R (λv E G=>v=.bool (BC l.l)/\L=E/\R=G):=by
 refine b6 32 call99 func99 rfl rfl rfl ?_;apply VY∘pR∘z5;apply cA (Z:=[_,_,_]) (j:=3) (a9:=9) rfl rfl aB rfl aY rfl;·intro eR;replace eR:=bB eR;exact(pR) MI
 intro h8;apply(b9);refine U ?_ ?_<;>intro aQ;·exact aPG
 apply D9∘VV;refine dT rfl (aJ8 l _ aX l.l.length D _ _ D D D) rfl ?_;rintro v E G ⟨f,d,b,rfl,kX,rfl,rfl⟩;refine aI iL rfl ?_;iterate 3 apply(IQ)
 apply dM∘D6∘j8∘dE∘dE;apply iR (Z:=[_,_]) (j:=1) (a9:=24) rfl rfl aB rfl aY rfl;·intro jL;replace jL:=bB jL;exact(cE) KV
 intro aNx;apply(dE);apply iR (Z:=[_,_]) (j:=5) (a9:=28) rfl rfl aB rfl aY rfl;·intro kL;replace kL:=bB kL;exact(cE) RI
 intro XC;apply(uK);refine lG L R ?_;refine⟨?_,rfl,rfl⟩;rw[BC,show decide (1<=l.l.length/\l.l.length<=64)=true from decide_eq_true D];cases b with
 |false=>rw[kX.no rfl];rfl
 |true=>rw[kX.A9 rfl];refine congrArg Value.bool ?_;rw[Bv];simp
def aZp{l:List jE}{n:Nat}(h:BC l=true)(k:Nat)(aG:k<l.length)(O:(l.getD k default).kind=1)(X:(n:Int)<=(l.getD k default).cond):HA l n=1:=by rw[HA,if_neg (by rw[h];decide),if_pos ⟨_,hV (bJ default aG),O,X⟩]
def aZF{l:List jE}{n:Nat}(h:BC l=true)(aG:∀k:Nat,k<l.length->¬((l.getD k default).kind=1/\(n:Int)<=(l.getD k default).cond)):HA l n=0:=by
 rw[HA,if_neg (by rw[h];decide),if_neg];rintro⟨x,K,O,X⟩;obtain⟨k,Lw,rfl⟩:=List.mem_iff_getElem.1 K;have e:l.getD k default=l[k]:=by rw[m8,DN Lw];rfl
 exact aG k Lw (by rw[e];exact⟨O,X⟩)
def aUQ(l:a4 jE)(n:Nat)(L:aR)(R:aO)(aX:aL (D1 l) R):
 aM prog 225 [l.val,.int .i64 (n:Int)].toArray L R (λv E G=>v=.int .i64 (HA l.l n)/\L=E/\R=G):=by
 refine b6 26 call225 func225 rfl rfl rfl ?_;apply PU∘gU;refine cD rfl (aEs l _ _ aX) ?_;apply(nK);refine U ?_ ?_<;>intro aQ;·apply(kM);refine cX L R ?_;exact⟨by rw[HA,if_pos zR],rfl,rfl⟩
 have M:BC l.l=true:=by simpa using aQ
 have j1:=(Jr.1 M).1;apply hN∘BN;refine dS [(1,.int _ _),(10,.slice _ _ _),(11,.int _ _),(12,.int _ _)] bV λfK=>?_;refine gY ([4,6]++cN 12 14) (λg:{k:Nat//k<=l.l.length/\∀j:Nat,j<k->¬((l.l.getD j default).kind=1/\(n:Int)<=(l.l.getD j default).cond)}=>[(12,.int .i64 ((g.1:Nat):Int))]) (λg=>l.l.length-g.1) (⟨0,by omega,λj a6=>by omega⟩) ?_;rintro⟨k,aG,hC⟩ cH;try dsimp only
 apply(h0);refine U ?_ ?_<;>intro bL;·
  have O:=bJ (l:=l.l) (k:=k) default D;apply(j9);refine aI pL rfl ?_;apply(LG);intro i1;apply z8∘sG;apply iR (Z:=[_,_,_,_]) (j:=3) (a9:=19) rfl rfl aB rfl aY rfl;·exact a4d
  intro h8;apply(b9);refine U ?_ ?_<;>intro cC;·exact aPK
  apply(mU);exact a3d
 exact aQF
end Go.Proofs.YtchfclmokpbldaaGreat
namespace Go.Proofs.YtchfclmokpbldaaGreat
open Go.Aw Go Go.Proofs.Tryz
section
def aZX(h:A->B:=by exact aI mM rfl):=h
def aTQ(h:A->B:=by exact aI aQG rfl):=h
def aJS(h:A->B:=by exact aI Ck rfl):=h
def aXP{P:Program}{bF:Operand->Value}{L:aR}{R:aO}{dst:Option Tmp}{ty:TypeId}{pos:String}{after:Array Edge}{guard:Option (Nat×Bool)}(N:oE P){T:TypeId}{x y:Operand}{k:IntKind}{a:Int}{e n fV g0 z nB iX fI}{aA rB:List (Nat×Nat)}{h len cap i:Nat}{jQ:Option Addr}{rows:List (List Value)}{eU:aO}(dW:hW N.g1 T=some ⟨.slice e,n,aA,g0,z⟩)(c5:hW N.g1 e=some ⟨fI,fV,rB,nB,iX⟩)
 (K:bF x=.slice jQ h cap) (aS:bF y=.int k a) (bO:aL (.mk fV jQ len cap rows eU) R) (IF:h<=len) (aE:a=(i:Int)) (i3:i<h):
 cP P ⟨dst,.indexAddr T x y,ty,pos,after,guard⟩ bF L R (.pointer (some ⟨w9 jQ,n6 jQ fV i 0,none⟩)):=λc w cT=>by
 obtain⟨⟨Z,b4,b7⟩,dG,aG⟩:=cT
 have b5x:dQ c L (.mk fV jQ h cap (rows.take h) eU::R) w:=⟨⟨Z,⟨b4.nM,b4.own,b4.tZ,b4.sM,λr M=>by
  rcases List.mem_cons.1 M with rfl|M
  ·obtain⟨aB4,QX,aH⟩:=bO
   exact aDt ((b4.o8 aB4 QX).sub aH) IF
  ·exact b4.o8 r M⟩,b7⟩,dG,aG⟩
 exact j4 N dW c5 K aS mA aE i3 c w b5x
attribute [local irreducible] cQ dF dV aM cP eC e5 e1 e2 e6 eX e4 J.L
def Qh(a b:Int)(L:aR)(R:aO):
 aM prog 178 [.int .i64 a,.int .i64 b].toArray L R (λv E G=>v=.bool (decide (0<=a/\a<b))/\L=E/\R=G):=by
 refine b6 12 call178 func178 rfl rfl rfl ?_;apply LA∘FX∘GQ∘dE;apply iR (Z:=[_,_,_]) (j:=2) (a9:=7) rfl rfl aB rfl aY rfl;·intro fQ;replace fQ:=bB fQ;exact(lD) DU
 intro mK;exact a3f
def aDz{a:b3}{S:List gP}{i:Nat}{x:gP}(K:x=S.getD i default)(O:p5 x=0)(X:0<=x.target/\x.target<PM a x)(aU:∀k:Nat,k<i->(S.getD k default).hX≠x.hX):wL a S i=none:=by rw[wL,<-K,if_neg D,if_neg (λh=>h X),if_neg];rintro⟨k,g9,fI⟩;exact aU k g9 fI
def b0I(s:eA)(L:aR)(R:aO)(aH:aL (CI s.cO) R)(b1:s.cO.l.length<=64):
 aM prog 145 [s.val].toArray L R (λv E G=>v=.int .i64 (HJ s.b0 s.cO.l)/\L=E/\R=G):=by
 refine G9 call145 aH λJ2=>?_;refine b6 62 call145 func145 rfl rfl rfl ?_;apply(dB);intro gL;apply hH∘qP;refine dS [(1,.pointer _),(10,.slice _ _ _),(11,.int _ _),(12,.int _ _)] bV λfK=>?_;refine gY ([2,3,4,5,6,8]++cN 12 50) (λg:E5 (wL s.b0 s.cO.l) (s.cO.l.length)=>[(12,.int .i64 ((g.1:Nat):Int))]) (λg=>(s.cO.l.length)-g.1) ⟨0,EC _ _⟩ ?_;rintro⟨fF,zA,gM⟩ cH;try dsimp only
 apply(h0);refine U ?_ ?_<;>intro aQ;·
  have pX:=bJ (l:=s.cO.l) (k:=fF) default D;obtain⟨x,K⟩:∃x,x=s.cO.l.getD fF default:=⟨_,rfl⟩;rw[<-K]at pX;apply(oJ);refine aI O0 rfl ?_;apply aJS∘dZ;intro eD;apply dM∘rT;refine aI q1 rfl ?_;refine cD rfl (a62 x _ _) ?_;apply(j7);refine U ?_ ?_<;>intro bL;·apply SM∘Bg;refine cX L R ?_;have h:=wH gM D aQ0;exact On
  apply(e0);iterate 3 apply(e7)
  apply SI∘LH∘b9;refine F3 ([6]++cN 29 12) ((⟨λg=>[(6,.int .i64 g.1)],λ_=>⟨eD,x.cells,88⟩::⟨gL,s.cells,38⟩::L,λ_=>R,λ_=>0⟩:fB {n:Int//n=PM s.b0 x})) ?_ ?_;·
   refine fR (bK (c2 ?_));apply(vX);refine U ?_ ?_<;>intro cC;·apply eB∘CT∘dM;refine eZ (hI ?_);exact aCk
   apply(oI);refine U ?_ ?_<;>intro dX;·apply eB∘CT∘dM;refine eZ (hI ?_);exact aCk
   refine eP (hI ?_);exact aCk
  rintro⟨of,Gh⟩ cH;try dsimp only
  apply tD∘gK;refine cD rfl (Qh x.target of _ _) ?_;apply(nK);refine U ?_ ?_<;>intro dY;·apply(FU);refine cX L R ?_;have h:=wH gM D (show wL s.b0 s.cO.l fF=some 9 by rw[wL,<-K,if_neg D,if_pos (by rw[<-Gh];simpa using dY)]);exact On
  apply e0∘gK;refine aI (a6V N rfl rfl rfl rfl (n:=fF) dA D) rfl ?_;apply u0∘VM;refine FP ([2,3,4,5,6,8]++cN 12 50) G1 [(4,.pointer _),(12,.int _ _),(49,.slice _ _ _),(50,.int _ _),(51,.int _ _)] bV λoA=>?_;refine gY ([2,8]++cN 51 10) (λg:{j:Nat//j<=fF/\∀m:Nat,m<j->(s.cO.l.getD m default).hX≠x.hX}=>[(51,.int .i64 ((g.1:Nat):Int))]) (λg=>fF-g.1) (⟨0,by omega,λm a3=>by omega⟩) ?_;rintro⟨j,a6,hC⟩ cH;try dsimp only
  apply(h0);refine U ?_ ?_<;>intro h1;·
   have Lv:=bJ (l:=s.cO.l) (k:=j) default D;apply(j9);refine aI (aXP N rfl rfl rfl rfl aH D (i:=j) rfl D) rfl ?_;apply aJS∘dZ;intro h6;apply sI∘j0∘nJ;refine U ?_ ?_<;>intro h2;·apply(m3);refine eZ (a8 (iY (iM (gB (vW (iM (iM (gB (vW (iM (gB ?_)))))))))));refine cX L R ?_;have h:=wH gM D (show wL s.b0 s.cO.l fF=some 9 by rw[wL,<-K,if_neg D,if_neg (λh=>h (by rw[<-Gh];simpa using dY)),if_pos ⟨j,by omega,h2⟩]);exact On
   apply(mU);exact aPT
  refine mD (mF (xY (mB (hI (a8 (c2 ?_))))));apply(s6);exact eO ⟨fF+1,z2 gM D (aDz K D (by rw[<-Gh];simpa using dY) (λm a3=>hC m D))⟩
 exact aTq
def aTW(s:eA)(c:qM)(L:aR)(R:aO)(aH:aL (CI s.cO) R)(b1:s.cO.l.length<=64):
 aM prog 146 [s.val,c.val].toArray L R (λv E G=>v=.int .i64 (K1 s.cO.l s.b0.aC.aJ.l.length c)/\L=E/\R=G):=by
 refine b6 62 call146 func146 rfl rfl rfl ?_;apply(dB);intro eH;apply(iV);intro eS;apply(LH);refine eZ (a8 (fR (bK (bK (c2 ?_)))));apply(vX);refine U ?_ ?_<;>intro aQ;·refine eP (a8 ?_);exact aCe
 apply(oI);refine U ?_ ?_<;>intro bL;·refine eP (a8 ?_);exact aCe
 apply eB∘vX;exact aCe
def aJy{fC n:Nat}{z:kW}(O:HA z.jN.l fC=0)(X:¬(z.hold<0\/100000<z.hold\/z.uR<0\/100<z.uR))(k:Nat)(aG:k<z.aJ.l.length)(h:AC n z.aJ.l k):BQ fC n z=4:=by rw[BQ,if_neg D,if_neg X,if_pos ⟨k,aG,h⟩]
def b0l{fC n:Nat}{z:kW}(O:HA z.jN.l fC=0)(X:¬(z.hold<0\/100000<z.hold\/z.uR<0\/100<z.uR))(h:∀k:Nat,k<z.aJ.l.length->¬AC n z.aJ.l k):BQ fC n z=0:=by rw[BQ,if_neg D,if_neg X,if_neg];rintro⟨k,g9,fI⟩;exact h k g9 fI
def aT9(s:eA)(z:kW)(L:aR)(R:aO)(M:aL (D1 z.jN) R)(eW:aL (dU z.aJ) R):
 aM prog 147 [s.val,z.val].toArray L R (λv E G=>v=.int .i64 (BQ s.fC.l.length s.b0.aC.aJ.l.length z)/\L=E/\R=G):=by
 refine m1 call147 eW λKC=>?_;refine b6 66 call147 func147 rfl rfl rfl ?_;apply(dB);intro eH;apply(iV);intro eS;apply LH∘kD;refine cD rfl (aUQ z.jN s.fC.l.length _ _ M) ?_;apply(j7);refine U ?_ ?_<;>intro aQ;·apply(FW);refine cX L R ?_;exact⟨by rw[BQ,if_pos aQ],rfl,rfl⟩
 apply hN∘qO;apply cA (Z:=[_,_,_]) (j:=3) (a9:=20) rfl rfl aB rfl aY rfl;·exact DR
 intro h8;apply(dE);apply cA (Z:=[_,_,_]) (j:=8) (a9:=25) rfl rfl aB rfl aY rfl;·exact Ce
 intro uY;apply(dE);apply cA (Z:=[_,_,_]) (j:=13) (a9:=30) rfl rfl aB rfl aY rfl;·exact Ic
 intro Q3;apply(b9);refine U ?_ ?_<;>intro bL;·exact aPQ
 apply(NI);refine dS [(2,.pointer _),(3,.pointer _),(36,.slice _ _ _),(37,.int _ _),(38,.int _ _)] bV λfK=>?_;refine gY ([4,6,7]++cN 38 28) (λg:{k:Nat//k<=z.aJ.l.length/\∀j:Nat,j<k->¬AC s.b0.aC.aJ.l.length z.aJ.l j}=>[(38,.int .i64 ((g.1:Nat):Int))]) (λg=>z.aJ.l.length-g.1) (⟨0,by omega,λj a6=>by omega⟩) ?_;rintro⟨k,aG,hC⟩ cH;try dsimp only
 apply(h0);refine U ?_ ?_<;>intro cC;·
  have qG:=bJ (l:=z.aJ.l) (k:=k) 0 D;apply(oJ);refine aI pL rfl ?_;apply jG∘dM∘rS;iterate 3 apply(e7)
  apply(SI);refine cD rfl (Qh (z.aJ.l.getD k 0) (s.b0.aC.aJ.l.length:Int) _ _) ?_;apply(JR);apply cA (Z:=[_,_,_,_,_,_,_,_,_,_,_,_]) (j:=8) (a9:=51) rfl rfl aB rfl aY rfl;·
   intro gH;replace gH:=bB gH;apply Ds∘dE;apply iR (Z:=[_,_,_,_,_,_,_,_]) (j:=11) (a9:=54) rfl rfl aB rfl aY rfl;·intro C9;replace C9:=bB C9;have b57:=bJ (l:=z.aJ.l) (k:=k-1) 0 (by simp at C9;omega);apply cE∘a0Y;refine aI aDo rfl ?_;exact(jG) RI
   intro Vg;exact g4
  intro uY;apply(b9);refine U ?_ ?_<;>intro dX;·apply(vY);refine cX L R ?_;exact⟨by rw[aJy (n:=s.b0.aC.aJ.l.length) D D k D (by rw[AC];omega)],rfl,rfl⟩
  apply(mU);exact aCb
 exact aQs
end
section
attribute [local irreducible] cQ dF dV aM cP eC e5 e1 e2 e6 eX e4 J.L
def aFo(k:Int)(L:aR)(R:aO):
 aM prog 172 [.int .i64 k].toArray L R (λv E G=>v=.bool (decide (4<=k))/\L=E/\R=G):=by refine b6 5 call172 func172 rfl rfl rfl ?_;apply LA∘FX∘GQ∘uK;refine lG L R ?_;exact MK
def b0q(n b5 aE:Int)(L:aR)(R:aO):
 aM prog 261 [.int .i64 n,.int .i64 b5,.int .i64 aE].toArray L R (λv E G=>v=.bool (decide (b5<=n/\n<=aE))/\L=E/\R=G):=by
 refine b6 15 call261 func261 rfl rfl rfl ?_;apply LA∘j8∘lD∘XK∘dE;apply iR (Z:=[_,_,_]) (j:=3) (a9:=10) rfl rfl aB rfl aY rfl;·intro eR;replace eR:=bB eR;exact(lD) RI
 intro h8;exact a3f
def Yr(s:gP)(L:aR)(R:aO):
 aM prog 250 [s.val].toArray L R (λv E G=>v=.int .i64 (p5 s)/\L=E/\R=G):=by
 refine b6 46 call250 func250 rfl rfl rfl ?_;apply(dB);intro gL;apply(LH);refine cD rfl Xj ?_;apply(nK);refine U ?_ ?_<;>intro aQ;·apply(kM);refine cX L R ?_;exact⟨by simp at aQ;rw[p5,if_pos D],rfl,rfl⟩
 apply(D5);refine cD rfl Xj ?_;apply(JR);apply cA (Z:=[_,_,_]) (j:=4) (a9:=11) rfl rfl aB rfl aY rfl;·intro hD;replace hD:=bB hD;exact O1
 intro wP;apply(dE);apply cA (Z:=[_,_,_,_]) (j:=9) (a9:=16) rfl rfl aB rfl aY rfl;·intro mW;replace mW:=bB mW;exact Xc
 intro At;apply(dE);apply cA (Z:=[_,_,_,_]) (j:=15) (a9:=22) rfl rfl aB rfl aY rfl;·intro vM;replace vM:=bB vM;exact Xc
 intro a2G;apply(dE);apply cA (Z:=[_,_,_,_]) (j:=21) (a9:=28) rfl rfl aB rfl aY rfl;·intro Z5;replace Z5:=bB Z5;exact Xc
 intro bAo;apply(dE);apply cA (Z:=[_,_,_,_]) (j:=27) (a9:=34) rfl rfl aB rfl aY rfl;·intro aMk;replace aMk:=bB aMk;exact Xc
 intro bAr;apply(dE);apply cA (Z:=[_,_,_,_]) (j:=33) (a9:=40) rfl rfl aB rfl aY rfl;·intro WM;replace WM:=bB WM;exact Xc
 intro bAt;apply(b9);refine U ?_ ?_<;>intro bL;·apply(kM);refine cX L R ?_;exact⟨by simp at aQ bL;rw[p5,if_neg D,if_neg (by rw[DW];omega)],rfl,rfl⟩
 apply(PN);refine cX L R ?_;exact⟨by simp at aQ bL;rw[p5,if_neg D,if_pos (by rw[DW];omega)],rfl,rfl⟩
def aEU(a b:Int)(L:aR)(R:aO)(bT:-1000000000000<=a/\a<=1000000000000)(a5:0<b/\b<=1000000):
 aM prog 291 [.int .i64 a,.int .i64 b].toArray L R (λv E G=>v=.int .i64 (a/b)/\L=E/\R=G):=by
 have bM:-1000000000000<=a.tdiv b/\a.tdiv b<=1000000000000:=by have O:=Int.natAbs_tdiv_le_natAbs a b;omega
 refine b6 16 call291 func291 rfl rfl rfl ?_;apply m3∘j8∘lD∘L6∘hH∘lD∘Mw∘CP;refine U ?_ ?_<;>intro aQ;·apply tR∘j3∘rS∘vB;refine cX L R ?_;exact⟨by rw[<-a7F a5.1,if_pos aQ],rfl,rfl⟩
 apply e0∘Qx;refine cX L R ?_;exact⟨by rw[<-a7F a5.1,if_neg aQ],rfl,rfl⟩
def aH2(a b:Int)(L:aR)(R:aO)(bT:-1000000000000<=a/\a<=1000000000000)(a5:0<b/\b<=1000000):
 aM prog 259 [.int .i64 a,.int .i64 b].toArray L R (λv E G=>v=.int .i64 (-((-a)/b))/\L=E/\R=G):=by
 have bM:-1000000000001<=(-a)/b/\(-a)/b<=1000000000001:=by have O:=Int.natAbs_ediv_le_natAbs (-a) b;omega
 refine b6 10 call259 func259 rfl rfl rfl ?_;apply m3∘FX∘wX∘cE;refine cD rfl (aEU (-a) b _ _ D a5) ?_;exact(wX∘vB) Oa
def aEQ(k:Int)(L:aR)(R:aO):
 aM prog 260 [.int .i64 k].toArray L R (λv E G=>v=.bool (decide (k=1\/k=2))/\L=E/\R=G):=by
 refine b6 9 call260 func260 rfl rfl rfl ?_;apply LA∘FX∘sG;apply cA (Z:=[_,_]) (j:=2) (a9:=5) rfl rfl aB rfl aY rfl;·intro fQ;replace fQ:=bB fQ;exact(cE) KV
 intro mK;exact a3f
def b0b{s:gP}{m:eE}{t:Int}(h:¬BI s m t):-((-(s.H5*(t-m.time)))/1000)=YS s m t:=by have a5:=a1k h;rw[YS,GY D];omega
def aUY{s:gP}{m:eE}{t:Int}(h:¬BI s m t):1<=s.kind/\s.kind<=6:=by
 rw[BI]at h;have W:p5 s=0:=by omega
 rw[p5]at W;split at W;·omega
 ·omega
def aHZ(s:gP)(m:eE)(t:Int)(L:aR)(R:aO)(a3:v2 m)(fH:0<=t/\t<=2147483648):
 aM prog 212 [s.val,m.val,.int .i64 t].toArray L R (λv E G=>v=(v6 s m t).val/\L=E/\R=G):=by
 rw[v2]at a3;refine b6 75 call212 func212 rfl rfl rfl ?_;apply(dB);intro eS;apply(iV);intro eD;apply(dZ);intro i1;apply(CB);refine gZ N [0,1,2,3,4,5,6,7,8,9,10,11,12,13,14,15,16,17,18,19,20,21,22,23,24,25,26,27,28] _ dO bI hA ?_;refine bE q1 rfl rfl rfl ?_;refine lW rfl (Yr s _ _) ?_;refine bE KU rfl rfl rfl ?_;apply(sS);refine lQ (k:=12) aY (λfQ=>?_) (λfQ=>?_);·
  replace fQ:=bB fQ;have y9:BI s m t:=.inl (by simpa using fQ);iterate 3 apply(iU)
  apply(k1);iterate 4 apply(iU)
  apply(k1);iterate 4 apply(iU)
  apply(k1);iterate 7 apply(iU)
  apply(l2);refine vS rfl ?_;apply(dC);refine cD rfl G5 ?_;apply(CR);refine bQ L R kS ?_;first
  |exact Nf
  |exact Vw
 replace fQ:=bB fQ;apply(g7);refine bE E0 rfl rfl rfl ?_;apply(k1);refine lQ (k:=17) aY (λhM=>?_) (λhM=>?_);·
  replace hM:=bB hM;have y9:BI s m t:=.inr (.inl (by simp at fQ hM;omega));iterate 4 apply(iU)
  apply(k1);iterate 4 apply(iU)
  apply(k1);iterate 7 apply(iU)
  apply(l2);refine vS rfl ?_;apply(dC);refine cD rfl G5 ?_;apply(CR);refine bQ L R kS ?_;first
  |exact Nf
  |exact Vw
 replace hM:=bB hM;apply lA∘T7;refine lW rfl G5 ?_;refine bE (a01 Kh rfl rfl) rfl rfl rfl ?_;apply(k1);refine lQ (k:=23) aY (λoL=>?_) (λoL=>?_);·
  replace oL:=bB oL;have y9:BI s m t:=.inr (.inr (.inl (by rw[R4];simp[kH]at fQ hM oL|-;omega)));iterate 4 apply(iU)
  apply(k1);iterate 7 apply(iU)
  apply(l2);refine vS rfl ?_;apply(dC);refine cD rfl G5 ?_;apply(CR);refine bQ L R kS ?_;first
  |exact Nf
  |exact Vw
 replace oL:=bB oL;apply hK∘g7;refine bE E0 rfl rfl rfl ?_;apply(k1);refine lQ (k:=29) aY (λAR=>?_) (λAR=>?_);·
  replace AR:=bB AR;have y9:BI s m t:=.inr (.inr (.inr (.inl (by simp[kH]at fQ hM oL AR;omega))));iterate 7 apply(iU)
  apply(l2);refine vS rfl ?_;apply(dC);refine cD rfl G5 ?_;apply(CR);refine bQ L R kS ?_;first
  |exact Nf
  |exact Vw
 replace AR:=bB AR;apply hK∘g7∘vQ∘g7;refine bE UK rfl rfl rfl ?_;apply(l2);refine U ?_ ?_<;>intro aQ;·
  apply(dC);refine cD rfl G5 ?_;apply(CR);refine bQ L R kS ?_;first
  |exact Nf
  |exact Vw
 have y9:¬BI s m t:=by rw[BI,R4];simp[kH]at fQ hM oL AR aQ|-;omega
 obtain⟨EL,y8⟩:=a1k y9;have b3V:=aUY y9;have Ge:=b0b y9;apply(D5);refine cD rfl (aFo _ _ _) ?_;apply(b9);refine U ?_ ?_<;>intro bL;·apply dC∘z6∘CR;refine bQ L R kS ?_;exact⟨by rw[v6,if_neg y9,if_pos D],rfl,rfl⟩
 apply e0∘gK∘fD∘j3∘L5;refine cD rfl (aH2 (s.H5*(t-m.time)) 1000 _ _ D aW) ?_;rw[Ge];apply mO∘BM∘j3∘BM∘k3∘A4∘dZ;intro h6;apply(F0);refine cD rfl (aEQ _ _ _) ?_;apply(b9);refine U ?_ ?_<;>intro cC;·apply eB∘fD;refine aI E1 rfl ?_;apply(fD);refine aI E1 rfl ?_;apply vZ∘NB∘JP;refine bQ L R kS ?_;exact⟨by rw[v6,if_neg y9,if_neg D,if_pos cC];try rfl,rfl,rfl⟩
 apply e0∘JP;refine bQ L R kS ?_;exact⟨by rw[v6,if_neg y9,if_neg D,if_neg cC];try rfl,rfl,rfl⟩
def aWz{l:List bC}{x:bC}(h:l[0]?=some x):PA l x 1=x:=by rw[a58 (k:=0) h];show(⟨max x.bU x.bU,min x.bW x.bW⟩:bC)=x;rw[Int.max_self,Int.min_self]
def a0K(h:A->B:=by exact fP aRg rfl rfl rfl rfl):=h
def a4z(h:A->B:=by exact aI q1 rfl):=h
def aJf(h:B:=by exact⟨by rw[nO,if_neg D,if_neg D,if_neg D,if_neg D,if_neg D,e],rfl,rfl⟩):=h
def aEl(h:A->B:=by exact aI aRg rfl):=h
def aHL(h:A->B:=by exact iS N [] [0,1,2,3,4,5,6,7,8,9,10] [11] ([bN.mk h6 _ _,bN.mk eD _ _]) _ dO bI bA (by(repeat(first|apply List.Sublist.cons (a:=bN.mk h6 _ _)|apply List.Sublist.cons_cons));exact rH _)):=h
def aIG(h:A->B:=by exact fP Ck rfl rfl rfl rfl):=h
def aIx(h:A->B:=by exact fP a4c rfl rfl rfl rfl):=h
def a1f{e:Int}(h:e=0):xL e=none:=by rw[xL,if_pos h]
def Yj{e:Int}(h:e≠0):xL e=some e:=by rw[xL,if_neg h]
abbrev a5f(s:eA):qM->Option Int:=λc=>xL (K1 s.cO.l s.b0.aC.aJ.l.length c)
abbrev a5m(s:eA):kW->Option Int:=λz=>xL (BQ s.fC.l.length s.b0.aC.aJ.l.length z)
abbrev YV:Int->Option Int:=λp=>if p<1\/3<p then some 19 else none
def a0d(s:eA)(L:aR)(R:aO)(aH:zY s R):
 aM prog 74 [s.val].toArray L R (λv E G=>v=.int .i64 (nO s)/\L=E/\R=G):=by
 have jB:=aH.cO;have AN:=aH.fC;have o4:=aH.a2;have WS:=aH.lM;refine b6 90 call74 func74 rfl rfl rfl ?_;apply(dB);intro gL;apply hH∘e7∘r5;refine cD rfl (Zd s.b0 _ _ aH.b0) ?_;apply(j7);refine U ?_ ?_<;>intro aQ;·apply(FW);refine cX L R ?_;exact⟨by rw[nO,if_pos aQ],rfl,rfl⟩
 apply hN∘JM∘dE;apply cA (Z:=[_,_,_,_]) (j:=4) (a9:=23) rfl rfl aB rfl aY rfl;·exact UJ
 intro wP;apply(dE);apply cA (Z:=[_,_,_,_]) (j:=10) (a9:=29) rfl rfl aB rfl aY rfl;·intro pE;replace pE:=bB pE;exact(JM) g4
 intro a2F;apply(dE);apply cA (Z:=[_,_,_,_]) (j:=16) (a9:=35) rfl rfl aB rfl aY rfl;·intro yA;replace yA:=bB yA;exact(JM) g4
 intro a2H;apply(b9);refine U ?_ ?_<;>intro bL;·exact aPo
 apply hN∘a4z;refine cD rfl (b0I s _ _ jB D) ?_;apply(j7);refine U ?_ ?_<;>intro cC;·exact aST
 apply(NI);refine dS [(1,.pointer _),(47,.slice _ _ _),(48,.int _ _),(49,.int _ _)] bV λfK=>?_;refine gY ([2,6,7]++cN 49 11) (λg:FS (a5f s) (s.fC.l)=>[(49,.int .i64 ((g.1:Nat):Int))]) (λg=>(s.fC.l).length-g.1) ⟨0,y0 _ _⟩ ?_;rintro⟨fF,zA,gM⟩ cH;try dsimp only
 apply(h0);refine U ?_ ?_<;>intro dX;·
  obtain⟨c,cG⟩:=jW (l:=s.fC.l) (k:=fF) D;apply(j9);refine aI O0 rfl ?_;refine aI Wt rfl ?_;apply(dZ);intro i1;apply sI∘a4z;refine aI (u4 (row:=[_,_,_,_,_,_]) N rfl rfl rfl n0 aB aB) rfl ?_;refine cD rfl (aTW s c _ _ jB D) ?_;apply(j7);refine U ?_ ?_<;>intro dY;·exact aSK
  apply(mU);exact eO ⟨fF+1,x5 gM cG (a1f D)⟩
 have mX:=y1 gM D;refine mD (mF (xY (mB (a8 (bK (bK ?_))))));have mQ:O9 s=0:=by rw[O9,mX];rfl
 apply eB∘qP;refine dS [(1,.pointer _),(61,.slice _ _ _),(62,.int _ _),(63,.int _ _)] bV λoA=>?_;refine gY ([2,9,10]++cN 63 11) (λg:FS (a5m s) (s.a2.l)=>[(63,.int .i64 ((g.1:Nat):Int))]) (λg=>(s.a2.l).length-g.1) ⟨0,y0 _ _⟩ ?_;rintro⟨g9,hE,jT⟩ cH;try dsimp only
 apply(h0);refine U ?_ ?_<;>intro h1;·
  obtain⟨z,eW⟩:=jW (l:=s.a2.l) (k:=g9) D;apply(j9);refine aI Ok rfl ?_;apply(LG);intro jR;apply sI∘a4z∘r5;refine cD rfl (aT9 s z _ _ (aL.jN o4 eW) (aL.Xk o4 eW)) ?_;apply(j7);refine U ?_ ?_<;>intro h2;·exact aSE
  apply(mU);exact eO ⟨g9+1,x5 jT eW (a1f D)⟩
 have tV:=y1 jT D;refine mD (mF (xY (mB (a8 (bK (bK ?_))))));have b56:HY s=0:=by rw[HY,tV];rfl
 apply eB∘qP;refine dS [(75,.slice _ _ _),(76,.int _ _),(77,.int _ _)] bV λUD=>?_;refine gY ([2,12]++cN 77 13) (λg:FS (YV) (s.lM.l)=>[(77,.int .i64 ((g.1:Nat):Int))]) (λg=>(s.lM.l).length-g.1) ⟨0,y0 _ _⟩ ?_;rintro⟨fI,l5,zC⟩ cH;try dsimp only
 apply(h0);refine U ?_ ?_<;>intro n8;·
  obtain⟨p,aP⟩:=jW (l:=s.lM.l) (k:=fI) D;apply(j9);refine aI Wu rfl ?_;refine aI (by first|exact U5 (row:=[_]) N rfl rfl rfl i9 bR aB aB|exact u4 (row:=[_]) N rfl rfl rfl n0 aB aB) rfl ?_;apply(dZ);intro n3;apply sI∘qO;apply cA (Z:=[_,_,_]) (j:=3) (a9:=84) rfl rfl aB rfl aY rfl;·exact DR
  intro h8;apply(b9);refine U ?_ ?_<;>intro EM;·apply(vY);refine cX L R ?_;(have e:P3 s=19:=by rw[P3,yT (f:=YV) zC aP (show YV p=some 19 from if_pos EM)];rfl);exact aJf
  apply(mU);exact eO ⟨fI+1,x5 zC aP (show YV p=none from if_neg D)⟩
 have AU:=y1 zC D;apply(D8);refine cX L R ?_;have e:P3 s=0:=by rw[P3,AU];rfl
 exact aJf
def a4Z(s:eA)(m:a4 eE)(n t:Int)(L:aR)(R:aO)(aH:aL (CI s.cO) R)(a3:aL (gT m) R)(bH:∀x∈m.l,v2 x)(fH:0<=t/\t<=2147483648):
 aM prog 103 [s.val,m.val,.int .i64 n,.int .i64 t].toArray L R (λv E G=>v=(p6 s.cO.l m.l n t).val/\L=E/\R=G):=by
 refine b6 42 call103 func103 rfl rfl rfl ?_;apply(dB);intro eD;apply(dZ);intro h6;apply rF∘cE∘kD;refine cD rfl (Qh n (s.cO.l.length:Int) _ _) ?_;apply(JR);apply cA (Z:=[_,_,_,_]) (j:=6) (a9:=15) rfl rfl aB rfl aY rfl;·intro kF;replace kF:=bB kF;exact(cE∘VQ) g4
 intro IJ;apply(dE);apply cA (Z:=[_,_,_,_,_,_,_]) (j:=12) (a9:=21) rfl rfl aB rfl aY rfl;·
  intro tB;replace tB:=bB tB;have B6:=bJ (l:=m.l) (k:=n.toNat) default (by(try simp at tB);omega);apply(h9);have aMJ:0<=n/\n<m.l.length:=by(try simp at tB);omega
  exact(aEl∘VP) E2
 intro b6f;apply(b9);refine U ?_ ?_<;>intro aQ;·apply(dC);refine cD rfl (PK _ _) ?_;exact aQg
 have B6:=bJ (l:=m.l) (k:=n.toNat) default D;have wN:=bJ (l:=s.cO.l) (k:=n.toNat) default D;have a93:=bH _ (hV B6);apply wW∘aHL∘BO∘a0K∘aIG∘EA∘a0K∘aIx∘zO;refine rQ rfl (aJR _ _ t _ _ a93 fH) rfl rfl ?_;exact aRZ
def a4M(s:eA)(m:a4 eE)(n t:Int)(L:aR)(R:aO)(aH:aL (CI s.cO) R)(a3:aL (gT m) R)(bH:∀x∈m.l,v2 x)(fH:0<=t/\t<=2147483648):
 aM prog 139 [s.val,m.val,.int .i64 n,.int .i64 t].toArray L R (λv E G=>v=(p6 s.cO.l m.l n t).val/\L=E/\R=G):=by
 refine b6 45 call139 func139 rfl rfl rfl ?_;apply(dB);intro eD;apply(dZ);intro h6;apply rF∘Y2;apply cA (Z:=[_,_,_,_,_]) (j:=2) (a9:=11) rfl rfl aB rfl aY rfl;·exact Cm
 intro mK;apply(dE);apply cA (Z:=[_,_,_,_]) (j:=9) (a9:=18) rfl rfl aB rfl aY rfl;·intro mW;replace mW:=bB mW;exact(cE∘VQ) g4
 intro At;apply(dE);apply cA (Z:=[_,_,_,_,_,_,_]) (j:=15) (a9:=24) rfl rfl aB rfl aY rfl;·
  intro vM;replace vM:=bB vM;have B6:=bJ (l:=m.l) (k:=n.toNat) default (by(try simp at vM);omega);apply(h9);have aMJ:0<=n/\n<m.l.length:=by(try simp at vM);omega
  exact(aEl∘VP) E2
 intro a2G;apply(b9);refine U ?_ ?_<;>intro aQ;·apply(dC);refine cD rfl G5 ?_;exact aQg
 have B6:=bJ (l:=m.l) (k:=n.toNat) default D;have wN:=bJ (l:=s.cO.l) (k:=n.toNat) default D;have a93:=bH _ (hV B6);apply wW∘aHL∘BO∘a0K∘aIG∘EA∘a0K∘aIx∘zO;refine rQ rfl (aHZ _ _ t _ _ a93 fH) rfl rfl ?_;exact aRZ
def aZs(x:bC)(L:aR)(R:aO):
 aM prog 231 [x.val].toArray L R (λv E G=>v=.int .i64 (Ea x)/\L=E/\R=G):=by
 refine b6 27 call231 func231 rfl rfl rfl ?_;apply(dB);intro gL;apply(dM);refine eZ (a8 (bK (fR (bK (c2 ?_)))));apply j0∘KH∘w8;refine U ?_ ?_<;>intro aQ;·apply(uL);exact Bo
 apply LB∘sG;apply iR (Z:=[_,_,_]) (j:=3) (a9:=13) rfl rfl aB rfl aY rfl;·exact Wz
 intro h8;apply(w8);refine U ?_ ?_<;>intro bL;·apply(uL);exact Bo
 apply dC∘Dq∘dE;apply cA (Z:=[_,_,_]) (j:=3) (a9:=22) rfl rfl aB rfl aY rfl;·exact Nz
 intro h8;apply(w8);refine U ?_ ?_<;>intro cC;·apply(uL);exact Bo
 refine eP (hI (a8 (bK (c2 ?_))));apply(vB);exact Bo
def aX2(x:bC)(L:aR)(R:aO):
 aM prog 300 [x.val].toArray L R (λv E G=>v=.int .i64 (Ea x)/\L=E/\R=G):=by
 refine b6 24 call300 func300 rfl rfl rfl ?_;apply(dB);intro gL;apply hH∘j0∘HS;refine U ?_ ?_<;>intro aQ;·apply(kM);exact Bo
 apply D5∘sG;apply iR (Z:=[_,_,_]) (j:=3) (a9:=11) rfl rfl aB rfl aY rfl;·exact Wz
 intro h8;apply(b9);refine U ?_ ?_<;>intro bL;·apply(kM);exact Bo
 apply hN∘Dq∘dE;apply cA (Z:=[_,_,_]) (j:=3) (a9:=19) rfl rfl aB rfl aY rfl;·exact Nz
 intro h8;apply(b9);refine U ?_ ?_<;>intro cC;·apply(kM);exact Bo
 apply(PN);exact Bo
def aVR(c:qM)(w:fU)(x:bC)(L:aR)(R:aO):
 aM prog 229 [c.val,w.val,x.val].toArray L R (λv E G=>v=.int .i64 (if w.over=false then -1 else if uP x c.nF.cut=1 then 1 else 0)/\L=E/\R=G):=by
 refine b6 18 call229 func229 rfl rfl rfl ?_;apply(dB);intro eS;apply(iV);intro eD;apply(iV);intro gQ;apply(dM);refine eZ (a8 (bK (fR (bK (c2 ?_)))));apply fD∘XI∘w8;refine U ?_ ?_<;>intro aQ;·apply(uL);refine cX L R ?_;exact⟨by rw[if_pos zR],rfl,rfl⟩
 apply dC∘nZ∘HP;refine cD rfl (a5A x c.nF.cut _ _) ?_;apply(vX);refine U ?_ ?_<;>intro bL;·apply(uL);refine cX L R ?_;exact⟨by rw[if_neg zR,if_pos bL],rfl,rfl⟩
 refine eP (hI (a8 (bK (c2 ?_))));apply(vB);refine cX L R ?_;exact⟨by rw[if_neg zR,if_neg bL],rfl,rfl⟩
end
end Go.Proofs.YtchfclmokpbldaaGreat
