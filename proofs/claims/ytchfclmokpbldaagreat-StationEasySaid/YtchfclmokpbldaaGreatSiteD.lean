/-
  Merged texts. By an AI agent.
-/
import Derived.Test.YtchfclmokpbldaaGreatCutB
import Derived.Test.YtchfclmokpbldaaGreatRefA
import Derived.Test.YtchfclmokpbldaaGreatSeqS
import Derived.Test.YtchfclmokpbldaaGreatSiteS
import Derived.Test.YtchfclmokpbldaaGreatFans
import Derived.Test.YtchfclmokpbldaaGreatData
import Derived.Test.YtchfclmokpbldaaGreatOwn
import Derived.Test.YtchfclmokpbldaaGreatFits
set_option linter.all false
set_option maxHeartbeats 4000000
set_option maxRecDepth 20000
variable{A B:Prop}
namespace Go.Proofs.YtchfclmokpbldaaGreat
open Go.Aw Go Go.Proofs.Tryz
section
attribute [local irreducible] cQ dF dV aM cP eC e5 e1 e2 e6 eX e4 J.L
def LJ(x:bC):Int:=if CN x=1 then x.bU else if CN x= -1 then -x.bW else 0
def V3(r:qN)(cR:Int):Int:=1000*r.len*r.s8*cR
def O6(r:qN)(x:bC)(cR yE:Int):Prop:=V3 r cR=0\/0<LJ x/\V3 r cR<=LJ x*yE
instance(r:qN)(x:bC)(cR yE:Int):Decidable (O6 r x cR yE):=by unfold O6;infer_instance
def a4x{x:bC}(h:CN x=1):LJ x=x.bU/\0<x.bU:=by
 refine⟨by rw[LJ,if_pos h],?_⟩;rw[CN]at h;split at h;·cases h
 split at h;·assumption
 split at h<;>cases h
def a4R{x:bC}(h:CN x= -1):LJ x= -x.bW/\x.bW<0:=by
 refine⟨by rw[LJ,if_neg D,if_pos h],?_⟩;rw[CN]at h;split at h;·cases h
 split at h;·cases h
 split at h;·assumption
 ·cases h
def a7j{x:bC}(h:CN x≠1)(c4:CN x≠-1):LJ x=0:=by rw[LJ,if_neg h,if_neg c4]
def aUy{x:bC}:0<=LJ x:=by
 by_cases h:CN x=1;·have:=a4x h;omega
 by_cases c4:CN x= -1;·have:=a4R c4;omega
 rw[a7j h c4];omega
def aDM{r:qN}{cR:Int}(O:1<=r.len/\r.len<=100000)(X:1<=r.s8/\r.s8<=1000)(aU:0<=cR/\cR<=100):
 (0<=1000*r.len*r.s8/\1000*r.len*r.s8<=100000000000)/\0<=1000*r.len*r.s8*cR/\1000*r.len*r.s8*cR<=10000000000000:=by have F6:0<=1000*r.len*r.s8:=CG D D;have k7:1000*r.len*r.s8<=100000000*1000:=MF D D D D;have a1E:0<=1000*r.len*r.s8*cR:=CG F6 D;have gL:1000*r.len*r.s8*cR<=100000000000*100:=MF D D D D;omega
def aVg{n s l:Int}(b1:1<=n)(aH:0<s):(n+s-1).tdiv s<=l↔n<=l*s:=by rw[GY D];have h:=Int.ediv_lt_iff_lt_mul (a:=n+s-1) (b:=l+1) aH;rw[Int.add_mul,Int.one_mul]at h;omega
def aTK{n f s:Int}(b1:1<=n)(aF:0<f):s<=(n-1).tdiv f↔¬n<=f*s:=by rw[GY D];have h:=Int.le_ediv_iff_mul_le (a:=s) (b:=n-1) aF;rw[Int.mul_comm]at h;omega
def aUS(r:qN)(x:bC)(cR yE:Int)(L:aR)(R:aO)(O:1<=r.len/\r.len<=100000)(X:1<=r.s8/\r.s8<=1000)(aU:0<=cR/\cR<=100)(cK:0<=yE/\yE<=2147483648):
 aM prog 233 [r.val,x.val,.int .i64 cR,.int .i64 yE].toArray L R (λv E G=>v=.bool (decide (O6 r x cR yE))/\L=E/\R=G):=by
 have rC:=aDM O X aU;refine b6 44 call233 func233 rfl rfl rfl ?_;apply(dB);intro eD;apply(iV);intro gQ;apply nG∘j8∘fD∘L5∘fD∘L5∘ND∘Y3∘nJ;refine U ?_ ?_<;>intro aQ;·apply(PR);refine lG L R ?_;exact⟨by rw[decide_eq_true (p:=O6 r x cR yE) (.inl aQ)],rfl,rfl⟩
 have tV:1<=1000*r.len*r.s8*cR:=by omega
 apply hN∘cE∘nJ;refine U ?_ ?_<;>intro bL;·apply(PR);refine lG L R ?_;refine⟨by rw[decide_eq_false (p:=O6 r x cR yE)];rintro(h|⟨_,h⟩)<;>rw[V3]at h;omega;rw[bL,a3B]at h;omega,rfl,rfl⟩
 have kK:=λl=>aVg (l:=l) tV (show 0<yE by omega);have QV:0<=(1000*r.len*r.s8*cR+yE-1).tdiv yE:=Int.tdiv_nonneg D D;have aAL:(1000*r.len*r.s8*cR+yE-1).tdiv yE<=100000000000000:=by rw[GY D];have:=Nt (a:=1000*r.len*r.s8*cR+yE-1) yE D;omega
 apply SW∘M7∘j3∘cE∘L6∘hH∘nZ;refine cD rfl (aTy x _ _) ?_;refine eZ (a8 (fR (bK (c2 ?_))));apply(vX);refine U ?_ ?_<;>intro cC;·apply dC∘gK∘GQ∘nG∘KK;refine lG L R ?_;have bM:=a4x cC;refine⟨congrArg Value.bool (decide_eq_decide.2 ?_),rfl,rfl⟩;rw[kK,O6,V3,bM.1];omega
 apply(oI);refine U ?_ ?_<;>intro dX;·apply dC∘gK∘wX∘XK∘nG∘KK;refine lG L R ?_;have bM:=a4R dX;refine⟨congrArg Value.bool (decide_eq_decide.2 ?_),rfl,rfl⟩;have:=kK (-x.bW);rw[O6,V3,bM.1];omega
 refine eP (hI (a8 (bK (c2 ?_))));apply(uK);refine lG L R ?_;have bM:=a7j cC dX;refine⟨by rw[decide_eq_false (p:=O6 r x cR yE)];rintro(h|⟨h,_⟩);rw[V3]at h;omega;omega,rfl,rfl⟩
def aYf(x:bC)(L:aR)(R:aO)(K:-4611686018427387904<=x.bW):
 aM prog 293 [x.val].toArray L R (λv E G=>v=.int .i64 (LJ x)/\L=E/\R=G):=by
 refine b6 14 call293 func293 rfl rfl rfl ?_;apply(dB);intro gL;apply hH∘nZ;refine cD rfl (b0P x _ _) ?_;refine eZ (a8 (fR (bK (c2 ?_))));apply(vX);refine U ?_ ?_<;>intro aQ;·apply LB∘Dr;refine cX L R ?_;exact⟨by rw[(a4x aQ).1],rfl,rfl⟩
 apply(oI);refine U ?_ ?_<;>intro bL;·have bM:=a4R bL;apply LB∘wX∘Dr;refine cX L R ?_;exact⟨by rw[bM.1],rfl,rfl⟩
 refine eP (hI (a8 (bK (c2 ?_))));apply(vB);refine cX L R ?_;exact⟨by rw[a7j aQ bL],rfl,rfl⟩
end
def aGC{e:Int}(h:xL e=none):e=0:=by
 rw[xL]at h;split at h;·assumption
 ·cases h
def aKp{e x:Int}(h:xL e=some x):x≠0:=by
 rw[xL]at h;split at h;·cases h
 ·cases h;assumption
structure PI(s:eA):Prop where
 b0:h5 s.b0=0
 len:s.cO.l.length<=64/\s.fC.l.length<=64/\s.a2.l.length<=16/\s.lM.l.length<=64
 OP:∀i:Nat,i<s.cO.l.length->wL s.b0 s.cO.l i=none
 cond:∀c∈s.fC.l,K1 s.cO.l s.b0.aC.aJ.l.length c=0
 dN:∀z∈s.a2.l,BQ s.fC.l.length s.b0.aC.aJ.l.length z=0
 aBQ:∀p∈s.lM.l,1<=p/\p<=3
def b0G{a:b3}{S:List gP}{i:Nat}{e:Int}(h:wL a S i=some e):e≠0:=by
 rw[wL]at h;split at h;·cases h;assumption
 split at h;·cases h;decide
 split at h;·cases h;decide
 ·cases h
def JT{s:eA}(h:nO s=0):PI s:=by
 rw[nO]at h;split at h;·omega
 split at h;·omega
 split at h;·omega
 split at h;·omega
 split at h;·omega
 rename_i O X aU cK fY;refine⟨by omega,by omega,λi aE=>?_,λc cG=>?_,λz eW=>?_,λp aP=>?_⟩;·
  have b1R:HJ s.b0 s.cO.l=0:=by omega
  exact ZB (f:=wL s.b0 s.cO.l) (λx e K=>b0G K) b1R i (List.mem_range.2 aE)
 ·
  have b1U:O9 s=0:=by omega
  exact aGC (ZB (f:=λc=>xL (K1 s.cO.l s.b0.aC.aJ.l.length c)) (λx e K=>aKp K) b1U c cG)
 ·
  have b1W:HY s=0:=by omega
  exact aGC (ZB (f:=λz=>xL (BQ s.fC.l.length s.b0.aC.aJ.l.length z)) (λx e K=>aKp K) b1W z eW)
 ·
  have:=ZB (f:=λp:Int=>if p<1\/3<p then some 19 else none) (λx e K=>by
   split at K;·cases K;decide
   ·cases K) h p aP
  exact Vy
def a1q{a7 rK:Type}{f:a7->Option rK}{l:List a7}(h:∀x∈l,f x=none):l.findSome? f=none:=List.findSome?_eq_none_iff.2 h
def PI.AM{s:eA}(h:PI s):nO s=0:=by
 have O:=h.b0;have X:=h.len;have eV:HJ s.b0 s.cO.l=0:=by rw[HJ,a1q (λi aE=>h.OP i (List.mem_range.1 aE))];rfl
 have fN:O9 s=0:=by rw[O9,a1q (λc cG=>by rw[xL,if_pos (h.cond c cG)])];rfl
 have n5:HY s=0:=by rw[HY,a1q (λz eW=>by rw[xL,if_pos (h.dN z eW)])];rfl
 have F7:P3 s=0:=by rw[P3,a1q (λp aP=>if_neg (by have:=h.aBQ p aP;omega))];rfl
 rw[nO,if_neg D,if_neg D,if_neg D,if_neg D,if_neg D,F7]
def aIs{S:List gP}{n:Nat}{c:qM}(h:K1 S n c=0):(1<=c.kind/\c.kind<=5)/\(0<=c.value/\c.value<=1099511627776)/\(c.kind=1->F2 c.nF)/\
 (c.kind=5->0<=c.target/\c.target<n)/\(c.kind≠5->0<=c.target/\c.target<S.length)/\(c.kind=3->(S.getD c.target.toNat default).kind=5):=by
 rw[K1]at h;split at h;·omega
 rename_i O;split at h;·omega
 rename_i X;have aU:Pm S n c=0:=by omega
 have cK:c.kind=1->F2 c.nF:=λaG=>by rw[if_pos aG,JE]at h;exact a3i
 rw[Pm]at aU;split at aU;·exact aPH
 split at aU;·
  split at aU;·rename_i fY;exact⟨by omega,by omega,cK,by omega,by omega,λ_=>fY.2⟩
  ·omega
 split at aU;·exact aPH
 ·omega
structure K9{a7:Type}(oN:List a7)(g:Nat->a7)(i:Nat)(l:List a7):Prop where
 len:l.length=oN.length
 NV:∀j:Nat,j<i->l[j]?=some (g j)
 pZ:∀j:Nat,i<=j->l[j]?=oN[j]?
def K9.zero{a7:Type}{oN:List a7}{g:Nat->a7}:K9 oN g 0 oN:=⟨rfl,λj a6=>by omega,λj _=>rfl⟩
def K9.next{a7:Type}{oN:List a7}{g:Nat->a7}{i:Nat}{l:List a7}(h:K9 oN g i l)(aE:i<oN.length){x:a7}(K:x=g i):K9 oN g (i+1) (l.set i x):=by
 have aX:=h.len;refine⟨by simp[aX],λj a6=>?_,λj O=>?_⟩;·
  rw[IW];split;·rename_i e;rw[if_pos D,K,e]
  ·exact h.NV j D
 ·rw[KN D];exact h.pZ j D
def K9.EX{a7:Type}{oN:List a7}{g:Nat->a7}{i:Nat}{l:List a7}(h:K9 oN g i l)(K:oN[i]?=some (g i)):K9 oN g (i+1) l:=by
 refine⟨h.len,λj a6=>?_,λj O=>h.pZ j D⟩;rcases hF j i with O|O;·exact h.NV j O
 ·
  obtain rfl:j=i:=by omega
  rw[h.pZ j (iK _),K]
def K9.done{a7:Type}{oN:List a7}{g:Nat->a7}{l:List a7}(h:K9 oN g oN.length l):l=(List.range oN.length).map g:=by
 have aX:=h.len;refine UG λj=>?_;rcases hF j oN.length with a6|a6;·rw[h.NV j a6,pA,KP a6];rfl
 ·rw[uF D,uF DQ]
section
attribute [local irreducible] cQ dF dV aM cP eC e5 e1 e2 e6 eX e4 J.L
def a0r(h:A->B:=by exact bE (by first|exact j4 N rfl rfl rfl rfl i9 (i:=(z.aJ.l.getD j 0).toNat) dA D|exact i5 N rfl rfl rfl rfl (i:=(z.aJ.l.getD j 0).toNat) dA D) rfl rfl rfl):=h
def a4O(h:A->B:=by exact bE oS rfl rfl rfl):=h
def a42(h:A->B:=by exact aI aQ3 rfl):=h
def aF6(h:A->B:=by exact bE aQ3 rfl rfl rfl):=h
def aK1(h:A->B:=by exact bE aDf rfl rfl rfl):=h
def aK0(h:A->B:=by exact bE Cl rfl rfl rfl):=h
def aFt{s:eA}(h:PI s){r:qN}(M:r∈s.b0.aC.aJ.l):(1<=r.len/\r.len<=100000)/\(1<=r.s8/\r.s8<=1000):=by
 have O:uI s.b0.aC=0:=by
  have:=h.b0;rw[h5]at this;split at this;·exact this
  ·rename_i X;exact Decidable.not_not.1 X
 unfold uI at O;split at O;·cases O
 split at O;·rename_i e W;subst O;obtain⟨x,_,K⟩:=XR W;unfold PF at K;split at K<;>cases K
 have qS:=ZB (f:=y2 s.b0.aC.places.l.length) (λx e K W=>by
  subst W;unfold y2 at K;split at K;·cases K
  ·split at K<;>cases K) O
 have:=qS r M;unfold y2 at this;split at this;·cases this
 split at this;·cases this
 rename_i X;omega
def aFU{s:eA}(h:PI s){z:kW}(eW:z∈s.a2.l):(0<=z.hold/\z.hold<=100000)/\(0<=z.uR/\z.uR<=100)/\∀i:Nat,i<z.aJ.l.length->0<=z.aJ.l.getD i 0/\z.aJ.l.getD i 0<s.b0.aC.aJ.l.length:=by
 have:=h.dN z eW;rw[BQ]at this;split at this;·omega
 split at this;·cases this
 rename_i O;split at this;·cases this
 rename_i X;refine⟨by omega,by omega,λi aE=>?_⟩;have:¬AC s.b0.aC.aJ.l.length z.aJ.l i:=λa5=>X ⟨i,aE,a5⟩;rw[AC]at this;omega
def aGy{s:eA}(h:PI s){z:kW}(eW:z∈s.a2.l):z.aJ.l.length<=128:=by
 have:=h.dN z eW;rw[BQ]at this;split at this;·omega
 split at this;·cases this
 split at this;·cases this
 rename_i X;have a5:∀i:Nat,i<z.aJ.l.length->¬AC s.b0.aC.aJ.l.length z.aJ.l i:=λi aE a5=>X ⟨i,aE,a5⟩;have up:∀i:Nat,i<z.aJ.l.length->(i:Int)<=z.aJ.l.getD i 0:=by
  intro i;induction i with
  |zero=>intro aE;have:=a5 0 aE;rw[AC]at this;omega
  |succ i c6=>intro aE;have O:=c6 D;have X:=a5 (i+1) aE;rw[AC,Nat.add_sub_cancel]at X;omega
 have b1:=(yR h.b0).aC.aJ;rcases hF 128 z.aJ.l.length with aU|aU;·have cK:=up 128 aU;have fY:=a5 128 aU;rw[AC]at fY;omega
 ·exact aU
def PE(s:eA)(aA:List bC)(z:kW)(yE r:Int):Prop:=¬O6 (s.b0.aC.aJ.l.getD r.toNat default) (aA.getD r.toNat default) z.uR yE
instance(s:eA)(aA:List bC)(z:kW)(yE r:Int):Decidable (PE s aA z yE r):=by unfold PE;infer_instance
def P4(s:eA)(aA:List bC)(c:b8)(z:kW)(t:Int):Int:=
 if c.off=false then 10
 else if(c.clear<0\/t<c.clear)\/t-c.clear<z.hold then 20
 else if∃r∈z.aJ.l,PE s aA z (t-c.clear) r then 20 else 0
def qW(s:eA)(c:List b8)(aA:List bC)(k t:Int):Int:=
 if k<0\/(c.length:Int)<=k then 17 else P4 s aA (c.getD k.toNat default) (s.a2.l.getD k.toNat default) t
def aTP{s:eA}{aA:List bC}{c:b8}{z:kW}{t:Int}(O:c.off=true)(X:¬((c.clear<0\/t<c.clear)\/t-c.clear<z.hold))(aU:∀j:Nat,j<z.aJ.l.length->¬PE s aA z (t-c.clear) (z.aJ.l.getD j 0)):P4 s aA c z t=0:=by rw[P4,if_neg (by rw[O];decide),if_neg X,if_neg];rintro⟨r,M,dH⟩;obtain⟨j,a6,rfl⟩:=Hy M;have:=aU j a6;rw[m8,DN a6]at this;exact this dH
def aIi{s:eA}{aA:List bC}{c:b8}{z:kW}{t r:Int}(O:c.off=true)(X:¬((c.clear<0\/t<c.clear)\/t-c.clear<z.hold))(M:r∈z.aJ.l)(aU:PE s aA z (t-c.clear) r):P4 s aA c z t=20:=by rw[P4,if_neg (by rw[O];decide),if_neg X,if_pos ⟨r,M,aU⟩]
structure FJ(s:eA)(c:a4 b8)(aA:a4 bC)(R:aO):Prop where
 aK:zY s R
 aV:aL (sE c) R
 vI:aL (sU aA) R
def a5C(s:eA)(c:a4 b8)(aA:a4 bC)(k t:Int)(L:aR)(R:aO)(h:FJ s c aA R)(bH:PI s)(vN:c.l.length=s.a2.l.length/\aA.l.length=s.b0.aC.aJ.l.length)(fH:0<=t/\t<=2147483648):
 aM prog 163 [s.val,c.val,aA.val,.int .i64 k,.int .i64 t].toArray L R (λv E G=>v=.int .i64 (qW s c.l aA.l k t)/\L=E/\R=G):=by
 have AN:=h.aV;have Z3:=h.vI;have o4:=h.aK.a2;have aAS:=h.aK.b0.aJ;have m6:=bH.len;refine b6 80 call163 func163 rfl rfl rfl ?_;apply(dB);intro gQ;apply(SL);apply cA (Z:=[_,_,_,_]) (j:=2) (a9:=17) rfl rfl aB rfl aY rfl;·exact Xo
 intro mK;apply(b9);refine U ?_ ?_<;>intro aQ;·exact aQd
 have qD:=bJ (l:=c.l) (k:=k.toNat) default D;have qG:=bJ (l:=s.a2.l) (k:=k.toNat) default D;have W:qW s c.l aA.l k t=P4 s aA.l (c.l.getD k.toNat default) (s.a2.l.getD k.toNat default) t:=by rw[qW,if_neg D]
 obtain⟨z,eW⟩:∃z,z=s.a2.l.getD k.toNat default:=⟨_,rfl⟩;obtain⟨x,K⟩:∃x,x=c.l.getD k.toNat default:=⟨_,rfl⟩;rw[<-eW]at qG W;rw[<-K]at qD W;have A0:=aFU bH (hV qG);have sP:=aGy bH (hV qG);have b58:aL (dU z.aJ) R:=aL.Xk o4 qG;apply(wW);refine gZ N [0,1,2,3,4,5,6,7,8,9,10,11,12] _ dO bI hA ?_;apply a4O∘hK∘aF6∘OO∘l1∘aF6∘Bj∘qH;intro H1;apply(qH);intro n3;apply uC∘uC∘L4∘fD∘nK;refine U ?_ ?_<;>intro bL;·exact aQe
 have Tx:x.off=true:=by simpa using bL
 apply hN∘qO;apply cA (Z:=[_,_,_,_]) (j:=3) (a9:=38) rfl rfl aB rfl aY rfl;·intro eR;replace eR:=bB eR;exact(gK) MI
 intro h8;apply(dE);apply cA (Z:=[_,_,_,_,_,_,_]) (j:=9) (a9:=44) rfl rfl aB rfl aY rfl;·intro mW;replace mW:=bB mW;exact(NF∘j3) O1
 intro At;apply(b9);refine U ?_ ?_<;>intro cC;·exact aRJ
 apply(NI);refine dS [(2,.slice _ _ _),(4,.int _ _),(5,.pointer _),(11,.pointer _),(12,.pointer _),(54,.slice _ _ _),(55,.int _ _),(56,.int _ _)] bV λfK=>?_;refine gY ([10,14]++cN 56 24) (λg:{j:Nat//j<=z.aJ.l.length/\∀m:Nat,m<j->¬PE s aA.l z (t-x.clear) (z.aJ.l.getD m 0)}=>[(56,.int .i64 ((g.1:Nat):Int))]) (λg=>z.aJ.l.length-g.1) (⟨0,by omega,λm a3=>by omega⟩) ?_;rintro⟨j,a6,hC⟩ cH;try dsimp only
 apply(h0);refine U ?_ ?_<;>intro dX;·
  have Lv:=bJ (l:=z.aJ.l) (k:=j) 0 D;have b3P:=A0.2.2 j D;have Ai:=bJ (l:=s.b0.aC.aJ.l) (k:=(z.aJ.l.getD j 0).toNat) default D;have LV:=bJ (l:=aA.l) (k:=(z.aJ.l.getD j 0).toNat) default D;have J9:=aFt bH (hV Ai);apply(j9);refine aI Cl rfl ?_;apply jG∘x2;refine gZ N [0,1,2,3,4,5,6,7,8,9,10,11,12,13,14,15,16,17,18] _ dO bI hA ?_;iterate 3 apply(lA)
  apply Bd∘hK∘a0r∘aK1∘a4O∘hK∘a0r∘Bi∘l1∘g7∘vQ;refine lW rfl (aUS (s.b0.aC.aJ.l.getD (z.aJ.l.getD j 0).toNat default) (aA.l.getD (z.aJ.l.getD j 0).toNat default) z.uR (t-x.clear) _ _ J9.1 J9.2 A0.2.1 D) ?_;refine bE (NQ rfl) rfl rfl rfl ?_;apply(wV);refine U ?_ ?_<;>intro dY;·apply(vY);refine cX L R ?_;exact⟨by rw[W,aIi Tx D (hV Lv) (by rw[PE];simpa using dY)],rfl,rfl⟩
  apply(mU);exact hP (⟨j+1,by omega,λm a3=>by
  rcases hF m j with h|h;·exact hC m h
  ·(obtain rfl:m=j:=by omega);rw[PE];simpa using dY⟩) gW bV bA eN hO
 exact aSw
def a6w(s:eA)(c:a4 b8)(aA:a4 bC)(k t:Int)(L:aR)(R:aO)(h:FJ s c aA R)(bH:PI s)(vN:c.l.length=s.a2.l.length/\aA.l.length=s.b0.aC.aJ.l.length)(fH:0<=t/\t<=2147483648)(gA:∀x∈aA.l,-4611686018427387904<=x.bW):
 aM prog 270 [s.val,c.val,aA.val,.int .i64 k,.int .i64 t].toArray L R (λv E G=>v=.int .i64 (qW s c.l aA.l k t)/\L=E/\R=G):=by
 have AN:=h.aV;have Z3:=h.vI;have o4:=h.aK.a2;have aAS:=h.aK.b0.aJ;have m6:=bH.len;refine b6 106 call270 func270 rfl rfl rfl ?_;apply(dB);intro gQ;apply(SL);apply cA (Z:=[_,_,_,_]) (j:=2) (a9:=19) rfl rfl aB rfl aY rfl;·exact Xo
 intro mK;apply(b9);refine U ?_ ?_<;>intro aQ;·exact aQd
 have qD:=bJ (l:=c.l) (k:=k.toNat) default D;have qG:=bJ (l:=s.a2.l) (k:=k.toNat) default D;have W:qW s c.l aA.l k t=P4 s aA.l (c.l.getD k.toNat default) (s.a2.l.getD k.toNat default) t:=by rw[qW,if_neg D]
 obtain⟨z,eW⟩:∃z,z=s.a2.l.getD k.toNat default:=⟨_,rfl⟩;obtain⟨x,K⟩:∃x,x=c.l.getD k.toNat default:=⟨_,rfl⟩;rw[<-eW]at qG W;rw[<-K]at qD W;have A0:=aFU bH (hV qG);have sP:=aGy bH (hV qG);have b58:aL (dU z.aJ) R:=aL.Xk o4 qG;apply hN∘h9∘a42∘sH∘nK;refine U ?_ ?_<;>intro bL;·exact aQe
 have Tx:x.off=true:=by simpa using bL
 apply e0∘gK∘a42∘LG;intro H1;apply sI∘h9∘a42∘sH∘SL;apply cA (Z:=[_,_,_]) (j:=2) (a9:=43) rfl rfl aB rfl aY rfl;·intro fQ;replace fQ:=bB fQ;exact(lD) MI
 intro mK;apply(dE);apply cA (Z:=[_,_,_,_,_,_]) (j:=7) (a9:=48) rfl rfl aB rfl aY rfl;·intro hM;replace hM:=bB hM;exact(lD∘j3) O1
 intro OD;apply(b9);refine U ?_ ?_<;>intro cC;·exact aRJ
 apply(yZ);refine dS [(2,.slice _ _ _),(4,.int _ _),(5,.pointer _),(11,.pointer _),(12,.int _ _),(13,.int _ _)] bV λfK=>?_;refine gY ([10,13,14,15,16]++cN 56 50) (λg:{j:Nat//j<=z.aJ.l.length/\∀m:Nat,m<j->¬PE s aA.l z (t-x.clear) (z.aJ.l.getD m 0)}=>[(13,.int .i64 ((g.1:Nat):Int))]) (λg=>z.aJ.l.length-g.1) (⟨0,by omega,λm a3=>by omega⟩) ?_;rintro⟨j,a6,hC⟩ cH;try dsimp only
 apply(q9);refine U ?_ ?_<;>intro dX;·
  have Lv:=bJ (l:=z.aJ.l) (k:=j) 0 D;have b3P:=A0.2.2 j D;have Ai:=bJ (l:=s.b0.aC.aJ.l) (k:=(z.aJ.l.getD j 0).toNat) default D;have LV:=bJ (l:=aA.l) (k:=(z.aJ.l.getD j 0).toNat) default D;have J9:=aFt bH (hV Ai);obtain⟨r,M⟩:∃r,r=s.b0.aC.aJ.l.getD (z.aJ.l.getD j 0).toNat default:=⟨_,rfl⟩;obtain⟨q,cJ⟩:∃q,q=aA.l.getD (z.aJ.l.getD j 0).toNat default:=⟨_,rfl⟩;rw[<-M]at Ai J9;rw[<-cJ]at LV;have rC:=aDM J9.1 J9.2 A0.2.1;have oM:=aUy (x:=q);have dH:PE s aA.l z (t-x.clear) (z.aJ.l.getD j 0)↔¬O6 r q z.uR (t-x.clear):=by rw[PE,M,cJ]
  refine eP (a8 (bK (fR (bK ?_))));refine gZ N [0,1,2,3,4,5,6,7,8,9,10,11,12] _ dO bI hA ?_;iterate 3 apply(lA)
  apply Bd∘l1∘aK0∘k4∘a0r∘aK1∘qH;intro rU;apply uC∘IP;refine gZ N [0,1,2,3,4,5,6,7,8,9,10,11,12,13,14,15,16,17,18,19] _ dO bI hA ?_;apply g7∘Hl∘g7∘Hl∘g7∘Hl∘a4O∘l1∘aK0∘k4∘a0r∘Bi;refine lW rfl (aYf q _ _ (gA _ (hV LV))) ?_;apply Qy∘L4∘cE∘nJ;refine U ?_ ?_<;>intro dY;·
   refine mD (mF (mB (a8 (c2 ?_))));apply(M8);exact hP ⟨j+1,by omega,λm a3=>by
   rcases hF m j with h|h;·exact hC m h
   ·(obtain rfl:m=j:=by omega);rw[dH,a3m];exact .inl dY⟩ gW bV bA eN hO
  have tV:1<=1000*r.len*r.s8*z.uR:=by omega
  have LW:=λ(h:0<LJ q)=>aTK (s:=t-x.clear) tV h;have QV:0<=(1000*r.len*r.s8*z.uR-1).tdiv (LJ q):=Int.tdiv_nonneg D oM;have aAL:(1000*r.len*r.s8*z.uR-1).tdiv (LJ q)<=1000*r.len*r.s8*z.uR-1:=by rw[GY D];exact Nt _ D
  apply SW∘sG;apply cA (Z:=[_,_,_,_,_,_,_,_]) (j:=2) (a9:=96) rfl rfl aB rfl aY rfl;·intro fQ;replace fQ:=bB fQ;exact(aIM∘cE∘L6∘lD∘j3) UM
  intro mK;apply(b9);refine U ?_ ?_<;>intro h1;·
   apply(vY);refine cX L R ?_;have b4g:¬O6 r q z.uR (t-x.clear):=by
    rintro(h|⟨O,X⟩);·rw[V3]at h;omega
    ·rw[V3]at X;have:=LW O;omega
   exact⟨by rw[W,aIi Tx D (hV Lv) (dH.2 b4g)],rfl,rfl⟩
  apply(mT);exact hP ⟨j+1,by omega,λm a3=>by
  rcases hF m j with h|h;·exact hC m h
  ·(obtain rfl:m=j:=by omega);rw[dH,a3m];have:=LW D;exact .inr ⟨by omega,by rw[V3];omega⟩⟩ gW bV bA eN hO
 exact aSw
def JU(h:A->B:=by exact aI DT rfl):=h
def Jt(h:A->B:=by exact aI q1 rfl):=h
structure jP where
 dN:Int
 first:Int
 Hq:Int
 step:Int
 time:Int
 deriving DecidableEq
def jP.cells(x:jP):List Value:=[.int .i64 x.dN,.int .i64 x.first,.int .i64 x.Hq,.int .i64 x.step,.int .i64 x.time]
abbrev jP.val(x:jP):Value:=.agg #[.int .i64 x.dN,.int .i64 x.first,.int .i64 x.Hq,.int .i64 x.step,.int .i64 x.time]
def xK:jP:=⟨-1,-1,-1,0,0⟩
def sT(s:eA)(T2 KE:Nat)(t:Int):Int:=if nO s≠0 then nO s else if¬(T2=s.a2.l.length/\KE=s.b0.aC.aJ.l.length)then 11 else if t<0\/2147483648<t then 8 else 0
def a7s(s:eA)(c:a4 b8)(aA:a4 bC)(t:Int)(L:aR)(R:aO)(h:FJ s c aA R):
 aM prog 162 [s.val,c.val,aA.val,.int .i64 t].toArray L R (λv E G=>v=.int .i64 (sT s c.l.length aA.l.length t)/\L=E/\R=G):=by refine b6 37 call162 func162 rfl rfl rfl ?_;apply(dB);intro eD;apply hH∘Jt;refine cD rfl (a0d s _ _ h.aK) ?_;exact aPi
def a6x(s:eA)(c:a4 b8)(aA:a4 bC)(t:Int)(L:aR)(R:aO)(h:FJ s c aA R):
 aM prog 269 [s.val,c.val,aA.val,.int .i64 t].toArray L R (λv E G=>v=.int .i64 (sT s c.l.length aA.l.length t)/\L=E/\R=G):=by refine b6 37 call269 func269 rfl rfl rfl ?_;apply(dB);intro eD;apply hH∘Jt;refine cD rfl (a5c s _ _ h.aK) ?_;exact aPi
def Dj{s:eA}{T2 KE:Nat}{t:Int}(h:sT s T2 KE t=0):PI s/\(T2=s.a2.l.length/\KE=s.b0.aC.aJ.l.length)/\0<=t/\t<=2147483648:=by
 rw[sT]at h;split at h;·omega
 rename_i O;split at h;·omega
 split at h;·omega
 exact⟨JT (Decidable.not_not.1 O),by omega,by omega⟩
def a7M(L:aR)(R:aO):aM prog 77 ([]:List Value).toArray L R (λv E G=>v=xK.val/\L=E/\R=G):=by refine b6 2 call77 func77 rfl rfl rfl ?_;exact aR6
def oZ(s:eA)(c:List b8)(aA:List bC)(r:jP)(p k t:Int):Int:=
 if sT s c.length aA.length t≠0 then sT s c.length aA.length t
 else if r.dN≠-1 then 10
 else if p<0\/(s.lM.l.length:Int)<=p\/s.lM.l.getD p.toNat 0≠1 then 19
 else qW s c aA k t
def s9(s:eA)(c:List b8)(aA:List bC)(r:jP)(p k t:Int):jP:=if oZ s c aA r p k t=0 then⟨k,p,-1,1,t⟩else r
def Ox{s:eA}{c:List b8}{aA:List bC}{r:jP}{p k t e:Int}(h:oZ s c aA r p k t=e)(W:e≠0):s9 s c aA r p k t=r:=by rw[s9,if_neg D]
def b0k(s:eA)(c:a4 b8)(aA:a4 bC)(r:jP)(p k t:Int)(L:aR)(R:aO)(h:FJ s c aA R):
 aM prog 84 [s.val,c.val,aA.val,r.val,.int .i64 p,.int .i64 k,.int .i64 t].toArray L R (λv E G=>v=.tuple #[(s9 s c.l aA.l r p k t).val,.int .i64 (oZ s c.l aA.l r p k t)]/\L=E/\R=G):=by
 have WS:=h.aK.lM;refine b6 64 call84 func84 rfl rfl rfl ?_;apply(dB);intro o0;apply(iV);intro i0;apply(dZ);intro rU;apply hH∘Jt∘P0;refine cD rfl (a7s s c aA t _ _ h) ?_;apply(j7);refine U ?_ ?_<;>intro aQ;·exact(dC∘JU) aRe
 obtain⟨bH,j1,fH⟩:=Dj (s:=s) (T2:=c.l.length) (KE:=aA.l.length) (t:=t) D;apply D5∘rR;refine U ?_ ?_<;>intro bL;·exact(dC∘JU) aSl
 apply(LC);apply cA (Z:=[_,_,_,_,_]) (j:=2) (a9:=33) rfl rfl aB rfl aY rfl;·exact Cm
 intro mK;apply(dE);apply cA (Z:=[_,_,_,_,_,_,_]) (j:=9) (a9:=40) rfl rfl aB rfl aY rfl;·exact aTh
 intro At;apply(b9);refine U ?_ ?_<;>intro cC;·exact(dC∘JU) aRI
 have W:oZ s c.l aA.l r p k t=qW s c.l aA.l k t:=by rw[oZ,if_neg aQ,if_neg bL,if_neg D]
 apply hN∘Jt∘P0∘cE;refine cD rfl (a5C s c aA k t _ _ h bH j1 fH) ?_;apply(j7);refine U ?_ ?_<;>intro dX;·apply dC∘JU∘tQ;refine bQ L R MO ?_;exact⟨by rw[Ox W dX,W],rfl,rfl⟩
 exact aQ1
def NL(r:jP)(t:Int):Prop:=t<r.time\/r.time<t-600
instance(r:jP)(t:Int):Decidable (NL r t):=by unfold NL;infer_instance
def aFP(r:jP)(t:Int)(L:aR)(R:aO)(fH:0<=t/\t<=2147483648):
 aM prog 164 [r.val,.int .i64 t].toArray L R (λv E G=>v=.bool (decide (NL r t))/\L=E/\R=G):=by
 refine b6 16 call164 func164 rfl rfl rfl ?_;apply(dB);intro eH;apply nG∘FX∘qO;apply cA (Z:=[_,_,_,_,_]) (j:=4) (a9:=9) rfl rfl aB rfl aY rfl;·intro hD;replace hD:=bB hD;exact(a0Y) DU
 intro wP;apply(uK);refine lG L R ?_;exact⟨by refine congrArg Value.bool ?_;rw[Bv,decide_eq_true_iff (p:=NL r t),NL];simp,rfl,rfl⟩
def P6(s:eA)(r:jP)(p:Int):Prop:=
 p<0\/(s.lM.l.length:Int)<=p\/p=r.first\/r.first<0\/(s.lM.l.length:Int)<=r.first\/s.lM.l.getD p.toNat 0=s.lM.l.getD r.first.toNat 0
instance(s:eA)(r:jP)(p:Int):Decidable (P6 s r p):=by unfold P6;infer_instance
def rV(s:eA)(c:List b8)(aA:List bC)(r:jP)(p t:Int):Int:=
 if sT s c.length aA.length t≠0 then sT s c.length aA.length t
 else if r.dN= -1\/r.step≠1 then 10
 else if P6 s r p then 19
 else if NL r t then 8
 else qW s c aA r.dN t
def tU(s:eA)(c:List b8)(aA:List bC)(r:jP)(p t:Int):jP:=if rV s c aA r p t=0 then⟨r.dN,r.first,p,2,t⟩else r
def Qi{s:eA}{c:List b8}{aA:List bC}{r:jP}{p t e:Int}(h:rV s c aA r p t=e)(W:e≠0):tU s c aA r p t=r:=by rw[tU,if_neg D]
def aZg(s:eA)(c:a4 b8)(aA:a4 bC)(r:jP)(p t:Int)(L:aR)(R:aO)(h:FJ s c aA R):
 aM prog 86 [s.val,c.val,aA.val,r.val,.int .i64 p,.int .i64 t].toArray L R (λv E G=>v=.tuple #[(tU s c.l aA.l r p t).val,.int .i64 (rV s c.l aA.l r p t)]/\L=E/\R=G):=by
 have WS:=h.aK.lM;refine b6 102 call86 func86 rfl rfl rfl ?_;apply(dB);intro i1;apply(iV);intro jR;apply(dZ);intro n3;apply hH∘Jt∘P0;refine cD rfl (a7s s c aA t _ _ h) ?_;apply(j7);refine U ?_ ?_<;>intro aQ;·exact(dC∘JU) aQ9
 obtain⟨bH,j1,fH⟩:=Dj (s:=s) (T2:=c.l.length) (KE:=aA.l.length) (t:=t) D;apply D5∘sG;apply cA (Z:=[_,_,_]) (j:=3) (a9:=30) rfl rfl aB rfl aY rfl;·exact Cn
 intro h8;apply(b9);refine U ?_ ?_<;>intro bL;·exact(dC∘JU) aSc
 apply e0∘kD∘P1;refine gZ N [0,1,2,3,4,5,6,7,8,9,10,11,12,13,14,15,16,17,18,19,20,21,22,23,24,25,26,27,28,29,30,31,32,33,34,35,36,37,38,39] _ dO bI hA ?_;apply(hK);refine bE E0 rfl rfl rfl ?_;apply(sS);refine lQ (k:=41) aY (λjL=>?_) (λjL=>?_);·
  replace jL:=bB jL;iterate 3 apply(iU)
  apply(k1);iterate 4 apply(iU)
  apply(k1);iterate 3 apply(iU)
  exact(k1) a3U
 replace jL:=bB jL;apply hK∘hK;refine bE G4 rfl rfl rfl ?_;apply(k1);refine lQ (k:=46) aY (λkF=>?_) (λkF=>?_);·
  replace kF:=bB kF;iterate 4 apply(iU)
  apply(k1);iterate 3 apply(iU)
  exact(k1) a3U
 replace kF:=bB kF;apply hK∘g7;refine bE BA rfl rfl rfl ?_;apply(k1);refine lQ (k:=52) aY (λtB=>?_) (λtB=>?_);·
  replace tB:=bB tB;iterate 3 apply(iU)
  exact(k1) a3U
 replace tB:=bB tB;apply(g7);refine bE E0 rfl rfl rfl ?_;apply(k1);refine lQ (k:=57) aY (λQM=>?_) (λQM=>?_);·replace QM:=bB QM;exact a3U
 replace QM:=bB QM;apply(l1);refine bE G4 rfl rfl rfl ?_;apply(k1);refine lQ (k:=63) aY (λQN=>?_) (λQN=>?_);·
  replace QN:=bB QN;iterate 14 apply(iU)
  apply(l2);refine vS rfl ?_;exact(dC∘JU) Nx
 replace QN:=bB QN;have zD:=bJ (l:=s.lM.l) (k:=p.toNat) 0 D;have AW:=bJ (l:=s.lM.l) (k:=r.first.toNat) 0 D;apply(l1);refine bE aC7 rfl rfl rfl ?_;apply z7∘g7∘g7;refine bE aQK rfl rfl rfl ?_;apply(z7);refine bE BA rfl rfl rfl ?_;apply(l2);refine U ?_ ?_<;>intro cC;·exact(dC∘JU) Nx
 have a16:¬P6 s r p:=by rw[P6];omega
 apply hN∘JU∘cE;refine cD rfl (aFP r t _ _ fH) ?_;apply(b9);refine U ?_ ?_<;>intro dX;·exact(dC∘JU) aRQ
 have W:rV s c.l aA.l r p t=qW s c.l aA.l r.dN t:=by rw[rV,if_neg aQ,if_neg D,if_neg a16,if_neg Cg]
 apply hN∘Jt∘gU∘gU∘gK;refine cD rfl (a5C s c aA r.dN t _ _ h bH j1 fH) ?_;apply(j7);refine U ?_ ?_<;>intro dY;·apply dC∘JU∘tQ;refine bQ L R MO ?_;exact⟨by rw[Qi W dY,W],rfl,rfl⟩
 apply e0∘JU∘dZ;intro QA;exact(sI∘lD∘vZ∘vZ∘NB∘JU) aTc
end
def aWJ{P:Program}(w:World)(t ty e:TypeId)(i:TypeInfo)(fH:P.underlying t=some (.slice e))(aE:P.info? e=some i)(b off UC XM:Nat)(a:Option Addr)(c:Nat)(aX:UC<=XM):
 (Builtin.append_ #[t,t] ty #[.slice (some ⟨b,off,none⟩) UC XM,.slice a 0 c]).run P w=.ok (.slice (some ⟨b,off,none⟩) UC XM) w:=by
 have cT:=run_storeCells_cells (P:=P) b (off+UC*i.size) [] 0 w g2 g2 g2;cases a with
 |none=>simp[Builtin.append_,run_underlying fH,sizeOf,typeInfo,aE,Builtin.lenOf,aX,Builtin.firstCells,storeCells]
 |some a=>have aF:=run_firstCells_some (P:=P) w i.size 0 a 0 c [] g2 g2;simp[Builtin.append_,run_underlying fH,sizeOf,typeInfo,aE,Builtin.lenOf,aX,aF,storeCells]
section
variable{P:Program}{bF:Operand->Value}{L:aR}{R:aO}{dst:Option Tmp}{ty:TypeId}{pos:String}{after:Array Edge}{guard:Option (Nat×Bool)}(N:oE P){T:TypeId}{x y:Operand}
def b0J{e n aA g0 z fI fV rB nB iX}{b UC XM c:Nat}{jQ:Option Addr}(dW:hW N.g1 T=some ⟨.slice e,n,aA,g0,z⟩)(c5:hW N.g1 e=some ⟨fI,fV,rB,nB,iX⟩)(K:bF x=.slice (some ⟨b,0,none⟩) UC XM)(aS:bF y=.slice jQ 0 c)(aX:UC<=XM):
 eC P ⟨dst,.call ⟨.builtin .append,#[x,y],#[T,T]⟩,ty,pos,after,guard⟩ bF L R (λv E G=>v=.slice (some ⟨b,0,none⟩) UC XM/\L=E/\R=G):=by
 intro AK w cT a next Q iB
 have dL:=M1 (N.ok _ _ dW) rfl;obtain⟨iW,u,oT,Q2,Ve,XA,Mm⟩:=JI (N.ok _ _ c5);have eV:execOp bF ⟨dst,.call ⟨.builtin .append,#[x,y],#[T,T]⟩,ty,pos,after,guard⟩=(do pure (.value (<-Builtin.append_ #[T,T] ty #[bF x,bF y]))):=by exact a3g
 have M:=aWJ w T ty e iW dL Q2 b 0 UC XM jQ c aX;refine P2 (w':=w) (v:=.slice (some ⟨b,0,none⟩) UC XM) ?_ (iB _ _ _ w ⟨rfl,rfl,rfl⟩ cT);rw[eV,K,aS];simp only[w0,M,u2,KQ]
end
def aEq{a7:Type}{f:a7->List Value}(O: ∀x,(f x).all (·.oneCell')=true): ∀l:List a7,(l.flatMap f).all (·.oneCell')=true
 |[]=>rfl
 |x::l=>by rw[CF,List.all_append,O x,aEq O l];rfl
section
variable{P:Program}{bF:Operand->Value}{L:aR}{R:aO}{dst:Option Tmp}{ty:TypeId}{pos:String}{after:Array Edge}{guard:Option (Nat×Bool)}(N:oE P){T:TypeId}{x y:Operand}
end
def aJ3{lO:Type}(ws:List Nat)(kZ:Nat->Value)(bM:fB lO)(Q:gF):gF
 | .normal,t,L,R=>∃g,kT ws kZ t/\CX t (bM.tF g)/\(∃U6,L.Perm U6/\(bM.L g).Sublist U6)/\∀r∈bM.R g,aL r R
 |e,t,L,R=>Q e t L R
def Ct{lO:Type}{ws:List Nat}{kZ t:Nat->Value}{L U6:aR}{R:aO}{bM:fB lO}{Q:gF}(g:lO)(dG:kT ws kZ t)(aH:CX t (bM.tF g))(aP:L.Perm U6)(dI:(bM.L g).Sublist U6)(bO:∀r∈bM.R g,aL r R):aJ3 ws kZ bM Q .normal t L R:=⟨g,dG,aH,⟨U6,aP,dI⟩,bO⟩
def aFO{P n code t L E R}{Q:gF}(aP:L.Perm E)(h:cQ P n code t E R Q):cQ P n code t L R Q:=R5 λ_ _ cT=>⟨_,_,cT.CA aP,h⟩
def a1w{lO:Type}{P n x y t L R}{Q:gF}(ws:List Nat)(bM:fB lO)(h:cQ P n x t L R (aJ3 ws t bM Q))(k:∀g cH,cQ P n y (zQ (x7 ws t cH) (bM.tF g)) (bM.L g) (bM.R g) Q):cQ P n x t L R (e5 P n y Q):=by
 intro c a w aF aH;refine wp_mono (h c a w aF aH) ?_;rintro e a w ⟨r0,t',E,G,cJ,xF,r1⟩;cases e with
 |normal=>
  obtain⟨g,dG,Am,⟨U6,aP,dI⟩,bO⟩:=cJ;have e:zQ (x7 ws t t') (bM.tF g)=t':=by rw[Pq dG,Is Am]
  refine⟨trivial,t',E,G,?_,xF,r1⟩;have:=k g t';rw[e]at this;exact aFO aP (tO dI bO this)
 |_=>exact⟨r0,t',E,G,cJ,xF,r1⟩
def aEk{P:Program}{dst:Option Tmp}{f:FuncId}{xs:List Operand}{qY:Array TypeId}{pos:String}{after:Array Edge}{guard:Option (Nat×Bool)}{ty:TypeId}{t:Nat->Value}{L:aR}{R:aO}{args:List Value}{Post:oK}(bT:xs.map (iT t)=args)
 (h:aM P f args.toArray L R Post):eC P ⟨dst,.call ⟨.value (.func f),xs.toArray,qY⟩,ty,pos,after,guard⟩ (iT t) L R Post:=
 Rk (by rw[<-bT];simp) rfl h
def cP.a8g{P op bF L R v}(h:cP P op bF L R v):eC P op bF L R (λHs E G=>Hs=v/\L=E/\R=G):=by exact aQf
def hB{a7:Type}{P n code t L R}{Q:gF}{T:TypeId}{f:a7->List Value}{aN:Nat}(p:J a7)(eU:aO){F:J a7->aR}(xG:sA T f p L F)(aF: ∀x,(f x).length=aN)(yB:0<aN)(bH:p.ok aN f)(aH: ∀s∈eU,aL s R)
 (h:cQ P n code t (F J.nil) (p.V.gN aN f eU::R) Q):cQ P n code t L R Q:=by
 obtain⟨A,B,dI,kN⟩:=xG.split;rw[kN]at h;rw[dI,oB];refine E7 eU aF yB bH aH ?_;have e:A++(J.nil:J a7).L T f++B=A++B:=by rw[mE,GZ]
 rw[<-e];exact h
section
attribute [local irreducible] cQ dF dV aM cP eC e5 e1 e2 e6 eX e4 J.L
end
def aT0(n:Nat):qN:=⟨0,(n:Int),10,4,false,false,⟨1,1⟩,⟨0,0⟩⟩
section
variable{a:b3}{s:cS}{x:SG}(h:Zk a s x)(M:a.aC.aJ.l.length=0)
include h M
end
section
variable{a:b3}{s:cS}{x:SG}{P:a4 yX}{a5I:a4 qN}{aV8 aTv:a4 Int}(h:Zk a s x)(M:a.aC.aJ.l.length=0)(kX:P.l=a.aC.places.l++[⟨0,true⟩])(bO:a5I.l=[aT0 a.aC.places.l.length])(b2i:aV8.l=x.c8.l++[0])(a8j:aTv.l=[0])
include h M kX bO
include b2i a8j
end
end Go.Proofs.YtchfclmokpbldaaGreat
