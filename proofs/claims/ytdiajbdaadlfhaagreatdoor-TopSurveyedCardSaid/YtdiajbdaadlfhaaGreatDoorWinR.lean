/-
  Merged texts. By an AI agent.
-/
import Derived.Test.YtdiajbdaadlfhaaGreatDoorSiteS
import Derived.Test.YtdiajbdaadlfhaaGreatDoorChecks
import Derived.Test.YtdiajbdaadlfhaaGreatDoorLaw11b
set_option linter.all false
set_option maxHeartbeats 4000000
set_option maxRecDepth 20000
variable{A B:Prop}
namespace Go.Proofs.YtdiajbdaadlfhaaGreatDoor
open Go.Aw Go Go.Proofs.Tryz
section
attribute [local irreducible] cO dG dP aM cI dR fA e2 e5 fB eQ e9 J.L
def Ii(h:A->B:=by exact aA qW rfl):=h
def a6b(h:A->B:=by exact aA Xn rfl):=h
def aGS(h:A->B:=by exact YG (v:=Value.bool _) M rfl rfl rfl rfl qV Bh Be aK):=h
def aV3(h:B:=by exact⟨by rw[c6,CZ,if_neg aO,if_neg (by rw[cM];decide),if_neg dV,if_pos (by first|(rw[if_pos kK];omega)|(rw[if_neg kK];omega))],rfl,rfl⟩):=h
def aUs(h:B:=by exact⟨by rw[c6,CZ,if_neg aO,if_neg (by rw[cM];decide),if_neg dV,if_neg (by first|(rw[if_pos kK];omega)|(rw[if_neg kK];omega))];first|(rw[if_pos kK,cM];done)|(rw[if_neg kK,cM];done),rfl,rfl⟩):=h
def aHZ(l:E6)(L:aW)(R:aP):
 aM prog 159 [l.val].toArray L R (λv E R'=>v=.int .i64 (QW l)/\L=E/\R=R'):=by
 refine cX 28 call159 func159 rfl rfl rfl ?_;apply(fC);intro fT;apply kB∘Co∘fD;apply dT (aD:=[_,_,_]) (j:=3) (b4:=6) rfl rfl aK rfl b2 rfl;·intro fV;replace fV:=cP fV;exact T2
 intro m2;apply(fD);apply dT (aD:=[_,_,_,_,_]) (j:=8) (b4:=11) rfl rfl aK rfl b2 rfl;·intro h7;replace h7:=cP h7;exact(nZ) NN
 intro zV;apply(fD);apply dT (aD:=[_,_,_]) (j:=15) (b4:=18) rfl rfl aK rfl b2 rfl;·intro aL3;replace aL3:=cP aL3;exact T2
 intro bAr;apply(fD);apply dT (aD:=[_,_,_]) (j:=20) (b4:=23) rfl rfl aK rfl b2 rfl;·intro IU;replace IU:=cP IU;exact(Co) iA
 intro a27;apply(dD);refine aJ ?_ ?_<;>intro bI;·apply(uJ);refine eL L R ?_;exact⟨by(try simp at bI);rw[QW,if_neg (by rw[JN];omega)],rfl,rfl⟩
 apply(Rb);refine eL L R ?_;exact⟨by(try simp at bI);rw[QW,if_pos (by rw[JN];omega)],rfl,rfl⟩
def a7O(x:bG)(n:Int)(L:aW)(R:aP):
 aM prog 168 [x.val,.int .i64 n].toArray L R (λv E R'=>v=.int .i64 (CW x n)/\L=E/\R=R'):=by
 refine cX 21 call168 func168 rfl rfl rfl ?_;apply(fC);intro eN;apply(eA);refine eS (bY (cC (iH (cC (dM ?_)))));apply nZ∘yO∘pF;refine aJ ?_ ?_<;>intro bI;·apply(vD);refine eL L R ?_;exact⟨by rw[CW,if_pos bI],rfl,rfl⟩
 apply eV∘h1∘NC∘pF;refine aJ ?_ ?_<;>intro cK;·apply(vD);refine eL L R ?_;exact⟨by rw[CW,if_neg D,if_pos cK],rfl,rfl⟩
 apply eV∘h1∘Am∘pF;refine aJ ?_ ?_<;>intro dE;·apply(vD);refine eL L R ?_;exact⟨by rw[CW,if_neg D,if_neg D,if_pos dE],rfl,rfl⟩
 refine gG (hG (bY (cC (dM ?_))));apply(sO);refine eL L R ?_;exact⟨by rw[CW,if_neg D,if_neg D,if_neg D],rfl,rfl⟩
def aI4{l:E6}:QW l=0↔JN l:=by rw[QW];split<;>simp_all
def aHa{l:E6}{w:gW}{t:Int}(G:JN l)(U:¬(t<0\/2147483648<t\/t<w.wV))(aO:RQ w):DB l w t=0:=by rw[DB,if_neg (λh=>h G),if_neg U,if_neg (λh=>h aO)]
def a7x{l:E6}{w:gW}{x:bG}{t:Int}{e:Int}(h:DB l w t=e)(V:e≠0):Ny l w x t=aEt:=by rw[Ny,if_neg D]
def aGs{l:E6}{w:gW}{x:bG}{t:Int}(h:DB l w t=0):Ny l w x t=CZ l w x t:=by rw[Ny,if_pos h]
def aZy(l:E6)(w:gW)(x:bG)(t:Int)(L:aW)(R:aP):
 aM prog 166 [l.val,w.val,x.val,.int .i64 t].toArray L R (λv E R'=>v=.tuple #[(Ny l w x t).val,.int .i64 (DB l w t)]/\L=E/\R=R'):=by
 refine cX 97 call166 func166 rfl rfl rfl ?_;apply(fC);intro dU;apply(nW);intro fK;apply(nW);intro jN;apply(dO);intro mF;apply kB∘Ii;refine eD rfl (aHZ l _ _) ?_;apply(pQ);refine aJ ?_ ?_<;>intro bI;·
  apply eV∘a6b∘yE;refine cF L R ED ?_;have aZ:¬JN l:=λh=>by rw[aI4.2 h]at bI;omega
  have c6:DB l w t=1:=by rw[DB,if_pos aZ]
  exact⟨by rw[c6,a7x c6 aX,QW,if_neg aZ];rfl,rfl,rfl⟩
 have aZ:JN l:=aI4.1 D;apply FC∘q5;apply dT (aD:=[_,_]) (j:=2) (b4:=19) rfl rfl aK rfl b2 rfl;·exact JC
 intro o7;apply(fD);apply dT (aD:=[_,_,_,_]) (j:=6) (b4:=23) rfl rfl aK rfl b2 rfl;·intro n1;replace n1:=cP n1;exact(cJ) T2
 intro Af;apply(dD);refine aJ ?_ ?_<;>intro cK;·
  apply eV∘a6b∘y4;refine cF L R ED ?_;have c6:DB l w t=8:=by rw[DB,if_neg (λh=>h aZ),if_pos (by(try simp at cK);omega)]
  exact⟨by rw[c6,a7x c6 aX];rfl,rfl,rfl⟩
 have gJ:¬(t<0\/2147483648<t\/t<w.wV):=by(try simp at cK);omega
 apply k5∘AK;apply dT (aD:=[_,_,_]) (j:=3) (b4:=33) rfl rfl aK rfl b2 rfl;·exact QG
 intro m2;apply(fD);apply dT (aD:=[_,_,_]) (j:=8) (b4:=38) rfl rfl aK rfl b2 rfl;·exact Xj
 intro zV;apply(fD);apply dT (aD:=[_,_,_,_,_]) (j:=13) (b4:=43) rfl rfl aK rfl b2 rfl;·intro zN;replace zN:=cP zN;exact(nZ∘yO) iA
 intro Va;apply(fD);apply dT (aD:=[_,_,_,_,_,_,_,_]) (j:=20) (b4:=50) rfl rfl aK rfl b2 rfl;·
  intro IU;replace IU:=cP IU;apply gB∘vC;apply lR (aD:=[_,_,_]) (j:=24) (b4:=54) rfl rfl aK rfl b2 rfl;·intro aL6;replace aL6:=cP aL6;exact(gB) QC
  intro bAv;exact iA
 intro a27;apply(dD);refine aJ ?_ ?_<;>intro dE;·
  apply eV∘a6b∘y4;refine cF L R ED ?_;have c6:DB l w t=10:=by rw[DB,if_neg (λh=>h aZ),if_neg gJ,if_pos];rw[RQ];cases cM:w.over<;>simp[cM]at dE|- <;>omega
  exact⟨by rw[c6,a7x c6 aX];rfl,rfl,rfl⟩
 have c6:DB l w t=0:=aHa aZ gJ (by rw[RQ];cases cM:w.over<;>simp[cM]at dE|- <;>omega);rw[aGs c6];apply gI∘cJ∘r1;refine eS (bY (cC (iH (cC (dM ?_)))));apply lG∘gB;refine eD rfl (a7O x l.cut _ _) ?_;apply P0∘pF;refine aJ ?_ ?_<;>intro gZ;·apply e1∘gF∘aGS∘r1;refine eS (hG (bY (cC (dM ?_))));apply Ii∘yD;refine cF L R ED ?_;exact⟨by rw[c6,CZ,if_pos gZ],rfl,rfl⟩
 have aO:¬CW x l.cut≠-1:=gZ;apply UY∘NB∘pF;refine aJ ?_ ?_<;>intro fW;·refine gG (hG (bY (cC (dM ?_))));apply Ii∘yD;refine cF L R ED ?_;exact⟨by rw[c6,CZ,if_neg aO,if_pos Xb];first|rfl|rw[show w.over=false by simpa using fW],rfl,rfl⟩
 have cM:w.over=true:=by simpa using fW
 apply eV∘nZ∘yO∘pF;refine aJ ?_ ?_<;>intro lJ;·apply e1∘r1;refine eS (hG (bY (cC (dM ?_))));apply Ii∘yD;refine cF L R ED ?_;exact⟨by rw[c6,CZ,if_neg aO,if_neg (by rw[cM];decide),if_pos D];first|rfl|rw[cM],rfl,rfl⟩
 have dV:¬l.clear<x.bN:=by omega
 apply x0∘gB∘nD;refine aJ ?_ ?_<;>intro kK;·
  apply nP∘r1∘iG∘cJ∘gB∘oD∘gB∘IF;refine aJ ?_ ?_<;>intro qM;·exact aPK
  exact aP2
 apply gI∘cJ∘gB∘oD∘gB∘IF;refine aJ ?_ ?_<;>intro qM;·exact aPK
 exact aP2
end
def Jb(l:List kQ)(j:Nat):Prop:=
 ((l.getD j default).kind=1/\0<=(l.getD j default).cond/\(l.getD j default).cond<64)\/
 ((l.getD j default).kind=2/\1<=j/\(l.getD j default).left=(j:Int)-1)\/
 (((l.getD j default).kind=3\/(l.getD j default).kind=4)/\1<=j/\(l.getD j default).right=(j:Int)-1/\0<=(l.getD j default).left/\(l.getD j default).left<(j:Int))
def Ie{l:List kQ}: ∀(n:Nat) (i f d:Int),w5 l n i=some (f,d)->(0<=f/\f<=i)/\(1<=d/\d<=n)/\∀j:Nat,f<=(j:Int)->(j:Int)<=i->Jb l j
 |0,i,f,d,h=>by rw[w5]at h;cases h
 |n+1,i,f,d,h=>by
  rw[w5]at h
  split at h
  ·cases h
  rename_i aB
  have a8b:∀j:Nat,(j:Int)=i->l.getD j default=l.getD i.toNat default:=λj a6=>by rw[<-a6,tZ]
  split at h
  ·rename_i G
   split at h
   ·rename_i U
    cases h
    refine⟨by omega,by omega,λj Uy aNb=>?_⟩
    have a6:=a8b j D
    rw[Jb,a6]
    exact .inl ⟨G,U.2.2.1,U.2.2.2⟩
   ·cases h
  split at h
  ·rename_i G
   split at h
   ·cases h
   rename_i DJ aKE aG
   split at h
   ·rename_i U
    cases h
    obtain⟨FX,i2,i3⟩:=Ie n _ _ _ aG
    refine⟨by omega,by omega,λj Uy aNb=>?_⟩
    by_cases a6:(j:Int)=i
    ·have Kw:=a8b j a6
     rw[Jb,Kw]
     exact .inr (.inl ⟨G,by omega,by omega⟩)
    ·exact i3 j Uy D
   ·cases h
  split at h
  ·rename_i G
   split at h
   ·cases h
   rename_i m r aG
   split at h
   ·rename_i U
    split at h
    ·cases h
    rename_i DJ q bZ
    cases h
    obtain⟨FX,i2,i3⟩:=Ie n _ _ _ aG
    obtain⟨g8,eK,mJ⟩:=Ie n _ _ _ bZ
    refine⟨by omega,by omega,λj Uy aNb=>?_⟩
    by_cases a6:(j:Int)=i
    ·have Kw:=a8b j a6
     rw[Jb,Kw]
     exact .inr (.inr ⟨G,by omega,by omega,by omega,by omega⟩)
    ·rcases HT (j:Int) m with a1|a1
     ·exact mJ j Uy D
     ·exact i3 j a1 D
   ·cases h
  ·cases h
def a6I{l:List kQ}:H7 l=true↔(1<=l.length/\l.length<=64)/\∃d,w5 l l.length ((l.length:Int)-1)=some (0,d)/\d<=16:=by
 rw[H7,lY,decide_eq_true_eq];constructor;·
  rintro⟨G,U⟩;refine⟨G,?_⟩;split at U;·cases U
  ·rename_i f d aG;simp only[decide_eq_true_eq]at U;obtain⟨rfl,a7⟩:=U;exact⟨d,aG,a7⟩
 ·rintro⟨G,d,aG,a7⟩;refine⟨G,?_⟩;rw[aG];simpa using a7
def aYC{l:List kQ}(h:H7 l=true)(j:Nat)(a6:j<l.length):Jb l j:=by obtain⟨G,d,aG,_⟩:=a6I.1 h;exact(Ie _ _ _ _ aG).2.2 j D D
def R7{l:List kQ}{dX:List Int}: ∀k,(o1 l dX k).length=k
 |0=>rfl
 |k+1=>by rw[o1,hL,R7 k];rfl
def Bu{l:List kQ}{dX:List Int}: ∀{k j:Nat},j<k->(o1 l dX k).getD j 0=AN dX (o1 l dX j) (l.getD j default)
 |0,j,h=>by omega
 |k+1,j,h=>by
  have aZ:=R7 (l:=l) (dX:=dX) k
  rw[o1,lN]
  rcases gX j k with G|G
  ·rw[K4 D,<-lN]
   exact Bu G
  ·obtain rfl:j=k:=by omega
   rw[XQ D,aZ,Wj]
   rfl
def Q0(a b:Int):Prop:=(-1<=a/\a<=1)/\(-1<=b/\b<=1)/\(a=0\/a=b)
def aVM{dX KY v Mk:List Int}{x:kQ}(bA:dX.length=KY.length)(cS:∀j:Nat,dX.getD j 0=0\/dX.getD j 0=KY.getD j 0)(O:∀j:Nat,-1<=KY.getD j 0/\KY.getD j 0<=1)(h:∀j:Nat,Q0 (v.getD j 0) (Mk.getD j 0)):Q0 (AN dX v x) (AN KY Mk x):=by
 have G:=h x.left.toNat;have U:=h x.right.toNat;rw[Q0]at G U;rw[AN,AN];split;·have aO:=cS x.cond.toNat;have bW:=O x.cond.toNat;rw[Dg,Dg,<-bA,Q0];split<;>split<;>omega
 split;·rw[Q0];omega
 split;·rw[Q0];omega
 ·rw[Q0];omega
def aEY{l:List kQ}{dX KY:List Int}(bA:dX.length=KY.length)(cS: ∀j:Nat,dX.getD j 0=0\/dX.getD j 0=KY.getD j 0)(O: ∀j:Nat,-1<=KY.getD j 0/\KY.getD j 0<=1): ∀k j:Nat,Q0 ((o1 l dX k).getD j 0) ((o1 l KY k).getD j 0)
 |0,j=>by rw[o1,o1];simp[Q0]
 |k+1,j=>by
  have aZ:=R7 (l:=l) (dX:=dX) k
  have aMd:=R7 (l:=l) (dX:=KY) k
  rcases gX j (k+1)with G|G
  ·rw[Bu G,Bu G]
   rcases gX j k with U|U
   ·have:=aEY (l:=l) bA cS O k j
    rw[Bu U,Bu U]at this
    exact this
   ·obtain rfl:j=k:=by omega
    exact aVM bA cS O (aEY bA cS O j)
  ·have dH:(o1 l dX (k+1)).length=k+1:=R7 _
   have eH:(o1 l KY (k+1)).length=k+1:=R7 _
   rw[lN,lN,u1 D,u1 D]
   simp[Q0]
def aZS{dX v:List Int}{x:kQ}(h:∀j:Nat,-1<=v.getD j 0/\v.getD j 0<=1):-1<=AN dX v x/\AN dX v x<=1:=by
 have G:=h x.left.toNat;have U:=h x.right.toNat;rw[AN];split;·rw[Dg];split<;>omega
 split;·omega
 split<;>omega
def a4X{l:List kQ}{dX:List Int}: ∀k j:Nat,-1<=(o1 l dX k).getD j 0/\(o1 l dX k).getD j 0<=1
 |0,j=>by rw[o1];simp
 |k+1,j=>by
  rcases gX j (k+1)with G|G
  ·rw[Bu G]
   rcases gX j k with U|U
   ·have:=a4X (l:=l) (dX:=dX) k j
    rw[Bu U]at this
    exact this
   ·obtain rfl:j=k:=by omega
    exact aZS (a4X j)
  ·have dH:(o1 l dX (k+1)).length=k+1:=R7 _
   rw[lN,u1 D]
   simp
end Go.Proofs.YtdiajbdaadlfhaaGreatDoor
namespace Go.Proofs.YtdiajbdaadlfhaaGreatDoor
open Go.Aw Go Go.Proofs.Tryz
set_option maxRecDepth 20000
attribute [local irreducible] cO dG dP aM cI dR fA e2 e5 fB eQ e9 J.L
def aIl(h:A->B:=by exact b7 (qG b2) rfl rfl rfl):=h
def aWP(h:B:=by exact⟨i,1,_,rfl,⟨by omega,λh=>by rw[yJ,if_pos a4o],λh=>by rw[yJ,if_neg a4o]⟩,rfl,rfl⟩):=h
def aJn(h:A->B:=by exact dN rfl (cA (i-1) _ D D D) rfl):=h
def aZj(h:B:=by exact⟨f,max q r+1,eN,rfl,⟨by omega,λh=>by rw[yJ,a8B.z1 h],λh=>by rw[yJ,a8B.no h]⟩,rfl,rfl⟩):=h
def aTT(h:B:=by exact⟨0,0,false,rfl,⟨by omega,(λh=>by cases h),λ_=>by rw[w5,if_neg bI,<-K,if_neg cK,if_neg dE,if_neg D]⟩,rfl,rfl⟩):=h
structure Zj(l:List kQ)(n:Nat)(i f d:Int)(b:Bool):Prop where
 B2:0<=d/\d<=n
 z1:b=true->w5 l n i=some (f,d)
 no:b=false->w5 l n i=none
def aGR{l:List kQ}{i:Int}(h:i<0): ∀n,w5 l n i=none
 |0=>rfl
 |n+1=>by rw[w5,if_pos h]
def aY1{l:List kQ}{n:Nat}{i:Int}{x:kQ}(bV:¬i<0)(K:x=l.getD i.toNat default)(G:¬x.kind=1)(U:x.kind=2):
 w5 l (n+1) i=match w5 l n (i-1)with
  |none=>none
  |some (f,d)=>if x.cond=0/\x.right=0/\x.left=i-1 then some (f,d+1)else none:=by rw[w5,if_neg bV,<-K,if_neg G];exact if_pos U
def aTU{l:List kQ}{n:Nat}{i:Int}{x:kQ}(bV:¬i<0)(K:x=l.getD i.toNat default)(G:¬x.kind=1)(U:¬x.kind=2)(aO:x.kind=3\/x.kind=4):
 w5 l (n+1) i=match w5 l n (i-1)with
  |none=>none
  |some (m,r)=>if x.cond=0/\x.right=i-1/\x.left=m-1 then
   match w5 l n (m-1)with
   |none=>none
   |some (f,q)=>some (f,max q r+1)else none:=by rw[w5,if_neg bV,<-K,if_neg G,if_neg U];exact if_pos aO
def aUv(l:bP kQ)(n:Nat)(i:Int)(L:aW)(R:aP)(aB:i<0):
 aM prog 194 [l.val,.int .i64 i].toArray L R (λv E R'=>∃(f d:Int) (b:Bool),v=.tuple #[.int .i64 f,.int .i64 d,.bool b]/\Zj l.l n i f d b/\L=E/\R=R'):=by
 refine cX 122 call194 func194 rfl rfl rfl ?_;apply oO∘eA∘xF∘cJ∘nD;refine aJ ?_ ?_<;>intro bI;·apply oO∘eA∘l6∘DZ;refine cF L R Gw ?_;exact⟨0,0,false,rfl,⟨by omega,(λh=>by cases h),λ_=>aGR aB n⟩,rfl,rfl⟩
 (exfalso;omega)
def aVq(l:bP kQ)(n:Nat)(R:aP)(aZ:aN (RO l) R)(bA:n<=64)
 (cA:∀(i:Int) (L:aW),i<n->i<l.l.length->-1<=i->aM prog 194 [l.val,.int .i64 i].toArray L R (λv E R'=>∃(f d:Int) (b:Bool),v=.tuple #[.int .i64 f,.int .i64 d,.bool b]/\Zj l.l n i f d b/\L=E/\R=R'))
 (i:Int) (L:aW) (aB:i<n+1) (En:i<l.l.length) (FR:-1<=i):
 aM prog 194 [l.val,.int .i64 i].toArray L R (λv E R'=>∃(f d:Int) (b:Bool),v=.tuple #[.int .i64 f,.int .i64 d,.bool b]/\Zj l.l (n+1) i f d b/\L=E/\R=R'):=by
 refine cX 122 call194 func194 rfl rfl rfl ?_;apply oO∘eA∘xF∘cJ∘nD;refine aJ ?_ ?_<;>intro bI;·apply oO∘eA∘l6∘DZ;refine cF L R Gw ?_;exact⟨0,0,false,rfl,⟨by omega,(λh=>by cases h),λ_=>aGR bI _⟩,rfl,rfl⟩
 have I1:=bR (l:=l.l) (k:=i.toNat) default D;obtain⟨x,K⟩:∃x,x=l.l.getD i.toNat default:=⟨_,rfl⟩;rw[<-K]at I1;apply gI∘k2;refine aA (by first|exact j9 M rfl rfl rfl rfl i6 (i:=i.toNat) c7 D|exact jF M rfl rfl rfl rfl (i:=i.toNat) c7 D) rfl ?_;apply(RW);intro lT;apply(RU);refine eS (bY (iH (cC (dM ?_))));apply(q3);refine aJ ?_ ?_<;>intro cK;·
  refine cC ?_;refine jR M [0,1,2,3,4,5,6,7,8,9,10,11,12,13,14,15,16,17,18,19,20,21] ([bQ.mk lT _ _]) mixed aQ bC ?_;apply j7∘nQ;refine b7 QB rfl rfl rfl ?_;apply(KT);refine zC (k:=30) b2 (λfV=>?_) (λfV=>?_);·
   replace fV:=cP fV;apply(nQ);refine b7 QB rfl rfl rfl ?_;apply(yC);refine zC (k:=35) b2 (λh7=>?_) (λh7=>?_);·
    replace h7:=cP h7;apply(nQ);refine b7 (Iq rfl rfl) rfl rfl rfl ?_;apply(yC);refine zC (k:=40) b2 (λzN=>?_) (λzN=>?_);·replace zN:=cP zN;apply(nQ);refine b7 Bk rfl rfl rfl ?_;exact a4x
    replace zN:=cP zN;(iterate 3 apply(tV));exact a4x
   replace h7:=cP h7;(iterate 3 apply(tV));apply(yC);(iterate 3 apply(tV));exact a4x
  replace fV:=cP fV;iterate 3 apply(tV)
  apply(yC);iterate 3 apply(tV)
  apply(yC);iterate 3 apply(tV)
  exact a4x
 apply(sQ);refine aJ ?_ ?_<;>intro dE;·
  apply eV∘k2∘oD∘aJn;rintro v E R' ⟨f,d,b,rfl,kR,rfl,rfl⟩;have b1k:=kR.B2;refine aA jE rfl ?_;iterate 3 apply(A8)
  apply LQ∘l6∘j6;refine jR M [0,1,2,3,4,5,6,7,8,9,10,11,12,13,14,15,16,17,18,19,20,21,22,23] ([bQ.mk lT _ _]) mixed aQ bC ?_;apply j7∘j7∘P1∘KT∘KT;refine zC (k:=59) b2 (λfV=>?_) (λfV=>?_);·
   replace fV:=cP fV;apply(nQ);refine b7 QB rfl rfl rfl ?_;apply(yC);refine zC (k:=64) b2 (λh7=>?_) (λh7=>?_);·
    replace h7:=cP h7;apply(nQ);refine b7 QB rfl rfl rfl ?_;apply(yC);refine zC (k:=69) b2 (λzN=>?_) (λzN=>?_);·replace zN:=cP zN;apply uH∘A7;refine b7 QB rfl rfl rfl ?_;exact a3B
    replace zN:=cP zN;(iterate 5 apply(tV));exact a3B
   replace h7:=cP h7;(iterate 3 apply(tV));apply(yC);(iterate 5 apply(tV));exact a3B
  replace fV:=cP fV;iterate 3 apply(tV)
  apply(yC);iterate 3 apply(tV)
  apply(yC);iterate 5 apply(tV)
  exact a3B
 apply x0∘q3;refine aJ ?_ ?_<;>intro gZ;·refine gG (bY ?_);exact aOO
 apply e1∘q3;exact aOO
def aIb(l:bP kQ)(R:aP)(aZ:aN (RO l) R):∀(n:Nat),n<=64->∀(i:Int) (L:aW),i<n->i<l.l.length->-1<=i->
 aM prog 194 [l.val,.int .i64 i].toArray L R (λv E R'=>∃(f d:Int) (b:Bool),v=.tuple #[.int .i64 f,.int .i64 d,.bool b]/\Zj l.l n i f d b/\L=E/\R=R')
 |0,_,i,L,aB,_,_=>aUv l 0 i L R D
 |n+1,bA,i,L,aB,En,FR=>aVq l n R aZ D (λi L G U aO=>aIb l R aZ n D i L G U aO) i L aB En FR
def aFL(l:bP kQ)(L:aW)(R:aP)(aZ:aN (RO l) R):
 aM prog 171 [l.val].toArray L R (λv E R'=>v=.bool (H7 l.l)/\L=E/\R=R'):=by
 refine cX 32 call171 func171 rfl rfl rfl ?_;apply E8∘mY∘j0∘q5;apply dT (aD:=[_,_,_]) (j:=3) (b4:=9) rfl rfl aK rfl b2 rfl;·intro fV;replace fV:=cP fV;exact(j0∘yO) iA
 intro m2;apply(dD);refine aJ ?_ ?_<;>intro bI;·apply(RT);refine m5 L R ?_;exact⟨by rw[H7,decide_eq_false D];rfl,rfl,rfl⟩
 apply OI∘j0∘oD;refine dN rfl (aIb l _ aZ l.l.length D _ _ D D D) rfl ?_;rintro v E R' ⟨f,d,b,rfl,kR,rfl,rfl⟩;refine aA jE rfl ?_;iterate 3 apply(A8)
 apply LQ∘uK∘fD∘fD;apply lR (aD:=[_,_]) (j:=1) (b4:=24) rfl rfl aK rfl b2 rfl;·intro j3;replace j3:=cP j3;exact(cJ) Bf
 intro b5x;apply(fD);apply lR (aD:=[_,_]) (j:=5) (b4:=28) rfl rfl aK rfl b2 rfl;·intro xS;replace xS:=cP xS;exact(cJ∘D0) iA
 intro a28;apply(sP);refine m5 L R ?_;refine⟨?_,rfl,rfl⟩;rw[H7,show decide (1<=l.l.length/\l.l.length<=64)=true from decide_eq_true D];cases b with
 |false=>rw[kR.no rfl];rfl
 |true=>rw[kR.z1 rfl];refine congrArg Value.bool ?_;rw[Wb];simp
def aUP{l:List kQ}{n:Nat}(h:H7 l=true)(k:Nat)(Y:k<l.length)(G:(l.getD k default).kind=1)(U:(n:Int)<=(l.getD k default).cond):JJ l n=1:=by rw[JJ,if_neg (by rw[h];decide),if_pos ⟨_,hS (bR default Y),G,U⟩]
def aUy{l:List kQ}{n:Nat}(h:H7 l=true)(Y:∀k:Nat,k<l.length->¬((l.getD k default).kind=1/\(n:Int)<=(l.getD k default).cond)):JJ l n=0:=by
 rw[JJ,if_neg (by rw[h];decide),if_neg];rintro⟨x,K,G,U⟩;obtain⟨k,Z0,rfl⟩:=List.mem_iff_getElem.1 K;have e:l.getD k default=l[k]:=by rw[lN,w4 Z0];rfl
 exact Y k Z0 (by rw[e];exact⟨G,U⟩)
def aVv(l:bP kQ)(n:Nat)(L:aW)(R:aP)(aZ:aN (RO l) R):
 aM prog 160 [l.val,.int .i64 (n:Int)].toArray L R (λv E R'=>v=.int .i64 (JJ l.l n)/\L=E/\R=R'):=by
 refine cX 26 call160 func160 rfl rfl rfl ?_;apply oO∘mY∘gQ;refine eD rfl (aFL l _ _ aZ) ?_;apply(AJ);refine aJ ?_ ?_<;>intro bI;·apply(uJ);refine eL L R ?_;exact⟨by rw[JJ,if_pos EA],rfl,rfl⟩
 have O:H7 l.l=true:=by simpa using bI
 have lL:=(a6I.1 O).1;apply k5∘r3;refine e3 [(1,.int _ _),(10,.slice _ _ _),(11,.int _ _),(12,.int _ _)] cB λg9=>?_;refine lF ([4,6]++dJ 12 14) (λg:{k:Nat//k<=l.l.length/\∀j:Nat,j<k->¬((l.l.getD j default).kind=1/\(n:Int)<=(l.l.getD j default).cond)}=>[(12,.int .i64 ((g.1:Nat):Int))]) (λg=>l.l.length-g.1) (⟨0,by omega,λj a6=>by omega⟩) ?_;rintro⟨k,Y,jX⟩ c1;try dsimp only
 apply(gU);refine aJ ?_ ?_<;>intro cK;·
  have G:=bR (l:=l.l) (k:=k) default D;apply(jK);refine aA rF rfl ?_;apply(RW);intro jN;apply BP∘BQ;apply lR (aD:=[_,_,_,_]) (j:=3) (b4:=19) rfl rfl aK rfl b2 rfl;·exact aBQ
  intro m2;apply(dD);refine aJ ?_ ?_<;>intro dE;·apply(GP);refine eL L R ?_;exact⟨by rw[aUP O k D dE.1 dE.2],rfl,rfl⟩
  exact aOH
 apply(IG);refine eL L R ?_;exact⟨by rw[aUy O (λj a6=>jX j D)],rfl,rfl⟩
end Go.Proofs.YtdiajbdaadlfhaaGreatDoor
namespace Go.Proofs.YtdiajbdaadlfhaaGreatDoor
open Go.Aw Go Go.Proofs.Tryz
section
def aWN(h:A->B:=by exact aA qW rfl):=h
def aSx(h:A->B:=by exact aA (by first|exact j9 M rfl rfl rfl rfl i6 (i:=c.target.toNat) c7 D|exact jF M rfl rfl rfl rfl (i:=c.target.toNat) c7 D) rfl):=h
def aHw(h:A->B:=by exact aA Np rfl):=h
def aTR{P:Program}{aV:Operand->Value}{L:aW}{R:aP}{dst:Option Tmp}{ty:TypeId}{pos:String}{after:Array Edge}{guard:Option (Nat×Bool)}(M:nN P){T:TypeId}{x y:Operand}{k:IntKind}{a:Int}{e n gC bt z mX z2 eK}{fl pJ:List (Nat×Nat)}{h len cap i:Nat}{gH:Option Addr}{rows:List (List Value)}{eE:aP}(dF:g5 M.gD T=some ⟨.slice e,n,fl,bt,z⟩)(c6:g5 M.gD e=some ⟨eK,gC,pJ,mX,z2⟩)
 (K:aV x=.slice gH h cap) (bB:aV y=.int k a) (b8:aN (.mk gC gH len cap rows eE) R) (yI:h<=len) (aB:a=(i:Int)) (jT:i<h):
 cI P ⟨dst,.indexAddr T x y,ty,pos,after,guard⟩ aV L R (.pointer (some ⟨xJ gH,n0 gH gC i 0,none⟩)):=λc w cW=>by
 obtain⟨⟨aD,bF,bE⟩,cM,Y⟩:=cW
 have aMS:c5 c L (.mk gC gH h cap (rows.take h) eE::R) w:=⟨⟨aD,⟨bF.lC,bF.own,bF.pT,bF.nT,λr O=>by
  rcases List.mem_cons.1 O with rfl|O
  ·obtain⟨iT,xV,aF⟩:=b8
   exact aHv ((bF.nH iT xV).sub aF) yI
  ·exact bF.nH r O⟩,bE⟩,cM,Y⟩
 exact j9 M dF c6 K bB mL aB jT c w aMS
attribute [local irreducible] cO dG dP aM cI dR fA e2 e5 fB eQ e9 J.L
def Ox(a b:Int)(L:aW)(R:aP):
 aM prog 158 [.int .i64 a,.int .i64 b].toArray L R (λv E R'=>v=.bool (decide (0<=a/\a<b))/\L=E/\R=R'):=by
 refine cX 12 call158 func158 rfl rfl rfl ?_;apply E8∘iG∘cJ∘NC∘fD;apply lR (aD:=[_,_,_]) (j:=2) (b4:=7) rfl rfl aK rfl b2 rfl;·intro iM;replace iM:=cP iM;exact(wF) K9
 intro o7;apply(sP);refine m5 L R ?_;exact aPz
def aXF{a:bT}{S:List g0}{i:Nat}{x:g0}(K:x=S.getD i default)(G:vB x=0)(U:0<=x.target/\x.target<T7 a x)(aO:∀k:Nat,k<i->(S.getD k default).hW≠x.hW):AR a S i=none:=by rw[AR,<-K,if_neg D,if_neg (λh=>h U),if_neg];rintro⟨k,g8,eK⟩;exact aO k g8 eK
def aXg(s:dY)(L:aW)(R:aP)(aF:aN (L0 s.e8) R)(bA:s.e8.l.length<=64):
 aM prog 113 [s.val].toArray L R (λv E R'=>v=.int .i64 (EY s.c2 s.e8.l)/\L=E/\R=R'):=by
 refine Bw call113 aF λG9=>?_;refine cX 62 call113 func113 rfl rfl rfl ?_;apply(fC);intro fT;apply kB∘pE;refine e3 [(1,.pointer _),(10,.slice _ _ _),(11,.int _ _),(12,.int _ _)] cB λg9=>?_;refine lF ([2,3,4,5,6,8]++dJ 12 50) (λg:X7 (AR s.c2 s.e8.l) (s.e8.l.length)=>[(12,.int .i64 ((g.1:Nat):Int))]) (λg=>(s.e8.l.length)-g.1) ⟨0,UN _ _⟩ ?_;rintro⟨jJ,SW,i1⟩ c1;try dsimp only
 apply(gU);refine aJ ?_ ?_<;>intro bI;·
  have I1:=bR (l:=s.e8.l) (k:=jJ) default D;obtain⟨x,K⟩:∃x,x=s.e8.l.getD jJ default:=⟨_,rfl⟩;rw[<-K]at I1;apply(nC);refine aA Nq rfl ?_;apply aHw∘dO;intro dU;apply eA∘uI;refine aA EC rfl ?_;refine eD rfl (a7A x _ _) ?_;apply(pQ);refine aJ ?_ ?_<;>intro cK;·apply RZ∘Gb;refine eL L R ?_;have h:=GU i1 D (show AR s.c2 s.e8.l jJ=some (vB x) by rw[AR,<-K,if_pos cK]);exact⟨by rw[EY,h];rfl,rfl,rfl⟩
  apply(gI);iterate 3 apply(gF)
  apply kZ∘F1∘kB∘gB∘dD;refine w6 ([6]++dJ 29 12) ((⟨λg=>[(6,.int .i64 g.1)],λ_=>⟨dU,x.cells,188⟩::⟨fT,s.cells,117⟩::L,λ_=>R,λ_=>0⟩:e0 {n:Int//n=T7 s.c2 x})) ?_ ?_;·
   refine iH (cC (dM ?_));apply(q3);refine aJ ?_ ?_<;>intro dE;·apply e1∘xG∘eA;refine eS (hG ?_);exact aBG
   apply(sQ);refine aJ ?_ ?_<;>intro gZ;·apply e1∘xG∘eA;refine eS (hG ?_);exact aBG
   refine gG (hG ?_);exact aBG
  rintro⟨of,a92⟩ c1;try dsimp only
  apply x0∘h1;refine eD rfl (Ox x.target of _ _) ?_;apply(AJ);refine aJ ?_ ?_<;>intro fW;·apply(OE);refine eL L R ?_;have h:=GU i1 D (show AR s.c2 s.e8.l jJ=some 9 by rw[AR,<-K,if_neg D,if_pos (by rw[<-a92];simpa using fW)]);exact⟨by rw[EY,h];rfl,rfl,rfl⟩
  apply gI∘h1;refine aA (a6u M rfl rfl rfl rfl (n:=jJ) c7 D) rfl ?_;apply(R0);refine ON ([2,3,4,5,6,8]++dJ 12 50) QD [(4,.pointer _),(12,.int _ _),(49,.slice _ _ _),(50,.int _ _),(51,.int _ _)] cB λs4=>?_;refine lF ([2,8]++dJ 51 10) (λg:{j:Nat//j<=jJ/\∀m:Nat,m<j->(s.e8.l.getD m default).hW≠x.hW}=>[(51,.int .i64 ((g.1:Nat):Int))]) (λg=>jJ-g.1) (⟨0,by omega,λm a1=>by omega⟩) ?_;rintro⟨j,a6,jX⟩ c1;try dsimp only
  apply(gU);refine aJ ?_ ?_<;>intro lJ;·
   have aL8:=bR (l:=s.e8.l) (k:=j) default D;apply(jK);refine aA (aTR M rfl rfl rfl rfl aF D (i:=j) rfl D) rfl ?_;apply aHw∘dO;intro mF;apply p6∘nZ∘AL;refine aJ ?_ ?_<;>intro kK;·apply(oO);refine eS (bY (mE (lO (i7 (E1 (lO (lO (i7 (E1 (lO (i7 ?_)))))))))));refine eL L R ?_;have h:=GU i1 D (show AR s.c2 s.e8.l jJ=some 9 by rw[AR,<-K,if_neg D,if_neg (λh=>h (by rw[<-a92];simpa using fW)),if_pos ⟨j,by omega,kK⟩]);exact⟨by rw[EY,h];rfl,rfl,rfl⟩
   apply(k9);exact lP (⟨j+1,by omega,λm a1=>by
   rcases gX m j with h|h;·exact jX m h
   ·(obtain rfl:m=j:=by omega);exact kK⟩) hM cB bC eX kM
  refine oZ (oX (AF (oW (hG (bY (dM ?_))))));apply(m0);exact eG ⟨jJ+1,OY i1 D (aXF K D (by rw[<-a92];simpa using fW) (λm a1=>jX m D))⟩
 have uT:=QU i1 D;apply(IG);refine eL L R ?_;exact⟨by rw[EY,uT];rfl,rfl,rfl⟩
def aZN(s:dY)(c:rK)(L:aW)(R:aP)(aF:aN (L0 s.e8) R)(bA:s.e8.l.length<=64):
 aM prog 114 [s.val,c.val].toArray L R (λv E R'=>v=.int .i64 (LD s.e8.l s.c2.aE.Z.l.length c)/\L=E/\R=R'):=by
 refine cX 62 call114 func114 rfl rfl rfl ?_;apply(fC);intro eN;apply(nW);intro e4;apply kB∘gB;refine eS (bY (iH (cC (cC (dM ?_)))));apply(q3);refine aJ ?_ ?_<;>intro bI;·refine gG (bY ?_);exact aBN
 apply(sQ);refine aJ ?_ ?_<;>intro cK;·refine gG (bY ?_);exact aBN
 apply e1∘q3;exact aBN
def aTy{h2 n:Nat}{z:kJ}(G:JJ z.mB.l h2=0)(U:¬(z.hold<0\/100000<z.hold\/z.vM<0\/100<z.vM))(k:Nat)(Y:k<z.Z.l.length)(h:BS n z.Z.l k):DF h2 n z=4:=by rw[DF,if_neg D,if_neg U,if_pos ⟨k,Y,h⟩]
def aVO{h2 n:Nat}{z:kJ}(G:JJ z.mB.l h2=0)(U:¬(z.hold<0\/100000<z.hold\/z.vM<0\/100<z.vM))(h:∀k:Nat,k<z.Z.l.length->¬BS n z.Z.l k):DF h2 n z=0:=by rw[DF,if_neg D,if_neg U,if_neg];rintro⟨k,g8,eK⟩;exact h k g8 eK
def aRw(s:dY)(z:kJ)(L:aW)(R:aP)(O:aN (RO z.mB) R)(dI:aN (dW z.Z) R):
 aM prog 115 [s.val,z.val].toArray L R (λv E R'=>v=.int .i64 (DF s.h2.l.length s.c2.aE.Z.l.length z)/\L=E/\R=R'):=by
 refine rZ call115 dI λKO=>?_;refine cX 66 call115 func115 rfl rfl rfl ?_;apply(fC);intro eN;apply(nW);intro e4;apply kB∘gB∘jM;refine eD rfl (aVv z.mB s.h2.l.length _ _ O) ?_;apply(pQ);refine aJ ?_ ?_<;>intro bI;·apply(U1);refine eL L R ?_;exact⟨by rw[DF,if_pos bI],rfl,rfl⟩
 apply k5∘AK;apply dT (aD:=[_,_,_]) (j:=3) (b4:=20) rfl rfl aK rfl b2 rfl;·exact QG
 intro m2;apply(fD);apply dT (aD:=[_,_,_]) (j:=8) (b4:=25) rfl rfl aK rfl b2 rfl;·exact Xj
 intro zV;apply(fD);apply dT (aD:=[_,_,_]) (j:=13) (b4:=30) rfl rfl aK rfl b2 rfl;·exact a4m
 intro Va;apply(dD);refine aJ ?_ ?_<;>intro cK;·apply(uJ);refine eL L R ?_;exact⟨by rw[DF,if_neg D,if_pos D],rfl,rfl⟩
 apply(LS);refine e3 [(2,.pointer _),(3,.pointer _),(36,.slice _ _ _),(37,.int _ _),(38,.int _ _)] cB λg9=>?_;refine lF ([4,6,7]++dJ 38 28) (λg:{k:Nat//k<=z.Z.l.length/\∀j:Nat,j<k->¬BS s.c2.aE.Z.l.length z.Z.l j}=>[(38,.int .i64 ((g.1:Nat):Int))]) (λg=>z.Z.l.length-g.1) (⟨0,by omega,λj a6=>by omega⟩) ?_;rintro⟨k,Y,jX⟩ c1;try dsimp only
 apply(gU);refine aJ ?_ ?_<;>intro dE;·
  have CC:=bR (l:=z.Z.l) (k:=k) 0 D;apply(nC);refine aA rF rfl ?_;apply kY∘eA∘q4;iterate 3 apply(gF)
  apply kZ∘F1;refine eD rfl (Ox (z.Z.l.getD k 0) (s.c2.aE.Z.l.length:Int) _ _) ?_;apply(OB);apply dT (aD:=[_,_,_,_,_,_,_,_,_,_,_,_]) (j:=8) (b4:=51) rfl rfl aK rfl b2 rfl;·
   intro h7;replace h7:=cP h7;apply a6V∘fD;apply lR (aD:=[_,_,_,_,_,_,_,_]) (j:=11) (b4:=54) rfl rfl aK rfl b2 rfl;·intro MV;replace MV:=cP MV;have bAo:=bR (l:=z.Z.l) (k:=k-1) 0 (by simp at MV;omega);apply cJ∘Cr;refine aA aQR rfl ?_;exact(kY∘D0) iA
   intro aA4;exact iA
  intro zV;apply(dD);refine aJ ?_ ?_<;>intro gZ;·apply(GP);refine eL L R ?_;exact⟨by rw[aTy (n:=s.c2.aE.Z.l.length) D D k D (by rw[BS];omega)],rfl,rfl⟩
  apply(k9);exact lP (⟨k+1,by omega,λj a6=>by
  rcases gX j k with h|h;·exact jX j h
  ·(obtain rfl:j=k:=by omega);rw[BS];omega⟩) hM cB bC eX kM
 apply(IG);refine eL L R ?_;exact⟨by rw[aVO D D (λj a6=>jX j D)],rfl,rfl⟩
end
section
attribute [local irreducible] cO dG dP aM cI dR fA e2 e5 fB eQ e9 J.L
end
end Go.Proofs.YtdiajbdaadlfhaaGreatDoor
