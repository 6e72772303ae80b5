-- By an AI agent; no person has read it.
import Derived.Test.YtdiajbdaadlfhaaGreatDoorRun
set_option linter.all false
set_option maxHeartbeats 4000000
variable{A B:Prop}
def a0l(h:A->B:=by exact aA Nq rfl):=h
def a1h(h:A->B:=by exact aA aCF rfl):=h
def a0W(h:A->B:=by exact fE aCA rfl rfl rfl rfl):=h
def aFK(h:A->B:=by exact b7 (by first|exact j9 M rfl rfl rfl rfl i6 (i:=jJ-1) c7 D|exact jF M rfl rfl rfl rfl (i:=jJ-1) c7 D) rfl rfl rfl):=h
def aGT(h:B:=by exact⟨by rw[L6,if_neg D,if_neg D,GU i1 D (aDR aG D D bZ D)];rfl,rfl,rfl⟩):=h
def aHu(h:A->B:=by exact jV M [] [0,1,2,3,4,5,6,7,8,9,10] [11] (_) _ mixed aQ bC Gx):=h
namespace Go.Proofs.YtdiajbdaadlfhaaGreatDoor
open Go.Aw Go Go.Proofs.Tryz
set_option maxRecDepth 20000
attribute [local irreducible] cO dG dP aM cI dR fA e2 e5 fB eQ e9
def RD(s:bG)(cN aB:Int):Bool:=decide (cN<=s.bJ) && (decide (s.bJ<=s.bN) && decide (s.bN<=aB))
def aIX(s:bG)(cN aB:Int)(L:aW)(R:aP):
 aM prog 62 [s.val,.int .i64 cN,.int .i64 aB].toArray L R (λv E R'=>v=.bool (RD s cN aB)/\L=E/\R=R'):=by
 refine cX 24 call62 func62 rfl rfl rfl ?_;apply(fC);intro e4;apply uK∘cJ∘gB∘D0∘fD;apply lR (aD:=[_,_,_,_,_]) (j:=4) (b4:=11) rfl rfl aK rfl b2 rfl;·intro jP;replace jP:=cP jP;exact(nZ∘D0) iA
 intro DU;apply(fD);apply lR (aD:=[_,_,_,_]) (j:=11) (b4:=18) rfl rfl aK rfl b2 rfl;·intro MV;replace MV:=cP MV;exact(h1∘D0) iA
 intro aA4;apply(sP);refine m5 L R ?_;exact⟨by simp[RD,Bool.and_assoc],rfl,rfl⟩
def C3(p:gL):Option Int:=if p.tQ< -10000\/10000<p.tQ then some 1 else none
def q1(n:Nat)(r:cR):Option Int:=
 if r.bK<0\/(n:Int)<=r.bK\/r.to<0\/(n:Int)<=r.to\/r.bK=r.to then some 4
 else if r.len<1\/100000<r.len\/r.h6<1\/1000<r.h6\/RD r.aC 1 262144=false\/RD r.fQ (-2199023255552) 2199023255552=false then some 1 else none
def iB(m:eC):Int:=
 if 64<m.places.l.length\/128<m.Z.l.length then 2
 else match m.places.l.findSome? C3 with
  |some e=>e
  |none=>(m.Z.l.findSome? (q1 m.places.l.length)).getD 0
def Yv(m:eC)(L:aW)(R:aP)(a1:oY m R):
 aM prog 33 [m.val].toArray L R (λv E R'=>v=.int .i64 (iB m)/\L=E/\R=R'):=by
 have dC:=a1.places;have mI:=a1.Z;refine rZ call33 dC λl2=>?_;refine rZ call33 mI λZ8=>?_;refine cX 100 call33 func33 rfl rfl rfl ?_;apply(fC);intro fT;apply kB∘Ix∘fD;apply dT (aD:=[_,_,_,_]) (j:=4) (b4:=12) rfl rfl aK rfl b2 rfl;·exact Wr
 intro DU;apply(dD);refine aJ ?_ ?_<;>intro bI;·apply(uJ);refine eL L R ?_;exact⟨by simp[iB];omega,rfl,rfl⟩
 apply(LS);refine e3 [(1,.pointer _),(19,.slice _ _ _),(20,.int _ _),(21,.int _ _)] cB λg9=>?_;refine m6 ([2,4]++dJ 21 13) ((⟨λg=>[(21,.int .i64 ((g.1:Nat):Int))],λ_=>⟨fT,m.cells,28⟩::L,λ_=>R,λg=>m.places.l.length-g.1⟩:e0 (FS C3 m.places.l))) (⟨0,N5 _ _⟩) ?_;rintro⟨k,Y,Eu⟩ c1;try dsimp only
 apply(gU);refine aJ ?_ ?_<;>intro cK;·
  obtain⟨x,K⟩:=lQ (l:=m.places.l) (k:=k) D;apply jK∘A6∘R1;intro dU;apply p6∘AK;apply dT (aD:=[_,_,_]) (j:=3) (b4:=28) rfl rfl aK rfl b2 rfl;·exact QG
  intro m2;apply(dD);refine aJ ?_ ?_<;>intro dE;·apply(GP);refine eL L R ?_;exact⟨by simp[iB,GV Eu K (show C3 x=some 1 by simp[C3];omega)];omega,rfl,rfl⟩
  apply(k9);exact eG ⟨k+1,LH Eu K (by simp[C3];omega)⟩
 have aG:=LI Eu D;apply oS∘jM∘kB∘pE;refine e3 [(5,.int _ _),(38,.slice _ _ _),(39,.int _ _),(40,.int _ _)] cB λs4=>?_;refine m6 ([2,7]++dJ 40 60) ((⟨λg=>[(40,.int .i64 ((g.1:Nat):Int))],λ_=>⟨fT,m.cells,28⟩::L,λ_=>R,λg=>m.Z.l.length-g.1⟩:e0 (FS (q1 m.places.l.length) m.Z.l))) (⟨0,N5 _ _⟩) ?_;rintro⟨eK,j4,Tu⟩ c1;try dsimp only
 apply(gU);refine aJ ?_ ?_<;>intro gZ;·
  obtain⟨y,bB⟩:=lQ (l:=m.Z.l) (k:=eK) D;apply jK∘A6∘Lx∘dO;intro lT;apply uI∘AK;apply dT (aD:=[_,_,_,_]) (j:=3) (b4:=47) rfl rfl aK rfl b2 rfl;·exact aBQ
  intro m2;apply(fD);apply dT (aD:=[_,_,_]) (j:=9) (b4:=53) rfl rfl aK rfl b2 rfl;·intro vP;replace vP:=cP vP;exact T2
  intro Uz;apply(fD);apply dT (aD:=[_,_,_,_]) (j:=14) (b4:=58) rfl rfl aK rfl b2 rfl;·intro vQ;replace vQ:=cP vQ;exact(h1) NN
  intro Fi;apply(fD);apply dT (aD:=[_,_,_,_,_]) (j:=20) (b4:=64) rfl rfl aK rfl b2 rfl;·intro IU;replace IU:=cP IU;exact(nZ) Bf
  intro a27;apply(dD);refine aJ ?_ ?_<;>intro fW;·apply(OE);refine eL L R ?_;exact⟨by simp[iB,aG,GV Tu bB (show q1 m.places.l.length y=some 4 by simp[q1];omega)];omega,rfl,rfl⟩
  apply k5∘AK;apply dT (aD:=[_,_,_]) (j:=3) (b4:=74) rfl rfl aK rfl b2 rfl;·exact QG
  intro m2;apply(fD);apply dT (aD:=[_,_,_]) (j:=8) (b4:=79) rfl rfl aK rfl b2 rfl;·exact Xj
  intro zV;apply(fD);apply dT (aD:=[_,_,_]) (j:=13) (b4:=84) rfl rfl aK rfl b2 rfl;·exact a4m
  intro Va;apply(dD);refine aJ ?_ ?_<;>intro lJ;·apply(OE);refine eL L R ?_;exact⟨by simp[iB,aG,GV Tu bB (show q1 m.places.l.length y=some 1 by rw[q1,if_neg D,if_pos D])];omega,rfl,rfl⟩
  apply gI∘C6;refine eD rfl (aIX y.aC _ _ _ _) ?_;apply(OB);apply dT (aD:=[_,_,_,_]) (j:=4) (b4:=93) rfl rfl aK rfl b2 rfl;·intro jP;replace jP:=cP jP;apply(C6);refine eD rfl (aIX y.fQ _ _ _ _) ?_;exact QC
  intro DU;apply(dD);refine aJ ?_ ?_<;>intro kK;·apply(GP);refine eL L R ?_;exact⟨by simp[iB,aG,GV Tu bB (show q1 m.places.l.length y=some 1 by rw[q1,if_neg D,if_pos (by rcases kK with h|h<;>simp[h])])];omega,rfl,rfl⟩
  apply(k9);exact eG ⟨eK+1,LH Tu bB (by rw[q1,if_neg D,if_neg (by simp[kK];omega)])⟩
 have bZ:=LI Tu D;apply(IG);refine eL L R ?_;exact⟨by simp[iB,aG,bZ];omega,rfl,rfl⟩
def GS(l:List hU)(i:Nat):Option Int:=
 match l[i]? with
 |none=>none
 |some p=>if p.c8< -1048576\/1048576<p.c8\/p.b5<0\/2199023255552<p.b5 then some 1
  else if i=0 then none
  else match l[i-1]? with
   |none=>none
   |some q=>if p.c8<=q.c8\/q.b5<p.b5 then some 14 else none
def L6(f:hT):Int:=
 if f.aS<0 then 4 else if f.hJ.l.length<1\/8<f.hJ.l.length then 2
 else((List.range f.hJ.l.length).findSome? (GS f.hJ.l)).getD 0
def aGQ{l:List hU}{k:Nat}{p:hU}(h:l[k]?=some p)(O:p.c8< -1048576\/1048576<p.c8\/p.b5<0\/2199023255552<p.b5):GS l k=some 1:=by simp only[GS,h,if_pos O]
def aDR{l:List hU}{k:Nat}{p q:hU}(h:l[k]?=some p)(O:¬(p.c8< -1048576\/1048576<p.c8\/p.b5<0\/2199023255552<p.b5))(Y:k≠0)(cD:l[k-1]?=some q)(aT:p.c8<=q.c8\/q.b5<p.b5):GS l k=some 14:=by simp only[GS,h,if_neg O,if_neg Y,cD,if_pos aT]
def aXR{l:List hU}{k:Nat}{p:hU}(h:l[k]?=some p)(O:¬(p.c8< -1048576\/1048576<p.c8\/p.b5<0\/2199023255552<p.b5))(Y:k=0):GS l k=none:=by simp only[GS,h,if_neg O,if_pos Y]
def aU8{l:List hU}{k:Nat}{p q:hU}(h:l[k]?=some p)(O:¬(p.c8< -1048576\/1048576<p.c8\/p.b5<0\/2199023255552<p.b5))(Y:k≠0)(cD:l[k-1]?=some q)(aT:¬(p.c8<=q.c8\/q.b5<p.b5)):GS l k=none:=by simp only[GS,h,if_neg O,if_neg Y,cD,if_neg aT]
def aQ5(f:hT)(L:aW)(R:aP)(a1:aN f.eJ R):
 aM prog 63 [f.val].toArray L R (λv E R'=>v=.int .i64 (L6 f)/\L=E/\R=R'):=by
 refine rZ call63 a1 λl2=>?_;refine cX 71 call63 func63 rfl rfl rfl ?_;apply(fC);intro fT;apply kB∘gB∘nD;refine aJ ?_ ?_<;>intro bI;·apply(uJ);refine eL L R ?_;exact⟨by rw[L6,if_pos D],rfl,rfl⟩
 apply k5∘jM∘q5;apply dT (aD:=[_,_,_,_]) (j:=4) (b4:=12) rfl rfl aK rfl b2 rfl;·exact Wr
 intro DU;apply(dD);refine aJ ?_ ?_<;>intro cK;·apply(uJ);refine eL L R ?_;exact⟨by rw[L6,if_neg D,if_pos D],rfl,rfl⟩
 apply(LS);refine e3 [(1,.pointer _),(19,.slice _ _ _),(20,.int _ _),(21,.int _ _)] cB λg9=>?_;refine lF ([2,3,4]++dJ 21 50) (λg:X7 (GS f.hJ.l) (f.hJ.l.length)=>[(21,.int .i64 ((g.1:Nat):Int))]) (λg=>(f.hJ.l.length)-g.1) ⟨0,UN _ _⟩ ?_;rintro⟨jJ,SW,i1⟩ c1;try dsimp only
 apply(gU);refine aJ ?_ ?_<;>intro dE;·
  obtain⟨p,aG⟩:=lQ (l:=f.hJ.l) (k:=jJ) D;apply nC∘a0l∘R1;intro dU;apply eA∘uI∘AK;apply dT (aD:=[_,_,_]) (j:=3) (b4:=29) rfl rfl aK rfl b2 rfl;·exact QG
  intro m2;apply(fD);apply dT (aD:=[_,_,_]) (j:=8) (b4:=34) rfl rfl aK rfl b2 rfl;·exact Xj
  intro zV;apply(fD);apply dT (aD:=[_,_,_]) (j:=13) (b4:=39) rfl rfl aK rfl b2 rfl;·exact a4m
  intro Va;apply(dD);refine aJ ?_ ?_<;>intro gZ;·apply(OE);refine eL L R ?_;exact⟨by rw[L6,if_neg D,if_neg D,GU i1 D (aGQ aG D)];rfl,rfl,rfl⟩
  apply(CI);refine jR M [0,1,2,3,4,5,6,7,8,9,10,11,12,13,14,15,16,17,18,19,20,21,22,23,24,25] _ mixed aQ iP ?_;apply(j7);refine b7 (Qh rfl rfl) rfl rfl rfl ?_;apply(KT);refine zC (k:=46) b2 (λj3=>?_) (λj3=>?_);·
   replace j3:=cP j3;obtain⟨q,bZ⟩:=lQ (l:=f.hJ.l) (k:=jJ-1) D;apply nQ∘uH∘A7∘aFK∘TL∘s0;refine b7 (aGK rfl rfl) rfl rfl rfl ?_;apply(KT);refine zC (k:=57) b2 (λxR=>?_) (λxR=>?_);·replace xR:=cP xR;(iterate 10 apply(tV));apply Lw∘C7;refine yX rfl ?_;apply(GP);refine eL L R ?_;exact aGT
   replace xR:=cP xR;apply nQ∘uH∘A7∘aFK∘TL∘s0;refine b7 (Qh rfl rfl) rfl rfl rfl ?_;apply Lw∘C7;refine aJ ?_ ?_<;>intro fW;·apply(GP);refine eL L R ?_;exact aGT
   exact aPZ
  replace j3:=cP j3;iterate 22 apply(tV)
  apply(C7);refine CT rfl ?_;exact aPZ
 have uT:=QU i1 D;apply(IG);refine eL L R ?_;exact⟨by rw[L6,if_neg D,if_neg D,uT];rfl,rfl,rfl⟩
def Bv(x:Int):Option Int:=if x<0\/262144<x then some 1 else none
def GL(l:List Int):Nat->Bool
 |0=>true
 |k+1=>GL l k && (decide (k=0)||decide (l.getD k 0<l.getD (k-1) 0))
def aZn{l:List Int}{k:Nat}{x:Int}(K:l[k]?=some x):(GL l k && (decide ((k:Int)=0)||decide (x<l.getD (k-1) 0)))=GL l (k+1):=by rw[GL,getD_some K];congr 2;simp only[decide_eq_decide];omega
abbrev It(l:List gV)(i:Nat)(d:gV):Prop:=
 d.sC≠-1/\(d.sC<0\/(l.length:Int)<=d.sC\/d.sC=(i:Int)\/(l.getD d.sC.toNat default).sC≠(i:Int))
def JK(l:List gV)(i:Nat):Option Int:=
 match l[i]? with
 |none=>none
 |some d=>if d.aS<0 then some 4 else if d.hY.l.length<2\/6<d.hY.l.length then some 2
  else match d.hY.l.findSome? Bv with
   |some e=>some e
   |none=>if GL d.hY.l d.hY.l.length=false then some 15 else if It l i d then some 15 else none
def C2(l:List gV):Int:=if 16<l.length then 2 else((List.range l.length).findSome? (JK l)).getD 0
def a6N{l:List gV}{i:Nat}{d:gV}(h:l[i]? =some d):JK l i=if d.aS<0 then some 4 else if d.hY.l.length<2\/6<d.hY.l.length then some 2
 else match d.hY.l.findSome? Bv with
  |some e=>some e
  |none=>if GL d.hY.l d.hY.l.length=false then some 15 else if It l i d then some 15 else none:=by rw[JK,h]
def Qi{l:List gV}{k:Nat}{e:Int}(b0B:¬16<l.length)(aG:(List.range l.length).findSome? (JK l)=((List.range l.length).drop k).findSome? (JK l))(Y:k<l.length)(h:JK l k=some e):C2 l=e:=by rw[C2,if_neg b0B,GU aG Y h];rfl
def aZa(x:bP gV)(L:aW)(R:aP)(a1:aN (O1 x) R):
 aM prog 64 [x.val].toArray L R (λv E R'=>v=.int .i64 (C2 x.l)/\L=E/\R=R'):=by
 refine rZ call64 a1 λl2=>?_;refine cX 95 call64 func64 rfl rfl rfl ?_;apply oO∘mY∘j0∘y8;refine aJ ?_ ?_<;>intro bI;·apply(uJ);refine eL L R ?_;exact⟨by rw[C2,if_pos D],rfl,rfl⟩
 apply k5∘r3;refine e3 [(0,.slice _ _ _),(11,.slice _ _ _),(12,.int _ _),(13,.int _ _)] cB λg9=>?_;refine lF (dJ 2 6++dJ 13 82) (λg:X7 (JK x.l) (x.l.length)=>[(13,.int .i64 ((g.1:Nat):Int))]) (λg=>(x.l.length)-g.1) ⟨0,UN _ _⟩ ?_;rintro⟨jJ,SW,i1⟩ c1;try dsimp only
 apply(gU);refine aJ ?_ ?_<;>intro cK;·
  obtain⟨d,a7⟩:=lQ (l:=x.l) (k:=jJ) D;have KH:=aN.tN a1 a7;have SP:=a6N a7;apply nC∘a0l∘Ar∘dO;intro dU;apply eA∘RU∘nD;refine aJ ?_ ?_<;>intro dE;·apply(OE);refine eL L R ?_;exact⟨by rw[Qi D i1 D (SP.trans (if_pos D))],rfl,rfl⟩
  apply k5∘jM∘q5;apply dT (aD:=[_,_,_,_]) (j:=4) (b4:=25) rfl rfl aK rfl b2 rfl;·exact Wr
  intro DU;apply(dD);refine aJ ?_ ?_<;>intro gZ;·apply(OE);refine eL L R ?_;exact⟨by rw[Qi D i1 D (SP.trans (by rw[if_neg D,if_pos D]))],rfl,rfl⟩
  rw[if_neg D,if_neg D]at SP;apply gI∘xF∘pE;refine ON (dJ 2 6++dJ 13 82) QD [(3,.int _ _),(4,.pointer _),(5,.bool _),(13,.int _ _),(32,.slice _ _ _),(33,.int _ _),(34,.int _ _)] cB λs4=>?_;refine lF ([2,5,6,7]++dJ 34 27) (λg:FS (Bv) (d.hY.l)=>[(34,.int .i64 ((g.1:Nat):Int)),(5,.bool (GL d.hY.l g.1))]) (λg=>(d.hY.l).length-g.1) ⟨0,N5 _ _⟩ ?_;rintro⟨g8,g6,n3⟩ c1;try dsimp only
  apply(gU);refine aJ ?_ ?_<;>intro fW;·
   obtain⟨r,O⟩:=lQ (l:=d.hY.l) (k:=g8) D;apply nC∘a1h∘kY∘eA∘FA∘q5;apply dT (aD:=[_,_]) (j:=2) (b4:=41) rfl rfl aK rfl b2 rfl;·exact JC
   intro o7;apply(dD);refine aJ ?_ ?_<;>intro lJ;·apply(oO);refine eS (bY (mE (i7 (lO (i7 (E1 (lO (i7 (lO (i7 (E1 (lO (i7 ?_)))))))))))));refine eL L R ?_;exact⟨by rw[Qi D i1 D (SP.trans (by rw[GV n3 O (if_pos D)]))],rfl,rfl⟩
   refine gG (bY (dM ?_));apply fD∘fD;apply lR (aD:=[_,_,_,_,_,_,_,_,_,_,_,_]) (j:=1) (b4:=46) rfl rfl aK rfl b2 rfl;·
    intro j3;replace j3:=cP j3;apply cJ∘BQ;apply dT (aD:=[_,_,_,_,_,_,_,_]) (j:=4) (b4:=49) rfl rfl aK rfl b2 rfl;·intro jP;replace jP:=cP jP;have bB:=bR (l:=d.hY.l) (k:=g8-1) 0 D;apply cJ∘Cr;refine aA (by first|exact j9 M rfl rfl rfl rfl i6 (i:=g8-1) c7 D|exact jF M rfl rfl rfl rfl (i:=g8-1) c7 D) rfl ?_;exact(kY) K9
    intro DU;exact iA
   intro b5x;apply l6∘tF;exact lP ⟨g8+1,LH n3 O (if_neg D)⟩ hM ⟨rfl,congrArg Value.bool (aZn O),trivial⟩ bC eX kM
  have FT:=LI n3 D;obtain rfl:g8=d.hY.l.length:=by omega
  rw[FT]at SP;dsimp only at SP;apply D2∘J5;refine aJ ?_ ?_<;>intro kK;·apply(OE);refine eL L R ?_;exact⟨by rw[Qi D i1 D (SP.trans (by rw[if_pos kK]))],rfl,rfl⟩
  rw[if_neg (by simp[kK])]at SP;apply gI∘gB∘vC;apply lR (aD:=[_,_,_,_,_,_,_,_,_,_,_,_,_,_,_,_,_,_,_,_,_,_,_,_,_,_]) (j:=3) (b4:=66) rfl rfl aK rfl b2 rfl;·
   intro fV;replace fV:=cP fV;apply(AK);apply dT (aD:=[_,_,_,_,_]) (j:=7) (b4:=70) rfl rfl aK rfl b2 rfl;·intro nV;replace nV:=cP nV;exact(gB∘j0) NN
   intro WX;apply(fD);apply dT (aD:=[_,_,_,_]) (j:=14) (b4:=77) rfl rfl aK rfl b2 rfl;·intro vQ;replace vQ:=cP vQ;exact(h1) Bf
   intro Fi;apply(fD);apply dT (aD:=[_,_,_,_,_,_,_,_]) (j:=20) (b4:=83) rfl rfl aK rfl b2 rfl;·intro IU;replace IU:=cP IU;have cM:=bR (l:=x.l) (k:=d.sC.toNat) default D;apply(FD);refine aA (by first|exact j9 M rfl rfl rfl rfl i6 (i:=d.sC.toNat) c7 D|exact jF M rfl rfl rfl rfl (i:=d.sC.toNat) c7 D) rfl ?_;exact(tG∘cJ) v6
   intro a27;exact iA
  intro m2;apply(dD);refine aJ ?_ ?_<;>intro qM;·apply(GP);refine eL L R ?_;exact⟨by rw[Qi D i1 D (SP.trans (by rw[if_pos D]))],rfl,rfl⟩
  apply(k9);exact eG ⟨jJ+1,OY i1 D (SP.trans (if_neg D))⟩
 have uT:=QU i1 D;apply(IG);refine eL L R ?_;exact⟨by rw[C2,if_neg D,uT];rfl,rfl,rfl⟩
def LX(n:Nat)(f:hT):Option Int:=if L6 f≠0 then some (L6 f)else if(n:Int)<=f.aS then some 4 else none
def J1(n:Nat)(d:gV):Option Int:=if(n:Int)<=d.aS then some 4 else none
def h4(x:bT):Int:=
 if iB x.aE≠0 then iB x.aE else if 8<x.bD.l.length then 2
 else match x.bD.l.findSome? (LX x.aE.Z.l.length)with
  |some e=>e
  |none=>if C2 x.a8.l≠0 then C2 x.a8.l else(x.a8.l.findSome? (J1 x.aE.Z.l.length)).getD 0
def a6L{x:bT}(h:iB x.aE=0)(vN:¬8<x.bD.l.length){e:Int}(aH:x.bD.l.findSome? (LX x.aE.Z.l.length)=some e):h4 x=e:=by rw[h4,if_neg D,if_neg vN,aH]
def a0R{x:bT}(h:iB x.aE=0)(vN:¬8<x.bD.l.length)(aH:x.bD.l.findSome? (LX x.aE.Z.l.length)=none):
 h4 x=if C2 x.a8.l≠0 then C2 x.a8.l else(x.a8.l.findSome? (J1 x.aE.Z.l.length)).getD 0:=by rw[h4,if_neg D,if_neg vN,aH]
def Ym(x:bT)(L:aW)(R:aP)(a1:qF x R):
 aM prog 35 [x.val].toArray L R (λv E R'=>v=.int .i64 (h4 x)/\L=E/\R=R'):=by
 have V6:=a1.bD;have MU:=a1.a8;refine rZ call35 V6 λFN=>?_;refine rZ call35 MU λZT=>?_;refine cX 61 call35 func35 rfl rfl rfl ?_;apply(fC);intro fT;apply kB∘C6;refine eD rfl (Yv x.aE _ _ a1.TE) ?_;apply(pQ);refine aJ ?_ ?_<;>intro bI;·apply(U1);refine eL L R ?_;exact⟨by rw[h4,if_pos bI],rfl,rfl⟩
 simp only[Decidable.not_not]at bI;apply k5∘jM∘y8;refine aJ ?_ ?_<;>intro cK;·apply(uJ);refine eL L R ?_;exact⟨by rw[h4,if_neg D,if_pos D],rfl,rfl⟩
 apply(LS);refine e3 [(1,.pointer _),(21,.slice _ _ _),(22,.int _ _),(23,.int _ _)] cB λg9=>?_;refine lF ([2,5,6]++dJ 23 17) (λg:FS (LX x.aE.Z.l.length) (x.bD.l)=>[(23,.int .i64 ((g.1:Nat):Int))]) (λg=>(x.bD.l).length-g.1) ⟨0,N5 _ _⟩ ?_;rintro⟨jJ,SW,i1⟩ c1;try dsimp only
 apply(gU);refine aJ ?_ ?_<;>intro dE;·
  obtain⟨f,aH⟩:=lQ (l:=x.bD.l) (k:=jJ) D;have lB:=aN.nF V6 aH;apply jK∘a0l∘RW;intro fK;apply uI∘vX;refine eD rfl (aQ5 f _ _ lB) ?_
  skip
  apply(pQ);refine aJ ?_ ?_<;>intro gZ;·apply RZ∘Gb;refine eL L R ?_;exact⟨by rw[a6L bI D (GV i1 aH (if_pos gZ))],rfl,rfl⟩
  apply gI∘gB∘xG∘IF;refine aJ ?_ ?_<;>intro fW;·apply(GP);refine eL L R ?_;exact⟨by rw[a6L bI D (GV i1 aH ((if_neg gZ).trans (if_pos fW)))],rfl,rfl⟩
  apply(k9);exact eG ⟨jJ+1,LH i1 aH ((if_neg gZ).trans (if_neg fW))⟩
 have uT:=LI i1 D;have O:=a0R bI D uT;apply D2∘gB;refine eD rfl (aZa x.a8 _ _ MU) ?_;apply(pQ);refine aJ ?_ ?_<;>intro lJ;·apply(U1);refine eL L R ?_;exact⟨by rw[O,if_pos lJ],rfl,rfl⟩
 rw[if_neg lJ]at O;apply(LS);refine e3 [(1,.pointer _),(47,.slice _ _ _),(48,.int _ _),(49,.int _ _)] cB λs4=>?_;refine lF ([2,9]++dJ 49 12) (λg:FS (J1 x.aE.Z.l.length) (x.a8.l)=>[(49,.int .i64 ((g.1:Nat):Int))]) (λg=>(x.a8.l).length-g.1) ⟨0,N5 _ _⟩ ?_;rintro⟨g8,g6,n3⟩ c1;try dsimp only
 apply(gU);refine aJ ?_ ?_<;>intro kK;·
  obtain⟨d,a7⟩:=lQ (l:=x.a8.l) (k:=g8) D;apply jK∘a1h∘Ar∘dO;intro jB;apply BP∘xG∘IF;refine aJ ?_ ?_<;>intro qM;·apply(GP);refine eL L R ?_;exact⟨by rw[O,GV n3 a7 (if_pos qM)];rfl,rfl,rfl⟩
  apply(k9);exact eG ⟨g8+1,LH n3 a7 (if_neg qM)⟩
 have FT:=LI n3 D;apply(IG);refine eL L R ?_;exact⟨by rw[O,FT];rfl,rfl,rfl⟩
def Qc(x:Int):Option Unit:=if x< -1\/2<x then some ()else none
def R9(l:List gV)(s:List Int)(i:Nat):Option Unit:=
 match s[i]?,l[i]? with
 |some y,some d=>if y< -1\/(d.hY.l.length:Int)<=y then some ()else none
 |_,_=>none
def mP(a:bT)(s:cG):Bool:=
 if s.bD.l.length≠a.bD.l.length\/s.a8.l.length≠a.a8.l.length then false
 else(s.bD.l.findSome? Qc).isNone && ((List.range s.a8.l.length).findSome? (R9 a.a8.l s.a8.l)).isNone
def a73(a:bT)(s:cG):Bool:=decide (h4 a=0) && mP a s
def a7R{l:List gV}{s:List Int}{i:Nat}{y:Int}{d:gV}(bB:s[i]?=some y)(a7:l[i]?=some d):R9 l s i=if y< -1\/(d.hY.l.length:Int)<=y then some ()else none:=by rw[R9,bB,a7]
def a1f{a:bT}{s:cG}(h:s.bD.l.length=a.bD.l.length)(cD:s.a8.l.length=a.a8.l.length):mP a s=((s.bD.l.findSome? Qc).isNone && ((List.range s.a8.l.length).findSome? (R9 a.a8.l s.a8.l)).isNone):=by rw[mP,if_neg D]
def a5L(a:bT)(s:cG)(L:aW)(R:aP)(a1:qF a R)(aF:u3 s R):
 aM prog 36 [a.val,s.val].toArray L R (λv E R'=>v=.bool (mP a s)/\L=E/\R=R'):=by
 have V6:=a1.bD;have MU:=a1.a8;have a2T:=aF.bD;have a2S:=aF.a8;refine rZ call36 a2T λFN=>?_;refine rZ call36 a2S λZT=>?_;refine cX 61 call36 func36 rfl rfl rfl ?_;apply(fC);intro eN;apply(nW);intro e4;apply xF∘jM∘jM∘vC;apply dT (aD:=[_,_,_,_,_,_,_]) (j:=7) (b4:=16) rfl rfl aK rfl b2 rfl;·intro nV;replace nV:=cP nV;exact(jM∘jM) v6
 intro WX;apply(dD);refine aJ ?_ ?_<;>intro bI;·apply(RT);refine m5 L R ?_;exact⟨by rw[mP,if_pos D],rfl,rfl⟩
 apply(LS);refine e3 [(2,.pointer _),(3,.pointer _),(26,.slice _ _ _),(27,.int _ _),(28,.int _ _)] cB λg9=>?_;refine lF ([4,6]++dJ 28 11) (λg:FS (Qc) (s.bD.l)=>[(28,.int .i64 ((g.1:Nat):Int))]) (λg=>(s.bD.l).length-g.1) ⟨0,N5 _ _⟩ ?_;rintro⟨jJ,SW,i1⟩ c1;try dsimp only
 apply(gU);refine aJ ?_ ?_<;>intro cK;·
  obtain⟨x,K⟩:=lQ (l:=s.bD.l) (k:=jJ) D;apply jK∘a0l∘kY∘q4∘q5;apply dT (aD:=[_,_]) (j:=2) (b4:=34) rfl rfl aK rfl b2 rfl;·exact JC
  intro o7;apply(dD);refine aJ ?_ ?_<;>intro dE;·apply(OH);refine m5 L R ?_;exact⟨by rw[a1f D D,GV i1 K (if_pos D)];rfl,rfl,rfl⟩
  apply(k9);exact eG ⟨jJ+1,LH i1 K (if_neg D)⟩
 have uT:=LI i1 D;apply D2∘pE;refine e3 [(2,.pointer _),(40,.slice _ _ _),(41,.int _ _),(42,.int _ _)] cB λs4=>?_;refine lF ([4,7,8]++dJ 42 19) (λg:X7 (R9 a.a8.l s.a8.l) (s.a8.l.length)=>[(42,.int .i64 ((g.1:Nat):Int))]) (λg=>(s.a8.l.length)-g.1) ⟨0,UN _ _⟩ ?_;rintro⟨g8,g6,n3⟩ c1;try dsimp only
 apply(gU);refine aJ ?_ ?_<;>intro gZ;·
  obtain⟨y,bB⟩:=lQ (l:=s.a8.l) (k:=g8) D;obtain⟨d,a7⟩:=lQ (l:=a.a8.l) (k:=g8) D;have V:=a7R bB a7;apply nC∘a1h∘kY∘eA∘q4∘q5;apply dT (aD:=[_,_,_,_,_,_,_,_,_]) (j:=2) (b4:=49) rfl rfl aK rfl b2 rfl;·intro iM;replace iM:=cP iM;exact(cJ∘h1∘a1h∘tG∘F1) NN
  intro o7;apply(dD);refine aJ ?_ ?_<;>intro fW;·apply(OH);refine m5 L R ?_;exact⟨by rw[a1f D D,GU n3 D (V.trans (if_pos D))];simp,rfl,rfl⟩
  apply(k9);exact eG ⟨g8+1,OY n3 D (V.trans (if_neg D))⟩
 have FT:=QU n3 D;apply(Iy);refine m5 L R ?_;exact⟨by rw[a1f D D,uT,FT];rfl,rfl,rfl⟩
def N0(l:List Int):Nat->Int
 |0=>l.getD 0 0
 |k+1=>min (N0 l k) (l.getD k 0)
def NY(l:List Int):Nat->Int
 |0=>l.getD 0 0
 |k+1=>max (NY l k) (l.getD k 0)
def q7(d:gV)(s:Int):bG:=
 if d.hY.l.length=0\/s< -1\/(d.hY.l.length:Int)<=s then⟨0,0⟩
 else if s= -1 then⟨N0 d.hY.l d.hY.l.length,NY d.hY.l d.hY.l.length⟩
 else⟨d.hY.l.getD s.toNat 0,d.hY.l.getD s.toNat 0⟩
def aXU(x:bP Int)(L:aW)(R:aP)(a1:aN (dW x) R)(G:1<=x.l.length):
 aM prog 153 [x.val].toArray L R (λv E R'=>v=.int .i64 (N0 x.l x.l.length)/\L=E/\R=R'):=by
 refine rZ call153 a1 λl2=>?_;have bV:=bR (l:=x.l) (k:=0) 0 D;refine cX 25 call153 func153 rfl rfl rfl ?_;apply oO∘mY∘j0∘nD;refine OU b2 EB ?_;apply OI∘OJ∘kB∘pR;refine e3 [(0,.slice _ _ _),(3,.int _ _),(4,.int _ _)] cB λg9=>?_;refine a1e ([3,4]++dJ 12 12) (λg:{k:Nat//1<=k/\k<=x.l.length}=>[(4,.int .i64 ((g.1:Nat):Int)),(3,.int .i64 (N0 x.l g.1))]) (λg=>x.l.length-g.1) (⟨1,by omega,by omega⟩) ⟨rfl,congrArg (Value.int .i64) (Int.min_self _).symm,trivial⟩ ?_;rintro⟨k,g6,j4⟩ c1;try dsimp only
 apply nR∘j0∘nD;refine aJ ?_ ?_<;>intro cK;·have Y:=bR (l:=x.l) (k:=k) 0 D;refine gG (bY (cC (iH (dM ?_))));apply cJ∘k2∘A6∘kY;refine aA (Od rfl rfl) rfl ?_;exact(eA∘Y5) aN8
 obtain rfl:k=x.l.length:=by omega
 apply(Ct);refine eL L R ?_;exact BJ
def aWz(x:bP Int)(L:aW)(R:aP)(a1:aN (dW x) R)(G:1<=x.l.length):
 aM prog 154 [x.val].toArray L R (λv E R'=>v=.int .i64 (NY x.l x.l.length)/\L=E/\R=R'):=by
 refine rZ call154 a1 λl2=>?_;have bV:=bR (l:=x.l) (k:=0) 0 D;refine cX 25 call154 func154 rfl rfl rfl ?_;apply oO∘mY∘j0∘nD;refine OU b2 EB ?_;apply OI∘OJ∘kB∘pR;refine e3 [(0,.slice _ _ _),(3,.int _ _),(4,.int _ _)] cB λg9=>?_;refine a1e ([3,4]++dJ 12 12) (λg:{k:Nat//1<=k/\k<=x.l.length}=>[(4,.int .i64 ((g.1:Nat):Int)),(3,.int .i64 (NY x.l g.1))]) (λg=>x.l.length-g.1) (⟨1,by omega,by omega⟩) ⟨rfl,congrArg (Value.int .i64) (Int.max_self _).symm,trivial⟩ ?_;rintro⟨k,g6,j4⟩ c1;try dsimp only
 apply nR∘j0∘nD;refine aJ ?_ ?_<;>intro cK;·have Y:=bR (l:=x.l) (k:=k) 0 D;refine gG (bY (cC (iH (dM ?_))));apply cJ∘k2∘A6∘kY;refine aA NO rfl ?_;exact(eA∘Y5) aN8
 obtain rfl:k=x.l.length:=by omega
 apply(Ct);refine eL L R ?_;exact BJ
def aRv(d:gV)(s:Int)(L:aW)(R:aP)(a1:aN d.eJ R):
 aM prog 107 [d.val,.int .i64 s].toArray L R (λv E R'=>v=(q7 d s).val/\L=E/\R=R'):=by
 refine rZ call107 a1 λl2=>?_;refine cX 43 call107 func107 rfl rfl rfl ?_;apply(fC);intro eN;apply(dO);intro dU;refine eS (bY (cC (iH (cC (dM ?_)))));apply jM∘BQ;apply dT (aD:=[_,_]) (j:=4) (b4:=10) rfl rfl aK rfl b2 rfl;·intro jP;replace jP:=cP jP;exact(cJ) K9
 intro DU;apply(fD);apply dT (aD:=[_,_,_,_,_]) (j:=8) (b4:=14) rfl rfl aK rfl b2 rfl;·intro h7;replace h7:=cP h7;exact(cJ∘Rc) iA
 intro zV;apply(pF);refine aJ ?_ ?_<;>intro bI;·apply RS∘l5∘D4;refine cF L R mM ?_;exact⟨by rw[q7,if_pos D],rfl,rfl⟩
 apply OA∘q3;refine aJ ?_ ?_<;>intro cK;·refine cC ?_;refine jV M [] [0,1,3,4,2,5,6] [7] (_) _ mixed aQ bC Gx ?_;apply lS∘lS;refine mW rfl (aXU d.hY _ _ a1 D) rfl rfl ?_;rintro v E R' ⟨rfl,rfl,rfl⟩;refine⟨bC,hC,?_⟩;refine mW rfl (aWz d.hY _ _ a1 D) rfl rfl ?_;rintro v E R' ⟨rfl,rfl,rfl⟩;refine⟨bC,hC,?_⟩;apply XG∘FB;refine jI (bY (mE (lO (i7 ?_))));refine cF L R mM ?_;exact⟨by rw[q7,if_neg D,if_pos D],rfl,rfl⟩
 refine gG (hG (bY (cC ?_)));have Y:=bR (l:=d.hY.l) (k:=s.toNat) 0 D;apply aHu∘BR∘a0W∘D3∘BR∘a0W∘D3∘XG∘FB;refine jI (bY (mE ?_));refine cF L R mM ?_;exact⟨by rw[q7,if_neg D,if_neg D],rfl,rfl⟩
def aWR(d:gV)(s:Int)(L:aW)(R:aP)(a1:aN d.eJ R):
 aM prog 53 [d.val,.int .i64 s].toArray L R (λv E R'=>v=(q7 d s).val/\L=E/\R=R'):=by
 refine rZ call53 a1 λl2=>?_;refine cX 71 call53 func53 rfl rfl rfl ?_;apply(fC);intro eN;apply(dO);intro dU;apply mY∘jM∘BQ;apply dT (aD:=[_,_]) (j:=4) (b4:=11) rfl rfl aK rfl b2 rfl;·intro jP;replace jP:=cP jP;exact(cJ) K9
 intro DU;apply(fD);apply dT (aD:=[_,_,_,_,_]) (j:=8) (b4:=15) rfl rfl aK rfl b2 rfl;·intro h7;replace h7:=cP h7;exact(cJ∘Rc) iA
 intro zV;apply(dD);refine aJ ?_ ?_<;>intro bI;·apply RS∘RV;refine cF L R mM ?_;exact⟨by rw[q7,if_pos D],rfl,rfl⟩
 apply FC∘IF;refine aJ ?_ ?_<;>intro cK;·refine cC ?_;have Y:=bR (l:=d.hY.l) (k:=s.toNat) 0 D;apply aHu∘BR∘a0W∘D3∘BR∘a0W∘D3∘XG∘FB;refine jI (bY (mE (i7 ?_)));refine cF L R mM ?_;exact⟨by rw[q7,if_neg D,if_neg D],rfl,rfl⟩
 apply(CI);have bV:=bR (l:=d.hY.l) (k:=0) 0 D;refine jR M [0,1,2,3,4,5,6,7,8,9,10] _ mixed aQ iP ?_;apply nQ∘aBx∘s0∘nQ∘aBx∘s0;refine b7 Wx rfl rfl rfl ?_;apply(uZ);intro fK;apply uY∘XB∘pR;refine e3 [(2,.pointer _),(4,.pointer _),(5,.pointer _),(6,.int _ _)] cB λg9=>?_;refine m6 ([6]++dJ 45 25) ((⟨λg=>[(6,.int .i64 ((g.1:Nat):Int))],λg=>⟨fK,[.int .i64 (N0 d.hY.l g.1),.int .i64 (NY d.hY.l g.1)],51⟩::⟨dU,[.int .i64 0,.int .i64 0],51⟩::⟨eN,d.cells,149⟩::L,λ_=>R,λg=>d.hY.l.length-g.1⟩:e0 {k:Nat//k<=d.hY.l.length})) (⟨0,by omega⟩) ?_;rintro⟨k,Y⟩ c1;try dsimp only
 apply nR∘jM∘nD;refine aJ ?_ ?_<;>intro dE;·have K:=bR (l:=d.hY.l) (k:=k) 0 D;refine gG (bY (cC (iH ?_)));refine jV M [62,63,64,65,66,67] [0,1,2,3,4,5,6,7,8,9,10,11,12,13,14,15,16] [17,18,19] (_) _ mixed aQ bC aCl ?_;apply lS∘BR∘aBr∘D3;refine fE (Od rfl rfl) rfl rfl rfl rfl ?_;apply lS∘LV;refine p4 (mN D9) rfl rfl rfl rfl ?_;refine p4 a4l rfl rfl rfl rfl ?_;refine p4 Xi rfl rfl rfl rfl ?_;refine p4 NO rfl rfl rfl rfl ?_;apply LR∘XA∘rS∘XA∘KV∘Cp;exact eG ⟨k+1,by omega⟩
 obtain rfl:k=d.hY.l.length:=by omega
 apply oS∘LP;refine cF L R mM ?_;exact⟨by rw[q7,if_neg D,if_pos D],rfl,rfl⟩
end Go.Proofs.YtdiajbdaadlfhaaGreatDoor
