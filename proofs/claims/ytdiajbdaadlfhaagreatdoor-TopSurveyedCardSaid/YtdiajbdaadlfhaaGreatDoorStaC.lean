/-
  Merged texts. By an AI agent.
-/
import Derived.Test.YtdiajbdaadlfhaaGreatDoorSiteD
import Derived.Test.YtdiajbdaadlfhaaGreatDoorLevK
set_option linter.all false
set_option maxHeartbeats 4000000
set_option maxRecDepth 20000
variable{A B:Prop}
namespace Go.Proofs.YtdiajbdaadlfhaaGreatDoor
open Go.Aw Go Go.Proofs.Tryz
section
attribute [local irreducible] cO dG dP aM cI dR fA e2 e5 fB eQ e9 J.L
def a1c(h:B:=by exact⟨.nil,.nil,by rw[V];rfl,⟨J.iJ,J.iJ⟩,by rw[NG,if_pos D],by rw[w2,if_pos D],by rw[pC,pC];rfl,rfl⟩):=h
def a1o(h:A->B:=by exact aA aPJ rfl):=h
def aJW(h:A->B:=by exact aA EC rfl):=h
def aJK(h:A->B:=by exact m9 rfl (rH (f:=gW.cells) (xs:=w) M rfl rfl rfl aX rfl rfl (cE) bH D) rfl rfl):=h
def aTt(h:A->B:=by exact eU 5 yG b9 aQ rfl rfl rfl rfl rfl (qG K8)):=h
def aSa(h:A->B:=by exact eU 6 yG b9 aQ rfl rfl rfl rfl rfl (qG K8)):=h
def aJV(h:A->B:=by exact fE qW rfl rfl rfl rfl):=h
def aW8{fl:List bG}{f:BO}:YH fl [f]=[H8 fl f]:=rfl
abbrev YN(s:dY)(w:List gW)(t:Int):Nat->Option Int:=λi=>yL (Jg (s.h2.l.getD i default) (w.getD i default) t)
abbrev aIe(s:dY)(m:List e6)(w:List gW)(fl:List bG)(t:Int):Nat->Int:=λi=>Zz s.e8.l m fl (s.h2.l.getD i default) (w.getD i default) t
abbrev a6g(s:dY)(m:List e6)(w:List gW)(t:Int):Nat->gW:=λi=>UR s.e8.l m (s.h2.l.getD i default) (w.getD i default) t
structure aVA(s:dY)(m:bP e6)(w:bP gW)(fl:bP bG)(R:aP):Prop where
 bO:BN s R
 bAI:aN (hV m) R
 bA1:aN (JU w) R
 b8o:aN (wG fl) R
 ok:∀x∈m.l,H4 x
def aUT{s:dY}{m:List e6}{w:List gW}{fl:List bG}{t:Int}(bV:o0 s=0)(G:m.length=s.e8.l.length/\w.length=s.h2.l.length/\fl.length=s.c2.aE.Z.l.length)(U:¬(t<0\/2147483648<t)):tY s m w fl t=((List.range w.length).findSome? (YN s w t)).getD 0:=by rw[tY,if_neg D,if_neg (λh=>h G),if_neg U]
def aUz(s:dY)(m:bP e6)(w:bP gW)(fl:bP bG)(t:Int)(L:aW)(R:aP)(h:aVA s m w fl R):
 aM prog 124 [s.val,m.val,w.val,fl.val,.int .i64 t].toArray L R
  (λv E R'=>∃(p:J Int) (q:J gW),v=.tuple #[p.val,q.val,.int .i64 (tY s m.l w.l fl.l t)]/\(p.ok 1 aR/\q.ok 3 gW.cells)/\p.l=NG s m.l w.l fl.l t/\q.l=w2 s m.l w.l fl.l t/\p.L 3 aR++(q.L 209 gW.cells++L)=E/\R=R'):=by
 obtain⟨aF,a1,cE,iF,bM⟩:=h;have pK:=aF.e8;have PK:=aF.h2;refine cX 152 call124 func124 rfl rfl rfl ?_;apply(fC);intro fK;apply J7∘kB∘aJW;refine eD rfl (Yy s _ _ aF) ?_;apply(pQ);refine aJ ?_ ?_<;>intro bI;·
  apply OA∘J7∘uG;refine cF L R XZ ?_;have V:tY s m.l w.l fl.l t=o0 s:=by rw[tY,if_pos bI]
  exact a1c
 have wT:=VB (s:=s) D;have qB:=wT.len;have S4:=(J9 wT.c2).aE.Z;apply k5∘j0∘jM∘vC;apply dT (aD:=[_,_,_,_,_,_]) (j:=6) (b4:=32) rfl rfl aK rfl b2 rfl;·intro n1;replace n1:=cP n1;exact(j0∘jM) v6
 intro Af;apply(fD);apply dT (aD:=[_,_,_,_,_,_,_,_]) (j:=14) (b4:=40) rfl rfl aK rfl b2 rfl;·
  intro vQ;replace vQ:=cP vQ;apply(j0);iterate 3 apply(gF)
  exact(kZ∘F1) v6
 intro Fi;apply(dD);refine aJ ?_ ?_<;>intro cK;·
  apply C9∘kS∘uG;refine cF L R XZ ?_;have V:tY s m.l w.l fl.l t=11:=by rw[tY,if_neg D,if_pos D]
  exact a1c
 apply FC∘q5;apply dT (aD:=[_,_]) (j:=2) (b4:=52) rfl rfl aK rfl b2 rfl;·exact JC
 intro o7;apply(dD);refine aJ ?_ ?_<;>intro dE;·
  apply C9∘kS∘uG;refine cF L R XZ ?_;have V:tY s m.l w.l fl.l t=8:=by rw[tY,if_neg D,if_neg D,if_pos D]
  exact a1c
 have Ut:=aUT (s:=s) (m:=m.l) (w:=w.l) (fl:=fl.l) (t:=t) D D D;apply(CI);refine a66 [56,57,58,59,60,14,15] ((⟨λg=>[(14,.slice (some ⟨g.1.1,0,none⟩) w.l.length w.l.length),(15,(⟨g.1.2,w.l⟩:J gW).val)],λg=>(⟨.own g.1.1 w.l.length [],List.replicate w.l.length 0⟩:J Int).L 3 aR++((⟨g.1.2,w.l⟩:J gW).L 209 gW.cells++(⟨fK,s.cells,117⟩::L)),λ_=>R,λ_=>0⟩:e0 {g:Nat×gT//(⟨g.2,w.l⟩:J gW).ok 3 gW.cells})) ?_ ?_;·
  skip
  refine RM M [] [0,1,3,2,4,5,6] [] (_) [] 7 mixed aQ rfl rfl bC λyG=>?_;refine eU 0 yG b9 aQ rfl rfl rfl rfl rfl qX ?_;refine eU 1 yG b9 aQ rfl rfl rfl rfl rfl CP ?_;refine eU 3 yG b9 aQ rfl rfl rfl rfl rfl qX ?_;refine iU [2,4] yG b9 aQ ?_;refine nM ?_ ?_;·
   skip
   refine m9 rfl a4k rfl rfl ?_;rintro v E R' ⟨SB,rfl,rfl,AW⟩;replace AW:=AW.symm;subst AW;apply(fI);refine iU [4] yG b9 aQ ?_;apply kC∘aJK;rintro v E R' ⟨aBe,rfl,La,rfl,rfl⟩;exact aOD
  apply kC∘aJK;rintro v E R' ⟨aBe,rfl,La,rfl,rfl⟩;apply(fI);refine iU [2] yG b9 aQ ?_;apply(kC);refine m9 rfl a4k rfl rfl ?_;rintro v E R' ⟨SB,rfl,rfl,AW⟩;replace AW:=AW.symm;subst AW;exact aOD
 rintro⟨⟨b,o⟩,La⟩ c1;try dsimp only
 dsimp only at La;apply x0∘pE;refine e3 [(1,.slice _ _ _),(2,.slice _ _ _),(3,.slice _ _ _),(4,.int _ _),(5,.pointer _),(14,.slice _ _ _),(15,.slice _ _ _),(62,.slice _ _ _),(63,.int _ _),(64,.int _ _)] cB λg9=>?_;refine m6 ([10,11,12,16,17,18,19,20]++dJ 64 86) ((⟨λg=>[(64,.int .i64 ((g.1.1:Nat):Int))],λg=>(⟨.own b w.l.length [],g.1.2.1⟩:J Int).L 3 aR++((⟨o,g.1.2.2⟩:J gW).L 209 gW.cells++(⟨fK,s.cells,117⟩::L)),λ_=>R,λg=>w.l.length-g.1.1⟩:e0 {g:Nat×List Int×List gW//(g.1<=w.l.length/\(List.range w.l.length).findSome? (YN s w.l t)=((List.range w.l.length).drop g.1).findSome? (YN s w.l t))/\LN w.l.length 0 (aIe s m.l w.l fl.l t) g.1 g.2.1/\LM w.l (a6g s m.l w.l t) g.1 g.2.2})) (⟨(0,List.replicate w.l.length 0,w.l),⟨by dsimp only;omega,by rw[Na]⟩,.zero,.zero⟩) ?_;rintro⟨⟨k,vs,ws⟩,⟨Y,aG⟩,PI,xN⟩ c1;try dsimp only
 dsimp only at Y aG PI xN;have vS:=PI.len;have tT:=xN.len;have Aa:(⟨.own b w.l.length [],vs⟩:J Int).ok 1 aR:=by have:=BT (f:=aR) (aI:=1) (b:=b) (n:=w.l.length) (x:=0) E3 BE;exact J.tU E3 this (by simp;exact vS)
 have Ab:(⟨o,ws⟩:J gW).ok 3 gW.cells:=J.tU bH La tT;apply(gU);refine aJ ?_ ?_<;>intro gZ;·
  have AY:=bR (l:=s.h2.l) (k:=k) default D;have aAN:=bR (l:=w.l) (k:=k) default D;have a2Z:=PI.TF k (gS _) D;have aM4:=xN.lW k (gS _);rw[aAN]at aM4;have b11:=aX9 (wT.cond _ (hS AY));have ZP:=λ(v:Int)=>PI.next (x:=v) D;have Ed:=λ(v:gW)=>xN.next (x:=v) D;have l2:=OY (f:=YN s w.l t) aG D;have tS:=λ(e:Int) (V:YN s w.l t k=some e)=>GU (f:=YN s w.l t) aG D V;obtain⟨c,bU⟩:∃c,c=s.h2.l.getD k default:=⟨_,rfl⟩;obtain⟨yU,a22⟩:∃yU,yU=w.l.getD k default:=⟨_,rfl⟩;obtain⟨X,SO⟩:∃X,X=GM s.e8.l m.l c.target t:=⟨_,rfl⟩;have b42:YN s w.l t k=yL (Jg c yU t):=by rw[bU,a22]
  have b43:aIe s m.l w.l fl.l t k=Zz s.e8.l m.l fl.l c yU t:=by rw[bU,a22]
  have aMZ:a6g s m.l w.l t k=UR s.e8.l m.l c yU t:=by rw[bU,a22]
  rw[<-bU]at AY b11;rw[<-a22]at aAN aM4;rw[b43]at ZP;rw[b42]at l2 tS;rw[aMZ]at Ed;rw[Zz,<-SO]at ZP;rw[Jg]at l2 tS;apply(nC);refine aA rF rfl ?_;refine aA aQF rfl ?_;apply(dO);intro FG;apply eA∘p6∘aJW∘gQ∘h1;refine eD rfl (aGH s m c.target t _ _ pK a1 bM D) ?_;rw[<-SO];apply(dO);intro ME;apply(BP);refine eS (bY (iH (cC (dM ?_))));apply(q3);refine aJ ?_ ?_<;>intro fW;·
   refine cC ?_;refine jR M [0,1,2,3,4,5,6,7,8,9,10,11,12,13,14] ([bQ.mk ME _ _,bQ.mk FG _ _]) mixed aQ bC ?_;apply(rS);refine b7 qW rfl rfl rfl ?_;refine b7 qX rfl rfl rfl ?_;apply j7∘XI∘aBy∘Vp∘j7;refine xZ rfl (aZy c.r9 yU X t _ _) ?_;refine b7 jE rfl rfl rfl ?_;refine b7 z6 rfl rfl rfl ?_;refine b7 z6 rfl rfl rfl ?_;apply(uZ);intro II;apply R3∘XB∘cJ∘pG;refine aJ ?_ ?_<;>intro lJ;·apply OA∘J7∘eA;refine eS (bY (mE (i7 (lO (lO (i7 (E1 (lO (i7 ?_)))))))));refine cF L R XZ ?_;have qA:=tS (DB c.r9 yU t) (by rw[if_pos fW,a7W lJ]);(have V:tY s m.l w.l fl.l t=DB c.r9 yU t:=by rw[Ut,qA];rfl);exact a1c
   (have KM:DB c.r9 yU t=0:=by omega);rw[aGs KM];refine gG (bY ?_);refine jV M [96,97] [0,1,2,3,4,5,6,7,8,9] [10,11,12] ([bQ.mk II _ _,bQ.mk ME _ _,bQ.mk FG _ _]) _ mixed aQ bC (by(repeat(first|apply List.Sublist.cons (a:=bQ.mk aKt _ _)|apply List.Sublist.cons (a:=bQ.mk wL _ _)|apply List.Sublist.cons_cons));exact oU _) ?_;apply(RY);refine p4 qX rfl rfl rfl rfl ?_;refine p4 (mN D9) rfl rfl rfl rfl ?_;apply(aJV);refine fE (v7 (row:=[_,_,_,_,_,_]) M rfl rfl rfl mC aK aK) rfl rfl rfl rfl ?_;apply(aJV);refine fE TX rfl rfl rfl rfl ?_;refine mW rfl (aZD c (CZ c.r9 yU X t) X _ _) rfl rfl ?_;rintro v E R' ⟨rfl,rfl,rfl⟩;refine⟨bC,hC,?_⟩;refine fE (iV M ((⟨o,ws⟩:J gW)) _ rfl rfl ((show _=Value.slice _ _ _ from rfl).trans (by simp only[J.val,tT])) rfl bS (i:=k) c7 iY) rfl rfl rfl rfl ?_;apply(zY);refine ID (N4 M ((⟨o,ws⟩:J gW)) (CZ c.r9 yU X t) rfl rfl rfl rfl cL bS bH bS (s6 rfl) aK aK) rfl rfl ?_;rintro v E R' ⟨rfl,rfl⟩;apply(fI);refine b7 aPJ rfl rfl rfl ?_;refine ID (mV M ((⟨.own b w.l.length [],vs⟩:J Int)) (if(CZ c.r9 yU X t).over=false then -1 else if CW X c.r9.cut=1 then 1 else 0) rfl rfl rfl rfl cL bS bH bS aX aK aK) rfl rfl ?_;rintro v E R' ⟨rfl,rfl⟩;apply(fI);refine jI (hG (hG (bY (dM ?_))));apply(m0);exact eG ⟨(k+1,vs.set k (if(CZ c.r9 yU X t).over=false then -1 else if CW X c.r9.cut=1 then 1 else 0),ws.set k (CZ c.r9 yU X t)),l2 (by rw[if_pos fW,KM];rfl),ZP _ (by rw[if_neg (show¬c.kind=5 by omega),if_neg (show¬c.kind=2 by omega),if_neg (show¬c.kind=3 by omega),if_neg (show¬c.kind=4 by omega)]),Ed _ (by rw[UR,if_pos fW,SO])⟩
  have cW:UR s.e8.l m.l c yU t=yU:=by rw[UR,if_neg fW]
  have Tf:=xN.F5 (show w.l[k]?=some (a6g s m.l w.l t k) by rw[aMZ,aAN,cW]);have iN:=l2 (by rw[if_neg fW];rfl);apply(sQ);refine aJ ?_ ?_<;>intro kK;·apply y6∘lG∘gB;refine eD rfl (a7O X c.value _ _) ?_;(have Kk:-1<=CW X c.value/\CW X c.value<=1:=by rw[CW];(repeat' split)<;>omega);apply CJ∘a1o;refine mO (mV M ((⟨.own b w.l.length [],vs⟩:J Int)) (-(CW X c.value)) rfl rfl rfl rfl cL bS bH bS aX aK aK) ?_;rintro v E R' ⟨rfl,rfl⟩;refine eS (hG (hG (bY (dM ?_))));apply(m0);exact eG ⟨(k+1,vs.set k (-(CW X c.value)),ws),iN,ZP _ (by rw[if_neg D,if_pos kK]),Tf⟩
  apply(sQ);refine aJ ?_ ?_<;>intro qM;·apply y6∘lG;refine eD rfl (aRz X _ _) ?_;apply(a1o);refine mO (mV M ((⟨.own b w.l.length [],vs⟩:J Int)) (Po X) rfl rfl rfl rfl cL bS bH bS aX aK aK) ?_;rintro v E R' ⟨rfl,rfl⟩;refine eS (hG (hG (bY (dM ?_))));apply(m0);exact eG ⟨(k+1,vs.set k (Po X),ws),iN,ZP _ (by rw[if_neg D,if_neg D,if_pos qM]),Tf⟩
  apply(sQ);refine aJ ?_ ?_<;>intro MR;·
   apply eV∘k2∘a1o;refine mO (mV M ((⟨.own b w.l.length [],vs⟩:J Int)) (-1) rfl rfl rfl rfl cL bS bH bS aX aK aK) ?_;rintro v E R' ⟨rfl,rfl⟩;apply(j6);refine jR M [0,1,2] ([bQ.mk ME _ _]) mixed aQ bC ?_;apply(Vp);refine xZ rfl (RF _ _) ?_;refine b7 (aFw a4Y rfl rfl) rfl rfl rfl ?_;apply(A9);refine aJ ?_ ?_<;>intro V2;·have bAc:=J.yS (p:=(⟨.own b w.l.length [],vs⟩:J Int)) (i:=k) (x:= -1) E3 Aa;have bAb:(vs.set k (-1))[k]?=some (-1):=I8 D;apply(y6);refine aA (iV M ((⟨.own b w.l.length [],vs.set k (-1)⟩:J Int)) _ rfl rfl ((show _=Value.slice _ _ _ from rfl).trans (u7 (by rw[w3];exact vS))) rfl bS (i:=k) c7 iY) rfl ?_;refine mO (mV M ((⟨.own b w.l.length [],vs.set k (-1)⟩:J Int)) (1) rfl rfl rfl rfl cL bS bH bS aX aK aK) ?_;rintro v E R' ⟨rfl,rfl⟩;refine eS (hG (hG (bY (dM ?_))));apply(m0);exact eG ⟨(k+1,(vs.set k (-1)).set k 1,ws),iN,by dsimp only;rw[P6];exact ZP _ (by rw[if_neg D,if_neg D,if_neg D,if_pos MR,if_pos (Yi.2 D)]),Tf⟩
   refine gG (hG (hG (bY (dM ?_))));apply(m0);exact eG ⟨(k+1,vs.set k (-1),ws),iN,ZP _ (by rw[if_neg D,if_neg D,if_neg D,if_pos MR,if_neg (λe=>by rw[Yi]at e;omega)]),Tf⟩
  apply(sQ);refine aJ ?_ ?_<;>intro Th;·apply y6∘gQ∘nZ∘CH;refine g2 a4z rfl ?_;rintro v E R' ⟨aZY,rfl,rfl,a8P⟩;replace a8P:=a8P.symm;subst a8P;refine J2 (aI:=2) (len:=1) (cap:=1) (rows:=[BO.cells ⟨c.target,c.value⟩]) (eE:=[]) rfl aX aX (λr O=>by rw[List.mem_singleton.1 O];rfl) aX rfl eW ?_;refine dN rfl (a7Q fl ⟨some ⟨aZY,0,none⟩,1,[⟨c.target,c.value⟩]⟩ _ _ (iF.mono λr h=>aU (by simp[h])) mL (λf aH=>by rw[List.mem_singleton.1 aH];dsimp only;omega) (show 1<=1000 by decide) D) rfl ?_;rintro v E R' ⟨p,rfl,aAn,dC,rfl,rfl⟩;rw[aW8]at dC;(have i1:p.l[0]?=some (H8 fl.l ⟨c.target,c.value⟩):=by rw[dC];rfl);(have b9J:p.l.length=1:=by rw[dC];rfl);(have PM:-1<=H8 fl.l ⟨c.target,c.value⟩/\H8 fl.l ⟨c.target,c.value⟩<=1:=by rw[H8,Q8];(repeat' split)<;>omega);refine aA Xp rfl ?_;refine aA QF rfl ?_;apply CJ∘a1o;refine mO (mV M ((⟨.own b w.l.length [],vs⟩:J Int)) (-(H8 fl.l ⟨c.target,c.value⟩)) rfl rfl rfl rfl cL bS bH bS aX aK aK) ?_;rintro v E R' ⟨rfl,rfl⟩;refine eS (hG (hG (bY (dM ?_))));apply(m0);exact lP ⟨(k+1,vs.set k (-(H8 fl.l ⟨c.target,c.value⟩)),ws),iN,ZP _ (by rw[if_pos Th]),Tf⟩ hM cB bC (λr h=>aU (by simp[h])) kM
  (exfalso;omega)
 obtain rfl:k=w.l.length:=by omega
 have bA:=QU (f:=YN s w.l t) aG (gS _);have V:tY s m.l w.l fl.l t=0:=by rw[Ut,bA];rfl
 apply UX∘gQ∘J7∘sO;refine cF ((⟨.own b w.l.length [],vs⟩:J Int).L 3 aR++((⟨o,ws⟩:J gW).L 209 gW.cells++L)) R XZ ?_;exact⟨(⟨.own b w.l.length [],vs⟩:J Int),(⟨o,ws⟩:J gW),by rw[V,J.val,J.val,vS,tT];try rfl,⟨Aa,Ab⟩,by rw[NG,if_neg D];exact PI.done,by rw[w2,if_neg D];exact xN.done,rfl,rfl⟩
def a7w(h:B:=by exact⟨.nil,.nil,by rw[V];rfl,⟨J.iJ,J.iJ⟩,by rw[wO,if_pos D],by rw[G1,if_pos D],by rw[pC,pC];rfl,rfl⟩):=h
def aUl{s:dY}{v:List Int}{c:List cY}{k:Nat}:AG s v c (k+1)=if EO (s.b0.l.getD k default).mB.l v≠-1/\(c.getD k default).off=false then AG s v c k++[(k:Int)]else AG s v c k:=rfl
def aEz{s:dY}{v:List Int}{c:List cY}: ∀n,(AG s v c n).length<=n
 |0=>by simp[AG]
 |n+1=>by
  have:=aEz (s:=s) (v:=v) (c:=c) n
  rw[AG]
  split
  ·rw[hL,rE];omega
  ·omega
def aVm(s:dY)(u:bP Int)(c:bP cY)(t:Int)(L:aW)(R:aP)(aF:BN s R)(cS:aN (dW u) R)(bU:aN (AQ c) R):
 aM prog 125 [s.val,u.val,c.val,.int .i64 t].toArray L R
  (λz E R'=>∃(p:J cY) (q:J Int),z=.tuple #[p.val,q.val,.int .i64 (vL s u.l c.l t)]/\(p.ok 3 cY.cells/\q.ok 1 aR)/\p.l=wO s u.l c.l t/\q.l=G1 s u.l c.l t/\q.L 3 aR++(p.L 141 cY.cells++L)=E/\R=R'):=by
 have FW:=aF.b0;refine cX 93 call125 func125 rfl rfl rfl ?_;apply(fC);intro dU;apply J7∘kB;refine aA EC rfl ?_;refine eD rfl (Yy s _ _ aF) ?_;apply(pQ);refine aJ ?_ ?_<;>intro bI;·
  apply OA∘J7∘uG;refine cF L R XZ ?_;have V:vL s u.l c.l t=o0 s:=by rw[vL,if_pos bI]
  exact a7w
 have wT:=VB (s:=s) D;have qB:=wT.len;apply k5∘j0∘jM∘vC;apply dT (aD:=[_,_,_,_,_,_]) (j:=6) (b4:=29) rfl rfl aK rfl b2 rfl;·intro n1;replace n1:=cP n1;exact(j0∘jM) v6
 intro Af;apply(dD);refine aJ ?_ ?_<;>intro cK;·
  apply C9∘kS∘uG;refine cF L R XZ ?_;have V:vL s u.l c.l t=11:=by rw[vL,if_neg D,if_pos D]
  exact a7w
 apply FC∘q5;apply dT (aD:=[_,_]) (j:=2) (b4:=39) rfl rfl aK rfl b2 rfl;·exact JC
 intro o7;apply(dD);refine aJ ?_ ?_<;>intro dE;·
  apply C9∘kS∘uG;refine cF L R XZ ?_;have V:vL s u.l c.l t=8:=by rw[vL,if_neg D,if_neg D,if_pos D]
  exact a7w
 have V:vL s u.l c.l t=0:=by rw[vL,if_neg D,if_neg D,if_neg D]
 apply(OI);refine g2 (rH (f:=cY.cells) (xs:=c) M rfl rfl rfl aX rfl rfl (bU) bH D) rfl ?_;rintro v E R' ⟨aBd,rfl,Kz,rfl,rfl⟩;apply(OK);obtain⟨GG,b1e⟩:∃GG,GG=aBd:=⟨_,rfl⟩;rw[<-b1e]at Kz|-;apply e1∘r2∘pE;refine e3 [(1,.slice _ _ _),(3,.int _ _),(12,.slice _ _ _),(13,.slice _ _ _),(46,.slice _ _ _),(47,.int _ _),(48,.int _ _)] cB λg9=>?_;refine oM ([13,14,15,16,17]++dJ 48 43) ((⟨λg=>[(48,.int .i64 ((g.1.1:Nat):Int)),(13,g.1.2.2.val)],λg=>g.1.2.2.L 3 aR++((⟨GG,g.1.2.1⟩:J cY).L 141 cY.cells++(⟨dU,s.cells,117⟩::L)),λ_=>R,λg=>c.l.length-g.1.1⟩:e0 {g:Nat×List cY×J Int//g.1<=c.l.length/\LM c.l (MK s u.l c.l t) g.1 g.2.1/\g.2.2.ok 1 aR/\g.2.2.l=AG s u.l c.l g.1})) (⟨(0,c.l,J.nil),by dsimp only;omega,.zero,J.iJ,rfl⟩) cB JB eX ?_;rintro⟨⟨k,cs,q⟩,Y,xN,g7,eZ⟩ c1;try dsimp only
 dsimp only at Y xN g7 eZ;have tT:=xN.len;have MS:(⟨GG,cs⟩:J cY).ok 3 cY.cells:=J.tU bH Kz tT;have yK:q.l.length<=k:=by rw[eZ];exact aEz k
 apply(gU);refine aJ ?_ ?_<;>intro gZ;·
  have CC:=bR (l:=s.b0.l) (k:=k) default D;have a9r:=bR (l:=c.l) (k:=k) default D;have AY:=xN.lW k (gS _);rw[a9r]at AY;have Ed:=λ(x:cY)=>xN.next (x:=x) D;have aLv:=xN.F5 (i:=k);have Ub:=aUl (s:=s) (v:=u.l) (c:=c.l) (k:=k);obtain⟨z,dI⟩:∃z,z=s.b0.l.getD k default:=⟨_,rfl⟩;obtain⟨lU,a9s⟩:∃lU,lU=c.l.getD k default:=⟨_,rfl⟩;obtain⟨Qk,PI⟩:∃Qk,Qk=EO z.mB.l u.l:=⟨_,rfl⟩;have Ef:MK s u.l c.l t k=Jj Qk lU t:=by rw[MK,PI,dI,a9s]
  rw[<-dI]at CC;rw[<-a9s]at AY a9r;rw[<-dI,<-a9s,<-PI]at Ub;rw[Ef]at Ed;rw[Ef,a9r]at aLv;apply(nC);refine aA rF rfl ?_;apply(RW);intro aKt;apply eA∘p6∘k2;refine aA (iV M ((⟨GG,cs⟩:J cY)) _ rfl rfl ((show _=Value.slice _ _ _ from rfl).trans (by simp only[J.val,tT])) rfl bS (i:=k) c7 iY) rfl ?_;apply Ap∘UV∘gQ;refine eD rfl (aIY z.mB u _ _ (aN.mB FW CC) cS) ?_;rw[<-PI];apply FA∘AL;refine aJ ?_ ?_<;>intro fW;·
   apply x0∘iS;refine aA iX rfl ?_;apply(w0);refine aA (rX M ((⟨GG,cs⟩:J cY)) rfl rfl rfl cL bS bH bS aK) rfl ?_;apply(AL);refine aJ ?_ ?_<;>intro lJ;·apply IE∘cJ;refine aA iX rfl ?_;apply(w0);refine mO (mV M ((⟨GG,cs⟩:J cY)) (⟨lU.off,t,lU.n4⟩) rfl rfl rfl rfl cL bS bH bS aX aK aK) ?_;rintro v E R' ⟨rfl,rfl⟩;refine eS (bY (oZ (oX (oW (bY (dM ?_))))));apply(m0);exact eG ⟨(k+1,cs.set k ⟨lU.off,t,lU.n4⟩,q),by dsimp only;omega,Ed _ (by rw[Jj,if_pos fW,if_pos lJ]),g7,by dsimp only;rw[Ub,if_neg D];exact eZ⟩
   refine gG (bY (oZ (oX (oW (bY (dM ?_))))));apply(m0);exact eG ⟨(k+1,cs,q),by dsimp only;omega,aLv (by rw[Jj,if_pos fW,if_neg lJ]),g7,by dsimp only;rw[Ub,if_neg D];exact eZ⟩
  apply gI∘iS;refine aA iX rfl ?_;apply(w0);refine mO (mV M ((⟨GG,cs⟩:J cY)) (⟨lU.off,-1,lU.n4⟩) rfl rfl rfl rfl cL bS bH bS aX aK aK) ?_;rintro v E R' ⟨rfl,rfl⟩;apply(j6);have b15:=J.yS (f:=cY.cells) (aI:=3) (p:=(⟨GG,cs⟩:J cY)) (i:=k) (x:=⟨lU.off,-1,lU.n4⟩) bH MS;have b12:(cs.set k ⟨lU.off,-1,lU.n4⟩)[k]?=some ⟨lU.off,-1,lU.n4⟩:=I8 D;apply(IE);refine aA iX rfl ?_;apply(w0);refine aA (rX M ((⟨GG,cs.set k ⟨lU.off,-1,lU.n4⟩⟩:J cY)) rfl rfl rfl cL bS bH bS aK) rfl ?_;apply(AJ);refine aJ ?_ ?_<;>intro kK;·have b81:=J.yS (f:=cY.cells) (aI:=3) (p:=(⟨GG,cs.set k ⟨lU.off,-1,lU.n4⟩⟩:J cY)) (i:=k) (x:=⟨true,-1,lU.n4⟩) bH b15;have b80:((cs.set k ⟨lU.off,-1,lU.n4⟩).set k ⟨true,-1,lU.n4⟩)[k]?=some ⟨true,-1,lU.n4⟩:=I8 a4M;apply RX∘iS∘cJ;refine aA iX rfl ?_;apply(w0);refine mO (mV M ((⟨GG,cs.set k ⟨lU.off,-1,lU.n4⟩⟩:J cY)) (⟨true,-1,lU.n4⟩) rfl rfl rfl rfl cL bS bH bS aX aK aK) ?_;rintro v E R' ⟨rfl,rfl⟩;refine aA iX rfl ?_;apply(w0);refine mO (mV M ((⟨GG,(cs.set k ⟨lU.off,-1,lU.n4⟩).set k ⟨true,-1,lU.n4⟩⟩:J cY)) (⟨true,-1,Qk⟩) rfl rfl rfl rfl cL bS bH bS aX aK aK) ?_;rintro v E R' ⟨rfl,rfl⟩;refine eS (bY (dM ?_));apply k2∘w1;rintro v E R' ⟨aZ5,rfl,rfl,Dz⟩;replace Dz:=Dz.symm;subst Dz;refine g2 (jZ (f:=aR) (a:=(k:Int)) M rfl rfl rfl rfl (g7) cL j8 rfl kG) rfl ?_;rintro v E R' ⟨b6g,rfl,aAe,rfl,rfl⟩;apply(LO);exact eG ⟨(k+1,((cs.set k ⟨lU.off,-1,lU.n4⟩).set k ⟨true,-1,lU.n4⟩).set k ⟨true,-1,Qk⟩,(⟨b6g,_⟩:J Int)),by dsimp only;omega,by dsimp only;rw[P6,P6];exact Ed _ (by rw[Jj,if_neg fW,if_neg (by simpa using kK)]),aAe,by dsimp only;rw[Ub,if_pos ⟨fW,by simpa using kK⟩,eZ]⟩
  apply(k9);exact eG ⟨(k+1,cs.set k ⟨lU.off,-1,lU.n4⟩,q),by dsimp only;omega,Ed _ (by rw[Jj,if_neg fW,if_pos (by simpa using kK)];rw[show lU.off=true by simpa using kK]),g7,by dsimp only;rw[Ub,if_neg (λh=>by have:=h.2;simp[this]at kK)];exact eZ⟩
 obtain rfl:k=c.l.length:=by omega
 apply UX∘gQ∘J7∘sO;refine cF (q.L 3 aR++((⟨GG,cs⟩:J cY).L 141 cY.cells++L)) R XZ ?_;exact⟨(⟨GG,cs⟩:J cY),q,by rw[V,J.val,J.val,tT];try rfl,⟨MS,g7⟩,by rw[wO,if_neg D];exact xN.done,by rw[G1,if_neg D];exact eZ,rfl,rfl⟩
end
end Go.Proofs.YtdiajbdaadlfhaaGreatDoor
namespace Go.Proofs.YtdiajbdaadlfhaaGreatDoor
open Go.Aw Go Go.Proofs.Tryz
set_option maxRecDepth 20000
attribute [local irreducible] cO dG dP aM cI dR fA e2 e5 fB eQ e9 J.L
def Yj(h:A->B:=by exact b7 (qG K8) rfl rfl rfl):=h
def a6Z(h:A->B:=by exact aA qW rfl):=h
def aH6(h:A->B:=by exact b7 EC rfl rfl rfl):=h
def aWM{A B C:aW}{x:bQ}:(A++(x::(B++C))).Perm (x::(B++(A++C))):=List.perm_middle.trans (.cons _ (a33 A B C))
def aSz(g:mZ)(p:c0)(l:List Int){k:Nat}{z:Int}(h:l[k]?=some z):IB g p (l.take (k+1))=CV g (IB g p (l.take k)) z:=by rw[BA,h];simp[IB,NM]
def aIf(kind:Int)(p:c0)(l:List Int){k:Nat}{z:Int}(h:l[k]?=some z):ET kind p (l.take (k+1))=sK (ET kind p (l.take k)) kind z 0:=by rw[BA,h];simp[ET,NM]
def aFo{g:mZ}: ∀(l:List Int) {p:c0},(IB g p l).b1.length=p.b1.length
 |[],p=>rfl
 |z::l,p=>(aFo l).trans (by rw[aGX])
def a70{g:mZ}{p:c0}(dX:List Int): ∀k,(sT g dX p k).b1.length=p.b1.length
 |0=>rfl
 |k+1=>by
  rw[sT,QZ]
  split
  ·exact a70 dX k
  ·rw[aGX]
   show(List.set _ _ _).length=_
   rw[w3];exact a70 dX k
def aEC{s:dY}{v:List Int}{c:List cY}: ∀k,(AG s v c k).length<=k
 |0=>gS _
 |k+1=>by
  have h:=aEC (s:=s) (v:=v) (c:=c) k
  rw[AG]
  split
  ·rw[hL,rE];omega
  ·omega
def a5m{s:dY}{v:List Int}{c:List cY}: ∀k,∀z∈AG s v c k,0<=z/\z<k
 |0,z,h=>by cases h
 |k+1,z,h=>by
  rw[AG]at h
  split at h
  ·rcases List.mem_append.1 h with h|h
   ·have:=a5m k z h;omega
   ·rw[List.mem_singleton.1 h];omega
  ·have:=a5m k z h;omega
def Ql(cT:mZ)(p:c0)(x:dS)(bL:J fO)(b:Nat)(t:Int)(L:aW)(R:aP)(hP:Inv cT p)(K:n7 cT p ({x with gN:=bL.W}:dS))(aF:BN x.bO R)(a1:aN (hV x.fN) R)(cE:aN (JU x.gR) R)(bU:aN (AQ x.b1) R)(aH:pY x.fP R)(Z2:bL.ok 4 fO.cells)(gJ:p.time<=t/\t<=2147483648):
 aM prog 87 [.pointer (some ⟨b,0,none⟩),.int .i64 t].toArray (⟨b,({x with gN:=bL.W}:dS).cells,132⟩::(bL.L 282 fO.cells++L)) R
  (λv E R'=>∃(w:bP gW) (c:bP cY) (f:jG) (q:J fO) (S:aP),q.ok 4 fO.cells/\n7 cT (cU cT p t) ({x with time:=t,gR:=w,b1:=c,fP:=f,aC:=(cU cT p t).aC,gN:=q.W}:dS)/\(aN (JU w) (S++R)/\aN (AQ c) (S++R)/\pY f (S++R))/\
   ⟨b,({x with time:=t,gR:=w,b1:=c,fP:=f,aC:=(cU cT p t).aC,gN:=q.W}:dS).cells,132⟩::(q.L 282 fO.cells++L)=E/\S++R=R'):=by
 have ZL:=hP.at gJ.1 gJ.2;have cS:JS ({x with time:=t,gN:=bL.W}:dS) R:=JS.of (x:={x with time:=t,gN:=bL.W}) (p:=({p with time:=t}:c0)) ZL {K with time:=rfl} aF a1;have hD:mU x.bO.c2.aE cT.c2:=hH.MD K.bO ZL.MD;have aMz:bL.l=p.gN:=K.gN;have B8:x.fN.l=p.fN:=K.fN;have tT:x.gR.l=p.gR:=K.gR;have jO:x.b1.l=p.b1:=K.b1;have b4Q:x.fP.b6.l=p.aL:=K.aL;have aNa:x.fP.b0.l=cT.c4:=K.c4;have b4E:x.fP.eB=cT.cV:=K.cV;have vT:=hP.Nr;have CD:x.bO.b0.l.length=cT.bO.b0.l.length:=hH.aNq K.bO;have b82:=hP.MI;have HH:=hP.Gf.len;have b4I:=ZL.iO;have aMP:=b4I.TQ;have aLb:Inv cT ({p with time:=t,gR:=w2 cT.bO p.fN p.gR (iR cT ({p with time:=t}:c0)) t,b1:=wO cT.bO (v8 cT ({p with time:=t}:c0)) p.b1 t}:c0):=ZL.aOh;dsimp only[dS.cells];refine cX 209 call87 func87 rfl rfl rfl ?_;apply RX∘cJ;refine aA iX rfl ?_;apply r1∘j6;refine jR M [0,1,2,3,4,5,6,7,8,9,10,11,12,13,14,16,15,17,18,19,20,21,22,23,24] _ mixed aQ iP ?_;apply N9∘rS∘aH6∘J6∘J6∘N9;refine b7 NP rfl rfl rfl ?_;apply(j7);refine zD rfl (aFm {x with time:=t,gN:=bL.W} cT.c2 _ _ cS hD) rfl rfl ?_;rintro v E R' ⟨fl,rfl,b2B,rfl,rfl⟩;refine⟨bC,hC,?_⟩;refine zD rfl (aUz x.bO x.fN x.gR fl t _ _ ⟨aF.mono λr O=>aU (.tail _ O),a1.mono λr O=>aU (.tail _ O),cE.mono λr O=>aU (.tail _ O),aU (.head _),cS.Ah⟩) rfl rfl ?_;rintro v E R' ⟨rR,mS,rfl,⟨b4j,b4p⟩,b4k,b4q,rfl,rfl⟩;refine⟨bC,hC,?_⟩;refine b7 jE rfl rfl rfl ?_;iterate 3 refine b7 z6 rfl rfl rfl ?_
 apply Yj∘Yj∘HP;refine jI (bY (cC (cC ?_)));have a9B:fl.l=iR cT ({p with time:=t}:c0):=by rw[b2B];show L9 x.bO cT.c2 x.fN.l t=_;rw[hH.iC K.bO,B8];rfl
 have b1x:tY x.bO x.fN.l x.gR.l fl.l t=0:=by rw[hH.tY K.bO,B8,tT,a9B];exact ZL.a3C
 have Fa:rR.l=v8 cT ({p with time:=t}:c0):=by rw[b4k,hH.NG K.bO,B8,tT,a9B];rfl
 have b4l:mS.l=w2 cT.bO p.fN p.gR (iR cT ({p with time:=t}:c0)) t:=by rw[b4q,hH.w2 K.bO,B8,tT,a9B]
 refine jW (T:=3) (f:=aR) (aI:=1) rR [] cL bH aX b4j eW ?_;refine e7 h3 ?_;refine jW (T:=209) (f:=gW.cells) (aI:=3) mS [] cL bH aX b4p eW ?_;refine e7 h3 ?_;have oP:∀r∈R,aN r (JU mS.W::dW rR.W::wG fl::R):=λr O=>aU (.tail _ (.tail _ (.tail _ O)));have b2y:lA x.fP.b6.l x.fP.b0.l x.fP.eB=0:=by rw[b4Q,aNa,b4E];exact hP.KD
 refine jR M [0,1,2,3,4,5,6,7,8,9,10,11,12,13,14,15,16,17,18,19,20,21,22,23,24] _ mixed aQ iP ?_;apply(j7);refine b7 X1 rfl rfl rfl ?_;apply(KT);refine zC (k:=48) b2 (λj3=>?_) (λj3=>?_);·replace j3:=cP j3;exact absurd b1x j3
 replace j3:=cP j3;apply N9∘rS;refine b7 qW rfl rfl rfl ?_;refine xZ rfl (Dd x.fP _ _ (aH.mono oP)) ?_;refine b7 X1 rfl rfl rfl ?_;apply(yC);refine zC (k:=56) b2 (λvP=>?_) (λvP=>?_);·replace vP:=cP vP;exact absurd b2y vP
 replace vP:=cP vP;apply N9∘U4;refine b7 CP rfl rfl rfl ?_;apply N9∘U4;refine b7 CP rfl rfl rfl ?_;refine b7 X1 rfl rfl rfl ?_;apply(C7);refine aJ ?_ ?_<;>intro bI;·(exfalso;rw[aNa]at bI;omega)
 apply(CI);refine jR M [0,1,2,3,4,5,6,7,8,9,10,11,12,13,14,15,16,17] _ mixed aQ iP ?_;apply N9∘rS∘aH6;refine b7 qX rfl rfl rfl ?_;apply N9∘uH;refine zD rfl (aVm x.bO rR.W x.b1 t _ _ (aF.mono oP) QH (bU.mono oP)) rfl rfl ?_;rintro v E R' ⟨fG,CK,rfl,⟨Ld,b4y⟩,b34,b4z,rfl,rfl⟩;refine⟨bC,hC,?_⟩;refine b7 jE rfl rfl rfl ?_;iterate 3 refine b7 z6 rfl rfl rfl ?_
 apply Yj∘Yj∘HP;refine jI (bY (cC (cC ?_)));have b0X:vL x.bO rR.l x.b1.l t=0:=by rw[hH.vL K.bO,Fa,jO];exact ZL.a1E
 have aAm:fG.l=wO cT.bO (v8 cT ({p with time:=t}:c0)) p.b1 t:=by rw[b34];show wO x.bO rR.l x.b1.l t=_;rw[hH.wO K.bO,Fa,jO]
 have yK:CK.l=(G1 cT.bO (v8 cT ({p with time:=t}:c0)) p.b1 t):=by rw[b4z];show G1 x.bO rR.l x.b1.l t=_;rw[hH.G1 K.bO,Fa,jO]
 refine jW (T:=3) (f:=aR) (aI:=1) CK [] cL bH aX b4y eW ?_;refine e7 h3 ?_;apply nP∘pG;refine aJ ?_ ?_<;>intro cK;·exact absurd b0X cK
 apply gI∘iS∘iS∘gQ∘gQ;refine aA iX rfl ?_;apply(q6);refine aA iX rfl ?_;apply q6∘yQ;obtain⟨jA,FJ⟩:∃jA,jA=dW CK.W::JU mS.W::dW rR.W::wG fl::R:=⟨_,rfl⟩;have Tc:∀r∈R,aN r jA:=λr O=>aU (by rw[FJ];exact .tail _ (.tail _ (.tail _ (.tail _ O))));have b4x:aN (dW CK.W) jA:=aU a4f;have b4n:aN (JU mS.W) jA:=aU a4I;have b4h:aN (dW rR.W) jA:=aU aCp;refine w8 a4H ?_;have b9D:fG.l.length=cT.bO.b0.l.length:=by rw[aAm];exact aLb.MI
 have b9U:CK.l.length<=16:=by have:=aEC (s:=cT.bO) (v:=v8 cT ({p with time:=t}:c0)) (c:=p.b1) p.b1.length;rw[yK,G1,if_neg (by rw[ZL.a1E];decide)];omega
 refine aDZ aWM ?_;refine e7 (E:=⟨b,({x with time:=t,gR:=mS.W,b1:=fG.W,gN:=bL.W}:dS).cells,132⟩::(bL.L 282 fO.cells++(fG.L 141 cY.cells++L))) rfl ?_;apply e1∘r3;refine e3 [(0,.pointer _),(1,.int _ _),(4,.slice _ _ _),(96,.slice _ _ _),(97,.int _ _),(98,.int _ _)] cB λg9=>?_;refine m6 ([10]++dJ 98 8) ((⟨λg=>[(98,.int .i64 ((g.1.1:Nat):Int))],λg=>⟨b,({x with time:=t,gR:=mS.W,b1:=fG.W,fP:=g.1.2.1,gN:=g.1.2.2.1.W}:dS).cells,132⟩::(g.1.2.2.1.L 282 fO.cells++(fG.L 141 cY.cells++L)),λg=>g.1.2.2.2,λg=>CK.l.length-g.1.1⟩:e0 {g:Nat×jG×J fO×aP//g.1<=CK.l.length/\g.2.2.1.ok 4 fO.cells/\n7 cT (IB cT ({p with time:=t,gR:=w2 cT.bO p.fN p.gR (iR cT ({p with time:=t}:c0)) t,b1:=wO cT.bO (v8 cT ({p with time:=t}:c0)) p.b1 t}:c0) (CK.l.take g.1)) ({x with time:=t,gR:=mS.W,b1:=fG.W,fP:=g.2.1,gN:=g.2.2.1.W}:dS)/\pY g.2.1 g.2.2.2/\∀r∈jA,aN r g.2.2.2})) (⟨(0,x.fP,bL,jA),by dsimp only;omega,Z2,{K with time:=rfl,gR:=b4l,b1:=aAm},aH.mono Tc,oV _⟩) ?_;rintro⟨⟨k,h5,vU,pD⟩,Y,a9R,MP,AZ,a14⟩ c1;try dsimp only
 dsimp only[dS.cells];dsimp only at Y a9R MP AZ a14;have MO:Inv cT (IB cT ({p with time:=t,gR:=w2 cT.bO p.fN p.gR (iR cT ({p with time:=t}:c0)) t,b1:=wO cT.bO (v8 cT ({p with time:=t}:c0)) p.b1 t}:c0) (CK.l.take k)):=aLb.b1 _;apply(gU);refine aJ ?_ ?_<;>intro dE;·have WO:=bR (l:=CK.l) (k:=k) 0 D;have b9V:=a5m (s:=cT.bO) (v:=v8 cT ({p with time:=t}:c0)) (c:=p.b1) p.b1.length (CK.l.getD k 0) (by(have e:AG cT.bO (v8 cT ({p with time:=t}:c0)) p.b1 p.b1.length=CK.l:=by rw[yK,G1,if_neg (by rw[ZL.a1E];decide)]);rw[e];exact hS WO);have b9T:=b4x.mono a14;have cW:=aSz cT ({p with time:=t,gR:=w2 cT.bO p.fN p.gR (iR cT ({p with time:=t}:c0)) t,b1:=wO cT.bO (v8 cT ({p with time:=t}:c0)) p.b1 t}:c0) CK.l WO;apply(jK);refine aA rF rfl ?_;apply kY∘eA;refine eS (bY (dM ?_));apply iS∘cJ;refine dN rfl (aHJ cT (IB cT ({p with time:=t,gR:=w2 cT.bO p.fN p.gR (iR cT ({p with time:=t}:c0)) t,b1:=wO cT.bO (v8 cT ({p with time:=t}:c0)) p.b1 t}:c0) (CK.l.take k)) {x with time:=t,gR:=mS.W,fP:=h5} fG vU b (CK.l.getD k 0) _ _ MO MP AZ Ld a9R (by rw[aFo];show _/\_<((wO cT.bO (v8 cT ({p with time:=t}:c0)) p.b1 t).length:Int);rw[<-aAm];omega)) rfl ?_;rintro v E R' ⟨iQ,uV,eF,Tw,DM,tR,rfl,rfl⟩;apply(tF);exact eG ⟨(k+1,iQ,uV,eF++pD),by dsimp only;omega,Tw,by dsimp only;rw[cW];exact DM,tR,λr O=>(a14 r O).mono λr O=>aU (kE _ O)⟩
 obtain rfl:k=CK.l.length:=by omega
 have b1r:IB cT ({p with time:=t,gR:=w2 cT.bO p.fN p.gR (iR cT ({p with time:=t}:c0)) t,b1:=wO cT.bO (v8 cT ({p with time:=t}:c0)) p.b1 t}:c0) (CK.l.take CK.l.length)=iO cT ({p with time:=t}:c0):=by rw[yV (gS _),yK];rfl
 rw[b1r]at MP MO;have b1R:fG.l=(iO cT ({p with time:=t}:c0)).b1:=MP.b1;have b4C:x.aC=(iO cT ({p with time:=t}:c0)).aC:=MP.aC;have aAz:t=(iO cT ({p with time:=t}:c0)).time:=MP.time;have aMW:h5.b0.l=cT.c4:=MP.c4;have a2V:h5.b6.l=(iO cT ({p with time:=t}:c0)).aL:=MP.aL;have a2P:h5.eB=cT.cV:=MP.cV;apply(ND);refine jV M [] [0,1,2,3,4,5,6,7,8,9,10,11] [12] (_) _ mixed aQ bC (by(repeat(first|apply List.Sublist.cons (a:=bQ.mk b _ _)|apply List.Sublist.cons_cons));exact oU _) ?_;apply CG∘CG;refine fE iX rfl rfl rfl rfl ?_;apply(OD);refine fE iX rfl rfl rfl rfl ?_;apply(wZ);refine fE X0 rfl rfl rfl rfl ?_;refine mW rfl (aZI (p:=fG) x.aC BD Ld) rfl rfl ?_;rintro v E R' ⟨rfl,rfl,rfl⟩;refine⟨bC,hC,?_⟩;refine fE iX rfl rfl rfl rfl ?_;apply(LR);refine Ru rfl rfl rfl rfl qV aK aK aK bC ?_;refine jI (bY (cC (cC ?_)));have b2X:u5 fG.l x.aC=u5 (iO cT ({p with time:=t}:c0)).b1 (iO cT ({p with time:=t}:c0)).aC:=by rw[b1R,b4C]
 obtain⟨jL,FU⟩:∃jL,jL=u5 (iO cT ({p with time:=t}:c0)).b1 (iO cT ({p with time:=t}:c0)).aC:=⟨_,rfl⟩;rw[b2X,<-FU];have aLq:RE h5.b6.l h5.b0.l h5.eB t=0:=by rw[a2V,aMW,a2P,RE,if_neg (by rw[MO.KD];decide),if_pos (by have:=MO.aBE;rw[<-aAz]at this;exact this)]
 apply(IE);refine aA iX rfl ?_;apply gF∘a6Z∘cJ;refine dN rfl (aSy h5 t _ _ AZ) rfl ?_;rintro v E R' ⟨KX,NF,bAX,D6,to,rfl,⟨b4Y,b40,b4U,b4W⟩,Us,rfl,rfl⟩;refine aA jE rfl ?_;iterate 4 apply(A8)
 apply(dO);intro GY;apply l5∘J7∘q4∘AL;refine aJ ?_ ?_<;>intro gZ;·
  obtain⟨b4X,b4Z,rfl,aAD,aMY⟩:=Us aLq;refine jW (T:=3) (f:=aR) (aI:=1) to [] cL bH aX b4W eW ?_;refine e7 h3 ?_;refine jW (T:=3) (f:=aR) (aI:=1) D6 [] cL bH aX b4U eW ?_;refine e7 h3 ?_;refine jW (T:=3) (f:=aR) (aI:=1) NF [] cL bH aX b40 eW ?_;refine e7 h3 ?_;refine jW (T:=143) (f:=cH.cells) (aI:=5) KX [] cL bH aX b4Y eW ?_;refine e7 h3 ?_;obtain⟨hE,wP⟩:∃hE,hE=wA KX.W::dW NF.W::dW D6.W::dW to.W::pD:=⟨_,rfl⟩;have b1o:∀r∈pD,aN r hE:=λr O=>aU (by rw[wP];exact .tail _ (.tail _ (.tail _ (.tail _ O))));have b94:aN (dW D6.W) hE:=aU aCq;have b96:aN (dW to.W) hE:=aU (by rw[wP];exact .tail _ (.tail _ (.tail _ (.head _))));have Kp:pY ⟨KX.W,NF.W,h5.eB⟩ hE:=⟨aU Xe,aU a4J⟩;refine w8 a4F ?_;have Ki:∀r∈jA,aN r hE:=λr O=>(a14 r O).mono b1o;have b1j:KX.l=({iO cT ({p with time:=t}:c0)with aC:=u5 (iO cT ({p with time:=t}:c0)).b1 (iO cT ({p with time:=t}:c0)).aC,aL:=(xC (iO cT ({p with time:=t}:c0)).aL cT.cV t).aL}:c0).aL:=by rw[b4X,a2V,a2P]
  have aLg:D6.l=(xC (iO cT ({p with time:=t}:c0)).aL cT.cV t).dL:=by rw[aAD,a2V,a2P]
  have aLh:to.l=(xC (iO cT ({p with time:=t}:c0)).aL cT.cV t).Ak:=by rw[aMY,a2V,a2P]
  have aLr:=a6E (aL:=(iO cT ({p with time:=t}:c0)).aL) (cV:=cT.cV) (t:=t) (iO cT ({p with time:=t}:c0)).aL.length;have aMR:=MO.Ss.CN;have aAE:D6.l.length<=32:=by rw[aLg];exact HU aLr.1 aMR
  have b97:to.l.length<=32:=by rw[aLh];exact HU aLr.2 aMR
  have aLa:Inv cT ({iO cT ({p with time:=t}:c0)with aC:=u5 (iO cT ({p with time:=t}:c0)).b1 (iO cT ({p with time:=t}:c0)).aC,aL:=(xC (iO cT ({p with time:=t}:c0)).aL cT.cV t).aL}:c0):=by have G:Inv cT ({iO cT ({p with time:=t}:c0)with aC:=u5 (iO cT ({p with time:=t}:c0)).b1 (iO cT ({p with time:=t}:c0)).aC}:c0):={MO with aC:=aEf _ _ MO.aC.1};have U:=G.a3x (aL:=(xC (iO cT ({p with time:=t}:c0)).aL cT.cV t).aL) (by have aO:=a0K (cV:=cT.cV) (t:=t) MO.KD (iO cT ({p with time:=t}:c0)).aL.length (gS _);(have e:∀u,u=t->u4 (iO cT ({p with time:=t}:c0)).aL (xC (iO cT ({p with time:=t}:c0)).aL cT.cV t).aL u:=λu cZ=>by rw[cZ];exact aO);exact e _ aAz.symm);exact U
  have b1p:n7 cT ({iO cT ({p with time:=t}:c0)with aC:=u5 (iO cT ({p with time:=t}:c0)).b1 (iO cT ({p with time:=t}:c0)).aC,aL:=(xC (iO cT ({p with time:=t}:c0)).aL cT.cV t).aL}:c0) ({x with time:=t,gR:=mS.W,b1:=fG.W,fP:=⟨KX.W,NF.W,h5.eB⟩,aC:=jL,gN:=vU.W}:dS):={MP with aL:=b1j,c4:=b4Z.trans aMW,aC:=FU};apply RX∘a6Z;refine aA iX rfl ?_;apply(gF);refine OR M rfl rfl rfl rfl qV aK aK aK ?_;apply(yQ);refine sN (E:=⟨b,({x with time:=t,gR:=mS.W,b1:=fG.W,fP:=⟨KX.W,NF.W,h5.eB⟩,aC:=jL,gN:=vU.W}:dS).cells,132⟩::(vU.L 282 fO.cells++(fG.L 141 cY.cells++L))) bC eX ?_;dsimp only[dS.cells];apply e1∘r3;refine e3 [(0,.pointer _),(4,.slice _ _ _),(13,.slice _ _ _),(135,.slice _ _ _),(136,.int _ _),(137,.int _ _)] cB λs4=>?_;refine m6 ([16]++dJ 137 8) ((⟨λg=>[(137,.int .i64 ((g.1.1:Nat):Int))],λg=>⟨b,({x with time:=t,gR:=mS.W,b1:=fG.W,fP:=⟨KX.W,NF.W,h5.eB⟩,aC:=jL,gN:=g.1.2.W}:dS).cells,132⟩::(g.1.2.L 282 fO.cells++(fG.L 141 cY.cells++L)),λ_=>hE,λg=>D6.l.length-g.1.1⟩:e0 {g:Nat×J fO//g.1<=D6.l.length/\g.2.ok 4 fO.cells/\n7 cT (ET 3 ({iO cT ({p with time:=t}:c0)with aC:=u5 (iO cT ({p with time:=t}:c0)).b1 (iO cT ({p with time:=t}:c0)).aC,aL:=(xC (iO cT ({p with time:=t}:c0)).aL cT.cV t).aL}:c0) (D6.l.take g.1)) ({x with time:=t,gR:=mS.W,b1:=fG.W,fP:=⟨KX.W,NF.W,h5.eB⟩,aC:=jL,gN:=g.2.W}:dS)})) (⟨(0,vU),by dsimp only;omega,a9R,b1p⟩) ?_;rintro⟨⟨eK,uV⟩,j4,Tw,SL⟩ c1;try dsimp only
  dsimp only[dS.cells];dsimp only at j4 Tw SL;apply(gU);refine aJ ?_ ?_<;>intro fW;·have aAC:=bR (l:=D6.l) (k:=eK) 0 D;have cW:=aIf 3 ({iO cT ({p with time:=t}:c0)with aC:=u5 (iO cT ({p with time:=t}:c0)).b1 (iO cT ({p with time:=t}:c0)).aC,aL:=(xC (iO cT ({p with time:=t}:c0)).aL cT.cV t).aL}:c0) D6.l aAC;apply(jK);refine aA aCD rfl ?_;apply kY∘eA;refine eS (bY (dM ?_));apply iS∘cJ;refine dN rfl (QL ({x with time:=t,gR:=mS.W,b1:=fG.W,fP:=⟨KX.W,NF.W,h5.eB⟩,aC:=jL,gN:=x.gN}:dS) uV b 3 (D6.l.getD eK 0) 0 _ _ Tw (by have G:=SL.gN;have U:=(aLa.Vi 3 (D6.l.take eK)).gN;rw[<-G]at U;exact U)) rfl ?_;rintro v E R' ⟨Vd,b20,b2Z,rfl,rfl⟩;apply(tF);exact eG ⟨(eK+1,Vd),by dsimp only;omega,b20,by dsimp only;rw[cW];exact SL.FY b2Z⟩
  obtain rfl:eK=D6.l.length:=by omega
  rw[yV (gS _)]at SL;have b06:Inv cT (ET 3 ({iO cT ({p with time:=t}:c0)with aC:=u5 (iO cT ({p with time:=t}:c0)).b1 (iO cT ({p with time:=t}:c0)).aC,aL:=(xC (iO cT ({p with time:=t}:c0)).aL cT.cV t).aL}:c0) D6.l):=aLa.Vi 3 _;apply oS∘r3;refine e3 [(0,.pointer _),(4,.slice _ _ _),(145,.slice _ _ _),(146,.int _ _),(147,.int _ _)] cB λGg=>?_;refine m6 ([18]++dJ 147 8) ((⟨λg=>[(147,.int .i64 ((g.1.1:Nat):Int))],λg=>⟨b,({x with time:=t,gR:=mS.W,b1:=fG.W,fP:=⟨KX.W,NF.W,h5.eB⟩,aC:=jL,gN:=g.1.2.W}:dS).cells,132⟩::(g.1.2.L 282 fO.cells++(fG.L 141 cY.cells++L)),λ_=>hE,λg=>to.l.length-g.1.1⟩:e0 {g:Nat×J fO//g.1<=to.l.length/\g.2.ok 4 fO.cells/\n7 cT (ET 2 (ET 3 ({iO cT ({p with time:=t}:c0)with aC:=u5 (iO cT ({p with time:=t}:c0)).b1 (iO cT ({p with time:=t}:c0)).aC,aL:=(xC (iO cT ({p with time:=t}:c0)).aL cT.cV t).aL}:c0) D6.l) (to.l.take g.1)) ({x with time:=t,gR:=mS.W,b1:=fG.W,fP:=⟨KX.W,NF.W,h5.eB⟩,aC:=jL,gN:=g.2.W}:dS)})) (⟨(0,uV),by dsimp only;omega,Tw,SL⟩) ?_;rintro⟨⟨mJ,aNj⟩,wR,a9S,Kj⟩ c1;try dsimp only
  dsimp only[dS.cells];dsimp only at wR a9S Kj;apply(gU);refine aJ ?_ ?_<;>intro lJ;·have aAC:=bR (l:=to.l) (k:=mJ) 0 D;have cW:=aIf 2 (ET 3 ({iO cT ({p with time:=t}:c0)with aC:=u5 (iO cT ({p with time:=t}:c0)).b1 (iO cT ({p with time:=t}:c0)).aC,aL:=(xC (iO cT ({p with time:=t}:c0)).aL cT.cV t).aL}:c0) D6.l) to.l aAC;apply(jK);refine aA (by first|exact j9 M rfl rfl rfl rfl i6 (i:=mJ) c7 D|exact jF M rfl rfl rfl rfl (i:=mJ) c7 D) rfl ?_;apply kY∘eA;refine eS (bY (dM ?_));apply iS∘cJ;refine dN rfl (QL ({x with time:=t,gR:=mS.W,b1:=fG.W,fP:=⟨KX.W,NF.W,h5.eB⟩,aC:=jL,gN:=x.gN}:dS) aNj b 2 (to.l.getD mJ 0) 0 _ _ a9S (by have G:=Kj.gN;have U:=(b06.Vi 2 (to.l.take mJ)).gN;rw[<-G]at U;exact U)) rfl ?_;rintro v E R' ⟨b5E,b22,b21,rfl,rfl⟩;apply(tF);exact eG ⟨(mJ+1,b5E),by dsimp only;omega,b22,by dsimp only;rw[cW];exact Kj.FY b21⟩
  obtain rfl:mJ=to.l.length:=by omega
  obtain⟨BM,a8C⟩:∃BM,BM=TQ cT (iO cT ({p with time:=t}:c0)):=⟨_,rfl⟩;have b1s:ET 2 (ET 3 ({iO cT ({p with time:=t}:c0)with aC:=u5 (iO cT ({p with time:=t}:c0)).b1 (iO cT ({p with time:=t}:c0)).aC,aL:=(xC (iO cT ({p with time:=t}:c0)).aL cT.cV t).aL}:c0) D6.l) to.l=BM:=by rw[a8C,aLg,aLh,TQ];simp only[<-aAz]
  rw[yV (gS _),b1s]at Kj;rw[<-a8C]at aMP;obtain⟨yZ,aLt⟩:∃yZ,yZ=v8 cT ({p with time:=t}:c0):=⟨_,rfl⟩;rw[<-aLt]at Fa;have aLl:BM.b1.length=fG.l.length:=by rw[<-Kj.b1]
  apply oS∘iS;refine aA iX rfl ?_;apply(pE);refine e3 [(0,.pointer _),(4,.slice _ _ _),(159,.int _ _),(160,.int _ _)] cB λaBF=>?_;refine m6 ([19]++dJ 160 49) ((⟨λg=>[(160,.int .i64 ((g.1.1:Nat):Int))],λg=>⟨b,({x with time:=t,gR:=mS.W,b1:=(⟨fG.o,g.1.2.2.2.1⟩:J cY).W,fP:=g.1.2.1,aC:=jL,gN:=g.1.2.2.1.W}:dS).cells,132⟩::(g.1.2.2.1.L 282 fO.cells++((⟨fG.o,g.1.2.2.2.1⟩:J cY).L 141 cY.cells++L)),λg=>g.1.2.2.2.2,λg=>fG.l.length-g.1.1⟩:e0 {g:Nat×jG×J fO×List cY×aP//g.1<=fG.l.length/\g.2.2.1.ok 4 fO.cells/\n7 cT (sT cT yZ BM g.1) ({x with time:=t,gR:=mS.W,b1:=(⟨fG.o,g.2.2.2.1⟩:J cY).W,fP:=g.2.1,aC:=jL,gN:=g.2.2.1.W}:dS)/\pY g.2.1 g.2.2.2.2/\∀r∈hE,aN r g.2.2.2.2})) (⟨(0,⟨KX.W,NF.W,h5.eB⟩,aNj,fG.l,hE),by dsimp only;omega,a9S,Kj,Kp,oV _⟩) ?_;rintro⟨⟨h8,f5,WY,uP,YW⟩,zO,a2v,SM,ZU,Ds⟩ c1;try dsimp only
  dsimp only[dS.cells];dsimp only at zO a2v SM ZU Ds;have a2e:uP=(sT cT yZ BM h8).b1:=SM.b1;have aLR:uP.length=fG.l.length:=by rw[a2e,a70,aLl]
  have aLQ:(⟨fG.o,uP⟩:J cY).ok 3 cY.cells:=J.tU bH Ld aLR;have a10:Inv cT (sT cT yZ BM h8):=aMP.sT yZ h8;apply(gU);refine aJ ?_ ?_<;>intro kK;·
   have AY:=bR (l:=uP) (k:=h8) default D;obtain⟨c,xP⟩:∃c,c=uP.getD h8 default:=⟨_,rfl⟩;rw[<-xP]at AY;have aMT:f5.b6.l=(sT cT yZ BM h8).aL:=SM.aL;have aA0:f5.b0.l=cT.c4:=SM.c4;have aMO:f5.eB=cT.cV:=SM.cV;have a2h:sT cT yZ BM (h8+1)=QZ cT yZ (sT cT yZ BM h8) h8:=rfl;(have HA:a5X cT (sT cT yZ BM h8).aL h8=(DG f5.b6.l f5.b0.l f5.eB (f5.b0.l.getD (h8:Int).toNat 0)).any (λk=>Qe (f5.b6.l.getD k.toNat default)):=by rw[aMT,aA0,aMO];rfl);apply nC∘kB∘iS;refine aA iX rfl ?_;apply(h1);refine aA aCi rfl ?_;apply(w0);refine aA (rX M ((⟨fG.o,uP⟩:J cY)) rfl rfl rfl cL bS bH bS aK) rfl ?_;apply(fD);apply dT (aD:=[_,_,_,_,_,_,_]) (j:=8) (b4:=171) rfl rfl aK rfl b2 rfl;·intro h7;replace h7:=cP h7;apply(iS);refine aA iX rfl ?_;apply gF∘a6Z∘cJ;refine eD rfl (aXW f5 (h8:Int) _ _ ZU (by rw[aMT,aA0,aMO];exact a10.KD) (by rw[aA0];omega)) ?_;exact QC
   intro zV;apply(dD);refine aJ ?_ ?_<;>intro qM;·refine oZ (oX (oW (bY (dM ?_))));apply(m0);exact eG ⟨(h8+1,f5,WY,uP,YW),by dsimp only;omega,a2v,by dsimp only;rw[a2h,QZ,if_pos (by rw[<-a2e,<-xP,HA];simpa using qM)];exact SM,ZU,Ds⟩
   (have xT:¬((sT cT yZ BM h8).b1.getD h8 default).off=true/\¬a5X cT (sT cT yZ BM h8).aL h8=false:=by rw[<-a2e,<-xP,HA,<-not_or];simpa using qM);have CC:=bR (l:=x.bO.b0.l) (k:=h8) default D;have a9h:∀r∈R,aN r YW:=λr O=>((Tc r O).mono Ki).mono Ds;have b5q:=aF.b0.mono a9h;have b4F:=aN.mB b5q CC;have b4i:=(b4h.mono Ki).mono Ds;apply(CI);refine jV M [189] [0,1,2,3,4,5,6,7,8,9,10,11,12,13,14,15,16,17,18,19,20,21,22] [23,24,25,26] (_) _ mixed aQ bC b9 ?_;apply(CG);refine fE iX rfl rfl rfl rfl ?_;apply BR∘CG;refine fE iX rfl rfl rfl rfl ?_;apply(lS);refine p4 (mN D9) rfl rfl rfl rfl ?_;apply(CG);refine fE iX rfl rfl rfl rfl ?_;apply wZ∘BR;refine fE (by first|exact j9 M rfl rfl rfl rfl i6 (i:=h8) c7 D|exact jF M rfl rfl rfl rfl (i:=h8) c7 D) rfl rfl rfl rfl ?_;apply F2∘D3∘XF;refine mW rfl (aIY (x.bO.b0.l.getD h8 default).mB rR.W _ _ b4F b4i) rfl rfl ?_;rintro v E R' ⟨rfl,rfl,rfl⟩;refine⟨bC,hC,?_⟩;refine fE aCi rfl rfl rfl rfl ?_;apply F2∘zY;refine ID (mV M ((⟨fG.o,uP⟩:J cY)) (⟨true,c.clear,c.n4⟩) rfl rfl rfl rfl cL bS bH bS aX aK aK) rfl rfl ?_;rintro v E R' ⟨rfl,rfl⟩;apply(fI);refine b7 aCi rfl rfl rfl ?_;apply(TL);have b83:=J.yS (f:=cY.cells) (aI:=3) (p:=⟨fG.o,uP⟩) (i:=h8) (x:=⟨true,c.clear,c.n4⟩) bH aLQ;have b12:(uP.set h8 ⟨true,c.clear,c.n4⟩)[h8]?=some ⟨true,c.clear,c.n4⟩:=I8 D;refine ID (mV M ((⟨fG.o,uP.set h8 ⟨true,c.clear,c.n4⟩⟩:J cY)) (⟨true,c.clear,EO (x.bO.b0.l.getD h8 default).mB.l rR.l⟩) rfl rfl rfl rfl cL bS bH bS aX aK aK) rfl rfl ?_;rintro v E R' ⟨rfl,rfl⟩;apply fI∘A9;obtain⟨MH,a2d⟩:∃MH,MH=uP.set h8 ⟨true,c.clear,EO (x.bO.b0.l.getD h8 default).mB.l rR.l⟩:=⟨_,rfl⟩;(have aLP:MH.length=uP.length:=by rw[a2d,w3]);(have a9u:(⟨fG.o,MH⟩:J cY).W.val=(⟨fG.o,uP⟩:J cY).W.val:=by simp only[J.W,bP.val,aLP]);have b16:(⟨fG.o,MH⟩:J cY).ok 3 cY.cells:=J.tU bH Ld (aLP.trans aLR);refine e7 (E:=⟨b,({x with time:=t,gR:=mS.W,b1:=(⟨fG.o,MH⟩:J cY).W,fP:=f5,aC:=jL,gN:=WY.W}:dS).cells,132⟩::(WY.L 282 fO.cells++((⟨fG.o,MH⟩:J cY).L 141 cY.cells++L))) (by simp only[dS.cells,a9u];rw[a2d];simp only[P6]) ?_;(have a9y:EO (x.bO.b0.l.getD h8 default).mB.l rR.l=EO (cT.bO.b0.l.getD h8 default).mB.l yZ:=by rw[hH.mB K.bO h8,Fa]);obtain⟨Fx,a2J⟩:∃Fx:c0,Fx={sT cT yZ BM h8 with b1:=(sT cT yZ BM h8).b1.set h8 ⟨true,((sT cT yZ BM h8).b1.getD h8 default).clear,EO (cT.bO.b0.l.getD h8 default).mB.l yZ⟩}:=⟨_,rfl⟩;(have aAk:MH=Fx.b1:=by rw[a2d,a2J,a9y,xP,a2e]);(have b07:Inv cT Fx:=by rw[a2J];exact{a10 with MI:=by show(List.set _ _ _).length=_;rw[w3];exact a10.MI,aC:=by show _/\(_\/(_/\_<((List.set _ _ _).length:Int)));rw[w3];exact a10.aC});(have b1t:n7 cT Fx ({x with time:=t,gR:=mS.W,b1:=(⟨fG.o,MH⟩:J cY).W,fP:=f5,aC:=jL,gN:=WY.W}:dS):=by rw[a2J]at aAk|-;exact{SM with b1:=aAk});(have ZT:sT cT yZ BM (h8+1)=CV cT Fx (h8:Int):=by rw[a2h,QZ,if_neg (not_or.2 xT),a2J]);apply IE∘cJ;refine dN rfl (aHJ cT Fx ({x with time:=t,gR:=mS.W,b1:=(⟨fG.o,MH⟩:J cY).W,fP:=f5,aC:=jL,gN:=WY.W}:dS) (⟨fG.o,MH⟩:J cY) WY b (h8:Int) _ _ b07 b1t ZU b16 a2v (by rw[<-aAk];omega)) rfl ?_;rintro v E R' ⟨f7,b5F,aTm,b23,b1q,b2v,rfl,rfl⟩;apply(tF);exact eG ⟨(h8+1,f7,b5F,MH,aTm++YW),by dsimp only;omega,b23,by dsimp only;rw[ZT];exact b1q,b2v,λr O=>(Ds r O).mono λr O=>aU (kE _ O)⟩
  obtain rfl:h8=fG.l.length:=by omega
  have b1u:sT cT yZ BM fG.l.length=cU cT p t:=by rw[cU,<-aLt,<-a8C,aLl]
  rw[b1u]at SM;have zR:jL=(cU cT p t).aC:=SM.aC;refine jW (T:=141) (f:=cY.cells) (aI:=3) (⟨fG.o,uP⟩:J cY) [] cL bH aX aLQ eW ?_;refine e7 h3 ?_;have b4o:=(b4n.mono Ki).mono Ds;have a9h:∀r∈R,aN r YW:=λr O=>((Tc r O).mono Ki).mono Ds;have ZO:∀r∈YW,aN r ((AQ (⟨fG.o,uP⟩:J cY).W::YW)++R):=λr O=>aU (.tail _ (oI _ O));refine oZ (oX (AF (oW ?_)));refine ZC (E:=⟨b,({x with time:=t,gR:=mS.W,b1:=(⟨fG.o,uP⟩:J cY).W,fP:=f5,aC:=jL,gN:=WY.W}:dS).cells,132⟩::(WY.L 282 fO.cells++L)) (R':=(AQ (⟨fG.o,uP⟩:J cY).W::YW)++R) (YF rfl) ?aG ?b3 ?b8;case aG=>exact⟨mS.W,(⟨fG.o,uP⟩:J cY).W,f5,WY,AQ (⟨fG.o,uP⟩:J cY).W::YW,a2v,by rw[<-zR];exact SM,⟨b4o.mono ZO,aU (.head _),ZU.mono ZO⟩,by rw[<-zR];rfl,rfl⟩
  case b3=>exact bC
  case b8=>
   exact λr O=>by
    rcases List.mem_append.1 O with h|h;·exact aU h
    ·exact(a9h r h).mono λr O=>aU (.tail _ O)
 exact absurd aLq gZ
end Go.Proofs.YtdiajbdaadlfhaaGreatDoor
