-- By an AI agent; no person has read it.
import Derived.Test.YtdiajbdaadlfhaaGreatDoorCongrS
import Derived.Test.YtdiajbdaadlfhaaGreatDoorLaw11b
set_option linter.all false
set_option maxHeartbeats 4000000
variable{A B:Prop}
namespace Go.Proofs.YtdiajbdaadlfhaaGreatDoor
open Go.Aw Go Go.Proofs.Tryz
set_option maxRecDepth 20000
attribute [local irreducible] cO dG dP aM cI dR fA e2 e5 fB eQ e9 J.L
def Cu(h:A->B:=by exact aA XY rfl):=h
def a1l(h:A->B:=by exact x9 qY rfl rfl):=h
def aG5(h:A->B:=by exact aA rF rfl):=h
structure g0 where
 hW:Int
 kind:Int
 target:Int
 offset:Int
 I5:Int
 error:Int
 KC:Int
 Fo:Int
 deriving Inhabited
def g0.cells(s:g0):List Value:=[.int .i64 s.hW,.int .i64 s.kind,.int .i64 s.target,.int .i64 s.offset,.int .i64 s.I5,.int .i64 s.error,.int .i64 s.KC,.int .i64 s.Fo]
abbrev g0.val(s:g0):Value:=.agg #[.int .i64 s.hW,.int .i64 s.kind,.int .i64 s.target,.int .i64 s.offset,.int .i64 s.I5,.int .i64 s.error,.int .i64 s.KC,.int .i64 s.Fo]
structure e6 where
 qT:Int
 time:Int
 nI:bG
 deriving Inhabited
def e6.cells(m:e6):List Value:=[.int .i64 m.qT,.int .i64 m.time,.int .i64 m.nI.bJ,.int .i64 m.nI.bN]
abbrev e6.val(m:e6):Value:=.agg #[.int .i64 m.qT,.int .i64 m.time,.int .i64 m.nI.bJ,.int .i64 m.nI.bN]
abbrev L0(x:bP g0):eT:=x.eJ 8 g0.cells []
abbrev hV(x:bP e6):eT:=x.eJ 4 e6.cells []
def Qv(cN aB:Int)(x:bP Int)(L:aW)(R:aP)(K:aN (dW x) R)(bA:x.l.length<=100):
 aM prog 163 [.int .i64 cN,.int .i64 aB,x.val].toArray L R (λv E R'=>v=.bool (decide (∀n∈x.l,cN<=n/\n<=aB))/\L=E/\R=R'):=by
 refine cX 24 call163 func163 rfl rfl rfl ?_;apply E8∘mY∘r3;refine e3 [(0,.int _ _),(1,.int _ _),(9,.slice _ _ _),(10,.int _ _),(11,.int _ _)] cB λg9=>?_;refine lF ([6,8]++dJ 11 13) (λg:{k:Nat//k<=x.l.length/\∀n∈x.l.take k,cN<=n/\n<=aB}=>[(11,.int .i64 ((g.1:Nat):Int))]) (λg=>x.l.length-g.1) (⟨0,by omega,by simp⟩) ?_;rintro⟨k,Y,jX⟩ c1;try dsimp only
 apply(gU);refine aJ ?_ ?_<;>intro bI;·
  have G:=bR (l:=x.l) (k:=k) 0 D;apply jK∘aG5∘kY∘q4∘cJ∘q5;apply dT (aD:=[_,_,_]) (j:=3) (b4:=18) rfl rfl aK rfl b2 rfl;·intro fV;replace fV:=cP fV;exact(wF∘yO) iA
  intro m2;apply(dD);refine aJ ?_ ?_<;>intro cK;·apply(OH);refine m5 L R ?_;exact⟨by rw[decide_eq_false (λh=>by have:=h _ (hS G);omega)],rfl,rfl⟩
  apply(k9);exact lP (⟨k+1,by omega,λn bA=>by
  rw[BA,G]at bA;simp only[Option.toList_some,D7,XU]at bA;rcases bA with h|h;·exact jX n h
  ·omega⟩) hM cB bC eX kM
 apply(Iy);refine m5 L R ?_;exact⟨by rw[decide_eq_true (λn bA=>by rw[yV D]at jX;exact jX n bA)],rfl,rfl⟩
def JL(s:g0):Prop:=(0<=s.hW/\s.hW<=255)/\0<=s.target/\(-1000000<=s.offset/\s.offset<=1000000)/\(-1000000<=s.I5/\s.I5<=1000000)/\(0<=s.error/\s.error<=1000000)/\(0<=s.KC/\s.KC<=1000000)/\(1<=s.Fo/\s.Fo<=1000000)
instance(s:g0):Decidable (JL s):=by unfold JL;infer_instance
def vB(s:g0):Int:=if¬(1<=s.kind/\s.kind<=6)then 5 else if JL s then 0 else 1
def a7A(s:g0)(L:aW)(R:aP):
 aM prog 122 [s.val].toArray L R (λv E R'=>v=.int .i64 (vB s)/\L=E/\R=R'):=by
 refine cX 44 call122 func122 rfl rfl rfl ?_;apply(fC);intro fT;apply(eA);refine eS (bY (cC (iH (cC (dM ?_)))));apply gB∘w1;rintro v E R' ⟨jN,rfl,rfl,a86⟩;replace a86:=a86.symm;subst a86;refine J2 (aI:=1) (len:=1) (cap:=1) (rows:=[aR s.kind]) (eE:=[]) rfl aX aX (λr O=>by rw[List.mem_singleton.1 O];rfl) aX rfl eW ?_;refine eD rfl (Qv 1 6 ⟨some ⟨jN,0,none⟩,1,[s.kind]⟩ _ _ mL eY) ?_;apply NB∘pF;refine aJ ?_ ?_<;>intro bI;·
  apply(vD);refine kN (E:=L) (R':=R) TW ?aG ?b3 ?b8;case aG=>exact⟨by simp at bI;rw[vB,if_pos D],rfl,rfl⟩
  case b3=>exact bC
  case b8=>exact λr h=>aU (by simp[h])
 apply UY∘w1;rintro v E R' ⟨rM,rfl,rfl,a8K⟩;replace a8K:=a8K.symm;subst a8K;refine J2 (aI:=1) (len:=1) (cap:=1) (rows:=[aR s.hW]) (eE:=[]) rfl aX aX (λr O=>by rw[List.mem_singleton.1 O];rfl) aX rfl eW ?_;refine eD rfl (Qv 0 255 ⟨some ⟨rM,0,none⟩,1,[s.hW]⟩ _ _ mL eY) ?_;apply(OB);refine Im (k:=15) b2 (λxS=>?_) (λxS=>?_);·
  replace xS:=cP xS;iterate 3 refine Bt rfl rfl ?_
  apply Cu∘fD;·
   skip
   (iterate 7 refine Bt rfl rfl ?_);apply Cu∘pF;refine yX rfl ?_;apply(vD);refine kN (E:=L) (R':=R) TW ?aG ?b3 ?b8;case aG=>exact⟨by rw[vB,if_neg Xf,if_neg aCn],rfl,rfl⟩
   case b3=>exact bC
   case b8=>exact λr h=>aU (by simp[h])
 replace xS:=cP xS;refine x9 kT rfl rfl ?_;apply(a1l);refine x9 Bk rfl rfl ?_;apply Cu∘fD;refine Im (k:=20) b2 (λHB=>?_) (λHB=>?_);·
  replace HB:=cP HB;iterate 7 refine Bt rfl rfl ?_
  apply Cu∘pF;refine yX rfl ?_;apply(vD);refine kN (E:=L) (R':=R) TW ?aG ?b3 ?b8;case aG=>exact⟨by rw[vB,if_neg Xf,if_neg aCn],rfl,rfl⟩
  case b3=>exact bC
  case b8=>exact λr h=>aU (by simp[h])
 replace HB:=cP HB;refine x9 kT rfl rfl ?_;apply(a1l);refine x9 kT rfl rfl ?_;apply(a1l);refine VI Wv rfl rfl ?_;rintro v E R' ⟨OZ,rfl,rfl,O9⟩;replace O9:=O9.symm;subst O9;refine J2 (aI:=1) (len:=2) (cap:=2) (rows:=[aR s.offset,aR s.I5]) (eE:=[]) rfl aX aX (λr O=>by simp only[nX,pO,or_false]at O;rcases O with rfl|rfl<;>rfl) aX rfl eW ?_;refine a41 rfl (Qv (-1000000) 1000000 ⟨some ⟨OZ,0,none⟩,2,[s.offset,s.I5]⟩ _ _ mL eY) rfl rfl ?_;rintro v E R' ⟨rfl,rfl,rfl⟩;refine x9 (UT rfl) rfl rfl ?_;apply Cu∘pF;refine aJ ?_ ?_<;>intro cK;·
  apply(vD);refine kN (E:=L) (R':=R) TW ?aG ?b3 ?b8;case aG=>exact⟨by rw[vB,if_neg Xf,if_neg aCn],rfl,rfl⟩
  case b3=>exact bC
  case b8=>exact λr h=>aU (by simp[h])
 apply eV∘nZ;refine g2 Wv rfl ?_;rintro v E R' ⟨MF,rfl,rfl,PA⟩;replace PA:=PA.symm;subst PA;refine J2 (aI:=1) (len:=2) (cap:=2) (rows:=[aR s.error,aR s.KC]) (eE:=[]) rfl aX aX (λr O=>by simp only[nX,pO,or_false]at O;rcases O with rfl|rfl<;>rfl) aX rfl eW ?_;refine eD rfl (Qv 0 1000000 ⟨some ⟨MF,0,none⟩,2,[s.error,s.KC]⟩ _ _ mL eY) ?_;apply(OB);refine Im (k:=37) b2 (λnV=>?_) (λnV=>?_);·
  replace nV:=cP nV;iterate 5 refine Bt rfl rfl ?_
  apply Cu∘pF;refine yX rfl ?_;apply(vD);refine kN (E:=L) (R':=R) TW ?aG ?b3 ?b8;case aG=>exact⟨by rw[vB,if_neg Xf,if_neg aQl],rfl,rfl⟩
  case b3=>exact bC
  case b8=>exact λr h=>aU (by simp[h])
 replace nV:=cP nV;refine x9 kT rfl rfl ?_;apply(a1l);refine VI a4y rfl rfl ?_;rintro v E R' ⟨aZ1,rfl,rfl,a8Z⟩;replace a8Z:=a8Z.symm;subst a8Z;refine J2 (aI:=1) (len:=1) (cap:=1) (rows:=[aR s.Fo]) (eE:=[]) rfl aX aX (λr O=>by rw[List.mem_singleton.1 O];rfl) aX rfl eW ?_;refine a41 rfl (Qv 1 1000000 ⟨some ⟨aZ1,0,none⟩,1,[s.Fo]⟩ _ _ mL eY) rfl rfl ?_;rintro v E R' ⟨rfl,rfl,rfl⟩;refine x9 (UT rfl) rfl rfl ?_;apply Cu∘pF;refine aJ ?_ ?_<;>intro dE;·
  apply(vD);refine kN (E:=L) (R':=R) TW ?aG ?b3 ?b8;case aG=>exact⟨by rw[vB,if_neg Xf,if_neg aQl],rfl,rfl⟩
  case b3=>exact bC
  case b8=>exact λr h=>aU (by simp[h])
 refine gG (hG (bY (cC (dM ?_))));apply(sO);refine kN (E:=L) (R':=R) TW ?aG ?b3 ?b8;case aG=>exact⟨by simp at bI xS cK nV dE;rw[vB,if_neg D,if_pos (by rw[JL];omega)],rfl,rfl⟩
 case b3=>exact bC
 case b8=>exact λr h=>aU (by simp[h])
def aTr(k:Int)(L:aW)(R:aP):
 aM prog 208 [.int .i64 k].toArray L R (λv E R'=>v=.bool (decide (k=4\/k=5\/k=6))/\L=E/\R=R'):=by
 refine cX 13 call208 func208 rfl rfl rfl ?_;apply E8∘iG∘cJ∘BQ;apply dT (aD:=[_,_]) (j:=2) (b4:=5) rfl rfl aK rfl b2 rfl;·intro iM;replace iM:=cP iM;exact(cJ) Bf
 intro o7;apply(fD);apply dT (aD:=[_,_]) (j:=6) (b4:=9) rfl rfl aK rfl b2 rfl;·intro n1;replace n1:=cP n1;exact(cJ) Bf
 intro Af;apply(sP);refine m5 L R ?_;exact⟨by refine congrArg Value.bool ?_;rw[Wb];simp;omega,rfl,rfl⟩
def Ho(s:g0)(m:e6)(t:Int):Int:=(s.KC*(t-m.time)+999).tdiv 1000
def VH(s:g0)(m:e6)(t:Int):Prop:=vB s≠0\/m.qT<0\/m.nI=sX\/t<m.time\/s.Fo<t-m.time
instance(s:g0)(m:e6)(t:Int):Decidable (VH s m t):=by unfold VH;infer_instance
def a7k(s:g0)(m:e6)(t:Int):bG:=⟨m.nI.bJ-Ho s m t,m.nI.bN+Ho s m t⟩
def SA(s:g0)(m:e6)(t:Int):bG:=
 if VH s m t then sX else if s.kind=4\/s.kind=5\/s.kind=6 then m.nI
 else if s.kind=1\/s.kind=2 then⟨max (a7k s m t).bJ 0,max (a7k s m t).bN 0⟩else a7k s m t
def H4(m:e6):Prop:=(0<=m.time/\m.time<=2147483648)/\(-1125899906842624<=m.nI.bJ/\m.nI.bJ<=1125899906842624)/\(-1125899906842624<=m.nI.bN/\m.nI.bN<=1125899906842624)
def aZz{s:g0}{m:e6}{t:Int}(h:¬VH s m t):(0<=s.KC*(t-m.time)/\s.KC*(t-m.time)<=1000000000000)/\0<=Ho s m t/\Ho s m t<=1000000001:=by
 rw[VH]at h;have V:vB s=0:=by omega
 rw[vB]at V;split at V;·omega
 split at V;·
  rename_i aF;rw[JL]at aF;have G:0<=t-m.time/\t-m.time<=1000000:=by omega
  have U:0<=s.KC/\s.KC<=1000000:=by omega
  have aO:0<=s.KC*(t-m.time):=x3 U.1 G.1;have bW:s.KC*(t-m.time)<=1000000*1000000:=JA U.2 G.2 G.1 aX;refine⟨⟨aO,by omega⟩,?_⟩;rw[Ho,XP D];omega
 ·omega
def Yi{a b:bG}:a=b↔a.bJ=b.bJ/\a.bN=b.bN:=by cases a;cases b;simp
def aF6(s:g0)(m:e6)(t:Int)(L:aW)(R:aP)(a1:H4 m)(gJ:0<=t/\t<=2147483648):
 aM prog 193 [s.val,m.val,.int .i64 t].toArray L R (λv E R'=>v=(SA s m t).val/\L=E/\R=R'):=by
 rw[H4]at a1;refine cX 83 call193 func193 rfl rfl rfl ?_;apply(fC);intro e4;apply(nW);intro dU;apply(dO);intro jN;apply(iG);refine eD rfl (RF _ _) ?_;apply(dO);intro lT;apply(uI);refine aA EC rfl ?_;refine eD rfl (a7A s _ _) ?_;apply(vC);apply dT (aD:=[_,_,_]) (j:=3) (b4:=14) rfl rfl aK rfl b2 rfl;·intro fV;replace fV:=cP fV;exact T2
 intro m2;apply(fD);apply dT (aD:=[_,_,_,_]) (j:=8) (b4:=19) rfl rfl aK rfl b2 rfl;·intro h7;replace h7:=cP h7;apply C6∘lG;refine aA (aFw a4Y rfl rfl) rfl ?_;exact iA
 intro zV;apply(fD);apply dT (aD:=[_,_,_,_]) (j:=14) (b4:=25) rfl rfl aK rfl b2 rfl;·intro vQ;replace vQ:=cP vQ;exact(cJ) T2
 intro Fi;apply(fD);apply dT (aD:=[_,_,_,_,_,_,_]) (j:=20) (b4:=31) rfl rfl aK rfl b2 rfl;·intro IU;replace IU:=cP IU;exact(cJ∘gB∘oD∘Co) iA
 intro a27;apply(dD);refine aJ ?_ ?_<;>intro bI;·
  apply eV∘lG∘RV;refine cF L R mM ?_;have ZZ:VH s m t:=by simp[sX]at bI;rw[VH,Yi];simp only[sX];omega
  exact⟨by rw[SA,if_pos ZZ];try rfl,rfl,rfl⟩
 have ZZ:¬VH s m t:=by simp[sX]at bI;rw[VH,Yi];simp only[sX];omega
 obtain⟨mQ,DO⟩:=aZz ZZ;rw[Ho]at DO;apply(a0B);refine eD rfl (aTr _ _ _) ?_;apply(dD);refine aJ ?_ ?_<;>intro cK;·apply eV∘C6∘RV;refine cF L R mM ?_;exact⟨by rw[SA,if_neg ZZ,if_pos LA],rfl,rfl⟩
 apply gI∘h1∘gB∘oD∘XD∘oE∘Gd∘p5∘gF∘Cr∘gF∘h1∘oE∘CH∘dO;intro jB;apply RU∘BQ;apply dT (aD:=[_,_,_]) (j:=3) (b4:=69) rfl rfl aK rfl b2 rfl;·exact a4q
 intro m2;apply(dD);refine aJ ?_ ?_<;>intro dE;·apply e1∘gB;refine aA NO rfl ?_;apply(gB);refine aA NO rfl ?_;apply r1∘r1∘iG∘LP;refine cF L R mM ?_;exact⟨by rw[SA,if_neg ZZ,if_neg LA,if_pos D];try rfl,rfl,rfl⟩
 apply gI∘LP;refine cF L R mM ?_;exact⟨by rw[SA,if_neg ZZ,if_neg LA,if_neg D];try rfl,rfl,rfl⟩
def Y9(l:List bG)(z:bG)(k:Nat):bG:=(l.take k).foldl (λo x=>⟨max o.bJ x.bJ,min o.bN x.bN⟩) z
def aY5{l:List bG}{z:bG}{k:Nat}{x:bG}(h:l[k]?=some x):Y9 l z (k+1)=⟨max (Y9 l z k).bJ x.bJ,min (Y9 l z k).bN x.bN⟩:=by rw[Y9,BA,h,NM];rfl
def OQ(x y:bG):bG:=⟨max x.bJ y.bJ,min x.bN y.bN⟩
def Cx(x y:bG):bG:=if(OQ x y).bN<(OQ x y).bJ then sX else OQ x y
def aXB{x y:bG}:Y9 [x,y] x 2=OQ x y:=by simp[Y9,OQ]
def aXL(x y:bG)(p:bP bG)(L:aW)(R:aP)(aG:aN (wG p) R)(V:p.l=[x,y]):
 aM prog 195 [p.val].toArray L R (λv E R'=>v=.tuple #[(Cx x y).val,.bool (decide ((OQ x y).bJ<=(OQ x y).bN))]/\L=E/\R=R'):=by
 have dC:p.l.length=2:=by rw[V];rfl
 have i1:p.l[0]?=some x:=by rw[V];rfl
 refine cX 40 call195 func195 rfl rfl rfl ?_;apply(J8);intro eN;apply xF∘j0∘AL;refine aJ ?_ ?_<;>intro bI;·apply(eV);refine eD rfl (RF _ _) ?_;apply l5∘l6∘DZ;refine cF L R (tD rfl QA EE) ?_;exact absurd bI D
 apply OI∘Vr∘R1;intro dU;apply uI∘r3;refine e3 [(2,.pointer _),(4,.pointer _),(14,.slice _ _ _),(15,.int _ _),(16,.int _ _)] cB λg9=>?_;refine m6 ([6]++dJ 16 17) ((⟨λg=>[(16,.int .i64 ((g.1:Nat):Int))],λg=>⟨dU,(Y9 p.l x g.1).cells,51⟩::⟨eN,[.int .i64 0,.int .i64 0],51⟩::L,λ_=>R,λg=>p.l.length-g.1⟩:e0 {g:Nat//g<=p.l.length})) (⟨0,by omega⟩) ?_;rintro⟨k,Y⟩ c1;try dsimp only
 apply(gU);refine aJ ?_ ?_<;>intro cK;·have G:=bR (l:=p.l) (k:=k) default D;have SZ:=aY5 (z:=x) G;apply jK∘aG5∘R1;intro jN;apply l5∘dD;refine jV M [27,28,29] [0,1,2,3,4,5,6,7,8,9,10] [11,12,13] (_) _ mixed aQ bC Gx ?_;apply lS∘lS;refine fE NO rfl rfl rfl rfl ?_;apply lS∘LV;refine p4 (Od rfl rfl) rfl rfl rfl rfl ?_;apply LR∘XA∘rS∘XA∘KV∘m0;exact lP ⟨k+1,by omega⟩ hM cB (by dsimp only;rw[SZ];exact T1 (T0 (TZ _))) eX kM
 obtain rfl:k=p.l.length:=by omega
 have a2x:Y9 p.l x p.l.length=OQ x y:=by rw[dC,V];exact aXB
 rw[a2x];apply D2∘nZ∘y8;refine aJ ?_ ?_<;>intro dE;·apply(eV);refine eD rfl (RF _ _) ?_;apply l5∘l6∘DZ;refine cF L R (tD rfl QA EE) ?_;exact⟨by rw[Cx,if_pos D,decide_eq_false D],rfl,rfl⟩
 apply gI∘lG∘l5∘sP;refine cF L R (tD rfl QA EE) ?_;exact⟨by rw[Cx,if_neg D,decide_eq_true D],rfl,rfl⟩
end Go.Proofs.YtdiajbdaadlfhaaGreatDoor
namespace Go.Proofs.YtdiajbdaadlfhaaGreatDoor
open Go.Aw Go Go.Proofs.Tryz
section
def aJ7(h:A->B:=by exact aA aPC rfl):=h
def aTc{b:Nat}{x y:bG}:(⟨.own b 2 [],[x,y]⟩:J bG).ok 2 bG.cells:=⟨by simp[bG.cells],by simp,by simp[maxLen],by simp[bG.cells]⟩
def aW3{A:aW}{R:aP}{b:Nat}{x y:bG}{T:TypeId}(jQ:(⟨b,[.int .i64 x.bJ,.int .i64 x.bN,.int .i64 y.bJ,.int .i64 y.bN],T⟩:bQ)∈A):
 aM prog 195 [.slice (some ⟨b,0,none⟩) 2 2].toArray A R (λv E R'=>v=.tuple #[(Cx x y).val,.bool (decide ((OQ x y).bJ<=(OQ x y).bN))]/\A=E/\R=R'):=
 aM.Ve (S:=[wG (⟨.own b 2 [],[x,y]⟩:J bG).W]) (λw aD bF s aF=>by
  rw[List.mem_singleton.1 aF]
  exact wD (T:=T) bF (λe V=>by
   have uR:e∈[(⟨b,[.int .i64 x.bJ,.int .i64 x.bN,.int .i64 y.bJ,.int .i64 y.bN],T⟩:bQ)]:=V
   rw[List.mem_singleton.1 uR];exact jQ) aTc bH aX eW) (aXL x y (⟨.own b 2 [],[x,y]⟩:J bG).W [] _ mL rfl)
attribute [local irreducible] cO dG dP aM cI dR fA e2 e5 fB eQ e9 J.L
structure UK where
 c9:List bG
 VV:List Bool
 GZ:List Bool
def a0L(eM:UK)(l:List g0)(t:Int)(x:e6):bG:=OQ (eM.c9.getD (l.getD x.qT.toNat default).target.toNat default) (SA (l.getD x.qT.toNat default) x t)
def Zd(n:Nat)(kind:Int)(l:List g0)(x:e6):Prop:=(0<=x.qT/\x.qT<l.length)/\(l.getD x.qT.toNat default).kind=kind/\0<=(l.getD x.qT.toNat default).target/\(l.getD x.qT.toNat default).target<n
instance(n:Nat)(kind:Int)(l:List g0)(x:e6):Decidable (Zd n kind l x):=by unfold Zd;infer_instance
def JM(n:Nat)(kind:Int)(lost:bG)(t:Int)(l:List g0)(eM:UK)(x:e6):UK:=
 if¬(Zd n kind l x/\eM.VV.getD (l.getD x.qT.toNat default).target.toNat false=false)then eM
 else if(a0L eM l t x).bJ<=(a0L eM l t x).bN then⟨eM.c9.set (l.getD x.qT.toNat default).target.toNat (a0L eM l t x),eM.VV,eM.GZ⟩
 else⟨eM.c9.set (l.getD x.qT.toNat default).target.toNat lost,eM.VV.set (l.getD x.qT.toNat default).target.toNat true,eM.GZ.set x.qT.toNat true⟩
def NZ(fl:List bG)(lost:bG)(kind:Int)(l:List g0)(m:List e6)(t:Int)(k:Nat):UK:=
 (m.take k).foldl (JM fl.length kind lost t l) ⟨fl,List.replicate fl.length false,List.replicate l.length false⟩
def aZt{n:Nat}{kind:Int}{lost:bG}{t:Int}{l:List g0}{eM:UK}{x:e6}:
 (JM n kind lost t l eM x).c9.length=eM.c9.length/\(JM n kind lost t l eM x).VV.length=eM.VV.length/\(JM n kind lost t l eM x).GZ.length=eM.GZ.length:=by
 rw[JM];split;·exact⟨rfl,rfl,rfl⟩
 split<;>simp
def aGt{fl:List bG}{lost:bG}{kind:Int}{l:List g0}{m:List e6}{t:Int}{k:Nat}:
 (NZ fl lost kind l m t k).c9.length=fl.length/\(NZ fl lost kind l m t k).VV.length=fl.length/\(NZ fl lost kind l m t k).GZ.length=l.length:=by
 rw[NZ];generalize m.take k=CF;have:∀(CF:List e6) (eM:UK),(eM.c9.length=fl.length/\eM.VV.length=fl.length/\eM.GZ.length=l.length)->
  ((CF.foldl (JM fl.length kind lost t l) eM).c9.length=fl.length/\(CF.foldl (JM fl.length kind lost t l) eM).VV.length=fl.length/\(CF.foldl (JM fl.length kind lost t l) eM).GZ.length=l.length):=by
  intro CF;induction CF with
  |nil=>intro eM h;exact h
  |cons x CF cA=>intro eM h;exact cA _ (by have:=aZt (n:=fl.length) (kind:=kind) (lost:=lost) (t:=t) (l:=l) (eM:=eM) (x:=x);omega)
 exact this CF _ eY
def aU1{fl:List bG}{lost:bG}{kind:Int}{l:List g0}{m:List e6}{t:Int}{k:Nat}{x:e6}(h:m[k]?=some x):
 NZ fl lost kind l m t (k+1)=JM fl.length kind lost t l (NZ fl lost kind l m t k) x:=by rw[NZ,BA,h];simp[NZ]
def QM(b:List Bool)(k:Nat):List Int:=((List.range k).filter λi=>b.getD i false).map Int.ofNat
def aZf{b:List Bool}{k:Nat}:QM b (k+1)=if b.getD k false=true then QM b k++[(k:Int)]else QM b k:=by
 rw[QM,a3W,a3I,CO];split;·rename_i h;simp only[QM,aCh,List.filter_nil];rw[if_pos h];rfl
 ·rename_i h;simp only[QM,aCh,List.filter_nil];rw[if_neg h];simp
def Q9(fl:List bG)(lost:bG)(kind:Int)(l:List g0)(m:List e6)(t:Int):UK:=NZ fl lost kind l m t m.length
def aV9(fl:bP bG)(lost:bG)(kind t:Int)(l:bP g0)(m:bP e6)(L:aW)(R:aP)(iF:aN (wG fl) R)(aZ:aN (L0 l) R)(a1:aN (hV m) R)
 (FN:fl.l.length<=1000) (lL:l.l.length<=1000) (IV:m.l.length<=1000) (bM:∀x∈m.l,H4 x) (gJ:0<=t/\t<=2147483648):
 aM prog 174 [fl.val,lost.val,.int .i64 kind,l.val,m.val,.int .i64 t].toArray L R
  (λw E R'=>∃(p:J bG) (q:J Int),w=.tuple #[p.val,q.val]/\(p.ok 2 bG.cells/\q.ok 1 aR)/\p.l=(Q9 fl.l lost kind l.l m.l t).c9/\q.l=QM (Q9 fl.l lost kind l.l m.l t).GZ l.l.length/\q.L 3 aR++(p.L 51 bG.cells++L)=E/\R=R'):=by
 refine cX 123 call174 func174 rfl rfl rfl ?_;apply(fC);intro lT;apply kS∘tH∘gQ;refine g2 (rH (f:=bG.cells) (xs:=fl) M rfl rfl rfl aX rfl rfl (iF) bH D) rfl ?_;rintro v E R' ⟨TG,rfl,b3C,rfl,rfl⟩;apply(OK);have b89:(⟨TG,fl.l⟩:J bG).l.length<=1000:=FN;apply e1∘j0∘D1;rintro v E R' ⟨vJ,rfl,rfl,j2⟩;replace j2:=j2.symm;subst j2;apply(OK);refine e7 Nb ?_;apply e1∘j0∘D1;rintro v E R' ⟨IJ,rfl,rfl,G6⟩;replace G6:=G6.symm;subst G6;apply kS∘yQ;refine e7 Nb ?_;apply e1∘r3;refine e3 [(2,.int _ _),(3,.slice _ _ _),(5,.int _ _),(7,.pointer _),(14,.slice _ _ _),(15,.slice _ _ _),(16,.slice _ _ _),(33,.slice _ _ _),(34,.int _ _),(35,.int _ _)] cB λg9=>?_;refine m6 ([18,19,20,21]++dJ 35 73) ((⟨λg=>[(35,.int .i64 ((g.1.1:Nat):Int))],λg=>(⟨.own IJ l.l.length [],g.1.2.GZ⟩:J Bool).L 4 l1++((⟨.own vJ fl.l.length [],g.1.2.VV⟩:J Bool).L 4 l1++((⟨TG,g.1.2.c9⟩:J bG).L 51 bG.cells++(⟨lT,lost.cells,51⟩::L))),λ_=>R,λg=>m.l.length-g.1.1⟩:e0 {g:Nat×UK//g.1<=m.l.length/\g.2=NZ fl.l lost kind l.l m.l t g.1})) (⟨(0,⟨fl.l,List.replicate fl.l.length false,List.replicate l.l.length false⟩),by dsimp only;omega,rfl⟩) ?_;rintro⟨⟨k,⟨EV,aD,B⟩⟩,pN,fJ⟩ c1;try dsimp only
 dsimp only at pN fJ;obtain⟨nK,z2,z3⟩:=aGt (fl:=fl.l) (lost:=lost) (kind:=kind) (l:=l.l) (m:=m.l) (t:=t) (k:=k);rw[<-fJ]at nK z2 z3;dsimp only at nK z2 z3;have b2W:(⟨TG,EV⟩:J bG).ok 2 bG.cells:=J.tU bH b3C nK;have b9i:(⟨.own vJ fl.l.length [],aD⟩:J Bool).ok 1 l1:=by have:=BT (f:=l1) (aI:=1) (b:=vJ) (n:=fl.l.length) (x:=false) HX BE;exact J.tU HX this (by simp;exact z2)
 have b9h:(⟨.own IJ l.l.length [],B⟩:J Bool).ok 1 l1:=by have:=BT (f:=l1) (aI:=1) (b:=IJ) (n:=l.l.length) (x:=false) HX BE;exact J.tU HX this (by simp;exact z3)
 apply(gU);refine aJ ?_ ?_<;>intro bI;·
  have SY:=bR (l:=m.l) (k:=k) default D;have S9:=bM _ (hS SY);have CA:=aU1 (fl:=fl.l) (lost:=lost) (kind:=kind) (l:=l.l) (t:=t) SY;rw[<-fJ]at CA;obtain⟨x,K⟩:∃x,x=m.l.getD k default:=⟨_,rfl⟩;rw[<-K]at SY S9 CA;apply(jK);refine aA rF rfl ?_;apply(RW);intro ME;apply uI∘AK;apply dT (aD:=[_,_,_,_,_]) (j:=3) (b4:=42) rfl rfl aK rfl b2 rfl;·intro fV;replace fV:=cP fV;exact(gB∘j0) NN
  intro m2;apply(dD);refine aJ ?_ ?_<;>intro cK;·refine oZ (oX (oW (bY (dM ?_))));apply(m0);exact eG ⟨(k+1,⟨EV,aD,B⟩),by dsimp only;omega,by rw[CA,JM,if_pos (λh=>by have:=h.1.1;omega)]⟩
  have HC:=bR (l:=l.l) (k:=x.qT.toNat) default D;obtain⟨s,aF⟩:∃s,s=l.l.getD x.qT.toNat default:=⟨_,rfl⟩;rw[<-aF]at HC;have S0:Zd fl.l.length kind l.l x↔((0<=x.qT/\x.qT<l.l.length)/\s.kind=kind/\0<=s.target/\s.target<fl.l.length):=by rw[aF];exact Iff.rfl
  rw[JM,a0L,<-aF]at CA;dsimp only at CA;apply gI∘FD;refine aA (by first|exact j9 M rfl rfl rfl rfl i6 (i:=x.qT.toNat) c7 D|exact jF M rfl rfl rfl rfl (i:=x.qT.toNat) c7 D) rfl ?_;refine aA Np rfl ?_;apply(dO);intro II;apply uI∘h1∘vC;apply dT (aD:=[_,_,_]) (j:=4) (b4:=58) rfl rfl aK rfl b2 rfl;·intro jP;replace jP:=cP jP;exact T2
  intro DU;apply(fD);apply dT (aD:=[_,_,_,_,_]) (j:=9) (b4:=63) rfl rfl aK rfl b2 rfl;·intro vP;replace vP:=cP vP;exact(gB∘j0) NN
  intro Uz;apply(fD);apply dT (aD:=[_,_,_,_,_]) (j:=16) (b4:=70) rfl rfl aK rfl b2 rfl;·intro ZW;replace ZW:=cP ZW;have b03:=bR (l:=aD) (k:=s.target.toNat) false D;apply(FD);refine aA aPD rfl ?_;refine aA (rX M ((⟨.own vJ fl.l.length [],aD⟩:J Bool)) rfl rfl rfl cL bS bH bS aK) rfl ?_;exact iA
  intro aNe;apply(dD);refine aJ ?_ ?_<;>intro dE;·refine oZ (oX (oW (bY (dM ?_))));apply(m0);exact eG ⟨(k+1,⟨EV,aD,B⟩),by dsimp only;omega,by rw[CA,if_pos (λh=>by have G:=S0.1 h.1;have U:=h.2;simp only[U]at dE;simp at dE;omega)]⟩
  have b8D:=bR (l:=EV) (k:=s.target.toNat) default D;have ZZ:aD.getD s.target.toNat false=false:=by simpa using dE.2
  rw[if_neg (λh=>h ⟨S0.2 D,ZZ⟩)]at CA;apply(CI);refine jR M [0,1,2,3,4,5,6,7,8,9,10,11,12,13,14,15,16] _ mixed aQ iP ?_;refine b7 qX rfl rfl rfl ?_;apply(nQ);refine b7 aPC rfl rfl rfl ?_;refine b7 (a0U (row:=[_,_]) M ((⟨TG,EV⟩:J bG)) rfl rfl rfl cL bS bH bS aK aK) rfl rfl rfl ?_;refine b7 EC rfl rfl rfl ?_;apply An∘j7;refine xZ rfl (aF6 s x t _ _ S9 gJ) ?_;refine pP aPB rfl rfl rfl ?_;rintro v E R' ⟨b8d,rfl,rfl,a9d⟩;replace a9d:=a9d.symm;subst a9d;apply(fI);refine xZ rfl (aW3 (x:=EV.getD s.target.toNat default) (y:=SA s x t) (.head _)) ?_;refine b7 jE rfl rfl rfl ?_;refine b7 z6 rfl rfl rfl ?_;refine b7 z6 rfl rfl rfl ?_;apply(uZ);intro vI;apply(uY);refine b7 (qG b2) rfl rfl rfl ?_;apply XB∘J5;refine aJ ?_ ?_<;>intro gZ;·have b03:=bR (l:=aD) (k:=s.target.toNat) false D;have b0S:=bR (l:=B) (k:=x.qT.toNat) false D;refine jV M [93,94,95,96,97,98] [0,1,2,3,4,5,6] [7,8,9,10,11] ([bQ.mk II _ _,bQ.mk ME _ _,bQ.mk lT _ _]) _ mixed aQ bC (by(repeat(first|apply List.Sublist.cons (a:=bQ.mk vI _ _)|apply List.Sublist.cons (a:=bQ.mk aKt _ _)|apply List.Sublist.cons (a:=bQ.mk VK _ _)|apply List.Sublist.cons_cons));exact oU _) ?_;refine p4 qX rfl rfl rfl rfl ?_;apply(LV);refine p4 qX rfl rfl rfl rfl ?_;apply(LV);refine fE TX rfl rfl rfl rfl ?_;apply(FB);refine b7 aPD rfl rfl rfl ?_;refine ID (mV M ((⟨.own vJ fl.l.length [],aD⟩:J Bool)) (true) rfl rfl rfl rfl cL bS bH bS aX aK aK) rfl rfl ?_;rintro v E R' ⟨rfl,rfl⟩;apply(fI);refine b7 (iV M ((⟨.own IJ l.l.length [],B⟩:J Bool)) _ rfl rfl ((show _=Value.slice _ _ _ from rfl).trans (u7 z3)) rfl bS (i:=x.qT.toNat) c7 iY) rfl rfl rfl ?_;refine ID (mV M ((⟨.own IJ l.l.length [],B⟩:J Bool)) (true) rfl rfl rfl rfl cL bS bH bS aX aK aK) rfl rfl ?_;rintro v E R' ⟨rfl,rfl⟩;apply(fI);refine jI (bY (dM ?_));apply FD∘lG∘aJ7;refine mO (N4 M ((⟨TG,EV⟩:J bG)) (lost) rfl rfl rfl rfl cL bS bH bS (s6 rfl) aK aK) ?_;rintro v E R' ⟨rfl,rfl⟩;apply(tF);exact eG ⟨(k+1,⟨EV.set s.target.toNat lost,aD.set s.target.toNat true,B.set x.qT.toNat true⟩),by dsimp only;omega,by rw[CA,if_neg Xg]⟩
  refine gG (bY (dM ?_));apply FD∘lG∘aJ7;refine mO (N4 M ((⟨TG,EV⟩:J bG)) (Cx (EV.getD s.target.toNat default) (SA s x t)) rfl rfl rfl rfl cL bS bH bS (s6 rfl) aK aK) ?_;rintro v E R' ⟨rfl,rfl⟩;apply(tF);exact eG ⟨(k+1,⟨EV.set s.target.toNat (Cx (EV.getD s.target.toNat default) (SA s x t)),aD,B⟩),by dsimp only;omega,by rw[CA,if_pos Xg,Cx,if_neg (Int.not_lt.2 Xg)]⟩
 obtain rfl:k=m.l.length:=by omega
 apply oS∘r2∘r3;refine e3 [(14,.slice _ _ _),(22,.slice _ _ _),(108,.slice _ _ _),(109,.int _ _),(110,.int _ _)] cB λs4=>?_;refine oM ([22,23,24]++dJ 110 11) ((⟨λg=>[(110,.int .i64 ((g.1.1:Nat):Int)),(22,g.1.2.val)],λg=>g.1.2.L 3 aR++((⟨.own IJ l.l.length [],B⟩:J Bool).L 4 l1++((⟨.own vJ fl.l.length [],aD⟩:J Bool).L 4 l1++((⟨TG,EV⟩:J bG).L 51 bG.cells++(⟨lT,lost.cells,51⟩::L)))),λ_=>R,λg=>l.l.length-g.1.1⟩:e0 {g:Nat×J Int//g.1<=l.l.length/\g.2.ok 1 aR/\g.2.l=QM B g.1})) (⟨(0,J.nil),by dsimp only;omega,J.iJ,rfl⟩) cB JB eX ?_;rintro⟨⟨i,q⟩,vW,gP,qR⟩ c1;try dsimp only
 dsimp only at vW gP qR;apply(gU);refine aJ ?_ ?_<;>intro fW;·
  have b0S:=bR (l:=B) (k:=i) false D;have xX:=aZf (b:=B) (k:=i);have eZ:q.l.length<=1000:=by rw[qR,QM,pU];exact HU (List.length_filter_le _ _) EB
  apply(nC);refine aA (iV M ((⟨.own IJ l.l.length [],B⟩:J Bool)) _ rfl rfl ((show _=Value.slice _ _ _ from rfl).trans (u7 z3)) rfl bS (i:=i) c7 iY) rfl ?_;refine aA (rX M ((⟨.own IJ l.l.length [],B⟩:J Bool)) rfl rfl rfl cL bS bH bS aK) rfl ?_;apply eA∘uK∘fD∘dD;refine aJ ?_ ?_<;>intro lJ;·apply y6∘w1;rintro v E R' ⟨b7S,rfl,rfl,a8I⟩;replace a8I:=a8I.symm;subst a8I;refine g2 (jZ (f:=aR) (a:=_) M rfl rfl rfl rfl (gP) cL j8 rfl kG) rfl ?_;rintro v E R' ⟨b50,rfl,b3r,rfl,rfl⟩;apply(LO);exact eG ⟨(i+1,(⟨b50,_⟩:J Int)),by dsimp only;omega,b3r,by dsimp only;rw[xX,if_pos (by simpa using lJ),qR]⟩
  apply(k9);exact eG ⟨(i+1,q),by dsimp only;omega,gP,by dsimp only;rw[xX,if_neg (by simpa using lJ),qR]⟩
 obtain rfl:i=l.l.length:=by omega
 apply UX∘gQ∘kS∘UW;refine cF (q.L 3 aR++((⟨TG,EV⟩:J bG).L 51 bG.cells++L)) R (tD rfl yW yW) ?_;exact⟨(⟨TG,EV⟩:J bG),q,by rw[J.val,J.val,nK];try rfl,⟨b2W,gP⟩,by rw[Q9,<-fJ],by rw[Q9,<-fJ];exact qR,rfl,rfl⟩
def aWw(fl:bP bG)(l:bP g0)(m:bP e6)(t:Int)(L:aW)(R:aP)(iF:aN (wG fl) R)(aZ:aN (L0 l) R)(a1:aN (hV m) R)
 (FN:fl.l.length<=1000) (lL:l.l.length<=1000) (IV:m.l.length<=1000) (bM:∀x∈m.l,H4 x) (gJ:0<=t/\t<=2147483648):
 aM prog 135 [fl.val,l.val,m.val,.int .i64 t].toArray L R
  (λw E R'=>∃(p:J bG) (q:J Int),w=.tuple #[p.val,q.val]/\(p.ok 2 bG.cells/\q.ok 1 aR)/\p.l=(Q9 fl.l sX 3 l.l m.l t).c9/\q.l=QM (Q9 fl.l sX 3 l.l m.l t).GZ l.l.length/\q.L 3 aR++(p.L 51 bG.cells++L)=E/\R=R'):=by refine cX 18 call135 func135 rfl rfl rfl ?_;apply C9∘tH∘gQ;refine eD rfl (RF _ _) ?_;apply gQ∘k2;refine dN rfl (aV9 fl sX 3 t l m _ _ iF aZ a1 FN lL IV bM gJ) rfl ?_;rintro v E R' ⟨p,q,rfl,⟨G,U⟩,aO,bW,rfl,rfl⟩;apply C8∘UW;refine cF (q.L 3 aR++(p.L 51 bG.cells++L)) R (tD rfl yW yW) ?_;exact⟨p,q,rfl,⟨G,U⟩,aO,bW,rfl,rfl⟩
end
structure kQ where
 kind:Int
 cond:Int
 left:Int
 right:Int
 deriving Inhabited
def kQ.cells(x:kQ):List Value:=[.int .i64 x.kind,.int .i64 x.cond,.int .i64 x.left,.int .i64 x.right]
structure E6 where
 cut:Int
 clear:Int
 Jw:Int
 deriving Inhabited
abbrev E6.val(x:E6):Value:=.agg #[.int .i64 x.cut,.int .i64 x.clear,.int .i64 x.Jw]
structure rK where
 kind:Int
 target:Int
 value:Int
 r9:E6
 deriving Inhabited
def rK.cells(x:rK):List Value:=[.int .i64 x.kind,.int .i64 x.target,.int .i64 x.value,.int .i64 x.r9.cut,.int .i64 x.r9.clear,.int .i64 x.r9.Jw]
abbrev rK.val(x:rK):Value:=.agg #[.int .i64 x.kind,.int .i64 x.target,.int .i64 x.value,.int .i64 x.r9.cut,.int .i64 x.r9.clear,.int .i64 x.r9.Jw]
structure kJ where
 mB:bP kQ
 hold:Int
 Z:bP Int
 vM:Int
 deriving Inhabited
def kJ.cells(x:kJ):List Value:=[x.mB.val,.int .i64 x.hold,x.Z.val,.int .i64 x.vM]
abbrev kJ.val(x:kJ):Value:=.agg #[x.mB.val,.int .i64 x.hold,x.Z.val,.int .i64 x.vM]
structure gW where
 over:Bool
 fY:Int
 wV:Int
 deriving Inhabited,DecidableEq
def gW.cells(x:gW):List Value:=[.bool x.over,.int .i64 x.fY,.int .i64 x.wV]
abbrev gW.val(x:gW):Value:=.agg #[.bool x.over,.int .i64 x.fY,.int .i64 x.wV]
structure cY where
 off:Bool
 clear:Int
 n4:Int
 deriving Inhabited,DecidableEq
def cY.cells(x:cY):List Value:=[.bool x.off,.int .i64 x.clear,.int .i64 x.n4]
structure dY where
 c2:bT
 e8:bP g0
 h2:bP rK
 b0:bP kJ
 m4:bP Int
def dY.cells(x:dY):List Value:=[x.c2.aE.places.val,x.c2.aE.Z.val,x.c2.bD.val,x.c2.a8.val,x.e8.val,x.h2.val,x.b0.val,x.m4.val]
abbrev dY.val(x:dY):Value:=.agg #[x.c2.aE.places.val,x.c2.aE.Z.val,x.c2.bD.val,x.c2.a8.val,x.e8.val,x.h2.val,x.b0.val,x.m4.val]
abbrev RO(x:bP kQ):eT:=x.eJ 4 kQ.cells []
abbrev Jk(x:bP rK):eT:=x.eJ 6 rK.cells []
abbrev kJ.eE(z:kJ):aP:=[RO z.mB,dW z.Z]
abbrev VJ(x:bP kJ):eT:=x.eJ 4 kJ.cells (x.l.flatMap kJ.eE)
abbrev JU(x:bP gW):eT:=x.eJ 3 gW.cells []
abbrev AQ(x:bP cY):eT:=x.eJ 3 cY.cells []
def aN.mB{x:bP kJ}{R:aP}(h:aN (VJ x) R){i:Nat}{z:kJ}(aB:x.l[i]?=some z):aN (RO z.mB) R:=
 h.sub (.SG (List.mem_flatMap.2 ⟨z,hS aB,Gs⟩) .lK)
def aN.aC1{x:bP kJ}{R:aP}(h:aN (VJ x) R){i:Nat}{z:kJ}(aB:x.l[i]?=some z):aN (dW z.Z) R:=
 h.sub (.SG (List.mem_flatMap.2 ⟨z,hS aB,K6 _ Gs⟩) .lK)
structure BN(s:dY)(R:aP):Prop where
 c2:qF s.c2 R
 e8:aN (L0 s.e8) R
 h2:aN (Jk s.h2) R
 b0:aN (VJ s.b0) R
 m4:aN (dW s.m4) R
def BN.mono{s:dY}{R R':aP}(h:BN s R)(k:∀r∈R,aN r R'):BN s R':=
 ⟨⟨h.c2.places.mono k,h.c2.Z.mono k,h.c2.bD.mono k,h.c2.a8.mono k⟩,h.e8.mono k,h.h2.mono k,h.b0.mono k,h.m4.mono k⟩
def JN(l:E6):Prop:=l.cut<=1000000/\0<=l.clear/\l.clear<l.cut/\0<=l.Jw/\l.Jw<=100000
instance(l:E6):Decidable (JN l):=by unfold JN;infer_instance
def QW(l:E6):Int:=if JN l then 0 else 1
def CW(x:bG)(n:Int):Int:=if x.bN<x.bJ then 0 else if n<=x.bJ then 1 else if x.bN<n then -1 else 0
def RQ(w:gW):Prop:=0<=w.wV/\-1<=w.fY/\w.fY<=w.wV/\(w.fY= -1\/w.over=true)
instance(w:gW):Decidable (RQ w):=by unfold RQ;infer_instance
def CZ(l:E6)(w:gW)(x:bG)(t:Int):gW:=
 if CW x l.cut≠-1 then⟨true,-1,t⟩
 else if w.over=false then⟨false,w.fY,t⟩
 else if l.clear<x.bN then⟨true,-1,t⟩
 else if l.Jw<=t-(if w.fY<0 then t else w.fY)then⟨false,-1,t⟩
 else⟨true,if w.fY<0 then t else w.fY,t⟩
def DB(l:E6)(w:gW)(t:Int):Int:=
 if¬JN l then 1 else if t<0\/2147483648<t\/t<w.wV then 8 else if¬RQ w then 10 else 0
def aEt:gW:=⟨false,0,0⟩
def Ny(l:E6)(w:gW)(x:bG)(t:Int):gW:=if DB l w t=0 then CZ l w x t else aEt
def w5(l:List kQ):Nat->Int->Option (Int×Int)
 |0,_=>none
 |n+1,i=>
  if i<0 then none
  else if(l.getD i.toNat default).kind=1 then
   if(l.getD i.toNat default).left=0/\(l.getD i.toNat default).right=0/\0<=(l.getD i.toNat default).cond/\(l.getD i.toNat default).cond<64 then some (i,1)else none
  else if(l.getD i.toNat default).kind=2 then
   match w5 l n (i-1)with
   |none=>none
   |some (f,d)=>if(l.getD i.toNat default).cond=0/\(l.getD i.toNat default).right=0/\(l.getD i.toNat default).left=i-1 then some (f,d+1)else none
  else if(l.getD i.toNat default).kind=3\/(l.getD i.toNat default).kind=4 then
   match w5 l n (i-1)with
   |none=>none
   |some (m,r)=>if(l.getD i.toNat default).cond=0/\(l.getD i.toNat default).right=i-1/\(l.getD i.toNat default).left=m-1 then
    match w5 l n (m-1)with
    |none=>none
    |some (f,q)=>some (f,max q r+1)else none
  else none
def H7(l:List kQ):Bool:=
 decide (1<=l.length/\l.length<=64) && (match w5 l l.length ((l.length:Int)-1)with
  |none=>false
  |some (f,d)=>decide (f=0/\d<=16))
def JJ(l:List kQ)(n:Nat):Int:=if H7 l=false then 18 else if∃x∈l,x.kind=1/\(n:Int)<=x.cond then 1 else 0
def Dg(dX:List Int)(c:Int):Int:=if c<dX.length/\-1<=dX.getD c.toNat 0/\dX.getD c.toNat 0<=1 then dX.getD c.toNat 0 else 0
def AN(dX v:List Int)(x:kQ):Int:=
 if x.kind=1 then Dg dX x.cond else if x.kind=2 then -(v.getD x.left.toNat 0)
 else if x.kind=3 then min (v.getD x.left.toNat 0) (v.getD x.right.toNat 0)else max (v.getD x.left.toNat 0) (v.getD x.right.toNat 0)
def o1(l:List kQ)(dX:List Int):Nat->List Int
 |0=>[]
 |k+1=>o1 l dX k++[AN dX (o1 l dX k) (l.getD k default)]
def EO(l:List kQ)(dX:List Int):Int:=if H7 l=true then(o1 l dX l.length).getD (l.length-1) 0 else 0
def T7(a:bT)(s:g0):Int:=if s.kind=5 then(a.bD.l.length:Int)else if s.kind=6 then(a.a8.l.length:Int)else(a.aE.Z.l.length:Int)
def AR(a:bT)(S:List g0)(i:Nat):Option Int:=
 if vB (S.getD i default)≠0 then some (vB (S.getD i default))
 else if¬(0<=(S.getD i default).target/\(S.getD i default).target<T7 a (S.getD i default))then some 9
 else if∃k:Nat,k<i/\(S.getD k default).hW=(S.getD i default).hW then some 9 else none
def EY(a:bT)(S:List g0):Int:=((List.range S.length).findSome? (AR a S)).getD 0
def Oz(S:List g0)(n:Nat)(c:rK):Int:=
 if c.kind=1\/c.kind=2\/c.kind=4 then if 0<=c.target/\c.target<S.length then 0 else 9
 else if c.kind=3 then if(0<=c.target/\c.target<S.length)/\(S.getD c.target.toNat default).kind=5 then 0 else 9
 else if c.kind=5 then if 0<=c.target/\c.target<n then 0 else 4
 else 5
def LD(S:List g0)(n:Nat)(c:rK):Int:=
 if Oz S n c≠0 then Oz S n c else if c.value<0\/1099511627776<c.value then 1 else if c.kind=1 then QW c.r9 else 0
def BS(n:Nat)(l:List Int)(i:Nat):Prop:=¬(0<=l.getD i 0/\l.getD i 0<n)\/(0<i/\l.getD i 0<=l.getD (i-1) 0)
instance(n:Nat)(l:List Int)(i:Nat):Decidable (BS n l i):=by unfold BS;infer_instance
def DF(h2 n:Nat)(z:kJ):Int:=
 if JJ z.mB.l h2≠0 then JJ z.mB.l h2 else if z.hold<0\/100000<z.hold\/z.vM<0\/100<z.vM then 1
 else if∃i:Nat,i<z.Z.l.length/\BS n z.Z.l i then 4 else 0
def yL(e:Int):Option Int:=if e=0 then none else some e
def UG(s:dY):Int:=(s.h2.l.findSome? λc=>yL (LD s.e8.l s.c2.aE.Z.l.length c)).getD 0
def KA(s:dY):Int:=(s.b0.l.findSome? λz=>yL (DF s.h2.l.length s.c2.aE.Z.l.length z)).getD 0
def Bo(s:dY):Int:=(s.m4.l.findSome? λp=>if p<1\/3<p then some 19 else none).getD 0
def o0(s:dY):Int:=
 if h4 s.c2≠0 then h4 s.c2
 else if 64<s.e8.l.length\/64<s.h2.l.length\/16<s.b0.l.length\/64<s.m4.l.length then 2
 else if EY s.c2 s.e8.l≠0 then EY s.c2 s.e8.l
 else if UG s≠0 then UG s
 else if KA s≠0 then KA s
 else Bo s
def GM(S:List g0)(m:List e6)(n t:Int):bG:=
 if(0<=n/\n<S.length)/\n<m.length/\(m.getD n.toNat default).qT=n then SA (S.getD n.toNat default) (m.getD n.toNat default) t else sX
def Po(x:bG):Int:=if x.bN<x.bJ then 0 else if x.bJ=1/\x.bN=1 then -1 else if 1<x.bJ\/x.bN<1 then 1 else 0
def Jg(c:rK)(w:gW)(t:Int):Int:=if c.kind=1 then DB c.r9 w t else 0
def Zz(S:List g0)(m:List e6)(fl:List bG)(c:rK)(w:gW)(t:Int):Int:=
 if c.kind=5 then -(H8 fl ⟨c.target,c.value⟩)
 else if c.kind=2 then -(CW (GM S m c.target t) c.value)
 else if c.kind=3 then Po (GM S m c.target t)
 else if c.kind=4 then if GM S m c.target t=sX then 1 else -1
 else if(CZ c.r9 w (GM S m c.target t) t).over=false then -1
 else if CW (GM S m c.target t) c.r9.cut=1 then 1 else 0
def UR(S:List g0)(m:List e6)(c:rK)(w:gW)(t:Int):gW:=if c.kind=1 then CZ c.r9 w (GM S m c.target t) t else w
def tY(s:dY)(m:List e6)(w:List gW)(fl:List bG)(t:Int):Int:=
 if o0 s≠0 then o0 s
 else if¬(m.length=s.e8.l.length/\w.length=s.h2.l.length/\fl.length=s.c2.aE.Z.l.length)then 11
 else if t<0\/2147483648<t then 8
 else((List.range w.length).findSome? λi=>yL (Jg (s.h2.l.getD i default) (w.getD i default) t)).getD 0
def NG(s:dY)(m:List e6)(w:List gW)(fl:List bG)(t:Int):List Int:=
 if tY s m w fl t≠0 then[]else(List.range w.length).map λi=>Zz s.e8.l m fl (s.h2.l.getD i default) (w.getD i default) t
def w2(s:dY)(m:List e6)(w:List gW)(fl:List bG)(t:Int):List gW:=
 if tY s m w fl t≠0 then[]else(List.range w.length).map λi=>UR s.e8.l m (s.h2.l.getD i default) (w.getD i default) t
def vL(s:dY)(v:List Int)(c:List cY)(t:Int):Int:=
 if o0 s≠0 then o0 s else if¬(v.length=s.h2.l.length/\c.length=s.b0.l.length)then 11 else if t<0\/2147483648<t then 8 else 0
def Jj(v:Int)(c:cY)(t:Int):cY:=
 if v= -1 then if c.clear= -1 then⟨c.off,t,c.n4⟩else c else if c.off=true then⟨true,-1,c.n4⟩else⟨true,-1,v⟩
def MK(s:dY)(v:List Int)(c:List cY)(t:Int)(i:Nat):cY:=Jj (EO (s.b0.l.getD i default).mB.l v) (c.getD i default) t
def AG(s:dY)(v:List Int)(c:List cY):Nat->List Int
 |0=>[]
 |k+1=>if EO (s.b0.l.getD k default).mB.l v≠-1/\(c.getD k default).off=false then AG s v c k++[(k:Int)]else AG s v c k
def wO(s:dY)(v:List Int)(c:List cY)(t:Int):List cY:=if vL s v c t≠0 then[]else(List.range c.length).map (MK s v c t)
def G1(s:dY)(v:List Int)(c:List cY)(t:Int):List Int:=if vL s v c t≠0 then[]else AG s v c c.length
end Go.Proofs.YtdiajbdaadlfhaaGreatDoor
