--By an AI agent.
import Derived.Test.YtchfclmokpbldaaGreatRun
set_option maxRecDepth 9999
set_option linter.all false
set_option maxHeartbeats 0
variable{A B:Prop}
def W2(h:A->B:=by exact(aG R6 ·)):=h
def Kn(h:A->B:=by exact(aG Xy ·)):=h
def a5H(h:A->B:=by exact(a4 (by first|exact j9 O rfl rfl rfl rfl jC (i:=fM-1) cW D|exact i9 O rfl rfl rfl rfl (i:=fM-1) cW D) ·)):=h
def aCE(h:B:=by exact⟨by rw[N4,if_neg D,if_neg D,zC g0 D (aOy hp D D hq D)];rfl,rfl,rfl⟩):=h
def a57(h:A->B:=by exact(a4 Xy ·)):=h
def a5U(h:A->B:=by exact(eO a9g ·)):=h
def aB8(h:A->B:=by exact gJ O [0,1,2,3,4,5,6,7,8,9,10] _ cX bE g3):=h
def aNV(h:B:=by exact⟨by rw[N4,if_neg D,if_neg D,zC g0 D (aRy hp D)];rfl,rfl,rfl⟩):=h
def aJ1(h:A->B:=by exact gJ O [0,1,2,3,4,5,6,7,8,9,10,11,12,13,14,15,16,17,18,19,20,21,22,23,24,25] _ cX bE g3):=h
def aLC(h:B:=by exact⟨by rw[Rj D g0 D (FX.trans (by rw[if_neg D,if_pos D]))],rfl,rfl⟩):=h
def aQ7(h:B:=by exact⟨by rw[Rj D g0 D (FX.trans (by rw[A6 kE M (if_pos D)]))],rfl,rfl⟩):=h
def b6v(h:A->B:=by exact(aG (by first|exact j9 O rfl rfl rfl rfl jC (i:=d.yV.toNat) cW D|exact i9 O rfl rfl rfl rfl (i:=d.yV.toNat) cW D) ·)):=h
def aLf(h:B:=by exact⟨by rw[M,Ln D D,zC kE D (X.trans (if_pos D))];simp,rfl,rfl⟩):=h
def aMW(h:A->B:=by exact hF O [] [0,1,2,3,4,5,6,7,8,9,10] [11] (_) _ cX bE a2 Jm):=h
namespace Go.Proofs.YtchfclmokpbldaaGreat
open Go.Aw Go Go.Proofs.Tryz
attribute [local irreducible] cH c6 dP aI cJ eD e9 e0 e1 e5 eS e8
def SG(s:a9)(b6 aA:Int):Bool:=decide (b6<=s.bG) && (decide (s.bG<=s.bO) && decide (s.bO<=aA))
def aQp(s:a9)(b6 aA:Int)(L:aP)(R:aJ):
 aI prog 237 [s.val,.int .i64 b6,.int .i64 aA].toArray L R (λv E G=>v=.bool (SG s b6 aA)/\L=E/\R=G):=by refine bW 24 call237 func237 ?_;exact aVB
def MJ(p:kR):Option Int:=if p.Ns< -10000\/10000<p.Ns then some 1 else none
def v6(n:Nat)(r:eL):Option Int:=
 if r.bK<0\/(n:Int)<=r.bK\/r.to<0\/(n:Int)<=r.to\/r.bK=r.to then some 4
 else if r.len<1\/100000<r.len\/r.n7<1\/1000<r.n7\/SG r.aB 1 262144=false\/SG r.jO (-2199023255552) 2199023255552=false then some 1 else none
def q0(m:hZ):Int:=
 if 64<m.places.l.length\/128<m.aD.l.length then 2
 else match m.places.l.findSome? MJ with
  |some e=>e
  |none=>(m.aD.l.findSome? (v6 m.places.l.length)).getD 0
def aOT(m:hZ)(L:aP)(R:aJ)(hm:N1 m R):
 aI prog 183 [m.val].toArray L R (λv E G=>v=.int .i64 (q0 m)/\L=E/\R=G):=by
 have eB:=hm.places;have kX:=hm.aD;refine nN call183 eB λl5=>?_;refine nN call183 kX λHL=>?_;refine bW 100 call183 func183 ?_;apply(c8);intro gK;apply g7∘S7∘c9;apply cB (aC:=[_,_,_,_]) (j:=4) (a7:=12) rfl rfl aE rfl aW rfl;·exact YT
 intro yU;apply(b3);apply(W)<;>intro aO;·exact aXh
 apply(QS);refine c7 [(1,.pointer _),(19,.slice _ _ _),(20,.int _ _),(21,.int _ _)] bP λeZ=>?_;refine kO ([2,4]++b4 21 13) ((⟨λg=>[(21,.int .i64 ((g.1:Nat):Int))],λ_=>⟨gK,m.cells,28⟩::L,λ_=>R,λg=>m.places.l.length-g.1⟩:dV (FS MJ m.places.l))) (⟨0,BL _ _⟩) ?_;rintro⟨k,hk,UF⟩ bZ;try dsimp only
 apply(h2);apply(W)<;>intro bF;·
  obtain⟨x,K⟩:=mP m.places.l k;apply j7∘B2∘OI;intro cT;apply rP∘r8;apply cB (aC:=[_,_,_]) (j:=3) (a7:=28) rfl rfl aE rfl aW rfl;·exact GF
  intro iG;apply(b3);apply(W)<;>intro b2;·apply(xE);refine dC L R ?_;exact⟨by simp[q0,A6 UF K (show MJ x=some 1 by simp[MJ];omega)];omega,rfl,rfl⟩
  apply(n6);exact dU ⟨k+1,CO UF K (by simp[MJ];omega)⟩
 have hp:=BC UF D;apply oD∘lM∘g7∘r9;refine c7 [(5,.int _ _),(38,.slice _ _ _),(39,.int _ _),(40,.int _ _)] bP λnS=>?_;refine kO ([2,7]++b4 40 60) ((⟨λg=>[(40,.int .i64 ((g.1:Nat):Int))],λ_=>⟨gK,m.cells,28⟩::L,λ_=>R,λg=>m.aD.l.length-g.1⟩:dV (FS (v6 m.places.l.length) m.aD.l))) (⟨0,BL _ _⟩) ?_;rintro⟨eE,hK,a1G⟩ bZ;try dsimp only
 apply(h2);apply(W)<;>intro dZ;·
  obtain⟨y,aN⟩:=mP m.aD.l eE;apply j7∘B2∘WQ;intro kL;apply rQ∘r8;apply cB (aC:=[_,_,_,_]) (j:=3) (a7:=47) rfl rfl aE rfl aW rfl;·exact a80
  intro iG;apply(c9);apply cB (aC:=[_,_,_]) (j:=9) (a7:=53) rfl rfl aE rfl aW rfl;·intro nY;replace nY:=a8 nY;exact R4
  intro Hx;apply(c9);apply cB (aC:=[_,_,_,_]) (j:=14) (a7:=58) rfl rfl aE rfl aW rfl;·intro qT;replace qT:=a8 qT;exact(gE) PP
  intro UX;apply(c9);apply cB (aC:=[_,_,_,_,_]) (j:=20) (a7:=64) rfl rfl aE rfl aW rfl;·intro MW;replace MW:=a8 MW;exact(kJ) LP
  intro a2l;apply(b3);apply(W)<;>intro dX;·apply(IU);refine dC L R ?_;exact⟨by simp[q0,hp,A6 a1G aN (show v6 m.places.l.length y=some 4 by simp[v6];omega)];omega,rfl,rfl⟩
  apply iK∘r8;apply cB (aC:=[_,_,_]) (j:=3) (a7:=74) rfl rfl aE rfl aW rfl;·exact GF
  intro iG;apply(c9);apply cB (aC:=[_,_,_]) (j:=8) (a7:=79) rfl rfl aE rfl aW rfl;·exact Ju
  intro wJ;apply(c9);apply cB (aC:=[_,_,_]) (j:=13) (a7:=84) rfl rfl aE rfl aW rfl;·exact Qz
  intro UW;apply(b3);apply(W)<;>intro h3;·apply(IU);refine dC L R ?_;exact⟨by simp[q0,hp,A6 a1G aN (show v6 m.places.l.length y=some 1 by rw[v6,if_neg D,if_pos D])];omega,rfl,rfl⟩
  apply eR∘CM;refine cC rfl (aQp y.aB _ _ _ _) ?_;apply(MF);apply cB (aC:=[_,_,_,_]) (j:=4) (a7:=93) rfl rfl aE rfl aW rfl;·intro gW;replace gW:=a8 gW;apply(CM);refine cC rfl (aQp y.jO _ _ _ _) ?_;exact LQ
  intro yU;apply(b3);apply(W)<;>intro hW;·apply(xE);refine dC L R ?_;exact⟨by simp[q0,hp,A6 a1G aN (show v6 m.places.l.length y=some 1 by rw[v6,if_neg D,if_pos (by rcases hW with h|h<;>simp[h])])];omega,rfl,rfl⟩
  apply(n6);exact dU ⟨eE+1,CO a1G aN (by rw[v6,if_neg D,if_neg (by simp[hW];omega)])⟩
 have hq:=BC a1G D;apply(GZ);refine dC L R ?_;exact⟨by simp[q0,hp,hq];omega,rfl,rfl⟩
def aQF(s:a9)(b6 aA:Int)(L:aP)(R:aJ):
 aI prog 283 [s.val,.int .i64 b6,.int .i64 aA].toArray L R (λv E G=>v=.bool (SG s b6 aA)/\L=E/\R=G):=by refine bW 24 call283 func283 ?_;exact aVB
def b8g(m:hZ)(L:aP)(R:aJ)(hm:N1 m R):
 aI prog 247 [m.val].toArray L R (λv E G=>v=.int .i64 (q0 m)/\L=E/\R=G):=by
 have eB:=hm.places;have kX:=hm.aD;refine nN call247 eB λl5=>?_;refine nN call247 kX λHL=>?_;refine bW 109 call247 func247 ?_;apply(c8);intro gK;apply g7∘S7∘c9;apply cB (aC:=[_,_,_,_]) (j:=4) (a7:=11) rfl rfl aE rfl aW rfl;·exact YT
 intro yU;apply(b3);apply(W)<;>intro aO;·exact aXh
 apply(zH);refine c7 [(1,.pointer _),(3,.int _ _)] bP λeZ=>?_;refine gP ([2,3,4]++b4 17 19) (λg:FS (MJ) (m.places.l)=>[(3,.int .i64 ((g.1:Nat):Int))]) (λg=>(m.places.l).length-g.1) ⟨0,BL _ _⟩ ?_;rintro⟨fM,yR,g0⟩ bZ;try dsimp only
 apply(oJ);apply(W)<;>intro bF;·
  obtain⟨x,K⟩:=mP m.places.l fM;apply CK∘W2∘sW∘pQ∘CI;apply cB (aC:=[_,_]) (j:=2) (a7:=32) rfl rfl aE rfl aW rfl;·exact GG
  intro mY;apply(b3);apply(W)<;>intro b2;·apply(xE);refine dC L R ?_;exact⟨by simp[q0,A6 g0 K (show MJ x=some 1 by simp[MJ];omega)];omega,rfl,rfl⟩
  apply(mD);exact dU ⟨fM+1,CO g0 K (by simp[MJ];omega)⟩
 have mX:=BC g0 D;apply(G0);refine c7 [(1,.pointer _),(5,.int _ _)] bP λnS=>?_;refine gP ([2,5,6]++b4 36 73) (λg:FS (v6 m.places.l.length) (m.aD.l)=>[(5,.int .i64 ((g.1:Nat):Int))]) (λg=>(m.aD.l).length-g.1) ⟨0,BL _ _⟩ ?_;rintro⟨eU,e6,kE⟩ bZ;try dsimp only
 apply(oJ);apply(W)<;>intro dZ;·
  obtain⟨y,aN⟩:=mP m.aD.l eU;apply CK∘Kn∘WQ;intro hP;apply rQ∘r8;apply cB (aC:=[_,_,_,_,_,_]) (j:=3) (a7:=51) rfl rfl aE rfl aW rfl;·exact aZS
  intro iG;apply(c9);apply cB (aC:=[_,_,_]) (j:=11) (a7:=59) rfl rfl aE rfl aW rfl;·intro xP;replace xP:=a8 xP;exact R4
  intro a2k;apply(c9);apply cB (aC:=[_,_,_,_,_,_]) (j:=16) (a7:=64) rfl rfl aE rfl aW rfl;·intro AO;replace AO:=a8 AO;exact(fH∘aOH) hL
  intro a7I;apply(c9);apply cB (aC:=[_,_,_,_,_]) (j:=24) (a7:=72) rfl rfl aE rfl aW rfl;·intro RA;replace RA:=a8 RA;exact(kJ) LP
  intro aGY;apply(b3);apply(W)<;>intro dX;·apply(IU);refine dC L R ?_;exact⟨by simp[q0,mX,A6 kE aN (show v6 m.places.l.length y=some 4 by simp[v6];omega)];omega,rfl,rfl⟩
  apply eR∘r8;apply cB (aC:=[_,_,_]) (j:=3) (a7:=82) rfl rfl aE rfl aW rfl;·exact GF
  intro iG;apply(c9);apply cB (aC:=[_,_,_]) (j:=8) (a7:=87) rfl rfl aE rfl aW rfl;·exact Ju
  intro wJ;apply(c9);apply cB (aC:=[_,_,_]) (j:=13) (a7:=92) rfl rfl aE rfl aW rfl;·exact Qz
  intro UW;apply(c9);apply cB (aC:=[_,_,_,_]) (j:=18) (a7:=97) rfl rfl aE rfl aW rfl;·intro K6;replace K6:=a8 K6;apply(CM);refine cC rfl (aQF y.aB _ _ _ _) ?_;exact LQ
  intro bKl;apply(c9);apply cB (aC:=[_,_,_,_]) (j:=24) (a7:=103) rfl rfl aE rfl aW rfl;·intro RA;replace RA:=a8 RA;apply(CM);refine cC rfl (aQF y.jO _ _ _ _) ?_;exact LQ
  intro aGY;apply(b3);apply(W)<;>intro h3;·apply(xE);refine dC L R ?_;exact⟨by simp[q0,mX,A6 kE aN (show v6 m.places.l.length y=some 1 by rw[v6,if_neg D,if_pos (by simpa[or_assoc]using h3)])];omega,rfl,rfl⟩
  apply(mD);exact dU ⟨eU+1,CO kE aN (by rw[v6,if_neg D,if_neg (by simpa[and_assoc]using h3)])⟩
 have s1:=BC kE D;apply(GZ);refine dC L R ?_;exact⟨by simp[q0,mX,s1];omega,rfl,rfl⟩
def I0(l:List h6)(i:Nat):Option Int:=
 match l[i]? with
 |none=>none
 |some p=>if p.dB< -1048576\/1048576<p.dB\/p.bY<0\/2199023255552<p.bY then some 1
  else if i=0 then none
  else match l[i-1]? with
   |none=>none
   |some q=>if p.dB<=q.dB\/q.bY<p.bY then some 14 else none
def N4(f:hY):Int:=
 if f.b9<0 then 4 else if f.hJ.l.length<1\/8<f.hJ.l.length then 2
 else((List.range f.hJ.l.length).findSome? (I0 f.hJ.l)).getD 0
def aRy{l:List h6}{k:Nat}{p:h6}(h:l[k]?=some p)(M:p.dB< -1048576\/1048576<p.dB\/p.bY<0\/2199023255552<p.bY):I0 l k=some 1:=by simp only[I0,h,if_pos M]
def aOy{l:List h6}{k:Nat}{p q:h6}(h:l[k]?=some p)(M:¬(p.dB< -1048576\/1048576<p.dB\/p.bY<0\/2199023255552<p.bY))(hk:k≠0)(cN:l[k-1]?=some q)(hb:p.dB<=q.dB\/q.bY<p.bY):I0 l k=some 14:=by simp only[I0,h,if_neg M,if_neg hk,cN,if_pos hb]
def b4u{l:List h6}{k:Nat}{p:h6}(h:l[k]?=some p)(M:¬(p.dB< -1048576\/1048576<p.dB\/p.bY<0\/2199023255552<p.bY))(hk:k=0):I0 l k=none:=by simp only[I0,h,if_neg M,if_pos hk]
def b42{l:List h6}{k:Nat}{p q:h6}(h:l[k]?=some p)(M:¬(p.dB< -1048576\/1048576<p.dB\/p.bY<0\/2199023255552<p.bY))(hk:k≠0)(cN:l[k-1]?=some q)(hb:¬(p.dB<=q.dB\/q.bY<p.bY)):I0 l k=none:=by simp only[I0,h,if_neg M,if_neg hk,cN,if_neg hb]
def b60(f:hY)(L:aP)(R:aJ)(hm:aH f.fI R):
 aI prog 184 [f.val].toArray L R (λv E G=>v=.int .i64 (N4 f)/\L=E/\R=G):=by
 refine nN call184 hm λl5=>?_;refine bW 71 call184 func184 ?_;apply(c8);intro gK;apply KL∘D1;apply(W)<;>intro aO;·exact aW8
 apply QR∘CI;apply cB (aC:=[_,_,_,_]) (j:=4) (a7:=12) rfl rfl aE rfl aW rfl;·exact YT
 intro yU;apply(b3);apply(W)<;>intro bF;·exact aXq
 apply(QS);refine c7 [(1,.pointer _),(19,.slice _ _ _),(20,.int _ _),(21,.int _ _)] bP λeZ=>?_;refine gP ([2,3,4]++b4 21 50) (λg:H0 (I0 f.hJ.l) (f.hJ.l.length)=>[(21,.int .i64 ((g.1:Nat):Int))]) (λg=>(f.hJ.l.length)-g.1) ⟨0,G9 _ _⟩ ?_;rintro⟨fM,yR,g0⟩ bZ;try dsimp only
 apply(h2);apply(W)<;>intro b2;·
  obtain⟨p,hp⟩:=mP f.hJ.l fM;apply pR∘W2∘OI;intro cT;apply dE∘rQ∘r8;apply cB (aC:=[_,_,_]) (j:=3) (a7:=29) rfl rfl aE rfl aW rfl;·exact GF
  intro iG;apply(c9);apply cB (aC:=[_,_,_]) (j:=8) (a7:=34) rfl rfl aE rfl aW rfl;·exact Ju
  intro wJ;apply(c9);apply cB (aC:=[_,_,_]) (j:=13) (a7:=39) rfl rfl aE rfl aW rfl;·exact Qz
  intro UW;apply(b3);apply(W)<;>intro dZ;·apply(IU);refine dC L R ?_;exact aNV
  apply x2∘aJ1∘g1;refine a4 YP ?_;apply(tN);refine l0 (k:=46) aW (λjM=>?_) (λjM=>?_);·
   replace jM:=a8 jM;obtain⟨q,hq⟩:=mP f.hJ.l (fM-1);apply iI∘oV∘yZ∘a5H∘CJ;refine a4 (a0K rfl rfl) ?_;apply(tN);refine l0 (k:=57) aW (λu4=>?_) (λu4=>?_);·exact aZs
   replace u4:=a8 u4;apply iI∘oV∘yZ∘a5H∘CJ;refine a4 YP ?_;apply LH∘m2;apply(W)<;>intro dX;·apply(xE);refine dC L R ?_;exact aCE
   apply(n6);exact a8p
  replace jM:=a8 jM;iterate 22 apply(kQ)
  apply(m2);refine QK rfl ?_;apply(n6);exact a8p
 exact b0P
def b8l(f:hY)(L:aP)(R:aJ)(hm:aH f.fI R):
 aI prog 248 [f.val].toArray L R (λv E G=>v=.int .i64 (N4 f)/\L=E/\R=G):=by
 refine nN call248 hm λl5=>?_;refine bW 74 call248 func248 ?_;apply(c8);intro gK;apply KL∘D1;apply(W)<;>intro aO;·exact aW8
 apply QR∘CI;apply cB (aC:=[_,_,_,_]) (j:=4) (a7:=12) rfl rfl aE rfl aW rfl;·exact YT
 intro yU;apply(b3);apply(W)<;>intro bF;·exact aXq
 apply(zH);refine c7 [(1,.pointer _),(3,.int _ _)] bP λeZ=>?_;refine gP ([2,3,4]++b4 18 56) (λg:H0 (I0 f.hJ.l) (f.hJ.l.length)=>[(3,.int .i64 ((g.1:Nat):Int))]) (λg=>(f.hJ.l.length)-g.1) ⟨0,G9 _ _⟩ ?_;rintro⟨fM,yR,g0⟩ bZ;try dsimp only
 apply(oJ);apply(W)<;>intro b2;·
  obtain⟨p,hp⟩:=mP f.hJ.l fM;apply CK∘W2∘OI;intro cT;apply rQ∘r8;apply cB (aC:=[_,_,_]) (j:=3) (a7:=33) rfl rfl aE rfl aW rfl;·exact GF
  intro iG;apply(c9);apply cB (aC:=[_,_,_]) (j:=8) (a7:=38) rfl rfl aE rfl aW rfl;·exact Ju
  intro wJ;apply(c9);apply cB (aC:=[_,_,_]) (j:=13) (a7:=43) rfl rfl aE rfl aW rfl;·exact Qz
  intro UW;apply(b3);apply(W)<;>intro dZ;·apply(IU);refine dC L R ?_;exact aNV
  apply x2∘aJ1∘g1;refine a4 YP ?_;apply(tN);refine l0 (k:=50) aW (λjM=>?_) (λjM=>?_);·
   replace jM:=a8 jM;obtain⟨q,hq⟩:=mP f.hJ.l (fM-1);apply iI∘oV∘yZ∘a5H∘CJ;refine a4 (a0K rfl rfl) ?_;apply(tN);refine l0 (k:=61) aW (λu4=>?_) (λu4=>?_);·exact aZs
   replace u4:=a8 u4;apply iI∘oV∘yZ∘a5H∘CJ;refine a4 YP ?_;apply LH∘m2;apply(W)<;>intro dX;·apply(xE);refine dC L R ?_;exact aCE
   apply(mD);exact a8p
  replace jM:=a8 jM;iterate 22 apply(kQ)
  apply(m2);refine QK rfl ?_;apply(mD);exact a8p
 exact b0P
def Ds(x:Int):Option Int:=if x<0\/262144<x then some 1 else none
def w0(l:List Int):Nat->Bool
 |0=>true
 |k+1=>w0 l k && (decide (k=0)||decide (l.getD k 0<l.getD (k-1) 0))
def b3E{l:List Int}{k n:Nat}(h:k<=n)(hf:w0 l n=true):w0 l k=true:=by
 induction n with
 |zero=>rw[show k=0 by omega];rfl
 |succ n cM=>
  rcases gY k (n+1)with cN|cN;·simp only[w0,oS]at hf;exact cM D hf.1
  ·rw[show k=n+1 by omega];exact hf
def b4I{l:List Int}{k:Nat}{x:Int}(K:l[k]?=some x):(w0 l k && (decide ((k:Int)=0)||decide (x<l.getD (k-1) 0)))=w0 l (k+1):=by rw[w0,getD_some K];congr 2;simp only[decide_eq_decide];omega
def b8Y{l:List Int}{k n:Nat}{x y:Int}(hk:k<n)(bQ:k≠0)(K:l[k]?=some x)(aN:l[k-1]?=some y)(h:y<=x):w0 l n=false:=by
 rcases hb:w0 l n with _|_;·rfl
 ·have:=b3E (show k+1<=n from hk) hb;simp only[w0,oS,Qj,decide_eq_true_eq,getD_some K,getD_some aN]at this;omega
def b2i{l:List Int}{k:Nat}{x y:Int}(bQ:k≠0)(K:l[k]?=some x)(aN:l[k-1]?=some y):w0 l (k+1)=(w0 l k && decide (x<y)):=by rw[w0,getD_some K,getD_some aN];simp[bQ]
abbrev Tb(l:List g9)(i:Nat)(d:g9):Prop:=
 d.yV≠-1/\(d.yV<0\/(l.length:Int)<=d.yV\/d.yV=(i:Int)\/(l.getD d.yV.toNat default).yV≠(i:Int))
def L1(l:List g9)(i:Nat):Option Int:=
 match l[i]? with
 |none=>none
 |some d=>if d.b9<0 then some 4 else if d.hH.l.length<2\/6<d.hH.l.length then some 2
  else match d.hH.l.findSome? Ds with
   |some e=>some e
   |none=>if w0 d.hH.l d.hH.l.length=false then some 15 else if Tb l i d then some 15 else none
def FH(l:List g9):Int:=if 16<l.length then 2 else((List.range l.length).findSome? (L1 l)).getD 0
def a4A{l:List g9}{i:Nat}{d:g9}(h:l[i]? =some d):L1 l i=if d.b9<0 then some 4 else if d.hH.l.length<2\/6<d.hH.l.length then some 2
 else match d.hH.l.findSome? Ds with
  |some e=>some e
  |none=>if w0 d.hH.l d.hH.l.length=false then some 15 else if Tb l i d then some 15 else none:=by rw[L1,h]
def Rj{l:List g9}{k:Nat}{e:Int}(bAV:¬16<l.length)(hp:(List.range l.length).findSome? (L1 l)=((List.range l.length).drop k).findSome? (L1 l))(hk:k<l.length)(h:L1 l k=some e):FH l=e:=by rw[FH,if_neg bAV,zC hp hk h];rfl
def b3M(x:a0 g9)(L:aP)(R:aJ)(hm:aH (MN x) R):
 aI prog 185 [x.val].toArray L R (λv E G=>v=.int .i64 (FH x.l)/\L=E/\R=G):=by
 refine nN call185 hm λl5=>?_;refine bW 95 call185 func185 ?_;apply TK∘nO∘BA;apply(W)<;>intro aO;·exact aXd
 apply iK∘D2;refine c7 [(0,.slice _ _ _),(11,.slice _ _ _),(12,.int _ _),(13,.int _ _)] bP λeZ=>?_;refine gP (b4 2 6++b4 13 82) (λg:H0 (L1 x.l) (x.l.length)=>[(13,.int .i64 ((g.1:Nat):Int))]) (λg=>(x.l.length)-g.1) ⟨0,G9 _ _⟩ ?_;rintro⟨fM,yR,g0⟩ bZ;try dsimp only
 apply(h2);apply(W)<;>intro bF;·
  obtain⟨d,hd⟩:=mP x.l fM;have OU:=aH.uD hm hd;have FX:=a4A hd;apply pR∘W2∘Pu∘dA;intro cT;apply dE∘G6∘D1;apply(W)<;>intro b2;·exact aY2
  apply QR∘CI;apply cB (aC:=[_,_,_,_]) (j:=4) (a7:=25) rfl rfl aE rfl aW rfl;·exact YT
  intro yU;apply(b3);apply(W)<;>intro dZ;·apply(IU);refine dC L R ?_;exact aLC
  rw[if_neg D,if_neg D]at FX;apply eR∘IQ∘r9;refine zY (b4 2 6++b4 13 82) AZ [(3,.int _ _),(4,.pointer _),(5,.bool _),(13,.int _ _),(32,.slice _ _ _),(33,.int _ _),(34,.int _ _)] bP λnS=>?_;refine gP ([2,5,6,7]++b4 34 27) (λg:FS (Ds) (d.hH.l)=>[(34,.int .i64 ((g.1:Nat):Int)),(5,.bool (w0 d.hH.l g.1))]) (λg=>(d.hH.l).length-g.1) ⟨0,BL _ _⟩ ?_;rintro⟨eU,e6,kE⟩ bZ;try dsimp only
  apply(h2);apply(W)<;>intro dX;·
   obtain⟨r,M⟩:=mP d.hH.l eU;apply pR∘Kn∘jI∘dE∘WL;apply cB (aC:=[_,_]) (j:=2) (a7:=41) rfl rfl aE rfl aW rfl;·exact GG
   intro mY;apply(b3);apply(W)<;>intro h3;·apply(rN);refine eI (aZ (iT (gD (iS (gD (wS (iS (gD (iS (gD (wS (iS (gD ?_)))))))))))));refine dC L R ?_;exact aQ7
   refine dK (aZ (cR ?_));apply c9∘c9;apply iZ (aC:=[_,_,_,_,_,_,_,_,_,_,_,_]) (j:=1) (a7:=46) rfl rfl aE rfl aW rfl;·
    intro jM;replace jM:=a8 jM;apply b1∘tC;apply cB (aC:=[_,_,_,_,_,_,_,_]) (j:=4) (a7:=49) rfl rfl aE rfl aW rfl;·intro gW;replace gW:=a8 gW;have aN:=bJ d.hH.l (eU-1) 0;apply b1∘a5i;refine aG (by first|exact j9 O rfl rfl rfl rfl jC (i:=eU-1) cW D|exact i9 O rfl rfl rfl rfl (i:=eU-1) cW D) ?_;exact(jI) GD
    intro yU;exact hL
   intro aUc;apply uN∘wB;exact oT ⟨eU+1,CO kE M (if_neg D)⟩ kG ⟨rfl,congrArg Value.bool (b4I M),trivial⟩ a2 fF k1
  have s1:=BC kE D;obtain rfl:eU=d.hH.l.length:=by omega
  rw[s1]at FX;dsimp only at FX;apply AV∘WK;apply(W)<;>intro hW;·apply(IU);refine dC L R ?_;exact⟨by rw[Rj D g0 D (FX.trans (by rw[if_pos hW]))],rfl,rfl⟩
  rw[if_neg (by simp[hW])]at FX;apply eR∘fH∘rO;apply iZ (aC:=[_,_,_,_,_,_,_,_,_,_,_,_,_,_,_,_,_,_,_,_,_,_,_,_,_,_]) (j:=3) (a7:=66) rfl rfl aE rfl aW rfl;·
   intro eN;replace eN:=a8 eN;apply(r8);apply cB (aC:=[_,_,_,_,_]) (j:=7) (a7:=70) rfl rfl aE rfl aW rfl;·exact aX5
   intro RP;apply(c9);apply cB (aC:=[_,_,_,_]) (j:=14) (a7:=77) rfl rfl aE rfl aW rfl;·intro qT;replace qT:=a8 qT;exact(gE) LP
   intro UX;apply(c9);apply cB (aC:=[_,_,_,_,_,_,_,_]) (j:=20) (a7:=83) rfl rfl aE rfl aW rfl;·exact aYV
   intro a2l;exact hL
  intro iG;apply(b3);apply(W)<;>intro oO;·exact aYi
  apply(n6);exact aXW
 exact aYE
def b8E(x:a0 g9)(L:aP)(R:aJ)(hm:aH (MN x) R):
 aI prog 249 [x.val].toArray L R (λv E G=>v=.int .i64 (FH x.l)/\L=E/\R=G):=by
 refine nN call249 hm λl5=>?_;refine bW 104 call249 func249 ?_;apply TK∘nO∘BA;apply(W)<;>intro aO;·exact aXd
 apply(zH);refine c7 [(0,.slice _ _ _),(3,.int _ _)] bP λeZ=>?_;refine gP ([2,3,4,5,6]++b4 10 94) (λg:H0 (L1 x.l) (x.l.length)=>[(3,.int .i64 ((g.1:Nat):Int))]) (λg=>(x.l.length)-g.1) ⟨0,G9 _ _⟩ ?_;rintro⟨fM,yR,g0⟩ bZ;try dsimp only
 apply(uA);apply(W)<;>intro bF;·
  obtain⟨d,hd⟩:=mP x.l fM;have OU:=aH.uD hm hd;have FX:=a4A hd;apply j7∘h7∘W2∘Pu∘dA;intro cT;apply G6∘D1;apply(W)<;>intro b2;·exact aY2
  apply QR∘CI;apply cB (aC:=[_,_,_,_]) (j:=4) (a7:=27) rfl rfl aE rfl aW rfl;·exact YT
  intro yU;apply(b3);apply(W)<;>intro dZ;·apply(IU);refine dC L R ?_;exact aLC
  rw[if_neg D,if_neg D]at FX;apply(zH);refine zY ([2,3,4,5,6]++b4 10 94) AZ [(3,.int _ _),(4,.pointer _),(5,.int _ _)] bP λnS=>?_;refine gP ([2,5]++b4 33 21) (λg:FS (Ds) (d.hH.l)=>[(5,.int .i64 ((g.1:Nat):Int))]) (λg=>(d.hH.l).length-g.1) ⟨0,BL _ _⟩ ?_;rintro⟨eU,e6,kE⟩ bZ;try dsimp only
  apply(oJ);apply(W)<;>intro dX;·
   obtain⟨r,M⟩:=mP d.hH.l eU;apply CK∘Kn∘jI∘CI;apply cB (aC:=[_,_,_,_,_,_]) (j:=6) (a7:=46) rfl rfl aE rfl aW rfl;·intro kC;replace kC:=a8 kC;exact(gE∘Kn∘jI) PQ
   intro JG;apply(b3);apply(W)<;>intro h3;·apply(rN);refine eI (aZ (iT (iS (gD (wS (iS (gD (iS (gD (wS (iS (gD ?_))))))))))));refine dC L R ?_;exact aQ7
   apply(mD);exact dU ⟨eU+1,CO kE M (if_neg D)⟩
  have s1:=BC kE D;rw[s1]at FX;dsimp only at FX;apply(G0);refine zY ([2,3,4,5,6]++b4 10 94) AZ [(3,.int _ _),(4,.pointer _),(6,.int _ _)] bP λNH=>?_;refine gP ([2,6]++b4 54 19) (λg:{k:Nat//1<=k/\k<=d.hH.l.length/\w0 d.hH.l k=true}=>[(6,.int .i64 ((g.1:Nat):Int))]) (λg=>d.hH.l.length-g.1) (⟨1,by omega,by omega,by simp[w0]⟩) ?_;rintro⟨eE,bI8,bI9,aSc⟩ bZ;try dsimp only
  apply(oJ);apply(W)<;>intro hW;·
   obtain⟨r,M⟩:=mP d.hH.l eE;obtain⟨y,aN⟩:=mP d.hH.l (eE-1);refine dK (aZ (a6 (e3 (a6 ?_))));refine gJ O [0,1,2,3,4,5,6,7,8,9,10,11] _ cX bE g3 ?_;apply WG∘lW∘oV∘yZ;refine a4 (by first|exact j9 O rfl rfl rfl rfl jC (i:=eE-1) cW D|exact i9 O rfl rfl rfl rfl (i:=eE-1) cW D) ?_;apply(lW);refine a4 JU ?_;apply(vW);apply(W)<;>intro oO;·apply(rN);refine eI (aZ (iT (iS (gD (wS (iS (gD (iS (gD (wS (iS (gD ?_))))))))))));refine dC L R ?_;exact⟨by rw[Rj D g0 D (FX.trans (by rw[if_pos (b8Y D D M aN oO)]))],rfl,rfl⟩
   apply(mD);exact dU (⟨eE+1,by omega,by omega,by rw[b2i D M aN,aSc,Bool.true_and,decide_eq_true_eq];omega⟩)
  obtain rfl:eE=d.hH.l.length:=by omega
  rw[if_neg (by simp[aSc])]at FX;apply oD∘fH∘rO;apply iZ (aC:=[_,_,_,_,_,_,_,_,_,_,_,_,_,_,_,_,_,_,_,_,_,_,_,_,_,_]) (j:=3) (a7:=76) rfl rfl aE rfl aW rfl;·
   intro eN;replace eN:=a8 eN;apply(r8);apply cB (aC:=[_,_,_,_,_]) (j:=7) (a7:=80) rfl rfl aE rfl aW rfl;·exact aX5
   intro RP;apply(c9);apply cB (aC:=[_,_,_,_]) (j:=14) (a7:=87) rfl rfl aE rfl aW rfl;·intro qT;replace qT:=a8 qT;exact(gE) LP
   intro UX;apply(c9);apply cB (aC:=[_,_,_,_,_,_,_,_]) (j:=20) (a7:=93) rfl rfl aE rfl aW rfl;·exact aYV
   intro a2l;exact hL
  intro iG;apply(b3);apply(W)<;>intro FV;·exact aYi
  apply(mD);exact aXW
 exact aYE
def Eo(n:Nat)(f:hY):Option Int:=if N4 f≠0 then some (N4 f)else if(n:Int)<=f.b9 then some 4 else none
def Dq(n:Nat)(d:g9):Option Int:=if(n:Int)<=d.b9 then some 4 else none
def hO(x:bR):Int:=
 if q0 x.Y≠0 then q0 x.Y else if 8<x.a3.l.length then 2
 else match x.a3.l.findSome? (Eo x.Y.aD.l.length)with
  |some e=>e
  |none=>if FH x.aX.l≠0 then FH x.aX.l else(x.aX.l.findSome? (Dq x.Y.aD.l.length)).getD 0
def aKG{x:bR}(h:q0 x.Y=0)(KX:¬8<x.a3.l.length){e:Int}(hf:x.a3.l.findSome? (Eo x.Y.aD.l.length)=some e):hO x=e:=by rw[hO,if_neg D,if_neg KX,hf]
def aBA{x:bR}(h:q0 x.Y=0)(KX:¬8<x.a3.l.length)(hf:x.a3.l.findSome? (Eo x.Y.aD.l.length)=none):
 hO x=if FH x.aX.l≠0 then FH x.aX.l else(x.aX.l.findSome? (Dq x.Y.aD.l.length)).getD 0:=by rw[hO,if_neg D,if_neg KX,hf]
def a4x(x:bR)(L:aP)(R:aJ)(hm:nT x R):
 aI prog 109 [x.val].toArray L R (λv E G=>v=.int .i64 (hO x)/\L=E/\R=G):=by
 have tJ:=hm.a3;have pU:=hm.aX;refine nN call109 tJ λBP=>?_;refine nN call109 pU λJA=>?_;refine bW 61 call109 func109 ?_;apply(c8);intro gK;apply g7∘CM;refine cC rfl (aOT x.Y _ _ hm.YB) ?_;apply(kB);apply(W)<;>intro aO;·exact aW9
 simp only[a8B]at aO;apply QR∘BA;apply(W)<;>intro bF;·exact aXu
 apply(QS);refine c7 [(1,.pointer _),(21,.slice _ _ _),(22,.int _ _),(23,.int _ _)] bP λeZ=>?_;refine gP ([2,5,6]++b4 23 17) (λg:FS (Eo x.Y.aD.l.length) (x.a3.l)=>[(23,.int .i64 ((g.1:Nat):Int))]) (λg=>(x.a3.l).length-g.1) ⟨0,BL _ _⟩ ?_;rintro⟨fM,yR,g0⟩ bZ;try dsimp only
 apply(h2);apply(W)<;>intro b2;·
  obtain⟨f,hf⟩:=mP x.a3.l fM;have kS:=aH.nD tJ hf;apply j7∘W2∘OH;intro eH;apply rQ∘sD;refine cC rfl (b60 f _ _ kS) ?_
  skip
  apply(kB);apply(W)<;>intro dZ;·exact b0i
  apply eR∘fH∘z3∘GY;apply(W)<;>intro dX;·exact b0H
  apply(n6);exact aXn
 have mX:=BC g0 D;have M:=aBA aO D mX;apply AV∘fH;refine cC rfl (b3M x.aX _ _ pU) ?_;apply(kB);apply(W)<;>intro h3;·exact aXa
 rw[if_neg h3]at M;apply(QS);refine c7 [(1,.pointer _),(47,.slice _ _ _),(48,.int _ _),(49,.int _ _)] bP λnS=>?_;refine gP ([2,9]++b4 49 12) (λg:FS (Dq x.Y.aD.l.length) (x.aX.l)=>[(49,.int .i64 ((g.1:Nat):Int))]) (λg=>(x.aX.l).length-g.1) ⟨0,BL _ _⟩ ?_;rintro⟨eU,e6,kE⟩ bZ;try dsimp only
 apply(h2);apply(W)<;>intro hW;·
  obtain⟨d,hd⟩:=mP x.aX.l eU;apply j7∘Kn∘Pu∘dA;intro h8;apply CL∘z3∘GY;apply(W)<;>intro oO;·exact b0j
  apply(n6);exact dU ⟨eU+1,CO kE hd (if_neg oO)⟩
 exact b0g
def Yu(x:bR)(L:aP)(R:aJ)(hm:nT x R):
 aI prog 202 [x.val].toArray L R (λv E G=>v=.int .i64 (hO x)/\L=E/\R=G):=by
 have tJ:=hm.a3;have pU:=hm.aX;refine nN call202 tJ λBP=>?_;refine nN call202 pU λJA=>?_;refine bW 69 call202 func202 ?_;apply(c8);intro gK;apply g7∘CM;refine cC rfl (b8g x.Y _ _ hm.YB) ?_;apply(kB);apply(W)<;>intro aO;·exact aW9
 simp only[a8B]at aO;apply QR∘BA;apply(W)<;>intro bF;·exact aXu
 apply(zH);refine c7 [(1,.pointer _),(4,.int _ _)] bP λeZ=>?_;refine gP ([2,4,5]++b4 18 27) (λg:FS (Eo x.Y.aD.l.length) (x.a3.l)=>[(4,.int .i64 ((g.1:Nat):Int))]) (λg=>(x.a3.l).length-g.1) ⟨0,BL _ _⟩ ?_;rintro⟨fM,yR,g0⟩ bZ;try dsimp only
 apply(oJ);apply(W)<;>intro b2;·
  obtain⟨f,hf⟩:=mP x.a3.l fM;have kS:=aH.nD tJ hf;refine dK (aZ (a6 (e3 (a6 (a6 (cR ?_))))));apply gE∘W2∘aVc;refine cC rfl (b8l f _ _ kS) ?_;apply(kB);apply(W)<;>intro dZ;·exact b0i
  apply x2∘aB8∘oV;refine a4 R6 ?_;apply CJ∘OE;refine a4 vZ ?_;refine a4 JU ?_;apply(vW);apply(W)<;>intro dX;·exact b0H
  apply(mD);exact aXn
 have mX:=BC g0 D;have M:=aBA aO D mX;apply AV∘fH;refine cC rfl (b8E x.aX _ _ pU) ?_;apply(kB);apply(W)<;>intro h3;·exact aXa
 rw[if_neg h3]at M;apply(zH);refine c7 [(1,.pointer _),(7,.int _ _)] bP λnS=>?_;refine gP ([2,7]++b4 51 18) (λg:FS (Dq x.Y.aD.l.length) (x.aX.l)=>[(7,.int .i64 ((g.1:Nat):Int))]) (λg=>(x.aX.l).length-g.1) ⟨0,BL _ _⟩ ?_;rintro⟨eU,e6,kE⟩ bZ;try dsimp only
 apply(oJ);apply(W)<;>intro hW;·
  obtain⟨d,hd⟩:=mP x.aX.l eU;refine dK (aZ (a6 (e3 (a6 ?_))));apply aB8∘oV∘a57∘CJ∘OE;refine a4 vZ ?_;refine a4 JU ?_;apply(vW);apply(W)<;>intro oO;·exact b0j
  apply(mD);exact dU ⟨eU+1,CO kE hd (if_neg oO)⟩
 exact b0g
def Rk(x:Int):Option Unit:=if x< -1\/2<x then some ()else none
def SF(l:List g9)(s:List Int)(i:Nat):Option Unit:=
 match s[i]?,l[i]? with
 |some y,some d=>if y< -1\/(d.hH.l.length:Int)<=y then some ()else none
 |_,_=>none
def lL(a:bR)(s:cE):Bool:=
 if s.a3.l.length≠a.a3.l.length\/s.aX.l.length≠a.aX.l.length then false
 else(s.a3.l.findSome? Rk).isNone && ((List.range s.aX.l.length).findSome? (SF a.aX.l s.aX.l)).isNone
def SB(a:bR)(s:cE):Bool:=decide (hO a=0) && lL a s
def a42{l:List g9}{s:List Int}{i:Nat}{y:Int}{d:g9}(aN:s[i]?=some y)(hd:l[i]?=some d):SF l s i=if y< -1\/(d.hH.l.length:Int)<=y then some ()else none:=by rw[SF,aN,hd]
def Ln{a:bR}{s:cE}(h:s.a3.l.length=a.a3.l.length)(cN:s.aX.l.length=a.aX.l.length):lL a s=((s.a3.l.findSome? Rk).isNone && ((List.range s.aX.l.length).findSome? (SF a.aX.l s.aX.l)).isNone):=by rw[lL,if_neg D]
def aBU(a:bR)(s:cE)(L:aP)(R:aJ)(hm:nT a R)(hs:o2 s R):
 aI prog 110 [a.val,s.val].toArray L R (λv E G=>v=.bool (lL a s)/\L=E/\R=G):=by
 have tJ:=hm.a3;have pU:=hm.aX;have Bo:=hs.a3;have X4:=hs.aX;refine nN call110 Bo λBP=>?_;refine nN call110 X4 λJA=>?_;refine bW 61 call110 func110 ?_;apply(c8);intro cS;apply(iU);intro dG;apply IQ∘lM∘lM∘rO;apply cB (aC:=[_,_,_,_,_,_,_]) (j:=7) (a7:=16) rfl rfl aE rfl aW rfl;·intro hX;replace hX:=a8 hX;exact(lM) Ji
 intro RP;apply(b3);apply(W)<;>intro aO;·apply(OA);refine lG L R ?_;exact⟨by rw[lL,if_pos D],rfl,rfl⟩
 apply(QS);refine c7 [(2,.pointer _),(3,.pointer _),(26,.slice _ _ _),(27,.int _ _),(28,.int _ _)] bP λeZ=>?_;refine gP ([4,6]++b4 28 11) (λg:FS (Rk) (s.a3.l)=>[(28,.int .i64 ((g.1:Nat):Int))]) (λg=>(s.a3.l).length-g.1) ⟨0,BL _ _⟩ ?_;rintro⟨fM,yR,g0⟩ bZ;try dsimp only
 apply(h2);apply(W)<;>intro bF;·
  obtain⟨x,K⟩:=mP s.a3.l fM;apply j7∘W2∘jI∘pQ∘CI;apply cB (aC:=[_,_]) (j:=2) (a7:=34) rfl rfl aE rfl aW rfl;·exact GG
  intro mY;apply(b3);apply(W)<;>intro b2;·apply(FC);refine lG L R ?_;exact⟨by rw[Ln D D,A6 g0 K (if_pos D)];rfl,rfl,rfl⟩
  apply(n6);exact dU ⟨fM+1,CO g0 K (if_neg D)⟩
 have mX:=BC g0 D;apply AV∘r9;refine c7 [(2,.pointer _),(40,.slice _ _ _),(41,.int _ _),(42,.int _ _)] bP λnS=>?_;refine gP ([4,7,8]++b4 42 19) (λg:H0 (SF a.aX.l s.aX.l) (s.aX.l.length)=>[(42,.int .i64 ((g.1:Nat):Int))]) (λg=>(s.aX.l.length)-g.1) ⟨0,G9 _ _⟩ ?_;rintro⟨eU,e6,kE⟩ bZ;try dsimp only
 apply(h2);apply(W)<;>intro dZ;·
  obtain⟨y,aN⟩:=mP s.aX.l eU;obtain⟨d,hd⟩:=mP a.aX.l eU;have X:=a42 aN hd;apply pR∘Kn∘jI∘dE∘pQ∘CI;apply cB (aC:=[_,_,_,_,_,_,_,_,_]) (j:=2) (a7:=49) rfl rfl aE rfl aW rfl;·intro fD;replace fD:=a8 fD;exact(b1∘gE∘Kn∘sW∘vV) PP
  intro mY;apply(b3);apply(W)<;>intro dX;·apply(FC);refine lG L R ?_;exact⟨by rw[Ln D D,zC kE D (X.trans (if_pos D))];simp,rfl,rfl⟩
  apply(n6);exact aXZ
 have s1:=KO kE D;apply(WF);refine lG L R ?_;exact⟨by rw[Ln D D,mX,s1];rfl,rfl,rfl⟩
def aBJ(a:bR)(s:cE)(L:aP)(R:aJ)(hm:nT a R)(hs:o2 s R):
 aI prog 208 [a.val,s.val].toArray L R (λv E G=>v=.bool (SB a s)/\L=E/\R=G):=by
 have tJ:=hm.a3;have pU:=hm.aX;have Bo:=hs.a3;have X4:=hs.aX;refine nN call208 Bo λBP=>?_;refine nN call208 X4 λJA=>?_;refine bW 77 call208 func208 ?_;apply(c8);intro cS;apply(iU);intro dG;apply IQ∘sD;refine cC rfl (Yu a _ _ hm) ?_;apply(rO);apply cB (aC:=[_,_,_,_,_,_,_]) (j:=3) (a7:=10) rfl rfl aE rfl aW rfl;·intro eN;replace eN:=a8 eN;exact(lM) Ji
 intro iG;apply(c9);apply cB (aC:=[_,_,_,_,_,_,_]) (j:=12) (a7:=19) rfl rfl aE rfl aW rfl;·intro u4;replace u4:=a8 u4;exact(lM) Ji
 intro bFA;apply(b3);apply(W)<;>intro aO;·
  have M:SB a s=false:=by rw[SB,lL];by_cases X:hO a=0;rw[if_pos D];simp;simp[X]
  apply(OA);refine lG L R ?_;exact⟨by rw[M],rfl,rfl⟩
 have M:SB a s=lL a s:=by rw[SB,decide_eq_true D];rfl
 apply(zH);refine c7 [(2,.pointer _),(3,.pointer _),(5,.int _ _)] bP λeZ=>?_;refine gP ([4,5]++b4 28 21) (λg:FS (Rk) (s.a3.l)=>[(5,.int .i64 ((g.1:Nat):Int))]) (λg=>(s.a3.l).length-g.1) ⟨0,BL _ _⟩ ?_;rintro⟨fM,yR,g0⟩ bZ;try dsimp only
 apply(oJ);apply(W)<;>intro bF;·
  obtain⟨x,K⟩:=mP s.a3.l fM;apply CK∘W2∘jI∘CI;apply cB (aC:=[_,_,_,_,_,_]) (j:=6) (a7:=41) rfl rfl aE rfl aW rfl;·intro kC;replace kC:=a8 kC;exact(gE∘W2∘jI) PQ
  intro JG;apply(b3);apply(W)<;>intro b2;·apply(FC);refine lG L R ?_;exact⟨by rw[M,Ln D D,A6 g0 K (if_pos D)];rfl,rfl,rfl⟩
  apply(mD);exact dU ⟨fM+1,CO g0 K (if_neg D)⟩
 have mX:=BC g0 D;apply(G0);refine c7 [(2,.pointer _),(3,.pointer _),(6,.int _ _)] bP λnS=>?_;refine gP ([4,6]++b4 49 28) (λg:H0 (SF a.aX.l s.aX.l) (s.aX.l.length)=>[(6,.int .i64 ((g.1:Nat):Int))]) (λg=>(s.aX.l.length)-g.1) ⟨0,G9 _ _⟩ ?_;rintro⟨eU,e6,kE⟩ bZ;try dsimp only
 apply(oJ);apply(W)<;>intro dZ;·
  obtain⟨y,aN⟩:=mP s.aX.l eU;obtain⟨d,hd⟩:=mP a.aX.l eU;have X:=a42 aN hd;refine dK (aZ (a6 (e3 (a6 ?_))));refine gJ O [0,1,2,3,4,5,6,7,8,9,10,11,12,13,14,15,16,17,18,19,20] _ cX bE g3 ?_;apply oV∘a57∘lW;refine a4 HY ?_;apply(tN);refine l0 (k:=62) aW (λk5=>?_) (λk5=>?_);·replace k5:=a8 k5;(iterate 13 apply(kQ));apply(m2);refine wR rfl ?_;apply(FC);refine lG L R ?_;exact aLf
  replace k5:=a8 k5;apply oV∘a57∘lW∘oV∘a57∘CJ;refine a4 vZ ?_;refine a4 JU ?_;apply(m2);apply(W)<;>intro dX;·apply(FC);refine lG L R ?_;exact aLf
  apply(mD);exact aXZ
 have s1:=KO kE D;apply(WF);refine lG L R ?_;exact⟨by rw[M,Ln D D,mX,s1];rfl,rfl,rfl⟩
def SR(l:List Int):Nat->Int
 |0=>l.getD 0 0
 |k+1=>min (SR l k) (l.getD k 0)
def SK(l:List Int):Nat->Int
 |0=>l.getD 0 0
 |k+1=>max (SK l k) (l.getD k 0)
def v1(d:g9)(s:Int):a9:=
 if d.hH.l.length=0\/s< -1\/(d.hH.l.length:Int)<=s then⟨0,0⟩
 else if s= -1 then⟨SR d.hH.l d.hH.l.length,SK d.hH.l d.hH.l.length⟩
 else⟨d.hH.l.getD s.toNat 0,d.hH.l.getD s.toNat 0⟩
def b73(x:a0 Int)(L:aP)(R:aJ)(hm:aH (cZ x) R)(N:1<=x.l.length):
 aI prog 244 [x.val].toArray L R (λv E G=>v=.int .i64 (SR x.l x.l.length)/\L=E/\R=G):=by
 refine nN call244 hm λl5=>?_;have bQ:=bJ x.l 0 0;refine bW 25 call244 func244 ?_;apply TK∘aOF;refine a5G aW B6 ?_;apply G1∘Io∘jI∘g7∘mM;refine c7 [(0,.slice _ _ _),(3,.int _ _),(4,.int _ _)] bP λeZ=>?_;refine aAm ([3,4]++b4 12 12) (λg:{k:Nat//1<=k/\k<=x.l.length}=>[(4,.int .i64 ((g.1:Nat):Int)),(3,.int .i64 (SR x.l g.1))]) (λg=>x.l.length-g.1) (⟨1,by omega,by omega⟩) ⟨rfl,congrArg (Value.int .i64) (Int.min_self _).symm,trivial⟩ ?_;rintro⟨k,e6,hK⟩ bZ;try dsimp only
 apply(uA);apply(W)<;>intro bF;·have hk:=bJ x.l k 0;refine dK (aZ (a6 (e3 (cR ?_))));apply b1∘h7∘B2∘jI;refine aG NR ?_;exact(dE∘GV) aVa
 obtain rfl:k=x.l.length:=by omega
 exact(WH) a2U
def b3c(x:a0 Int)(L:aP)(R:aJ)(hm:aH (cZ x) R)(N:1<=x.l.length):
 aI prog 245 [x.val].toArray L R (λv E G=>v=.int .i64 (SK x.l x.l.length)/\L=E/\R=G):=by
 refine nN call245 hm λl5=>?_;have bQ:=bJ x.l 0 0;refine bW 25 call245 func245 ?_;apply TK∘aOF;refine a5G aW B6 ?_;apply G1∘Io∘jI∘g7∘mM;refine c7 [(0,.slice _ _ _),(3,.int _ _),(4,.int _ _)] bP λeZ=>?_;refine aAm ([3,4]++b4 12 12) (λg:{k:Nat//1<=k/\k<=x.l.length}=>[(4,.int .i64 ((g.1:Nat):Int)),(3,.int .i64 (SK x.l g.1))]) (λg=>x.l.length-g.1) (⟨1,by omega,by omega⟩) ⟨rfl,congrArg (Value.int .i64) (Int.max_self _).symm,trivial⟩ ?_;rintro⟨k,e6,hK⟩ bZ;try dsimp only
 apply(uA);apply(W)<;>intro bF;·have hk:=bJ x.l k 0;refine dK (aZ (a6 (e3 (cR ?_))));apply b1∘h7∘B2∘jI;refine aG B9 ?_;exact(dE∘GV) aVa
 obtain rfl:k=x.l.length:=by omega
 exact(WH) a2U
def b7Z(d:g9)(s:Int)(L:aP)(R:aJ)(hm:aH d.fI R):
 aI prog 192 [d.val,.int .i64 s].toArray L R (λv E G=>v=(v1 d s).val/\L=E/\R=G):=by
 refine nN call192 hm λl5=>?_;refine bW 43 call192 func192 ?_;apply(c8);intro cS;apply(dA);intro cT;refine eI (aZ (a6 (e3 (a6 (cR ?_)))));apply lM∘tC;apply cB (aC:=[_,_]) (j:=4) (a7:=10) rfl rfl aE rfl aW rfl;·intro gW;replace gW:=a8 gW;exact(b1) GD
 intro yU;apply(c9);apply cB (aC:=[_,_,_,_,_]) (j:=8) (a7:=14) rfl rfl aE rfl aW rfl;·intro gM;replace gM:=a8 gM;exact(a0i) hL
 intro wJ;apply(zF);apply(W)<;>intro aO;·apply ZX∘i3∘NF;exact aWV
 apply yF∘v8;apply(W)<;>intro bF;·refine a6 ?_;refine hF O [] [0,1,3,4,2,5,6] [7] (_) _ cX bE a2 Jm ?_;apply(QV);refine k2 rfl (b73 d.hH _ _ hm D) rfl rfl ?_;rintro v E G ⟨rfl,rfl,rfl⟩;refine⟨a2,gN,?_⟩;refine k2 rfl (b3c d.hH _ _ hm D) rfl rfl ?_;rintro v E G ⟨rfl,rfl,rfl⟩;refine⟨a2,gN,?_⟩;apply Cn∘p7;refine gS (aZ (iT (iS (gD ?_))));exact aXJ
 refine dK (gV (aZ (a6 ?_)));have hk:=bJ d.hH.l s.toNat 0;apply aMW∘CN∘a5U∘vA∘CN∘a5U∘vA∘Cn∘p7;refine gS (aZ (iT ?_));exact aXK
def aOW(d:g9)(s:Int)(L:aP)(R:aJ)(hm:aH d.fI R):
 aI prog 181 [d.val,.int .i64 s].toArray L R (λv E G=>v=(v1 d s).val/\L=E/\R=G):=by
 refine nN call181 hm λl5=>?_;refine bW 71 call181 func181 ?_;apply(c8);intro cS;apply(dA);intro cT;apply r1∘lM∘tC;apply cB (aC:=[_,_]) (j:=4) (a7:=11) rfl rfl aE rfl aW rfl;·intro gW;replace gW:=a8 gW;exact(b1) GD
 intro yU;apply(c9);apply cB (aC:=[_,_,_,_,_]) (j:=8) (a7:=15) rfl rfl aE rfl aW rfl;·intro gM;replace gM:=a8 gM;exact(a0i) hL
 intro wJ;apply(b3);apply(W)<;>intro aO;·apply ZX∘FB;exact aWV
 apply iK∘b1∘GY;apply(W)<;>intro bF;·refine a6 ?_;have hk:=bJ d.hH.l s.toNat 0;apply aMW∘CN∘a5U∘vA∘CN∘a5U∘vA∘Cn∘p7;refine gS (aZ (iT (gD ?_)));exact aXK
 apply(x2);have bQ:=bJ d.hH.l 0 0;apply aB8∘iI∘aHu∘lW∘iI∘aHu∘lW;refine a4 Xo ?_;apply(p2);intro eH;apply sE∘LI∘mM;refine c7 [(2,.pointer _),(4,.pointer _),(5,.pointer _),(6,.int _ _)] bP λeZ=>?_;refine kO ([6]++b4 45 25) ((⟨λg=>[(6,.int .i64 ((g.1:Nat):Int))],λg=>⟨eH,[.int .i64 (SR d.hH.l g.1),.int .i64 (SK d.hH.l g.1)],90⟩::⟨cT,[.int .i64 0,.int .i64 0],90⟩::⟨cS,d.cells,239⟩::L,λ_=>R,λg=>d.hH.l.length-g.1⟩:dV {k:Nat//k<=d.hH.l.length})) (⟨0,by omega⟩) ?_;rintro⟨k,hk⟩ bZ;try dsimp only
 apply(oJ);apply(W)<;>intro b2;·have K:=bJ d.hH.l k 0;refine dK (aZ (a6 (e3 ?_)));refine hF O [62,63,64,65,66,67] [0,1,2,3,4,5,6,7,8,9,10,11,12,13,14,15,16] [17,18,19] (_) _ cX bE a2 (by(repeat(first|apply List.Sublist.cons (a:=a5.mk eH _ _)|apply List.Sublist.cons_cons));exact oR _) ?_;apply l1∘CN∘aHp∘vA;refine eO NR ?_;apply l1∘IM;refine m5 zV ?_;refine m5 a3a ?_;refine m5 Jo ?_;refine m5 B9 ?_;apply TA∘kT∘Ik∘z4;exact dU ⟨k+1,by omega⟩
 obtain rfl:k=d.hH.l.length:=by omega
 apply(Si);exact aXJ
end Go.Proofs.YtchfclmokpbldaaGreat
def aMZ(h:A->B:=by exact hF O [92,93,94,95] [0,1,2,3,4,5,6,7,8,9,10,11,12] [13,14,15] (_) _ cX bE a2 b03):=h
def b7H(h:A->B:=by exact hF O [132,133,134] [0,1,2,3,4,5,6,7,8,9,10] [11,12,13] (_) _ cX bE a2 b03):=h
namespace Go.Proofs.YtchfclmokpbldaaGreat
open Go.Aw Go Go.Proofs.Tryz
attribute [local irreducible] cH c6 dP aI cJ eD e9 e0 e1 e5 eS e8
def b6O(x y:Int)(L:aP)(R:aJ)(K:0<=x)(rY:x<=2199023255552)(aN:0<=y)(RN:y<=4194304):
 aI prog 303 [.int .u64 x,.int .u64 y].toArray L R (λv E G=>v=.tuple #[.int .u64 0,.int .u64 (x*y)]/\L=E/\R=G):=by
 have dY:y%4294967296=y:=by omega
 have eY:y/4294967296=0:=by omega
 have a0L:0<=x%4294967296*y:=y4 D aN;have gK:x%4294967296*y<=4294967296*4194304:=JS D RN aN D;have aRV:0<=x/4294967296*y:=y4 D aN;have yN:x/4294967296*y<=512*4194304:=JS D RN aN D;have XC:0<=x*y:=y4 K aN;have d1:x*y<=2199023255552*4194304:=JS rY RN aN D;refine bW 51 call303 func303 ?_;apply rN∘pQ;refine aG (aBS rfl rfl D D) ?_;apply(pQ);refine aG (a0z rfl rfl) ?_;apply(pQ);refine aG (aBS rfl rfl D D) ?_;apply(pQ);refine aG (a0z rfl rfl) ?_;apply(zG);simp only[dY,eY];apply p8∘OC∘pQ∘OC∘b1;refine aG (a0z rfl rfl) ?_;apply l8∘pQ;refine aG (aBS rfl rfl D D) ?_;apply(pQ);refine aG (a0z rfl rfl) ?_;apply(mL);iterate 3 apply(b1)
 apply RW∘l8∘pQ∘OC∘z2∘b1;refine aG (a0z rfl rfl) ?_;apply l8∘pQ∘OC∘q3;have key:(x/4294967296*y+x%4294967296*y/4294967296)/4294967296+(x/4294967296*y+x%4294967296*y/4294967296)%4294967296/4294967296=0:=by omega
 refine bN L R DQ ?_;exact⟨by simp[key],rfl,rfl⟩
def b2B(b6 y:Int)(L:aP)(R:aJ)(K:0<=b6)(rY:b6<=18446744073709551615)(aN:0<y)(RN:y<=18446744073709551615):
 aI prog 304 [.int .u64 0,.int .u64 b6,.int .u64 y].toArray L R (λv E G=>v=.tuple #[.int .u64 (b6/y),.int .u64 (b6%y)]/\L=E/\R=G):=by refine bW 135 call304 func304 ?_;apply rN∘Ez∘mT;refine a5G aW B6 ?_;apply iK∘pS∘S9;refine a5G aW B6 ?_;apply iK∘b1∘mT;refine b6L aW fX ?_;refine a6 ?_;refine gJ O [0,1,2,3,4,5,6,7] _ cX bE g3 ?_;apply g1∘g1;refine a4 aYv ?_;apply g1∘g1;refine a4 (by first|exact aMF rfl rfl D D|exact aAS rfl rfl D) ?_;apply(a0k);refine gS (aZ (iT (gD ?_)));refine bN L R DQ ?_;exact VN
def CF(a b:h6)(q:Int):a9:=
 ⟨a.bY-(a.bY-b.bY)*(q-a.dB)/(b.dB-a.dB)-(if 0<(a.bY-b.bY)*(q-a.dB)%(b.dB-a.dB)then 1 else 0),a.bY-(a.bY-b.bY)*(q-a.dB)/(b.dB-a.dB)⟩
def b3N(a b:h6)(q:Int)(L:aP)(R:aJ)(hp:0<=b.bY/\b.bY<=a.bY/\a.bY<=2199023255552)(hf:-1048576<=a.dB/\a.dB<=q/\q<=b.dB/\a.dB<b.dB/\b.dB<=1048576):
 aI prog 294 [a.val,b.val,.int .i64 q].toArray L R (λv E G=>v=(CF a b q).val/\L=E/\R=G):=by
 have XC:0<=(a.bY-b.bY)*(q-a.dB):=y4 D D;have d1:(a.bY-b.bY)*(q-a.dB)<=2199023255552*4194304:=JS D D D D;have d2:0<=(a.bY-b.bY)*(q-a.dB)/(b.dB-a.dB):=Xc XC D;have d3:(a.bY-b.bY)*(q-a.dB)/(b.dB-a.dB)<=a.bY-b.bY:=by refine Int.ediv_le_of_le_mul D ?_;exact a2I D D
 refine bW 57 call294 func294 ?_;apply(c8);intro dG;apply(iU);intro cT;apply(dA);intro hP;apply lP∘kJ∘kP∘B3∘IW∘kP∘B3;refine cC rfl (b6O _ _ _ _ D D D D) ?_;refine aG iR ?_;apply Fc∘pQ∘b1∘kJ∘kP∘B3;refine cC rfl (b2B _ _ _ _ D D D D) ?_;refine aG iR ?_;apply Fc∘mL∘gE∘B3∘kP∘gE∘B3∘kP∘y0∘dA;intro FL;apply rQ∘b1∘BA;apply(W)<;>intro aO;·apply QW∘kP∘G3∘S6;exact aXf
 apply eR∘S6;exact aXf
end Go.Proofs.YtchfclmokpbldaaGreat
namespace Go.Proofs.YtchfclmokpbldaaGreat
open Go.Aw Go Go.Proofs.Tryz
structure A1(l:List h6):Prop where
 yY:∀(i:Nat) (p:h6),l[i]?=some p->-1048576<=p.dB/\p.dB<=1048576/\0<=p.bY/\p.bY<=2199023255552
 e7:∀(i:Nat) (p r:h6),l[i]?=some p->l[i+1]?=some r->p.dB<r.dB/\r.bY<=p.bY
structure NW(f:hY):Prop where
 b9:0<=f.b9
 aG3:1<=f.hJ.l.length
 a7J:f.hJ.l.length<=8
 ok:A1 f.hJ.l
def b9Q{f:hY}(h:N4 f=0):NW f:=by
 unfold N4 at h;split at h;·cases h
 rename_i N;split at h;·cases h
 rename_i V;have hn:(List.range f.hJ.l.length).findSome? (I0 f.hJ.l)=none:=by
  cases hf:(List.range f.hJ.l.length).findSome? (I0 f.hJ.l)with
  |none=>rfl
  |some e=>
   rw[hf]at h;simp only[aIg]at h;subst h;obtain⟨i,_,aA⟩:=PI hf;unfold I0 at aA;split at aA;·cases aA
   ·
    split at aA;·cases aA
    ·
     split at aA;·cases aA
     ·
      split at aA;·cases aA
      ·split at aA<;>cases aA
 have sB:∀(i:Nat) (p:h6),f.hJ.l[i]?=some p->I0 f.hJ.l i=none:=λi p hp=>by obtain⟨aA,_⟩:=List.getElem?_eq_some_iff.1 hp;exact List.findSome?_eq_none_iff.1 hn i (List.mem_range.2 aA)
 have UM:∀(i:Nat) (p:h6),f.hJ.l[i]?=some p->-1048576<=p.dB/\p.dB<=1048576/\0<=p.bY/\p.bY<=2199023255552:=λi p hp=>by
  have:=sB i p hp;by_cases M:p.dB< -1048576\/1048576<p.dB\/p.bY<0\/2199023255552<p.bY;·rw[aRy hp M]at this;cases this
  ·omega
 refine⟨by omega,by omega,by omega,UM,λi p r hp M=>?_⟩;have:=sB (i+1) r M;have b:=UM _ _ M;by_cases hb:r.dB<=p.dB\/p.bY<r.bY;·rw[aOy M D D (by simpa using hp) hb]at this;cases this
 ·omega
def E2(p:h6):List h6->Int->a9
 |[],_=>⟨p.bY,p.bY⟩
 |r::aB,q=>if q<=r.dB then CF p r q else E2 r aB q
def vJ(l:List h6)(q:Int):a9:=
 match l with
 |[]=>⟨0,0⟩
 |p::aB=>if q<=p.dB then⟨p.bY,p.bY⟩else E2 p aB q
def Sd(s:a9):a9:=⟨-s.bO,-s.bG⟩
def yJ(l:List h6)(nB:Bool)(q:Int):a9:=if nB then Sd (vJ l (-q))else vJ l q
def o3(f:hY)(s q:Int):a9:=
 if s=1 then yJ f.hJ.l f.nB q else if s=2 then yJ f.hJ.l (!f.nB) q
 else if s= -1 then⟨min (min 0 (yJ f.hJ.l false q).bG) (yJ f.hJ.l true q).bG,max (max 0 (yJ f.hJ.l false q).bO) (yJ f.hJ.l true q).bO⟩
 else⟨0,0⟩
def aLT{a b:h6}{q:Int}(hp:0<=b.bY/\b.bY<=a.bY/\a.bY<=2199023255552)(hf:-1048576<=a.dB/\a.dB<=q/\q<=b.dB/\a.dB<b.dB/\b.dB<=1048576):
 b.bY<=(CF a b q).bG/\(CF a b q).bG<=(CF a b q).bO/\(CF a b q).bO<=a.bY:=by
 unfold CF;have XC:0<=(a.bY-b.bY)*(q-a.dB):=y4 D D;have d1:(a.bY-b.bY)*(q-a.dB)<=(a.bY-b.bY)*(b.dB-a.dB):=a2I D D;generalize (a.bY-b.bY)*(q-a.dB)=kV at*;have cV:0<b.dB-a.dB:=by omega
 generalize b.dB-a.dB=w at*;have d2:0<=kV/w:=Xc XC D;have d3:kV/w<=a.bY-b.bY:=Int.ediv_le_of_le_mul cV d1;have a6s:=Int.mul_ediv_add_emod kV w;have bAy:0<=kV%w:=Int.emod_nonneg _ D;dsimp only;split;·
  rename_i M;have:kV/w<a.bY-b.bY:=by
   rcases JT (kV/w) (a.bY-b.bY)with h|h;·exact h
   ·(have e:kV/w=a.bY-b.bY:=by omega);rw[e]at a6s;rw[Int.mul_comm]at a6s;omega
  omega
 ·omega
def Yt:∀(l:List h6) (p:h6) (q:Int),A1 (p::l)->p.dB<=q->
 0<=(E2 p l q).bG/\(E2 p l q).bG<=(E2 p l q).bO/\(E2 p l q).bO<=p.bY
 |[],p,q,h,_=>by have:=h.yY 0 p rfl;simp only[E2];omega
 |r::aB,p,q,h,hq=>by
  have bQ:=h.yY 0 p rfl
  have N:=h.yY 1 r rfl
  have V:=h.e7 0 p r rfl rfl
  unfold E2
  split
  ·have:=aLT (a:=p) (b:=r) (q:=q) D D
   omega
  ·have:=Yt aB r q ⟨λi=>h.yY (i+1),λi=>h.e7 (i+1)⟩ D
   omega
def a46{l:List h6}(h:A1 l)(q:Int):0<=(vJ l q).bG/\(vJ l q).bG<=(vJ l q).bO/\(vJ l q).bO<=2199023255552:=by
 cases l with
 |nil=>simp[vJ]
 |cons p aB=>
  have bQ:=h.yY 0 p rfl;unfold vJ;dsimp only;split;·(first|omega|(dsimp only;omega))
  ·have:=Yt aB p q h D;omega
def a4N{l:List h6}(h:A1 l)(nB:Bool)(q:Int):-2199023255552<=(yJ l nB q).bG/\(yJ l nB q).bG<=(yJ l nB q).bO/\(yJ l nB q).bO<=2199023255552:=by have N:=a46 h q;have V:=a46 h (-q);unfold yJ Sd;exact aHS
def a4c{f:hY}(h:NW f)(s q:Int):-2199023255552<=(o3 f s q).bG/\(o3 f s q).bG<=(o3 f s q).bO/\(o3 f s q).bO<=2199023255552:=by
 have N:=a4N h.ok f.nB q;have V:=a4N h.ok (!f.nB) q;have aQ:=a4N h.ok false q;have b7:=a4N h.ok true q;unfold o3;split;·omega
 ·
  split;·omega
  ·exact aHS
def aAi{a b:Int}(hb:0<b):(if a.tmod b<0 then a.tdiv b-1 else a.tdiv b)=a/b:=by
 have N:=Int.mul_tdiv_add_tmod a b;have V:-b<a.tmod b:=by have:=Int.lt_tmod_of_pos a hb;omega
 have aQ:a.tmod b<b:=a8z a hb;split;·have:=(a8V (a:=a) (b:=b) (q:=a.tdiv b-1) (r:=a.tmod b+b) hb).2 ⟨by rw[Int.mul_sub];omega,by omega,by omega⟩;exact this.1.symm
 ·have:=(a8V (a:=a) (b:=b) (q:=a.tdiv b) (r:=a.tmod b) hb).2 ⟨by omega,by omega,by omega⟩;exact this.1.symm
def aBw{kV w:Int}(cV:0<w):(-kV)/w= -(kV/w)-(if 0<kV%w then 1 else 0):=by
 have N:=Int.mul_ediv_add_emod kV w;have V:=Int.emod_nonneg kV (show w≠0 by omega);have aQ:=Int.emod_lt_of_pos kV cV;split;·have:=(a8V (a:= -kV) (b:=w) (q:= -(kV/w)-1) (r:=w-kV%w) cV).2 ⟨by rw[Int.mul_sub,Qe];omega,by omega,by omega⟩;exact this.1
 ·have:=(a8V (a:= -kV) (b:=w) (q:= -(kV/w)) (r:=0) cV).2 ⟨by rw[Qe];omega,by omega,by omega⟩;rw[this.1];omega
def b1A{a b:h6}{q:Int}(cV:a.dB<b.dB):
 (⟨a.bY+(b.bY-a.bY)*(q-a.dB)/(b.dB-a.dB),a.bY+ -(-((b.bY-a.bY)*(q-a.dB))/(b.dB-a.dB))⟩:a9)=CF a b q:=by
 have e:(b.bY-a.bY)*(q-a.dB)= -((a.bY-b.bY)*(q-a.dB)):=by rw[<-Qf];congr 1;omega
 rw[e,Int.neg_neg,aBw D];unfold CF;congr 1<;>omega
def aCO: ∀(l:List h6) (r wK:h6),A1 (r::l)->(r::l)[l.length]? =some wK->r.dB<=wK.dB/\(l≠[]->r.dB<wK.dB)
 |[],r,wK,_,hn=>by simp at hn;subst hn;exact⟨oE _,λh=>absurd rfl h⟩
 |s::l,r,wK,ok,hn=>by
  have hs:=ok.e7 0 r s rfl rfl
  have:=aCO l s wK ⟨λi=>ok.yY (i+1),λi=>ok.e7 (i+1)⟩ (by simpa using hn)
  exact⟨by omega,λ_=>by omega⟩
def aRB: ∀(l:List h6) (p wK:h6) (q:Int),A1 (p::l)->(p::l)[l.length]? =some wK->wK.dB<=q->(l=[]\/p.dB<q)->E2 p l q=⟨wK.bY,wK.bY⟩
 |[],p,wK,q,_,hn,_,_=>by simp at hn;subst hn;rfl
 |r::aB,p,wK,q,h,hn,hq,_=>by
  have V:=h.e7 0 p r rfl rfl
  have UK:(r::aB)[aB.length]?=some wK:=by simpa using hn
  have O6:A1 (r::aB):=⟨λi=>h.yY (i+1),λi=>h.e7 (i+1)⟩
  have HJ:=aCO aB r wK O6 UK
  unfold E2
  split
  ·rename_i a10
   have rW:aB=[]:=by
    rcases aB with _|⟨s,aB⟩
    ·rfl
    ·have:=HJ.2 fX;omega
   subst rW
   simp at UK;subst UK
   have Bj:q=r.dB:=by omega
   subst Bj
   unfold CF
   have cV:0<r.dB-p.dB:=by omega
   rw[Int.mul_ediv_cancel _ D,Int.mul_emod_left]
   simp
   omega
  ·exact aRB aB r wK q O6 UK hq (.inr D)
def b1y{l:List h6}(h:A1 l)(N:1<=l.length){wK:h6}(hn:l[l.length-1]?=some wK)(q:Int)(hq:wK.dB<=q):vJ l q=⟨wK.bY,wK.bY⟩:=by
 cases l with
 |nil=>simp at N
 |cons p aB=>
  have UK:(p::aB)[aB.length]?=some wK:=by simpa using hn
  unfold vJ;dsimp only;split;·
   rename_i hp;have rW:aB=[]:=by
    rcases aB with _|⟨s,aB⟩;·rfl
    ·exfalso;have V:=h.e7 0 p s rfl rfl;have:=aCO aB s wK ⟨λi=>h.yY (i+1),λi=>h.e7 (i+1)⟩ (by simpa using UK);omega
   subst rW;simp at UK;subst UK;rfl
  ·exact aRB aB p wK q h UK hq (.inr D)
def aQP: ∀(l:List h6) (vU:h6) (k:Nat) (p r:h6) (q:Int),A1 (vU::l)->(vU::l)[k]? =some p->(vU::l)[k+1]? =some r->p.dB<=q->q<r.dB->vU.dB<q->E2 vU l q=CF p r q
 |[],vU,k,p,r,q,_,_,M,_,_,_=>by simp at M
 |s::aB,vU,0,p,r,q,h,hp,M,N,V,aQ=>by
  simp at hp M;subst hp;subst M
  unfold E2
  rw[if_pos D]
 |s::aB,vU,k+1,p,r,q,h,hp,M,N,V,aQ=>by
  have O6:A1 (s::aB):=⟨λi=>h.yY (i+1),λi=>h.e7 (i+1)⟩
  have b7:=h.e7 0 vU s rfl rfl
  have a1W:(s::aB)[k]?=some p:=by simpa using hp
  have JF:(s::aB)[k+1]?=some r:=by simpa using M
  have X2:=O6.e7 k p r a1W JF
  unfold E2
  split
  ·rename_i bJ6
   -- then the point at k is this one, and the flow is its own
   have mono:∀(j:Nat) (x y:h6),(s::aB)[0]?=some x->(s::aB)[j]?=some y->x.dB+j<=y.dB:=by
    intro j
    induction j with
    |zero=>intro x y K aN;rw[K]at aN;cases aN;omega
    |succ j cM=>
     intro x y K aN
     obtain⟨aY,_⟩:=List.getElem?_eq_some_iff.1 aN
     obtain⟨z,eC⟩:=mP (s::aB) j
     have:=cM x z K eC
     have:=O6.e7 j z y eC aN
     omega
   have hm:=mono k s p rfl a1W
   have hk:k=0:=by omega
   subst hk
   simp at a1W;subst a1W
   have Bj:q=s.dB:=by omega
   subst Bj
   have Ve:=O6.yY 0 s rfl
   unfold CF
   have cV:0<s.dB-vU.dB:=by omega
   rw[Int.mul_ediv_cancel _ D,Int.mul_emod_left,Int.sub_self,a8S,Int.zero_ediv,Int.zero_emod]
   simp
   omega
  ·exact aQP aB s k p r q O6 a1W JF N V D
def b5j{l:List h6}(h:A1 l){k:Nat}{p r:h6}{q:Int}(hp:l[k]?=some p)(M:l[k+1]?=some r)(N:p.dB<=q)(V:q<r.dB):vJ l q=CF p r q:=by
 cases l with
 |nil=>simp at hp
 |cons vU aB=>
  unfold vJ;dsimp only;split;·
   rename_i hq;have mono:∀(j:Nat) (y:h6),(vU::aB)[j]?=some y->vU.dB+j<=y.dB:=by
    intro j;induction j with
    |zero=>intro y aN;simp at aN;subst aN;omega
    |succ j cM=>intro y aN;obtain⟨aY,_⟩:=List.getElem?_eq_some_iff.1 aN;obtain⟨z,eC⟩:=mP (vU::aB) j;have:=cM z eC;have:=h.e7 j z y eC aN;omega
   have hm:=mono k p hp;(have hk:k=0:=by omega);subst hk;simp at hp;subst hp;(have Bj:q=vU.dB:=by omega);subst Bj;unfold CF;rw[Int.sub_self,a8S,Int.zero_ediv,Int.zero_emod];simp
  ·exact aQP aB vU k p r q h hp M N V D
attribute [local irreducible] cH c6 dP aI cJ eD e9 e0 e1 e5 eS e8
def aO4(f:hY)(q:Int)(L:aP)(R:aJ)(hm:aH f.fI R)(hf:NW f)(hq:-1048577<=q/\q<=1048577):
 aI prog 282 [f.val,.int .i64 q].toArray L R (λv E G=>v=(vJ f.hJ.l q).val/\L=E/\R=G):=by
 have Az:=hf.aG3;have bC8:=hf.a7J;obtain⟨vU,g0⟩:=mP f.hJ.l 0;obtain⟨wK,l5⟩:=mP f.hJ.l (f.hJ.l.length-1);refine bW 62 call282 func282 ?_;apply(c8);intro cS;apply(dA);intro cT;apply(jW);refine gJ O [0,1,2,3,4,5,6,7,8,9,10,11,12,13,14,15] _ cX bE g3 ?_;apply iI∘aHu∘YH∘WP;refine a4 vZ ?_;apply(yZ);refine a4 aIW ?_;apply YH∘p2;intro eH;apply(p2);intro hP;apply sE∘sE∘LI∘IW∘S9;apply(W)<;>intro aO;·apply cO∘kJ∘y0∘FB;obtain⟨aB,DF⟩:∃aB,f.hJ.l=vU::aB:=⟨_,by have:=So g0;simpa using this⟩;refine bN L R mR ?_;exact⟨by rw[DF];simp only[vJ,if_pos aO],rfl,rfl⟩
 apply(zH);refine c7 [(1,.int _ _),(2,.pointer _),(4,.pointer _),(6,.pointer _),(7,.int _ _)] bP λeZ=>?_;refine gP ([7]++b4 29 28) (λg:{k:Nat//1<=k/\k<=f.hJ.l.length/\∃p,f.hJ.l[k-1]?=some p/\p.dB<q/\vJ f.hJ.l q=E2 p (f.hJ.l.drop k) q}=>[(7,.int .i64 ((g.1:Nat):Int))]) (λg=>f.hJ.l.length-g.1) (⟨1,by omega,by omega,vU,g0,by omega,by have h:=So g0;simp only[Jd,PJ]at h;rw[h];simp only[vJ,if_neg aO,List.drop_one,List.tail_cons]⟩) ?_;rintro⟨k,e6,hK,p,hp,aTC,hs⟩ bZ;try dsimp only
 apply(oJ);apply(W)<;>intro bF;·
  obtain⟨r,M⟩:=mP f.hJ.l k;have yQ:=hf.ok.yY _ _ hp;have AJ:=hf.ok.yY _ _ M;have aEG:=hf.ok.e7 (k-1) p r hp (by rw[show k-1+1=k by omega];exact M);rw[So M]at hs;simp only[E2]at hs;apply pR∘gE∘B2∘sW∘S9;apply(W)<;>intro b2;·refine a6 ?_;refine hF O [] [0,1,2,3,4,5,6,7,8,9,10,11,12] [13] (_) _ cX bE a2 Jm ?_;apply CN∘NE;refine eO aI3 ?_;apply aHr∘CN∘aHp∘aHr∘wM;refine k2 rfl (b3N p r q _ _ D D) rfl rfl ?_;rintro v E G ⟨rfl,rfl,rfl⟩;refine⟨a2,gN,?_⟩;apply(p7);refine gS (aZ (iT (iS (gD (wS (iS (gD ?_)))))));refine bN L R mR ?_;exact⟨by rw[hs,if_pos b2],rfl,rfl⟩
  apply(mD);exact dU (⟨k+1,by omega,by omega,r,by simpa using M,by omega,by rw[hs,if_neg b2]⟩)
 obtain rfl:k=f.hJ.l.length:=by omega
 obtain rfl:p=wK:=by rw[hp]at l5;exact y2 l5
 rw[a8Q (g4 _)]at hs;apply oD∘kJ∘y0∘wA;refine bN L R mR ?_;exact⟨by rw[hs];rfl,rfl,rfl⟩
def a5w(f:hY)(nB:Bool)(q:Int)(L:aP)(R:aJ)(hm:aH f.fI R)(hf:NW f)(hq:-1048577<=q/\q<=1048577):
 aI prog 246 [f.val,.bool nB,.int .i64 q].toArray L R (λv E G=>v=(yJ f.hJ.l nB q).val/\L=E/\R=G):=by
 have yQ:=a46 hf.ok (-q);refine bW 24 call246 func246 ?_;apply(c8);intro dG;apply(dA);intro hP;apply r1∘WK;apply(W)<;>intro aO;·apply cO∘sD∘b1;refine cC rfl (aO4 f q _ _ hm hf hq) ?_;apply(FB);exact aXS
 apply eR∘sD∘b1∘x3;refine cC rfl (aO4 f (-q) _ _ hm hf D) ?_;apply(dA);intro kL;apply CL∘x3∘fH∘x3∘y0∘wA;exact aWX
def b6b(f:hY)(s q:Int)(L:aP)(R:aJ)(hm:aH f.fI R)(hf:NW f)(hq:-1048577<=q/\q<=1048577):
 aI prog 193 [f.val,.int .i64 s,.int .i64 q].toArray L R (λv E G=>v=(o3 f s q).val/\L=E/\R=G):=by
 refine bW 45 call193 func193 ?_;apply(c8);intro dG;apply(dA);intro hP;apply r1∘b1;refine eI (aZ (e3 (a6 (cR ?_))));apply(v8);apply(W)<;>intro aO;·apply cO∘sD∘gE;refine cC rfl (a5w f f.nB q _ _ hm hf hq) ?_;apply i3∘NF;refine bN L R mR ?_;exact⟨by rw[o3,if_pos aO],rfl,rfl⟩
 apply(oX);apply(W)<;>intro bF;·apply cO∘sD∘fH∘Cj∘b1;refine cC rfl (a5w f (!f.nB) q _ _ hm hf hq) ?_;apply i3∘NF;refine bN L R mR ?_;exact⟨by rw[o3,if_neg aO,if_pos bF],rfl,rfl⟩
 apply(oX);apply(W)<;>intro b2;·refine a6 ?_;refine gJ O [0,1,3,4,2,5,6,7,8,9] _ cX bE g3 ?_;apply ND∘g1∘ND∘g1;refine k6 rfl (a5w f false q _ _ hm hf hq) ?_;refine k6 rfl (a5w f true q _ _ hm hf hq) ?_;apply(p2);intro kL;apply(p2);intro gL;apply sE∘sE;refine gS (aZ (a6 (cR ?_)));apply(kJ);refine aG (aMY rfl rfl rfl) ?_;apply(kJ);refine aG (aMj rfl rfl rfl) ?_;apply y0∘i3∘NF;refine bN L R mR ?_;exact⟨by rw[o3,if_neg aO,if_neg bF,if_pos b2],rfl,rfl⟩
 refine dK (gV (aZ (a6 (cR ?_))));apply a78∘wA;refine bN L R mR ?_;exact⟨by rw[o3,if_neg aO,if_neg bF,if_neg b2],rfl,rfl⟩
def aNI(a b:Int)(L:aP)(R:aJ)(ha:-9223372036854775807<=a/\a<=9223372036854775807)(hb:0<b/\b<=9223372036854775807):
 aI prog 291 [.int .i64 a,.int .i64 b].toArray L R (λv E G=>v=.int .i64 (a/b)/\L=E/\R=G):=by
 have fW:=aAi (a:=a) hb.1;have hc:-9223372036854775807<=a/b/\a/b<=9223372036854775807:=by
  rcases JT a 0 with h|h;·have N:a/b<=0:=aX7 D hb.1;(have V:a<=a/b:=by refine Int.le_ediv_of_mul_le hb.1 ?_;have:=Int.mul_le_mul_of_nonpos_left (a:=a) (b:=b) (c:=1) D D;omega);omega
  ·have N:=Xc h (show 0<=b by omega);have V:=Xb b h;omega
 have hd:-9223372036854775807<=a.tdiv b/\a.tdiv b<=9223372036854775807:=by
  split at fW;·
   constructor;·omega
   ·
    have N:=Int.mul_tdiv_add_tmod a b;rename_i h;have:a<0:=by
     rcases JT a 0 with cN|cN;·exact cN
     ·have:=a8I b cN;omega
    have aQ:a/b<=0:=aX7 D hb.1;omega
  ·omega
 refine bW 16 call291 func291 ?_;apply cO∘pQ∘b1∘PB∘g7∘pS∘Im∘D1;apply(W)<;>intro aO;·rw[if_pos aO]at fW;apply p8∘kP∘pQ∘q3;refine dC L R ?_;exact⟨by rw[fW],rfl,rfl⟩
 rw[if_neg aO]at fW;apply eR∘a0h;refine dC L R ?_;exact⟨by rw[fW],rfl,rfl⟩
def b58(a b:Int)(L:aP)(R:aJ)(ha:-9223372036854775807<=a/\a<=9223372036854775807)(hb:0<b/\b<=9223372036854775807)(hq:-9223372036854775807<=(-a)/b/\(-a)/b<=9223372036854775807):
 aI prog 259 [.int .i64 a,.int .i64 b].toArray L R (λv E G=>v=.int .i64 (-((-a)/b))/\L=E/\R=G):=by refine bW 10 call259 func259 ?_;apply cO∘pQ∘x3∘b1;refine cC rfl (aNI (-a) b _ _ D hb) ?_;exact(x3∘q3) a2U
def aOX(f:hY)(q:Int)(L:aP)(R:aJ)(hm:aH f.fI R)(hf:NW f)(hq:-1048577<=q/\q<=1048577):
 aI prog 276 [f.val,.int .i64 q].toArray L R (λv E G=>v=(vJ f.hJ.l q).val/\L=E/\R=G):=by
 have Az:=hf.aG3;have bC8:=hf.a7J;obtain⟨vU,g0⟩:=mP f.hJ.l 0;obtain⟨wK,l5⟩:=mP f.hJ.l (f.hJ.l.length-1);have i1:=b1y hf.ok D l5;have bB0:q<=vU.dB->vJ f.hJ.l q=⟨vU.bY,vU.bY⟩:=λh=>by have cN:=So g0;simp only[Jd,PJ]at cN;rw[cN];simp only[vJ,if_pos h]
 refine bW 106 call276 func276 ?_;apply(c8);intro cS;apply(dA);intro cT;apply lP∘lM∘Ez∘fH∘Io∘sW∘S9;apply(W)<;>intro aO;·refine a6 ?_;refine hF O [] [0,1,2,3,4,5,6,7,8,9,10] [11] (_) _ cX bE a2 Jm ?_;apply l1∘a8a∘EM∘vA∘l1∘a8a∘EM∘vA∘Cn∘p7;refine gS (aZ (iT (gD ?_)));refine bN L R mR ?_;exact⟨by rw[bB0 aO],rfl,rfl⟩
 apply iK∘b1∘a5i;refine aG aIW ?_;apply sW∘GY;apply(W)<;>intro bF;·refine a6 ?_;refine hF O [] [0,1,2,3,4,5,6,7,8,9,10,11,12,13,14] [15] (_) _ cX bE a2 Jm ?_;apply CN∘NE∘aVb∘EM∘vA∘CN∘NE∘aVb∘EM∘vA∘Cn∘p7;refine gS (aZ (iT (gD ?_)));refine bN L R mR ?_;exact⟨by rw[i1 q bF],rfl,rfl⟩
 apply eR∘dE;refine eI (aZ (a6 (e3 ?_)));refine c7 [(1,.int _ _),(2,.pointer _),(4,.pointer _),(6,.int _ _)] bP λeZ=>?_;refine gP ([6]++b4 56 11) (λg:{k:Nat//k+1<f.hJ.l.length/\∃p,f.hJ.l[k]?=some p/\p.dB<=q}=>[(6,.int .i64 ((g.1:Nat):Int))]) (λg=>f.hJ.l.length-g.1) (⟨0,by rcases gY 1 f.hJ.l.length with h|h;exact h;exfalso;rw[show f.hJ.l.length-1=0 by omega,g0]at l5;cases l5;omega,vU,g0,by omega⟩) ?_;rintro⟨k,hk,p,hp,aTC⟩ bZ;try dsimp only
 refine a6 (a6 ?_);obtain⟨r,M⟩:=mP f.hJ.l (k+1);apply QW∘z2;refine aG aZD ?_;apply TE∘S9;apply(W)<;>intro b2;·refine dK (aZ (e3 (cR ?_)));apply z2∘dE;refine eI (gV ?_);exact dU (⟨k+1,by rcases gY (k+1+1) f.hJ.l.length with h|h;exact h;exfalso;rw[show f.hJ.l.length-1=k+1 by omega,M]at l5;cases l5;omega,r,M,by omega⟩)
 have yQ:=hf.ok.yY _ _ hp;have AJ:=hf.ok.yY _ _ M;have aEG:=hf.ok.e7 k p r hp M;have Np:=b5j hf.ok hp M aTC D;have XC:0<=(p.bY-r.bY)*(q-p.dB):=y4 D D;have d1:(p.bY-r.bY)*(q-p.dB)<=2199023255552*2097153:=JS D D D D;have aRZ:(r.bY-p.bY)*(q-p.dB)= -((p.bY-r.bY)*(q-p.dB)):=by rw[<-Qf];congr 1;omega
 have d2:0<=(p.bY-r.bY)*(q-p.dB)/(r.dB-p.dB):=Xc XC D;have d3:(p.bY-r.bY)*(q-p.dB)/(r.dB-p.dB)<=(p.bY-r.bY)*(q-p.dB):=Xb _ XC;have a6s:=aBw (kV:=(p.bY-r.bY)*(q-p.dB)) (w:=r.dB-p.dB) D;have bIO:-((p.bY-r.bY)*(q-p.dB))-1<= -((p.bY-r.bY)*(q-p.dB))/(r.dB-p.dB)/\-((p.bY-r.bY)*(q-p.dB))/(r.dB-p.dB)<=0:=by split at a6s<;>omega
 have bAy:-((r.bY-p.bY)*(q-p.dB))/(r.dB-p.dB)=(p.bY-r.bY)*(q-p.dB)/(r.dB-p.dB):=by rw[aRZ,Int.neg_neg]
 have bIN:(r.bY-p.bY)*(q-p.dB)/(r.dB-p.dB)= -((p.bY-r.bY)*(q-p.dB))/(r.dB-p.dB):=by rw[aRZ]
 apply(O9);refine gJ O [0,1,2,3,4,5,6,7,8,9,10,11,12,13,14] _ cX bE g3 ?_;apply KK∘YH∘oV∘EK∘aVd∘YH∘p2;intro kL;apply(p2);intro gL;apply sE∘sE∘F7;refine gJ O [0,1,2,3,4,5,6,7,8,9,10,11,12,13,14,15,16] _ cX bE g3 ?_;apply WP∘yZ∘g1∘iI∘yZ∘Co∘WP∘yZ∘a0k∘F7;refine hF O [] [0,1,2,3,6,7,8,9,4,5,10,11,12] [13] (_) _ cX bE a2 Jm ?_;apply CN∘wM∘CN∘wM;refine k2 rfl (aNI _ _ _ _ D D) rfl rfl ?_;rintro v E G ⟨rfl,rfl,rfl⟩;refine⟨a2,gN,?_⟩;apply(PA);refine k2 rfl (b58 _ _ _ _ D D D) rfl rfl ?_;rintro v E G ⟨rfl,rfl,rfl⟩;refine⟨a2,gN,?_⟩;apply PA∘Cn∘p7;refine gS (aZ (iT ?_));refine bN L R mR ?_;exact⟨by rw[Np,<-b1A D],rfl,rfl⟩
def a50(f:hY)(nB:Bool)(q:Int)(L:aP)(R:aJ)(hm:aH f.fI R)(hf:NW f)(hq:-1048577<=q/\q<=1048577):
 aI prog 236 [f.val,.bool nB,.int .i64 q].toArray L R (λv E G=>v=(yJ f.hJ.l nB q).val/\L=E/\R=G):=by
 have yQ:=a46 hf.ok (-q);refine bW 23 call236 func236 ?_;apply(c8);intro dG;apply(dA);intro hP;apply r1∘c9∘b3;apply(W)<;>intro aO;·apply cO∘sD∘b1∘x3;refine cC rfl (aOX f (-q) _ _ hm hf D) ?_;apply(dA);intro kL;apply CL∘x3∘fH∘x3∘y0∘FB;exact aWX
 apply eR∘sD∘b1;refine cC rfl (aOX f q _ _ hm hf hq) ?_;apply(wA);exact aXS
def aOe(f:hY)(s q:Int)(L:aP)(R:aJ)(hm:aH f.fI R)(hf:NW f)(hq:-1048577<=q/\q<=1048577)(hs:-1<=s/\s<=2):
 aI prog 182 [f.val,.int .i64 s,.int .i64 q].toArray L R (λv E G=>v=(o3 f s q).val/\L=E/\R=G):=by
 refine bW 45 call182 func182 ?_;apply(c8);intro dG;apply(dA);intro hP;apply r1∘b1;refine eI (aZ (e3 (a6 (cR ?_))));apply(v8);apply(W)<;>intro aO;·apply ZX∘i3∘NF;refine bN L R mR ?_;exact⟨by rw[o3,if_neg D,if_neg D,if_neg D],rfl,rfl⟩
 apply(oX);apply(W)<;>intro bF;·apply cO∘sD∘gE;refine cC rfl (a50 f f.nB q _ _ hm hf hq) ?_;apply i3∘NF;refine bN L R mR ?_;exact⟨by rw[o3,if_pos bF],rfl,rfl⟩
 apply(oX);apply(W)<;>intro b2;·apply cO∘sD∘fH∘Cj∘b1;refine cC rfl (a50 f (!f.nB) q _ _ hm hf hq) ?_;apply i3∘NF;refine bN L R mR ?_;exact⟨by rw[o3,if_neg bF,if_pos b2],rfl,rfl⟩
 refine dK (gV (aZ (a6 ?_)));refine gJ O [0,1,3,4,2,5,6,7,8,9] _ cX bE g3 ?_;apply ND∘g1∘ND∘g1;refine k6 rfl (a50 f false q _ _ hm hf hq) ?_;refine k6 rfl (a50 f true q _ _ hm hf hq) ?_;apply(p2);intro kL;apply(p2);intro gL;apply sE∘sE;refine gS (aZ (a6 (cR ?_)));apply(kJ);refine aG (aMY rfl rfl rfl) ?_;apply(kJ);refine aG (aMj rfl rfl rfl) ?_;apply y0∘wA;refine bN L R mR ?_;exact⟨by rw[o3,if_neg bF,if_neg b2,if_pos D,Int.min_comm 0,Int.max_comm 0];simp only[Int.min_assoc,Int.max_assoc,Int.min_comm 0,Int.max_comm 0],rfl,rfl⟩
structure Rs(p:mK):Prop where
 aB:0<=p.b9.aB.bG/\p.b9.aB.bG<=p.b9.aB.bO/\p.b9.aB.bO<=4456448
 jO:-2199023255552<=p.b9.jO.bG/\p.b9.jO.bG<=p.b9.jO.bO/\p.b9.jO.bO<=2199023255552
 len:p.a3.l.length<=8
 nD:∀(i:Nat) (b:DZ),p.a3.l[i]?=some b->NW b.nD
def IE(p:mK)(q:Int):Nat->a9
 |0=>if q<0 then⟨-p.b9.aB.bO*(q*q)-p.b9.jO.bO,-p.b9.aB.bG*(q*q)-p.b9.jO.bG⟩else⟨p.b9.aB.bG*(q*q)-p.b9.jO.bO,p.b9.aB.bO*(q*q)-p.b9.jO.bG⟩
 |k+1=>⟨(IE p q k).bG-(o3 (p.a3.l.getD k default).nD (p.a3.l.getD k default).state q).bO,(IE p q k).bO-(o3 (p.a3.l.getD k default).nD (p.a3.l.getD k default).state q).bG⟩
def KB(p:mK)(q:Int):a9:=IE p q p.a3.l.length
def a48{q:Int}(hq:-1048577<=q/\q<=1048577):0<=q*q/\q*q<=1099513724929:=by
 rcases JT q 0 with h|h;·have N:=y4 a29 a29;have V:=JS (show -q<=1048577 by omega) (show -q<=1048577 by omega) D D;rw[Int.neg_mul_neg]at N V;omega
 ·have N:=y4 h h;have V:=JS hq.2 hq.2 h D;omega
def Dr{r s:Int}(M:0<=r/\r<=4456448)(hs:0<=s/\s<=1099513724929):0<=r*s/\r*s<=4899925740432392192/\-r*s= -(r*s):=by have N:=y4 M.1 hs.1;have V:=JS M.2 hs.2 hs.1 D;exact⟨N,by omega,Qf r s⟩
def aRd{p:mK}{q:Int}(h:q<0):IE p q 0=⟨-p.b9.aB.bO*(q*q)-p.b9.jO.bO,-p.b9.aB.bG*(q*q)-p.b9.jO.bG⟩:=if_pos h
def aQJ{p:mK}{q:Int}(h:¬q<0):IE p q 0=⟨p.b9.aB.bG*(q*q)-p.b9.jO.bO,p.b9.aB.bO*(q*q)-p.b9.jO.bG⟩:=if_neg h
def aRt{p:mK}(h:Rs p){q:Int}(hq:-1048577<=q/\q<=1048577):∀(k:Nat),k<=p.a3.l.length->
 -4899925740432392192-2199023255552*(k+1)<=(IE p q k).bG/\(IE p q k).bG<=(IE p q k).bO/\(IE p q k).bO<=4899925740432392192+2199023255552*(k+1)
 |0,_=>by
  have hs:=a48 hq
  have M:=h.aB
  have hl:=h.jO
  have N:=Dr (r:=p.b9.aB.bG) D hs
  have V:=Dr (r:=p.b9.aB.bO) D hs
  have aQ:p.b9.aB.bG*(q*q)<=p.b9.aB.bO*(q*q):=a2Q M.2.1 hs.1
  unfold IE
  split<;>dsimp only<;>omega
 |k+1,hk=>by
  have cM:=aRt h hq k D
  have hb:=a4c (h.nD k _ YS) (p.a3.l.getD k default).state q
  simp only[IE]
  omega
def aNX(p:mK)(q:Int)(L:aP)(R:aJ)(hm:aH p.fI R)(hp:Rs p)(hq:-1048577<=q/\q<=1048577):
 aI prog 114 [p.val,.int .i64 q].toArray L R (λv E G=>v=(KB p q).val/\L=E/\R=G):=by
 have hs:=a48 hq;have M:=hp.aB;have hl:=hp.jO;have kD:=hp.len;have N:=Dr (r:=p.b9.aB.bG) D hs;have V:=Dr (r:=p.b9.aB.bO) D hs;refine bW 86 call114 func114 ?_;apply(c8);intro cS;apply(dA);intro cT;apply lP∘pS∘RW∘mL;iterate 3 apply(eP)
 apply kZ∘OC;iterate 3 apply(eP)
 apply kZ∘OC∘y0∘dA;intro hP;apply rQ∘Le;apply(W)<;>intro aO;·
  apply(eK);iterate 3 apply(eP)
  apply kZ∘x3∘OC;iterate 3 apply(eP)
  apply kZ∘x3∘OC∘y0∘CL;exact aVR
 apply eR∘fH;exact aVR
def W0{x:Int}(h:0<=x):x.tdiv 2=x/2:=JQ h
def GU(f:Int->Int)(fV b6 aA:Int):Int:=
 if h:b6<aA then(if f (b6+(aA-b6+1).tdiv 2)<=fV then GU f fV (b6+(aA-b6+1).tdiv 2) aA else GU f fV b6 (b6+(aA-b6+1).tdiv 2-1))else b6
termination_by (aA-b6).toNat
decreasing_by all_goals (have:=W0 (x:=aA-b6+1) D;omega)
def GJ(f:Int->Int)(fV b6 aA:Int):Int:=
 if h:b6<aA then(if fV<=f (b6+(aA-b6).tdiv 2)then GJ f fV b6 (b6+(aA-b6).tdiv 2)else GJ f fV (b6+(aA-b6).tdiv 2+1) aA)else b6
termination_by (aA-b6).toNat
decreasing_by all_goals (have:=W0 (x:=aA-b6) D;omega)
def aKO{f:Int->Int}{fV b6 aA:Int}(h:b6<aA)(hf:f (b6+(aA-b6+1).tdiv 2)<=fV):GU f fV b6 aA=GU f fV (b6+(aA-b6+1).tdiv 2) aA:=by rw[GU,dif_pos h,if_pos hf]
def aK4{f:Int->Int}{fV b6 aA:Int}(h:b6<aA)(hf:¬f (b6+(aA-b6+1).tdiv 2)<=fV):GU f fV b6 aA=GU f fV b6 (b6+(aA-b6+1).tdiv 2-1):=by rw[GU,dif_pos h,if_neg hf]
def aL4{f:Int->Int}{fV b6 aA:Int}(h:¬b6<aA):GU f fV b6 aA=b6:=by rw[GU,dif_neg h]
def aMm{f:Int->Int}{fV b6 aA:Int}(h:b6<aA)(hf:fV<=f (b6+(aA-b6).tdiv 2)):GJ f fV b6 aA=GJ f fV b6 (b6+(aA-b6).tdiv 2):=by rw[GJ,dif_pos h,if_pos hf]
def aLA{f:Int->Int}{fV b6 aA:Int}(h:b6<aA)(hf:¬fV<=f (b6+(aA-b6).tdiv 2)):GJ f fV b6 aA=GJ f fV (b6+(aA-b6).tdiv 2+1) aA:=by rw[GJ,dif_pos h,if_neg hf]
def aMJ{f:Int->Int}{fV b6 aA:Int}(h:¬b6<aA):GJ f fV b6 aA=b6:=by rw[GJ,dif_neg h]
def tB(f:Int->a9)(fV:Int):Int:=GU (λq=>(f q).bO) fV (-1048577) 1048576
def s8(f:Int->a9)(fV:Int):Int:=GJ (λq=>(f q).bG) fV (-1048576) 1048577
def aM9(p:mK)(fV:Int)(L:aP)(R:aJ)(hm:aH p.fI R)(hp:Rs p):
 aI prog 190 [p.val,.int .i64 fV].toArray L R (λv E G=>v=.int .i64 (tB (KB p) fV)/\L=E/\R=G):=by
 refine bW 28 call190 func190 ?_;apply(c8);intro cS;apply mL∘dE∘dE;refine eI (aZ (a6 (e3 ?_)));refine c7 [(1,.int _ _),(2,.pointer _),(5,.int _ _),(6,.int _ _)] bP λeZ=>?_;refine gP (b4 5 22) (λg:{g:Int×Int// -1048577<=g.1/\g.1<=g.2/\g.2<=1048576/\tB (KB p) fV=GU (λq=>(KB p q).bO) fV g.1 g.2}=>[(5,.int .i64 g.1.1),(6,.int .i64 g.1.2)]) (λg=>(g.1.2-g.1.1).toNat) (⟨(-1048577,1048576),by omega,by omega,by omega,rfl⟩) ?_;rintro⟨⟨b6,aA⟩,N,V,aQ,b7⟩ bZ;try dsimp only
 apply(TF);apply(W)<;>intro aO;·
  dsimp only at N V aQ b7 aO;have X:=W0 (x:=aA-b6+1) D;refine dK (aZ (e3 (a6 (cR ?_))));iterate 3 apply(b1)
  apply kP∘l8∘PB∘l8∘mL∘Wa∘b1;refine cC rfl (aNX p (b6+(aA-b6+1).tdiv 2) _ _ hm hp D) ?_;exact aWE
 exact aYu
def aKn(p:mK)(fV:Int)(L:aP)(R:aJ)(hm:aH p.fI R)(hp:Rs p):
 aI prog 191 [p.val,.int .i64 fV].toArray L R (λv E G=>v=.int .i64 (s8 (KB p) fV)/\L=E/\R=G):=by
 refine bW 27 call191 func191 ?_;apply(c8);intro cS;apply mL∘dE∘dE;refine eI (aZ (a6 (e3 ?_)));refine c7 [(1,.int _ _),(2,.pointer _),(5,.int _ _),(6,.int _ _)] bP λeZ=>?_;refine gP (b4 5 21) (λg:{g:Int×Int// -1048576<=g.1/\g.1<=g.2/\g.2<=1048577/\s8 (KB p) fV=GJ (λq=>(KB p q).bG) fV g.1 g.2}=>[(5,.int .i64 g.1.1),(6,.int .i64 g.1.2)]) (λg=>(g.1.2-g.1.1).toNat) (⟨(-1048576,1048577),by omega,by omega,by omega,rfl⟩) ?_;rintro⟨⟨b6,aA⟩,N,V,aQ,b7⟩ bZ;try dsimp only
 apply(TF);apply(W)<;>intro aO;·
  dsimp only at N V aQ b7 aO;have X:=W0 (x:=aA-b6) D;refine dK (aZ (e3 (a6 (cR ?_))));iterate 3 apply(b1)
  apply kP∘PB∘l8∘mL∘Wa∘b1;refine cC rfl (aNX p (b6+(aA-b6).tdiv 2) _ _ hm hp D) ?_;exact aWF
 exact aYz
end Go.Proofs.YtchfclmokpbldaaGreat
namespace Go.Proofs.YtchfclmokpbldaaGreat
open Go.Aw Go Go.Proofs.Tryz
def Fp{aV:Type}{f:aV->Option Int}{l:List aV}(hf:∀x e,f x=some e->e≠0)(h:(l.findSome? f).getD 0=0):∀x∈l,f x=none:=by
 have hn:l.findSome? f=none:=by
  cases hs:l.findSome? f with
  |none=>rfl
  |some e=>rw[hs]at h;obtain⟨x,_,K⟩:=PI hs;exact absurd h (hf x e K)
 exact List.findSome?_eq_none_iff.1 hn
structure a4G(n:Nat)(r:eL):Prop where
 bK:0<=r.bK/\r.bK<n
 to:0<=r.to/\r.to<n
 ne:r.bK≠r.to
 aB:1<=r.aB.bG/\r.aB.bG<=r.aB.bO/\r.aB.bO<=262144
 jO:-2199023255552<=r.jO.bG/\r.jO.bG<=r.jO.bO/\r.jO.bO<=2199023255552
def a44{s:a9}{b6 aA:Int}:SG s b6 aA=true↔b6<=s.bG/\s.bG<=s.bO/\s.bO<=aA:=by simp[SG]
structure QB(m:hZ):Prop where
 places:m.places.l.length<=64
 aD:m.aD.l.length<=128
 b9:∀(i:Nat) (r:eL),m.aD.l[i]?=some r->a4G m.places.l.length r
def b50{m:hZ}(h:q0 m=0):QB m:=by
 unfold q0 at h;split at h;·cases h
 rename_i rU;split at h;·rename_i e X;subst h;exact aXj
 have sB:=Fp (f:=v6 m.places.l.length) (λx e K X=>by
  subst X;unfold v6 at K;split at K;·cases K
  ·split at K<;>cases K) h
 refine⟨by omega,by omega,λi r M=>?_⟩;have:=sB r (gU M);unfold v6 at this;split at this;·cases this
 rename_i N;split at this;·cases this
 rename_i V;have dY:SG r.aB 1 262144=true:=by
  cases hb:SG r.aB 1 262144 with
  |true=>rfl
  |false=>exact absurd (.inr (.inr (.inr (.inr (.inl hb))))) V
 have eY:SG r.jO (-2199023255552) 2199023255552=true:=by
  cases hb:SG r.jO (-2199023255552) 2199023255552 with
  |true=>rfl
  |false=>exact absurd (.inr (.inr (.inr (.inr (.inr hb))))) V
 exact⟨by omega,by omega,by omega,a44.1 dY,a44.1 eY⟩
structure Re(d:g9):Prop where
 b9:0<=d.b9
 len:2<=d.hH.l.length/\d.hH.l.length<=6
 aB:∀(i:Nat) (x:Int),d.hH.l[i]?=some x->0<=x/\x<=262144
 Tw:w0 d.hH.l d.hH.l.length=true
def b8w{l:List g9}(h:FH l=0):l.length<=16/\∀(i:Nat) (d:g9),l[i]?=some d->Re d/\¬Tb l i d:=by
 unfold FH at h;split at h;·cases h
 rename_i rU;have rW:∀(x:Int) (e:Int),Ds x=some e->e=1:=λx e X=>by unfold Ds at X;split at X<;>cases X;rfl
 have sB:=Fp (f:=L1 l) (λi e K X=>by
  subst X;unfold L1 at K;split at K;·cases K
  ·
   split at K;·cases K
   ·
    split at K;·cases K
    ·
     split at K;·rename_i vM wG;obtain⟨x,_,Bw⟩:=PI wG;have:=rW x _ Bw;cases K;cases this
     ·
      split at K;·cases K
      ·split at K<;>cases K) h
 refine⟨by omega,λi d hd=>?_⟩;obtain⟨aA,_⟩:=List.getElem?_eq_some_iff.1 hd;have:=sB i (List.mem_range.2 aA);rw[a4A hd]at this;split at this;·cases this
 rename_i N;split at this;·cases this
 rename_i V;split at this;·cases this
 rename_i aQ;split at this;·cases this
 rename_i b7;split at this;·cases this
 rename_i eG;refine⟨⟨by omega,by omega,λk x K=>?_,by simpa using b7⟩,eG⟩;have:=List.findSome?_eq_none_iff.1 aQ x (gU K);unfold Ds at this;exact Qa
def aQf{l:List Int}(h: ∀(i:Nat) (x:Int),l[i]? =some x->0<=x/\x<=262144): ∀(k:Nat),k<=l.length->1<=l.length->0<=SR l k/\SR l k<=l.getD 0 0/\l.getD 0 0<=SK l k/\SK l k<=262144
 |0,_,hl=>by have:=h 0 _ (iL 0 D);simp only[SR,SK];omega
 |k+1,hk,hl=>by
  have cM:=aQf h k D hl
  have:=h k _ (iL 0 D)
  simp only[SR,SK]
  omega
def a9X{d:g9}(h:Re d)(s:Int):0<=(v1 d s).bG/\(v1 d s).bG<=(v1 d s).bO/\(v1 d s).bO<=262144:=by
 unfold v1;split;·simp
 ·
  rename_i hc;split;·have:=aQf h.aB d.hH.l.length (g4 _) D;exact NJ
  ·have:=h.aB s.toNat _ (iL 0 D);exact NJ
structure rH(a:bR):Prop where
 Y:QB a.Y
 O4:a.a3.l.length<=8
 nD:∀(i:Nat) (f:hY),a.a3.l[i]?=some f->NW f/\f.b9<a.Y.aD.l.length
 M8:a.aX.l.length<=16
 uD:∀(i:Nat) (d:g9),a.aX.l[i]?=some d->Re d/\d.b9<a.Y.aD.l.length
def zE{a:bR}(h:hO a=0):rH a:=by
 unfold hO at h;split at h;·exact a2C
 rename_i N;split at h;·cases h
 rename_i V;split at h;·
  rename_i e X;subst h;obtain⟨x,_,K⟩:=PI X;unfold Eo at K;split at K;·rename_i iO;exact absurd (y2 K) iO
  ·split at K<;>cases K
 rename_i BP;split at h;·rename_i aQ;exact absurd h aQ
 rename_i aQ;have pU:=b8w (by simpa using aQ);have bCp:=Fp (f:=Dq a.Y.aD.l.length) (λx e K X=>by subst X;unfold Dq at K;split at K<;>cases K) h;refine⟨b50 a21,by omega,λi f hf=>?_,pU.1,λi d hd=>⟨(pU.2 i d hd).1,?_⟩⟩;·
  have:=List.findSome?_eq_none_iff.1 BP f (gU hf);unfold Eo at this;split at this;·cases this
  rename_i b7;split at this;·cases this
  exact⟨b9Q (by simpa using b7),by omega⟩
 ·have:=bCp d (gU hd);unfold Dq at this;exact Qa
structure YX(a:bR)(s:cE):Prop where
 X8:s.a3.l.length=a.a3.l.length
 aG2:s.aX.l.length=a.aX.l.length
 nD:∀(i:Nat) (x:Int),s.a3.l[i]?=some x->-1<=x/\x<=2
 uD:∀(i:Nat) (x:Int) (d:g9),s.aX.l[i]?=some x->a.aX.l[i]?=some d->-1<=x/\x<d.hH.l.length
def Ry{a:bR}{s:cE}(h:lL a s=true):YX a s:=by
 unfold lL at h;split at h;·cases h
 rename_i N;simp only[oS,Option.isNone_iff_eq_none]at h;refine⟨by omega,by omega,λi x K=>?_,λi x d K hd=>?_⟩;·have:=List.findSome?_eq_none_iff.1 h.1 x (gU K);unfold Rk at this;exact Qa
 ·obtain⟨aA,_⟩:=List.getElem?_eq_some_iff.1 K;have:=List.findSome?_eq_none_iff.1 h.2 i (List.mem_range.2 aA);rw[a42 K hd]at this;exact Qa
attribute [local irreducible] cH c6 dP aI cJ eD e9 e0 e1 e5 eS e8
def m8(a:bR)(s:cE)(r:Int):Nat->a9
 |0=>(a.Y.aD.l.getD r.toNat default).aB
 |k+1=>if(a.aX.l.getD k default).b9=r then⟨(m8 a s r k).bG+(v1 (a.aX.l.getD k default) (s.aX.l.getD k 0)).bG,(m8 a s r k).bO+(v1 (a.aX.l.getD k default) (s.aX.l.getD k 0)).bO⟩else m8 a s r k
def W7(aB jO:a9)(q:Int):a9:=
 if q<0 then⟨-(aB.bO*q*q)-jO.bO,-(aB.bG*q*q)-jO.bG⟩else⟨aB.bG*q*q-jO.bO,aB.bO*q*q-jO.bG⟩
def oP(a:bR)(s:cE)(r q:Int):Nat->a9
 |0=>W7 (m8 a s r a.aX.l.length) (a.Y.aD.l.getD r.toNat default).jO q
 |k+1=>if(a.a3.l.getD k default).b9=r then⟨(oP a s r q k).bG-(o3 (a.a3.l.getD k default) (s.a3.l.getD k 0) q).bO,(oP a s r q k).bO-(o3 (a.a3.l.getD k default) (s.a3.l.getD k 0) q).bG⟩else oP a s r q k
def lU(a:bR)(s:cE)(r q:Int):a9:=oP a s r q a.a3.l.length
def Fr{a:bR}{s:cE}(h:rH a){r:Int}(M:0<=r/\r<a.Y.aD.l.length):∀(k:Nat),k<=a.aX.l.length->
 1<=(m8 a s r k).bG/\(m8 a s r k).bG<=(m8 a s r k).bO/\(m8 a s r k).bO<=262144*(k+1)
 |0,_=>by
  have:=(h.Y.b9 r.toNat _ YS).aB
  simp only[m8];omega
 |k+1,hk=>by
  have cM:=Fr (s:=s) h M k D
  have hb:=a9X (h.uD k _ YS).1 (s.aX.l.getD k 0)
  simp only[m8]
  split
  ·dsimp only;omega
  ·omega
def aQg{r q:Int}(M:0<=r/\r<=4456448)(hq:-1048577<=q/\q<=1048577):-4672928874496<=r*q/\r*q<=4672928874496:=by
 rcases JT q 0 with h|h;·have N:=JS M.2 (show -q<=1048577 by omega) D D;have V:=y4 M.1 (show 0<= -q by omega);rw[Qe]at N V;omega
 ·have N:=JS M.2 hq.2 h D;have V:=y4 M.1 h;omega
def aDb{a:bR}{s:cE}{r q:Int}(h:q<0):oP a s r q 0=⟨-((m8 a s r a.aX.l.length).bO*q*q)-(a.Y.aD.l.getD r.toNat default).jO.bO,-((m8 a s r a.aX.l.length).bG*q*q)-(a.Y.aD.l.getD r.toNat default).jO.bG⟩:=if_pos h
def aCQ{a:bR}{s:cE}{r q:Int}(h:¬q<0):oP a s r q 0=⟨(m8 a s r a.aX.l.length).bG*q*q-(a.Y.aD.l.getD r.toNat default).jO.bO,(m8 a s r a.aX.l.length).bO*q*q-(a.Y.aD.l.getD r.toNat default).jO.bG⟩:=if_neg h
def aO5{a:bR}{s:cE}(h:rH a){r q:Int}(M:0<=r/\r<a.Y.aD.l.length)(hq:-1048577<=q/\q<=1048577):∀(k:Nat),k<=a.a3.l.length->
 -4899925740432392192-2199023255552*(k+1)<=(oP a s r q k).bG/\(oP a s r q k).bG<=(oP a s r q k).bO/\(oP a s r q k).bO<=4899925740432392192+2199023255552*(k+1)
 |0,_=>by
  have hs:=a48 hq
  have hn:=h.M8
  have UO:=Fr (s:=s) h M a.aX.l.length (g4 _)
  have hl:=(h.Y.b9 r.toNat _ YS).jO
  have N:=Dr (r:=(m8 a s r a.aX.l.length).bG) D hs
  have V:=Dr (r:=(m8 a s r a.aX.l.length).bO) D hs
  have aQ:(m8 a s r a.aX.l.length).bG*(q*q)<=(m8 a s r a.aX.l.length).bO*(q*q):=a2Q UO.2.1 hs.1
  rcases JT q 0 with cN|cN
  ·rw[aDb cN,VE,VE];dsimp only;omega
  ·rw[aCQ D,VE,VE];dsimp only;omega
 |k+1,hk=>by
  have cM:=aO5 (s:=s) h M hq k D
  have hb:=a4c (h.nD k _ YS).1 (s.a3.l.getD k 0) q
  simp only[oP]
  split
  ·dsimp only;omega
  ·omega
def aM0(a:bR)(s:cE)(r q:Int)(L:aP)(R:aJ)(hm:nT a R)(hs:o2 s R)(ha:rH a)(hf:YX a s)(M:0<=r/\r<a.Y.aD.l.length)(hq:-1048577<=q/\q<=1048577):
 aI prog 290 [a.val,s.val,.int .i64 r,.int .i64 q].toArray L R (λv E G=>v=(lU a s r q).val/\L=E/\R=G):=by
 have UJ:=hm.aD;have tJ:=hm.a3;have pU:=hm.aX;have Bo:=hs.a3;have X4:=hs.aX;have u5:=ha.M8;have RG:=ha.O4;have Hg:=hf.X8;have bDb:=hf.aG2;have kX:=bJ a.Y.aD.l r.toNat default;have UQ:=(ha.Y.b9 _ _ kX).jO;have aGu:=a48 hq;refine bW 138 call290 func290 ?_;apply(c8);intro cT;apply(iU);intro eH;apply(dA);intro gL;apply lP∘FD;refine aG (by first|exact j9 O rfl rfl rfl rfl jC (i:=r.toNat) cW D|exact i9 O rfl rfl rfl rfl (i:=r.toNat) cW D) ?_;apply(WQ);intro h8;apply rP∘CM∘dA;intro jE;apply rQ∘mM;refine c7 [(2,.int _ _),(3,.int _ _),(4,.pointer _),(5,.pointer _),(8,.pointer _),(9,.pointer _),(10,.pointer _),(11,.int _ _)] bP λeZ=>?_;refine kO ([11,12]++b4 24 38) ((⟨λg=>[(11,.int .i64 ((g.1:Nat):Int))],λg=>⟨jE,[.int .i64 (m8 a s r g.1).bG,.int .i64 (m8 a s r g.1).bO],90⟩::⟨h8,(a.Y.aD.l.getD r.toNat default).cells,157⟩::⟨gL,[.int .i64 0,.int .i64 0],90⟩::⟨eH,s.cells,80⟩::⟨cT,a.cells,32⟩::L,λ_=>R,λg=>a.aX.l.length-g.1⟩:dV {k:Nat//k<=a.aX.l.length})) (⟨0,by omega⟩) ?_;rintro⟨k,hk⟩ bZ;try dsimp only
 apply(oJ);apply(W)<;>intro aO;·
  have K:=bJ a.aX.l k default;have aN:=bJ s.aX.l k 0;have UO:=Fr (s:=s) ha M k D;have aET:=a9X (ha.uD _ _ K).1 (s.aX.l.getD k 0);apply CK∘B2∘TE∘mT;apply(W)<;>intro bF;·have e:m8 a s r (k+1)=_:=if_pos bF;refine a6 ?_;refine gJ O [0,1,2,3,4,5,6,7,8,9,10,11,12] _ cX bE g3 ?_;apply WG∘PC∘WG∘lW;refine k6 rfl (aOW (a.aX.l.getD k default) (s.aX.l.getD k 0) _ _ (pU.uD K)) ?_;apply(p2);intro lN;apply sE∘vW;refine hF O [57,58,59] [0,1,2,3,4,5,6,7,8,9,10] [11,12,13] (_) _ cX bE a2 b07 ?_;apply QV∘PA∘l1∘IM;refine m5 a25 ?_;exact(TA∘kT∘Ik∘z4) aIN
  have e:m8 a s r (k+1)=_:=if_neg bF;exact(mD) aIN
 obtain rfl:k=a.aX.l.length:=by omega
 have UO:=Fr (s:=s) ha M a.aX.l.length (g4 _);have u1:=Dr (r:=(m8 a s r a.aX.l.length).bG) D aGu;have q7:=Dr (r:=(m8 a s r a.aX.l.length).bO) D aGu;have KW:=aQg (r:=(m8 a s r a.aX.l.length).bG) D hq;have OM:=aQg (r:=(m8 a s r a.aX.l.length).bO) D hq;rw[<-VE]at u1 q7;apply oD∘gE∘RW∘OC∘gE∘RW∘OC∘y0∘dA;intro FM;apply rQ∘Le;apply(W)<;>intro b2;·apply QW∘x3∘fH∘x3∘y0∘G5∘aMZ∘l1∘wL∘l1∘NE∘l1∘aHq∘IM∘aHs∘TA∘kT∘Ik∘LI∘mM;exact aVQ
 apply x2∘aMZ∘l1∘wL∘l1∘NE∘l1∘aHq∘IM∘aHs∘TA∘kT∘Ik∘LI∘mM;exact aVQ
def aLy(a:bR)(s:cE)(r fV:Int)(L:aP)(R:aJ)(hm:nT a R)(hs:o2 s R)(ha:rH a)(hf:YX a s)(M:0<=r/\r<a.Y.aD.l.length):
 aI prog 257 [a.val,s.val,.int .i64 r,.int .i64 fV].toArray L R (λv E G=>v=.int .i64 (tB (lU a s r) fV)/\L=E/\R=G):=by
 refine bW 34 call257 func257 ?_;apply(c8);intro cT;apply(iU);intro eH;apply mL∘dE∘dE;refine eI (aZ (a6 (e3 ?_)));refine c7 [(2,.int _ _),(3,.int _ _),(4,.pointer _),(5,.pointer _),(9,.int _ _),(10,.int _ _)] bP λeZ=>?_;refine gP (b4 9 24) (λg:{g:Int×Int// -1048577<=g.1/\g.1<=g.2/\g.2<=1048576/\tB (lU a s r) fV=GU (λq=>(lU a s r q).bO) fV g.1 g.2}=>[(9,.int .i64 g.1.1),(10,.int .i64 g.1.2)]) (λg=>(g.1.2-g.1.1).toNat) (⟨(-1048577,1048576),by omega,by omega,by omega,rfl⟩) ?_;rintro⟨⟨b6,aA⟩,N,V,aQ,b7⟩ bZ;try dsimp only
 apply(TF);apply(W)<;>intro aO;·
  dsimp only at N V aQ b7 aO;have X:=W0 (x:=aA-b6+1) D;refine dK (aZ (e3 (a6 (cR ?_))));iterate 3 apply(b1)
  apply kP∘l8∘PB∘l8∘mL∘wW∘pS;refine cC rfl (aM0 a s r (b6+(aA-b6+1).tdiv 2) _ _ hm hs ha hf M D) ?_;exact aWE
 exact aYu
def aJC(a:bR)(s:cE)(r fV:Int)(L:aP)(R:aJ)(hm:nT a R)(hs:o2 s R)(ha:rH a)(hf:YX a s)(M:0<=r/\r<a.Y.aD.l.length):
 aI prog 258 [a.val,s.val,.int .i64 r,.int .i64 fV].toArray L R (λv E G=>v=.int .i64 (s8 (lU a s r) fV)/\L=E/\R=G):=by
 refine bW 33 call258 func258 ?_;apply(c8);intro cT;apply(iU);intro eH;apply mL∘dE∘dE;refine eI (aZ (a6 (e3 ?_)));refine c7 [(2,.int _ _),(3,.int _ _),(4,.pointer _),(5,.pointer _),(9,.int _ _),(10,.int _ _)] bP λeZ=>?_;refine gP (b4 9 23) (λg:{g:Int×Int// -1048576<=g.1/\g.1<=g.2/\g.2<=1048577/\s8 (lU a s r) fV=GJ (λq=>(lU a s r q).bG) fV g.1 g.2}=>[(9,.int .i64 g.1.1),(10,.int .i64 g.1.2)]) (λg=>(g.1.2-g.1.1).toNat) (⟨(-1048576,1048577),by omega,by omega,by omega,rfl⟩) ?_;rintro⟨⟨b6,aA⟩,N,V,aQ,b7⟩ bZ;try dsimp only
 apply(TF);apply(W)<;>intro aO;·
  dsimp only at N V aQ b7 aO;have X:=W0 (x:=aA-b6) D;refine dK (aZ (e3 (a6 (cR ?_))));iterate 3 apply(b1)
  apply kP∘PB∘l8∘mL∘wW∘pS;refine cC rfl (aM0 a s r (b6+(aA-b6).tdiv 2) _ _ hm hs ha hf M D) ?_;exact aWF
 exact aYz
def rK(p:Int):Option Int:=if p< -70368744177664\/70368744177664<p then some 1 else none
def Dx(q:Int):Option Int:=if q< -1048576\/1048576<q then some 1 else none
def KG(a:bR)(x:q2):Nat->List Int
 |0=>List.replicate x.bY.l.length 0
 |k+1=>
  let zQ:=(KG a x k).set (a.Y.aD.l.getD k default).bK.toNat ((KG a x k).getD (a.Y.aD.l.getD k default).bK.toNat 0+x.g8.l.getD k 0)
  zQ.set (a.Y.aD.l.getD k default).to.toNat (zQ.getD (a.Y.aD.l.getD k default).to.toNat 0-x.g8.l.getD k 0)
def SD(a:bR)(s:cE)(x:q2)(i:Nat):Option Int:=
 let r:=a.Y.aD.l.getD i default
 let d:=x.bY.l.getD r.bK.toNat 0-x.bY.l.getD r.to.toNat 0
 if(r.dM=true/\x.g8.l.getD i 0≠0)\/(r.dM=false/\(d<(lU a s i (x.g8.l.getD i 0)).bG\/(lU a s i (x.g8.l.getD i 0)).bO<d))then some 10 else none
def TT(a:bR)(x:q2)(Po:List Int)(i:Nat):Option Int:=
 if((a.Y.places.l.getD i default).r3=true/\x.bY.l.getD i 0≠0)\/((a.Y.places.l.getD i default).r3=false/\Po.getD i 0≠0)then some 10 else none
def Es(a:bR)(s:cE)(x:q2):Int:=
 if hO a≠0 then hO a else if lL a s=false then 21
 else if x.bY.l.length≠a.Y.places.l.length\/x.g8.l.length≠a.Y.aD.l.length then 11
 else match x.bY.l.findSome? rK with
  |some e=>e
  |none=>match x.g8.l.findSome? Dx with
   |some e=>e
   |none=>match(List.range x.g8.l.length).findSome? (SD a s x)with
    |some e=>e
    |none=>((List.range x.bY.l.length).findSome? (TT a x (KG a x x.g8.l.length))).getD 0
def b79(a:bR)(x:q2): ∀k,(KG a x k).length=x.bY.l.length
 |0=>by simp[KG]
 |k+1=>by simp only[KG,p6];exact b79 a x k
def aAA{a:bR}{s:cE}{x:q2}(bQ:hO a=0)(N:lL a s=true)(V:¬(x.bY.l.length≠a.Y.places.l.length\/x.g8.l.length≠a.Y.aD.l.length)):
 Es a s x=match x.bY.l.findSome? rK with
 |some e=>e
 |none=>match x.g8.l.findSome? Dx with
  |some e=>e
  |none=>match(List.range x.g8.l.length).findSome? (SD a s x)with
   |some e=>e
   |none=>((List.range x.bY.l.length).findSome? (TT a x (KG a x x.g8.l.length))).getD 0:=by rw[Es,if_neg (by simp[bQ]),if_neg (by simp[N]),if_neg V]
end Go.Proofs.YtchfclmokpbldaaGreat
namespace Go.Proofs.YtchfclmokpbldaaGreat
open Go.Aw Go Go.Proofs.Tryz
def KS(a:bR)(s:cE)(r:Int):Nat->List DZ
 |0=>[]
 |k+1=>if s.a3.l.getD k 0≠0/\(a.a3.l.getD k default).b9=r then KS a s r k++[⟨a.a3.l.getD k default,s.a3.l.getD k 0⟩]else KS a s r k
structure Rr(a:bR)(s:cE)(r:Int)(p:mK):Prop where
 b9:p.b9={a.Y.aD.l.getD r.toNat default with aB:=m8 a s r a.aX.l.length}
 rC:p.rC=r
 a3:p.a3.l=KS a s r a.a3.l.length
def aKP(q:Int)(s:a9)(b:DZ):a9:=⟨s.bG-(o3 b.nD b.state q).bO,s.bO-(o3 b.nD b.state q).bG⟩
def aK0(p:mK)(q:Int): ∀k,k<=p.a3.l.length->IE p q k=(p.a3.l.take k).foldl (aKP q) (IE p q 0)
 |0,_=>by simp
 |k+1,hk=>by
  have K:=bJ p.a3.l k default
  have e:p.a3.l.take (k+1)=p.a3.l.take k++[p.a3.l.getD k default]:=by
   rw[PM,K];rfl
  rw[e,Iy,<-aK0 p q k D]
  rfl
def b1w(f:hY)(q:Int):o3 f 0 q=⟨0,0⟩:=by rw[o3,if_neg bH,if_neg bH,if_neg bH]
def aJD(a:bR)(s:cE)(r q:Int): ∀k,oP a s r q k=(KS a s r k).foldl (aKP q) (oP a s r q 0)
 |0=>rfl
 |k+1=>by
  have cM:=aJD a s r q k
  rw[oP.eq_2,KS.eq_2]
  by_cases M:(a.a3.l.getD k default).b9=r
  ·by_cases bQ:s.a3.l.getD k 0=0
   ·rw[if_pos M,if_neg (λh=>h.1 bQ),bQ,b1w,<-cM]
    simp only[Int.sub_zero]
   ·rw[if_pos M,if_pos ⟨bQ,M⟩,Iy,<-cM]
    rfl
  ·rw[if_neg M,if_neg (λh=>M h.2),<-cM]
def aL1{a:bR}{s:cE}{r:Int}{p:mK}(h:Rr a s r p)(q:Int):KB p q=lU a s r q:=by
 have XF:IE p q 0=oP a s r q 0:=by
  by_cases hq:q<0;·rw[aRd hq,aDb hq,h.b9,Qf,Qf,VE,VE]
  ·rw[aQJ hq,aCQ hq,h.b9,VE,VE]
 rw[KB,aK0 p q _ (g4 _),Qk,XF,h.a3,lU,aJD a s r q a.a3.l.length]
def a59{a:bR}{s:cE}{r:Int}: ∀(k:Nat),k<=a.a3.l.length->∀b∈KS a s r k,∃i:Nat,a.a3.l[i]? =some b.nD
 |0,_,b,hb=>by simp[KS]at hb
 |k+1,hk,b,hb=>by
  rw[KS]at hb
  split at hb
  ·rcases List.mem_append.1 hb with h|h
   ·exact a59 k D b h
   ·rw[List.mem_singleton.1 h];exact⟨k,iL default D⟩
  ·exact a59 k D b hb
def aCz{a:bR}{s:cE}{r:Int}: ∀(k:Nat),(KS a s r k).length<=k
 |0=>by simp[KS]
 |k+1=>by
  have:=aCz (a:=a) (s:=s) (r:=r) k
  rw[KS]
  split
  ·simp;omega
  ·omega
def aPY{a:bR}{s:cE}{r:Int}{p:mK}(ha:rH a)(M:0<=r/\r<a.Y.aD.l.length)(h:Rr a s r p):Rs p:=by
 have kX:=ha.Y.b9 r.toNat _ YS;have UO:=Fr (s:=s) ha M a.aX.l.length (g4 _);have u5:=ha.M8;have RG:=ha.O4;have hl:=aCz (a:=a) (s:=s) (r:=r) a.a3.l.length;refine⟨?_,?_,?_,λi b hb=>?_⟩;·rw[h.b9];dsimp only;omega
 ·rw[h.b9];exact kX.jO
 ·rw[h.a3];omega
 ·rw[h.a3]at hb;obtain⟨j,aY⟩:=a59 a.a3.l.length (g4 _) b (gU hb);exact(ha.nD j _ aY).1
def Rv(f:Int->Int):Prop:=∀x y:Int,-1048577<=x->x<y->y<=1048577->f x<f y
def Ke(s t:a9):Prop:=s.bG<=t.bG/\s.bO<=t.bO
def aLt{a b:h6}{q:Int}(cV:a.dB<b.dB):(CF a b q).bG=a.bY+(-((a.bY-b.bY)*(q-a.dB)))/(b.dB-a.dB):=by rw[aBw D];unfold CF;dsimp only;omega
def b7a{a b:h6}{q nJ:Int}(hp:b.bY<=a.bY)(cV:a.dB<b.dB)(h:q<=nJ):Ke (CF a b nJ) (CF a b q):=by
 have hm:(a.bY-b.bY)*(q-a.dB)<=(a.bY-b.bY)*(nJ-a.dB):=a2I D D;constructor;·rw[aLt cV,aLt cV];have:=Int.ediv_le_ediv (a:= -((a.bY-b.bY)*(nJ-a.dB))) (b:= -((a.bY-b.bY)*(q-a.dB))) (c:=b.dB-a.dB) D D;omega
 ·have:=Int.ediv_le_ediv (a:=(a.bY-b.bY)*(q-a.dB)) (b:=(a.bY-b.bY)*(nJ-a.dB)) (c:=b.dB-a.dB) D hm;unfold CF;dsimp only;omega
def aJZ: ∀(l:List h6) (p:h6) (q nJ:Int),A1 (p::l)->p.dB<=q->q<=nJ->Ke (E2 p l nJ) (E2 p l q)
 |[],p,q,nJ,_,_,_=>⟨oE _,oE _⟩
 |r::aB,p,q,nJ,h,hq,OY=>by
  have bQ:=h.yY 0 p rfl
  have N:=h.yY 1 r rfl
  have V:=h.e7 0 p r rfl rfl
  have O6:A1 (r::aB):=⟨λi=>h.yY (i+1),λi=>h.e7 (i+1)⟩
  unfold E2
  by_cases yN:q<=r.dB
  ·by_cases jG:nJ<=r.dB
   ·rw[if_pos yN,if_pos jG];exact b7a V.2 V.1 OY
   ·rw[if_pos yN,if_neg jG]
    have gK:=aLT (a:=p) (b:=r) (q:=q) D D
    have cS:=Yt aB r nJ O6 D
    exact⟨by omega,by omega⟩
  ·rw[if_neg yN,if_neg D]
   exact aJZ aB r q nJ O6 D OY
def aLE{l:List h6}(h:A1 l){q nJ:Int}(OY:q<=nJ):Ke (vJ l nJ) (vJ l q):=by
 cases l with
 |nil=>exact⟨oE _,oE _⟩
 |cons p aB=>
  unfold vJ;dsimp only;by_cases yN:q<=p.dB;·
   by_cases jG:nJ<=p.dB;·rw[if_pos yN,if_pos jG];exact⟨oE _,oE _⟩
   ·rw[if_pos yN,if_neg jG];have cS:=Yt aB p nJ h D;exact⟨by dsimp only;omega,by dsimp only;omega⟩
  ·rw[if_neg yN,if_neg D];exact aJZ aB p q nJ h D OY
def a6f{l:List h6}(h:A1 l)(nB:Bool){q nJ:Int}(OY:q<=nJ):Ke (yJ l nB nJ) (yJ l nB q):=by
 unfold yJ;cases nB with
 |false=>exact aLE h OY
 |true=>have:=aLE h (q:= -nJ) (nJ:= -q) D;exact⟨by simp only[if_true,Sd];have:=this.2;omega,by simp only[if_true,Sd];have:=this.1;omega⟩
def b4l{f:hY}(h:A1 f.hJ.l)(s:Int){q nJ:Int}(OY:q<=nJ):Ke (o3 f s nJ) (o3 f s q):=by
 have RR:=a6f h f.nB OY;have O3:=a6f h (!f.nB) OY;have bKE:=a6f h false OY;have bKF:=a6f h true OY;unfold Ke at*;unfold o3;split;·exact RR
 ·
  split;·exact O3
  ·
   split;·exact NJ
   ·exact⟨oE _,oE _⟩
def Zh(s t:a9):Prop:=s.bG<t.bG/\s.bO<t.bO
def Sj{r x y:Int}(M:0<r)(K:0<=x)(h:x<y):r*x*x<r*y*y:=by have N:r*x<=r*y:=a2I D D;have bQ:0<=r*x:=y4 D K;have V:r*x*x<=r*x*y:=a2I D bQ;have aQ:r*x<r*y:=Int.mul_lt_mul_of_pos_left h M;have b7:r*x*y<r*y*y:=Int.mul_lt_mul_of_pos_right aQ D;omega
def b88{aB jO:a9}(M:1<=aB.bG/\aB.bG<=aB.bO){q nJ:Int}(h:q<nJ):Zh (W7 aB jO q) (W7 aB jO nJ):=by
 unfold W7 Zh;have neg:∀(r x:Int),r*x*x=r*(-x)*(-x):=λr x=>by rw[Qe (r* -x),Qe r,Qf,Int.neg_neg]
 by_cases yN:q<0;·
  by_cases jG:nJ<0;·rw[if_pos yN,if_pos jG];have j5:=Sj (r:=aB.bO) (x:= -nJ) (y:= -q) D D D;have kK:=Sj (r:=aB.bG) (x:= -nJ) (y:= -q) D D D;rw[<-neg,<-neg]at j5 kK;exact NJ
  ·rw[if_pos yN,if_neg jG];have j5:=Sj (r:=aB.bO) (x:=0) (y:= -q) D D D;have kK:=Sj (r:=aB.bG) (x:=0) (y:= -q) D D D;rw[<-neg]at j5 kK;have gK:0<=aB.bG*nJ*nJ:=y4 (y4 D D) D;have cS:0<=aB.bO*nJ*nJ:=y4 (y4 D D) D;simp only[a8S]at j5 kK;exact NJ
 ·rw[if_neg yN,if_neg D];have j5:=Sj (r:=aB.bO) (x:=q) (y:=nJ) D D h;have kK:=Sj (r:=aB.bG) (x:=q) (y:=nJ) D D h;exact NJ
def aQj{a:bR}{s:cE}(ha:rH a){r:Int}(M:0<=r/\r<a.Y.aD.l.length){q nJ:Int}(h:q<nJ): ∀k,k<=a.a3.l.length->Zh (oP a s r q k) (oP a s r nJ k)
 |0,_=>by
  have hb:=Fr (s:=s) ha M a.aX.l.length (g4 _)
  exact b88 ⟨hb.1,hb.2.1⟩ h
 |k+1,hk=>by
  have cM:=aQj (s:=s) ha M h k D
  have m:=b4l (ha.nD k _ YS).1.ok (s.a3.l.getD k 0) (show q<=nJ by omega)
  unfold Zh Ke at*
  rw[oP.eq_2,oP.eq_2]
  split
  ·dsimp only;omega
  ·exact cM
def aMH{a:bR}{s:cE}(ha:rH a){r:Int}(M:0<=r/\r<a.Y.aD.l.length){q nJ:Int}(h:q<nJ):Zh (lU a s r q) (lU a s r nJ):=aQj ha M h _ (g4 _)
def Rv.le{f:Int->Int}(h:Rv f){x y:Int}(N:-1048577<=x)(V:x<=y)(aQ:y<=1048577):f x<=f y:=by
 rcases Int.lt_or_eq_of_le V with cN|cN;·exact Int.le_of_lt (h x y N cN aQ)
 ·rw[cN];exact oE _
def aBg{f:Int->Int}{fV:Int}(hf:Rv f):∀(n:Nat) (b6 aA:Int),(aA-b6).toNat=n->-1048577<=b6->b6<=aA->aA<=1048577->
 b6<=GU f fV b6 aA/\GU f fV b6 aA<=aA/\(∀x,b6<x->x<=GU f fV b6 aA->f x<=fV)/\(∀x,GU f fV b6 aA<x->x<=aA->fV<f x)
 |n,b6,aA,hn,N,HJ,V=>by
  by_cases h:b6<aA
  ·have X:=W0 (x:=aA-b6+1) D
   by_cases hc:f (b6+(aA-b6+1).tdiv 2)<=fV
   ·rw[aKO h hc]
    obtain⟨j5,kK,lV,q5⟩:=aBg (fV:=fV) hf _ (b6+(aA-b6+1).tdiv 2) aA rfl D D V
    refine⟨by omega,kK,λx HO rY=>?_,q5⟩
    rcases JT (b6+(aA-b6+1).tdiv 2) x with K|K
    ·exact lV x K rY
    ·exact Int.le_trans (hf.le D K D) hc
   ·rw[aK4 h hc]
    obtain⟨j5,kK,lV,q5⟩:=aBg (fV:=fV) hf _ b6 (b6+(aA-b6+1).tdiv 2-1) rfl N D D
    refine⟨j5,by omega,lV,λx HO rY=>?_⟩
    rcases JT (b6+(aA-b6+1).tdiv 2-1) x with K|K
    ·have:=hf.le (x:=b6+(aA-b6+1).tdiv 2) (y:=x) D D D
     omega
    ·exact q5 x HO K
  ·rw[aL4 h]
   exact⟨by omega,by omega,λx _ _=>by omega,λx _ _=>by omega⟩
termination_by n=>n
decreasing_by all_goals (have:=W0 (x:=aA-b6+1) D;omega)
def aAV{f:Int->Int}{fV:Int}(hf:Rv f):∀(n:Nat) (b6 aA:Int),(aA-b6).toNat=n->-1048577<=b6->b6<=aA->aA<=1048577->
 b6<=GJ f fV b6 aA/\GJ f fV b6 aA<=aA/\(∀x,b6<=x->x<GJ f fV b6 aA->f x<fV)/\(∀x,GJ f fV b6 aA<=x->x<aA->fV<=f x)
 |n,b6,aA,hn,N,HJ,V=>by
  by_cases h:b6<aA
  ·have X:=W0 (x:=aA-b6) D
   by_cases hc:fV<=f (b6+(aA-b6).tdiv 2)
   ·rw[aMm h hc]
    obtain⟨j5,kK,lV,q5⟩:=aAV (fV:=fV) hf _ b6 (b6+(aA-b6).tdiv 2) rfl N D D
    refine⟨j5,by omega,lV,λx HO rY=>?_⟩
    rcases JT x (b6+(aA-b6).tdiv 2)with K|K
    ·exact q5 x HO K
    ·exact Int.le_trans hc (hf.le D K D)
   ·rw[aLA h hc]
    obtain⟨j5,kK,lV,q5⟩:=aAV (fV:=fV) hf _ (b6+(aA-b6).tdiv 2+1) aA rfl D D V
    refine⟨by omega,kK,λx HO rY=>?_,q5⟩
    rcases JT x (b6+(aA-b6).tdiv 2+1)with K|K
    ·have:=hf.le (x:=x) (y:=b6+(aA-b6).tdiv 2) D D D
     omega
    ·exact lV x K rY
  ·rw[aMJ h]
   exact⟨by omega,by omega,λx _ _=>by omega,λx _ _=>by omega⟩
termination_by n=>n
decreasing_by all_goals (have:=W0 (x:=aA-b6) D;omega)
def b5V{a:bR}{s:cE}(ha:rH a){r:Int}(M:0<=r/\r<a.Y.aD.l.length):Rv λq=>(lU a s r q).bG:=λ_ _ _ h _=>(aMH ha M h).1
def b7A{a:bR}{s:cE}(ha:rH a){r:Int}(M:0<=r/\r<a.Y.aD.l.length):Rv λq=>(lU a s r q).bO:=λ_ _ _ h _=>(aMH ha M h).2
attribute [local irreducible] cH c6 dP aI cJ eD e9 e0 e1 e5 eS e8
def m3(n:Int):List Value:=[.int .u8 n]
abbrev hA(x:a0 Int):fG:=x.fI 1 m3 []
abbrev eT(c:Nat)(x:a0 Int)(k:Nat):a5:=⟨c,[x.val,.int .i64 (k:Int)],168⟩
structure jK(x:a0 Int)(R:aJ):Prop where
 fI:aH (hA x) R
 a6q:∀(i:Nat) (b:Int),x.l[i]?=some b->0<=b/\b<=255
def aCh(c:Nat)(x:a0 Int)(k:Nat)(n:Int)(R:aJ)(K:jK x R)(hk:k<=x.l.length)(hn:n<=1000000):
 aI prog 20 [.pointer (some ⟨c,0,none⟩),.int .i64 n].toArray [eT c x k] R
  (λv E G=>∃(r:Int) (b5:Nat),v=.int .i64 r/\0<=r/\(1<=n->r<n)/\(n<1->r=0)/\b5<=x.l.length/\(x.l.length<=k->r=0/\b5=k)/\[eT c x b5]=E/\R=G):=by
 have oA:=K.fI;refine nN call20 oA λOZ=>?_;refine bW 77 call20 func20 ?_;apply rN∘y1;refine gJ O [0,1,2,3,4,5,6,7,8,9,10,11,12,13] _ cX bE g3 ?_;apply(g1);refine a4 HY ?_;apply(tN);refine l0 (k:=8) aW (λjM=>?_) (λjM=>?_);·
  replace jM:=a8 jM;iterate 10 apply(kQ)
  apply(m2);refine wR rfl ?_;exact aZM
 replace jM:=a8 jM;apply TI∘TI;refine a4 vZ ?_;refine a4 JU ?_;apply(m2);apply(W)<;>intro aO;·exact aZM
 have hb:=bJ x.l k 0;have C6:=K.a6q _ _ hb;apply eR∘hS;refine aG iQ ?_;apply fH∘l8;refine aG iQ ?_;apply r7∘jW;refine gJ O [0,1,2,3,4,5,6,7,8,9,10,11,12] _ cX bE g3 ?_;apply TI∘TI∘yZ∘aHt∘lW∘Wb∘qD;refine gS (aZ (a6 (a6 ?_)));refine gJ O [0,1,2,3,4,5,6,7,8,9,10,11,12,13] _ cX bE g3 ?_;apply(g1);refine a4 YP ?_;apply(tN);refine l0 (k:=41) aW (λjM=>?_) (λjM=>?_);·
  replace jM:=a8 jM;apply TI∘TI;refine a4 vZ ?_;refine a4 HY ?_;apply(m2);apply(W)<;>intro bF;·
   obtain⟨hB,s0⟩:∃hB,hB=k+2:=⟨_,rfl⟩;have AJ:=bJ x.l (k+1) 0;have bJk:=K.a6q _ _ AJ;refine a6 ?_;refine gJ O [0,1,2,3,4,5,6,7,8,9,10,11,12,13,14] _ cX bE g3 ?_;apply g1∘Co∘TI∘TI∘aVd∘lW∘Wb∘EK∘qD;refine gS (aZ (cR ?_));apply(hS);refine aG iQ ?_;apply fH∘l8;refine aG iQ ?_;apply G3∘pS∘Im∘q3;have rX:=λy (h:0<=y)=>And.intro (a8I n h) (a8z y (show 0<n by omega));refine lJ (E:=[eT c x hB]) (G:=R) R7 ?hp ?c2 ?bD;case hp=>exact⟨_,hB,rfl,(rX _ D).1,λ_=>(rX _ D).2,λ_=>by omega,by omega,λh=>by omega,rfl,rfl⟩
   case c2=>subst s0;exact a2
   case bD=>exact mB _
  obtain⟨hB,s0⟩:∃hB,hB=k+1:=⟨_,rfl⟩;apply eR∘pS∘Im∘q3;have rX:=λy (h:0<=y)=>And.intro (a8I n h) (a8z y (show 0<n by omega));refine lJ (E:=[eT c x hB]) (G:=R) R7 ?hp ?c2 ?bD;case hp=>exact⟨_,hB,rfl,(rX _ D).1,λ_=>(rX _ D).2,λ_=>by omega,by omega,λh=>by omega,rfl,rfl⟩
  case c2=>subst s0;exact a2
  case bD=>exact mB _
 replace jM:=a8 jM;obtain⟨hB,s0⟩:∃hB,hB=k+1:=⟨_,rfl⟩;iterate 10 apply(kQ)
 apply(m2);refine QK rfl ?_;apply eR∘pS∘Im∘q3;have rX:=λy (h:0<=y)=>And.intro (a8I n h) (a8z y (show 0<n by omega));refine lJ (E:=[eT c x hB]) (G:=R) R7 ?hp ?c2 ?bD;case hp=>exact⟨_,hB,rfl,(rX _ D).1,λ_=>(rX _ D).2,λ_=>by omega,by omega,λh=>by omega,rfl,rfl⟩
 case c2=>subst s0;exact a2
 case bD=>exact mB _
def aPh(c:Nat)(x:a0 Int)(k:Nat)(n:Int)(R:aJ)(K:jK x R)(hk:k<=x.l.length)(hn:n<=1000000):
 aI prog 20 [.pointer (some ⟨c,0,none⟩),.int .i64 n].toArray [eT c x k] R
  (λv E G=>∃(r:Int) (b5:Nat),v=.int .i64 r/\0<=r/\(1<=n->r<n)/\(n<1->r=0)/\b5<=x.l.length/\[eT c x b5]=E/\R=G):=
 (aCh c x k n R K hk hn).mono λv E G ⟨r,b5,N,V,aQ,b7,eG,_,gF,iF⟩=>⟨r,b5,N,V,aQ,b7,eG,gF,iF⟩
def b8A(c:Nat)(x:a0 Int)(k:Nat)(n:Int)(R:aJ)(K:jK x R)(hk:k<=x.l.length)(hn:-1000000<=n/\n<=1000000):
 aI prog 24 [.pointer (some ⟨c,0,none⟩),.int .i64 n].toArray [eT c x k] R
  (λv E G=>∃(b:Bool) (b5:Nat),v=.bool b/\b5<=x.l.length/\[eT c x b5]=E/\R=G):=by refine bW 11 call24 func24 ?_;apply QO∘G4;refine cK (aPh c x k n _ K hk D) ?_;rintro v E G ⟨r,b5,rfl,N,V,aQ,RD,rfl,rfl⟩;apply S2∘Ck∘v9;refine lG [eT c x b5] R ?_;exact⟨_,b5,rfl,RD,rfl,rfl⟩
def aRu(c:Nat)(x:a0 Int)(k:Nat)(b6 aA:Int)(R:aJ)(K:jK x R)(hk:k<=x.l.length)(hl:-400000<=b6/\b6<=aA/\aA<=400000):
 aI prog 73 [.pointer (some ⟨c,0,none⟩),.int .i64 b6,.int .i64 aA].toArray [eT c x k] R
  (λv E G=>∃(r:Int) (b5:Nat),v=.int .i64 r/\b6<=r/\r<=aA/\b5<=x.l.length/\(x.l.length<=k->r=b6/\b5=k)/\[eT c x b5]=E/\R=G):=by refine bW 15 call73 func73 ?_;apply cO∘pQ∘G4∘S2∘l8;refine cK (aCh c x k (aA-b6+1) _ K hk D) ?_;rintro v E G ⟨r,b5,rfl,N,V,aQ,RD,X,rfl,rfl⟩;have b7:=V D;apply l8∘q3;refine dC [eT c x b5] R ?_;exact⟨_,b5,rfl,by omega,by omega,RD,λh=>by have:=X h;omega,rfl,rfl⟩
def b4J(c:Nat)(x:a0 Int)(k:Nat)(b6 aA:Int)(R:aJ)(K:jK x R)(hk:k<=x.l.length)(hl:-400000<=b6/\b6<=aA/\aA<=400000):
 aI prog 73 [.pointer (some ⟨c,0,none⟩),.int .i64 b6,.int .i64 aA].toArray [eT c x k] R
  (λv E G=>∃(r:Int) (b5:Nat),v=.int .i64 r/\b6<=r/\r<=aA/\b5<=x.l.length/\[eT c x b5]=E/\R=G):=
 (aRu c x k b6 aA R K hk hl).mono λv E G ⟨r,b5,N,V,aQ,eG,_,gF,iF⟩=>⟨r,b5,N,V,aQ,eG,gF,iF⟩
abbrev qN(x:a0 Int)(k:Nat):List Value:=[x.val,.int .i64 (k:Int)]
def nA{c:Nat}{x:a0 Int}{k:Nat}{n:Int}{L:aP}{F:List Value->aP}{R:aJ}(c4:zA c (qN x k) 168 L F)(K:jK x R)(hk:k<=x.l.length)(hn:n<=1000000):
 aI prog 20 [.pointer (some ⟨c,0,none⟩),.int .i64 n].toArray L R
  (λv E G=>∃(r:Int) (b5:Nat),v=.int .i64 r/\0<=r/\(1<=n->r<n)/\(n<1->r=0)/\b5<=x.l.length/\F (qN x b5)=E/\R=G):=
 (aI.TU (xA:=λv gH G=> ∃(r:Int) (b5:Nat),v= .int .i64 r/\0<=r/\(1<=n->r<n)/\(n<1->r=0)/\b5<=x.l.length/\gH=qN x b5/\R=G) c4 (aPh c x k n R K hk hn)
  (λv E G ⟨r,b5,N,V,aQ,b7,eG,gF,iF⟩=>⟨_,gF,r,b5,N,V,aQ,b7,eG,rfl,iF⟩)).mono
  (λv E G ⟨gH,bQ,r,b5,N,V,aQ,b7,eG,gF,iF⟩=>⟨r,b5,N,V,aQ,b7,eG,by rw[<-gF];exact bQ,iF⟩)
def b3G{c:Nat}{x:a0 Int}{k:Nat}{n:Int}{L:aP}{F:List Value->aP}{R:aJ}(c4:zA c (qN x k) 168 L F)(K:jK x R)(hk:k<=x.l.length)(hn:n<=1000000):
 aI prog 20 [.pointer (some ⟨c,0,none⟩),.int .i64 n].toArray L R
  (λv E G=>∃(r:Int) (b5:Nat),v=.int .i64 r/\0<=r/\(1<=n->r<n)/\(n<1->r=0)/\b5<=x.l.length/\(x.l.length<=k->r=0/\b5=k)/\F (qN x b5)=E/\R=G):=
 (aI.TU (xA:=λv gH G=> ∃(r:Int) (b5:Nat),v= .int .i64 r/\0<=r/\(1<=n->r<n)/\(n<1->r=0)/\b5<=x.l.length/\(x.l.length<=k->r=0/\b5=k)/\gH=qN x b5/\R=G) c4 (aCh c x k n R K hk hn)
  (λv E G ⟨r,b5,N,V,aQ,b7,eG,X,gF,iF⟩=>⟨_,gF,r,b5,N,V,aQ,b7,eG,X,rfl,iF⟩)).mono
  (λv E G ⟨gH,bQ,r,b5,N,V,aQ,b7,eG,X,gF,iF⟩=>⟨r,b5,N,V,aQ,b7,eG,X,by rw[<-gF];exact bQ,iF⟩)
def WC{c:Nat}{x:a0 Int}{k:Nat}{n:Int}{L:aP}{F:List Value->aP}{R:aJ}(c4:zA c (qN x k) 168 L F)(K:jK x R)(hk:k<=x.l.length)(hn:-1000000<=n/\n<=1000000):
 aI prog 24 [.pointer (some ⟨c,0,none⟩),.int .i64 n].toArray L R
  (λv E G=>∃(b:Bool) (b5:Nat),v=.bool b/\b5<=x.l.length/\F (qN x b5)=E/\R=G):=
 (aI.TU (xA:=λv gH G=> ∃(b:Bool) (b5:Nat),v= .bool b/\b5<=x.l.length/\gH=qN x b5/\R=G) c4 (b8A c x k n R K hk hn)
  (λv E G ⟨b,b5,N,eG,gF,iF⟩=>⟨_,gF,b,b5,N,eG,rfl,iF⟩)).mono
  (λv E G ⟨gH,bQ,b,b5,N,eG,gF,iF⟩=>⟨b,b5,N,eG,by rw[<-gF];exact bQ,iF⟩)
def E8{c:Nat}{x:a0 Int}{k:Nat}{b6 aA:Int}{L:aP}{F:List Value->aP}{R:aJ}(c4:zA c (qN x k) 168 L F)(K:jK x R)(hk:k<=x.l.length)(hl:-400000<=b6/\b6<=aA/\aA<=400000):
 aI prog 73 [.pointer (some ⟨c,0,none⟩),.int .i64 b6,.int .i64 aA].toArray L R
  (λv E G=>∃(r:Int) (b5:Nat),v=.int .i64 r/\b6<=r/\r<=aA/\b5<=x.l.length/\F (qN x b5)=E/\R=G):=
 (aI.TU (xA:=λv gH G=> ∃(r:Int) (b5:Nat),v= .int .i64 r/\b6<=r/\r<=aA/\b5<=x.l.length/\gH=qN x b5/\R=G) c4 (b4J c x k b6 aA R K hk hl)
  (λv E G ⟨r,b5,N,V,aQ,eG,gF,iF⟩=>⟨_,gF,r,b5,N,V,aQ,eG,rfl,iF⟩)).mono
  (λv E G ⟨gH,bQ,r,b5,N,V,aQ,eG,gF,iF⟩=>⟨r,b5,N,V,aQ,eG,by rw[<-gF];exact bQ,iF⟩)
def aAL{c:Nat}{x:a0 Int}{k:Nat}{b6 aA:Int}{L:aP}{F:List Value->aP}{R:aJ}(c4:zA c (qN x k) 168 L F)(K:jK x R)(hk:k<=x.l.length)(hl:-400000<=b6/\b6<=aA/\aA<=400000):
 aI prog 73 [.pointer (some ⟨c,0,none⟩),.int .i64 b6,.int .i64 aA].toArray L R
  (λv E G=>∃(r:Int) (b5:Nat),v=.int .i64 r/\b6<=r/\r<=aA/\b5<=x.l.length/\(x.l.length<=k->r=b6/\b5=k)/\F (qN x b5)=E/\R=G):=
 (aI.TU (xA:=λv gH G=> ∃(r:Int) (b5:Nat),v= .int .i64 r/\b6<=r/\r<=aA/\b5<=x.l.length/\(x.l.length<=k->r=b6/\b5=k)/\gH=qN x b5/\R=G) c4 (aRu c x k b6 aA R K hk hl)
  (λv E G ⟨r,b5,N,V,aQ,eG,X,gF,iF⟩=>⟨_,gF,r,b5,N,V,aQ,eG,X,rfl,iF⟩)).mono
  (λv E G ⟨gH,bQ,r,b5,N,V,aQ,eG,X,gF,iF⟩=>⟨r,b5,N,V,aQ,eG,X,by rw[<-gF];exact bQ,iF⟩)
end Go.Proofs.YtchfclmokpbldaaGreat
