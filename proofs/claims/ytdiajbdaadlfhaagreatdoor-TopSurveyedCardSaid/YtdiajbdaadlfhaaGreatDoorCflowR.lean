/-
  Merged texts. By an AI agent.
-/
import Derived.Test.YtdiajbdaadlfhaaGreatDoorPart
import Derived.Test.YtdiajbdaadlfhaaGreatDoorFits
set_option linter.all false
set_option maxHeartbeats 4000000
set_option maxRecDepth 20000
variable{A B:Prop}
namespace Go.Proofs.YtdiajbdaadlfhaaGreatDoor
open Go.Aw Go Go.Proofs.Tryz
section
attribute [local irreducible] cO dG dP aM cI dR fA e2 e5 fB eQ e9 J.L
def aHX(h:A->B:=by exact aA (iV M (p) _ rfl rfl rfl rfl bS (i:=k) c7 iY) rfl):=h
def aFH(h:A->B:=by exact aA QF rfl):=h
def aJM(h:A->B:=by exact aA (iV M ((⟨.own II N [],bK⟩:J Bool)) _ rfl rfl ((show _=Value.slice _ _ _ from rfl).trans (u7 iF)) rfl bS (i:=(h9 p.l k).toNat) c7 iY) rfl):=h
def aE9(m:eC)(L:aW)(R:aP)(a1:oY m R):
 aM prog 76 [m.val].toArray L R (λv E R'=>v=.bool (decide (iB m=0))/\L=E/\R=R'):=by refine cX 6 call76 func76 rfl rfl rfl ?_;apply(fC);intro fT;apply uK∘lG;refine eD rfl (Yv m _ _ a1) ?_;apply PZ∘sP;refine m5 L R ?_;exact BJ
structure LC(m:eC)(f:List Int)(bK:List Bool)(N k:Nat):Prop where
 len:bK.length=N
 qC:∀c:Nat,bK.getD c false=true↔∃j:Nat,j<k/\(m.places.l.getD j default).m7=true/\h9 f j=(c:Int)
def LC.zero(m:eC)(f:List Int)(N:Nat):LC m f (List.replicate N false) N 0:=by refine⟨by simp,λc=>⟨λh=>?_,λ⟨j,a6,_⟩=>by omega⟩⟩;rw[lN,K5]at h;split at h<;>simp at h
def LC.F5{m:eC}{f:List Int}{bK:List Bool}{N k:Nat}(h:LC m f bK N k)(aF:¬(m.places.l.getD k default).m7=true):LC m f bK N (k+1):=by
 refine⟨h.len,λc=>(h.qC c).trans ⟨λ⟨j,G,U,aO⟩=>⟨j,by omega,U,aO⟩,λ⟨j,G,U,aO⟩=>?_⟩⟩;rcases gX j k with bW|bW;·exact⟨j,bW,U,aO⟩
 ·
  obtain rfl:j=k:=by omega
  exact absurd U aF
def LC.next{m:eC}{f:List Int}{bK:List Bool}{N k:Nat}(h:LC m f bK N k)(aF:(m.places.l.getD k default).m7=true)(bV:0<=h9 f k/\h9 f k<(N:Int)):LC m f (bK.set (h9 f k).toNat true) N (k+1):=by
 have aZ:=h.len;refine⟨by simp[aZ],λc=>?_⟩;rw[Rv D];split;·rename_i e;exact⟨λ_=>⟨k,by omega,aF,by omega⟩,λ_=>rfl⟩
 ·
  rename_i e;refine(h.qC c).trans ⟨λ⟨j,G,U,aO⟩=>⟨j,by omega,U,aO⟩,λ⟨j,G,U,aO⟩=>?_⟩;rcases gX j k with bW|bW;·exact⟨j,bW,U,aO⟩
  ·(obtain rfl:j=k:=by omega);exact absurd D e
def Pv(f:List Int)(bK:List Bool)(n:Nat):List Bool:=(List.range n).map λi=>bK.getD (h9 f i).toNat false
def aJz{f:List Int}{bK:List Bool}{n i:Nat}(h:i<n):(Pv f bK n).getD i false=bK.getD (h9 f i).toNat false:=by rw[lN,Pv,pW,P8 h];rfl
def aDB{m:eC}{j:Nat}(h:j<m.places.l.length):(JX m).getD j false=(m.places.l.getD j default).m7:=by rw[lN,JX,pW,bR (l:=m.places.l) (k:=j) default h];rfl
def LC.MD{m:eC}{f:List Int}{bK:List Bool}{N:Nat}(h:LC m f bK N m.places.l.length)(aG:a5P m f (N:Int)):mU m (Pv f bK m.places.l.length):=by
 have qB:(JX m).length=m.places.l.length:=by simp[JX]
 refine⟨by simp[Pv,qB],λi aB=>?_⟩;have Tp:i<m.places.l.length:=by omega
 have O:=aG.KW i Tp;rw[aJz Tp,h.qC];refine⟨λ⟨j,G,U,aO⟩=>⟨j,by omega,by rw[aDB G];exact U,(aG.qC j i G Tp).1 D⟩,λ⟨j,G,U,aO⟩=>?_⟩;have Sw:j<m.places.l.length:=by omega
 rw[aDB Sw]at U;exact⟨j,Sw,U,by rw[(aG.qC j i Sw Tp).2 aO];omega⟩
def z7(A:List Bool):Nat->List Int
 |0=>[]
 |k+1=>if A.getD k false=true then z7 A k else z7 A k++[(k:Int)]
def Ro(A:List Bool): ∀k,(z7 A k).length<=k
 |0=>by simp[z7]
 |k+1=>by
  have:=Ro A k
  rw[z7]
  split
  ·omega
  ·simp only[hL,rE];omega
def a6q{A:List Bool}{e:Int}: ∀{k:Nat},e∈z7 A k↔∃i:Nat,e=(i:Int)/\i<k/\¬A.getD i false=true
 |0=>⟨λh=>(by simp[z7]at h),λ⟨i,_,h,_⟩=>D⟩
 |k+1=>by
  have cA:=a6q (A:=A) (e:=e) (k:=k)
  rw[z7]
  split
  ·rename_i h
   refine cA.trans ⟨λ⟨i,G,U,aO⟩=>⟨i,G,by omega,aO⟩,λ⟨i,G,U,aO⟩=>⟨i,G,?_,aO⟩⟩
   rcases gX i k with bW|bW
   ·exact bW
   ·obtain rfl:i=k:=by omega
    exact absurd h aO
  ·rename_i h
   rw[D7,cA,XU]
   refine⟨λbV=>?_,λ⟨i,G,U,aO⟩=>?_⟩
   ·rcases bV with⟨i,G,U,aO⟩|bV
    ·exact⟨i,G,by omega,aO⟩
    ·exact⟨k,bV,by omega,h⟩
   ·rcases gX i k with bW|bW
    ·exact .inl ⟨i,G,bW,aO⟩
    ·obtain rfl:i=k:=by omega
     exact .inr G
def Qt(m:eC)(L:aW)(R:aP)(a1:oY m R)(bM:UI m)(cS:iB m=0):
 aM prog 41 [m.val].toArray L R (λw E R'=>∃(p:J Int) (A:List Bool) (S:aP),w=p.val/\p.ok 1 aR/\mU m A/\p.l=z7 A m.places.l.length/\p.L 3 aR++L=E/\S++R=R'):=by
 have wS:=a1.places;have n2:=bM.places;refine cX 57 call41 func41 rfl rfl rfl ?_;apply(fC);intro fT;apply r2∘lG;refine eD rfl (aE9 m _ _ a1) ?_;apply(AJ);refine aJ ?_ ?_<;>intro bI;·apply C9∘DZ;refine cF L R BH ?_;exact absurd cS EA
 apply gI∘lG;refine dN rfl (aSm m _ _ a1 bM) rfl ?_;rintro v E R' ⟨p,N,S,rfl,iN,kR,rfl,rfl⟩;have dC:=kR.len;have l2:=kR.n;have aMm:aN (zW m.places) (S++R):=wS.mono λr h=>aU (by simp[h]);refine aA jE rfl ?_;apply C8∘q4∘D1;rintro v E R' ⟨II,rfl,rfl,Dr⟩;replace Dr:=Dr.symm;subst Dr;apply r2∘pE;refine e3 [(1,.pointer _),(3,.slice _ _ _),(5,.slice _ _ _),(21,.slice _ _ _),(22,.int _ _),(23,.int _ _)] cB λg9=>?_;refine e7 Nb ?_;refine m6 ([6,7]++dJ 23 14) ((⟨λq=>[(23,.int .i64 ((q.1.1:Nat):Int))],λq=>(⟨.own II N [],q.1.2⟩:J Bool).L 4 l1++(p.L 3 aR++(⟨fT,m.cells,28⟩::L)),λ_=>S++R,λq=>m.places.l.length-q.1.1⟩:e0 {q:Nat×List Bool//q.1<=m.places.l.length/\LC m p.l q.2 N q.1})) (⟨(0,List.replicate N false),by dsimp only;omega,LC.zero m p.l N⟩) ?_;rintro⟨⟨k,bK⟩,vW,gP⟩ c1;try dsimp only
 dsimp only at vW gP;have iF:=gP.len;have Ev:(⟨.own II N [],bK⟩:J Bool).ok 1 l1:=by have:=BT (f:=l1) (aI:=1) (b:=II) (n:=N) (x:=false) HX BE;exact J.tU HX this (by simp;exact iF)
 apply(gU);refine aJ ?_ ?_<;>intro cK;·
  have M1:=bR (l:=m.places.l) (k:=k) default D;have HC:=Pn (f:=p.l) (v:=k) D;have aMM:=kR.KW k D;have El:=bR (l:=bK) (k:=(h9 p.l k).toNat) false D;apply nC∘A6∘R1;intro lT;apply eA∘BP∘dD;refine aJ ?_ ?_<;>intro dE;·apply vE∘k2∘aHX∘aFH∘aJM;refine mO (mV M ((⟨.own II N [],bK⟩:J Bool)) (true) rfl rfl rfl rfl cL bS bH bS aX aK aK) ?_;rintro v E R' ⟨rfl,rfl⟩;apply(tF);exact eG ⟨(k+1,_),by dsimp only;omega,gP.next Bb aMM⟩
  apply(k9);exact eG ⟨(k+1,bK),by dsimp only;omega,gP.F5 Bb⟩
 obtain rfl:k=m.places.l.length:=by omega
 have hD:=gP.MD kR;obtain⟨A,aK5⟩:∃A,A=Pv p.l bK m.places.l.length:=⟨_,rfl⟩;rw[<-aK5]at hD;apply oS∘r2∘pE;refine e3 [(3,.slice _ _ _),(5,.slice _ _ _),(8,.slice _ _ _),(39,.int _ _),(40,.int _ _)] cB λs4=>?_;refine oM ([8,9]++dJ 40 16) ((⟨λq=>[(40,.int .i64 ((q.1.1:Nat):Int)),(8,q.1.2.val)],λq=>q.1.2.L 3 aR++((⟨.own II N [],bK⟩:J Bool).L 4 l1++(p.L 3 aR++(⟨fT,m.cells,28⟩::L))),λ_=>S++R,λq=>m.places.l.length-q.1.1⟩:e0 {q:Nat×J Int//q.1<=m.places.l.length/\q.2.ok 1 aR/\q.2.l=z7 A q.1})) (⟨(0,J.nil),by dsimp only;omega,J.iJ,rfl⟩) cB JB eX ?_;rintro⟨⟨k,q⟩,pN,fJ,jH⟩ c1;try dsimp only
 dsimp only at pN fJ jH;apply(gU);refine aJ ?_ ?_<;>intro gZ;·
  have HC:=Pn (f:=p.l) (v:=k) D;have aMM:=kR.KW k D;have El:=bR (l:=bK) (k:=(h9 p.l k).toNat) false D;have aK6:A.getD k false=bK.getD (h9 p.l k).toNat false:=by rw[aK5];exact aJz D
  have eZ:=Ro A k;rw[<-jH]at eZ;apply nC∘p5∘gQ∘k2∘aHX∘aFH∘aJM;refine aA (rX M ((⟨.own II N [],bK⟩:J Bool)) rfl rfl rfl cL bS bH bS aK) rfl ?_;apply(AJ);refine aJ ?_ ?_<;>intro fW;·apply y6∘w1;rintro v E R' ⟨b76,rfl,rfl,a83⟩;replace a83:=a83.symm;subst a83;refine g2 (jZ (f:=aR) (a:=(k:Int)) M rfl rfl rfl rfl (fJ) cL j8 rfl kG) rfl ?_;rintro v E R' ⟨b6a,rfl,b3J,rfl,rfl⟩;apply(LO);exact eG ⟨(k+1,⟨b6a,q.l++[(k:Int)]⟩),by dsimp only;omega,b3J,by dsimp only;rw[z7,if_neg (by rw[aK6];simpa using fW),jH]⟩
  apply(k9);exact eG ⟨(k+1,q),by dsimp only;omega,fJ,by dsimp only;rw[z7,if_pos (by rw[aK6];simpa using fW),jH]⟩
 obtain rfl:k=m.places.l.length:=by omega
 apply(R2);refine cF (q.L 3 aR++L) (S++R) BH ?_;exact⟨q,A,S,rfl,fJ,hD,jH,rfl,rfl⟩
def mU.length{m:eC}{A:List Bool}(h:mU m A):A.length=m.places.l.length:=by rw[h.len];simp[JX]
def aRV{m:eC}{A l:List Bool}(hD:mU m A)(aZ:l.length=m.places.l.length)(h:∀i:Nat,l.getD i false=true↔(i:Int)∈z7 A m.places.l.length):l=A.map (!·):=by
 have aK7:=hD.length;refine Au λi=>?_;rcases gX i m.places.l.length with aB|aB;·rw[bR (l:=l) (k:=i) false D,pW,bR (l:=A) (k:=i) false D];have G:=h i;rw[a6q]at G;have U:l.getD i false=true↔¬A.getD i false=true:=G.trans ⟨λ⟨j,e,_,aO⟩=>by rw[show i=j from by omega];exact aO,λaO=>⟨i,rfl,aB,aO⟩⟩;simp only[Ay,Mw];cases bX:A.getD i false<;>cases aT:l.getD i false<;>simp_all
 ·rw[u1 D,u1 EB]
def a1q(m:eC)(L:aW)(R:aP)(a1:oY m R)(bM:UI m)(cS:iB m=0):
 aM prog 68 [m.val].toArray L R (λw E R'=>∃(p:J Bool) (A:List Bool) (S:aP),w=p.val/\p.ok 1 l1/\mU m A/\p.l=A.map (!·)/\p.L 4 l1++L=E/\S++R=R'):=by
 have wS:=a1.places;have n2:=bM.places;refine cX 22 call68 func68 rfl rfl rfl ?_;apply(fC);intro fT;apply tH∘jM∘D1;rintro v E R' ⟨jB,rfl,rfl,a9e⟩;replace a9e:=a9e.symm;subst a9e;apply kS∘yQ;refine e7 Nb ?_;apply e1∘lG;refine dN rfl (Qt m _ _ a1 bM cS) rfl ?_;rintro v E R' ⟨p,A,S,rfl,iN,hD,dC,rfl,rfl⟩;have l2:=Ro A m.places.l.length;rw[<-dC]at l2;apply(R0);refine e3 [(3,.slice _ _ _),(11,.slice _ _ _),(12,.int _ _),(13,.int _ _)] cB λg9=>?_;refine m6 ([5]++dJ 13 8) ((⟨λq=>[(13,.int .i64 ((q.1.1:Nat):Int))],λq=>p.L 3 aR++((⟨.own jB m.places.l.length [],q.1.2⟩:J Bool).L 4 l1++(⟨fT,m.cells,28⟩::L)),λ_=>S++R,λq=>p.l.length-q.1.1⟩:e0 {q:Nat×List Bool//q.1<=p.l.length/\q.2.length=m.places.l.length/\∀i:Nat,q.2.getD i false=true↔∃j:Nat,j<q.1/\p.l[j]?=some (i:Int)})) (⟨(0,List.replicate m.places.l.length false),by dsimp only;omega,by simp,λi=>⟨λh=>(by simp[lN,K5]at h;split at h<;>simp at h),λ⟨j,a6,_⟩=>D⟩⟩) ?_;rintro⟨⟨k,l⟩,vW,qN,qR⟩ c1;try dsimp only
 dsimp only at vW qN qR;have Ev:(⟨.own jB m.places.l.length [],l⟩:J Bool).ok 1 l1:=by have:=BT (f:=l1) (aI:=1) (b:=jB) (n:=m.places.l.length) (x:=false) HX BE;exact J.tU HX this (by simp;exact qN)
 apply(gU);refine aJ ?_ ?_<;>intro bI;·
  have bE:=bR (l:=p.l) (k:=k) 0 D;have vR:=hS bE;rw[dC]at vR;obtain⟨u,Ut,vS,bAa⟩:=a6q.1 vR;rw[<-dC]at Ut;rw[Ut]at bE;have HC:=bR (l:=l) (k:=u) false D;apply(jK);refine aA (iV M (p) _ rfl rfl rfl rfl bS (i:=k) c7 iY) rfl ?_;refine aA QF rfl ?_;apply(eA);refine eS (bY (dM ?_));apply(k2);refine aA (iV M ((⟨.own jB m.places.l.length [],l⟩:J Bool)) _ rfl rfl ((show _=Value.slice _ _ _ from rfl).trans (u7 qN)) rfl bS (i:=u) c7 iY) rfl ?_;refine mO (mV M ((⟨.own jB m.places.l.length [],l⟩:J Bool)) (true) rfl rfl rfl rfl cL bS bH bS aX aK aK) ?_;rintro v E R' ⟨rfl,rfl⟩;apply(tF);exact lP ⟨(k+1,l.set u true),by dsimp only;omega,by simp;exact qN,λi=>by
  dsimp only;rw[Rv D];split;·rename_i e;exact⟨λ_=>⟨k,by omega,by rw[e];exact bE⟩,λ_=>rfl⟩
  ·
   rename_i e;refine(qR i).trans ⟨λ⟨j,G,U⟩=>⟨j,by omega,U⟩,λ⟨j,G,U⟩=>?_⟩;rcases gX j k with bW|bW;·exact⟨j,bW,U⟩
   ·(obtain rfl:j=k:=by omega);rw[bE]at U;exact absurd (by have:=uA U;omega) e⟩ hM cB bC eX kM
 obtain rfl:k=p.l.length:=by omega
 have b27:=aRV hD qN (λi=>by rw[qR i,<-dC,List.mem_iff_getElem?];exact⟨λ⟨j,_,h⟩=>⟨j,h⟩,λ⟨j,h⟩=>⟨j,(List.getElem?_eq_some_iff.1 h).1,h⟩⟩);apply(R2);refine cF ((⟨.own jB m.places.l.length [],l⟩:J Bool).L 4 l1++L) (S++R) BH ?_;exact⟨(⟨.own jB m.places.l.length [],l⟩:J Bool),A,S,u7 qN,Ev,hD,b27,rfl,rfl⟩
structure q2 where
 bJ:bP Int
 bN:bP Int
def q2.cells(s:q2):List Value:=[s.bJ.val,s.bN.val]
abbrev q2.val(s:q2):Value:=.agg #[s.bJ.val,s.bN.val]
structure a4O(s:q2)(R:aP):Prop where
 bJ:aN (dW s.bJ) R
 bN:aN (dW s.bN) R
def wE(a:bT)(s:cG)(b:q2)(A:List Bool)(i:Nat):Option Int:=
 if(!(A.getD i false)||(a.aE.places.l.getD i default).m7)=true then(if b.bJ.l.getD i 0≠0\/b.bN.l.getD i 0≠0 then some 12 else none)
 else(if BK a s b.bN.l (i:Int)<0\/0<BW a s b.bJ.l (i:Int)then some 12 else none)
def wI(a:bT)(s:cG)(b:q2)(A:List Bool):Int:=
 if h4 a≠0 then h4 a
 else if mP a s=false then 21
 else if b.bJ.l.length≠a.aE.places.l.length\/b.bN.l.length≠a.aE.places.l.length then 11
 else if(b.bJ.l.findSome? uF).isSome=true\/(b.bN.l.findSome? uF).isSome=true then 1
 else((List.range a.aE.places.l.length).findSome? (wE a s b A)).getD 0
def a7n(h:A->B:=by exact aA aCD rfl):=h
def aVN(h:B:=by exact⟨[p0 n.lE,pH n.l9]++S,by rw[MS,GU DS D (DR.trans (if_pos D))];rfl,rfl,rfl⟩):=h
def aKh(h:A->B:=by exact b7 Nq rfl rfl rfl):=h
def Cv(b:q2)(i:Nat):Option Int:=[b.bJ.l.getD i 0,b.bN.l.getD i 0].findSome? uF
def Df{a:bT}(h:h4 a=0):iB a.aE=0:=by
 unfold h4 at h;split at h;·exact Vy
 ·rename_i G;omega
def aRL{b:q2}{n:Nat}(G:b.bJ.l.length=n)(U:b.bN.l.length=n)(h:(List.range n).findSome? (Cv b)=none):b.bJ.l.findSome? uF=none/\b.bN.l.findSome? uF=none:=by
 rw[NK]at h;have cD:∀i:Nat,i<n->uF (b.bJ.l.getD i 0)=none/\uF (b.bN.l.getD i 0)=none:=λi aB=>by have:=h i (List.mem_range.2 aB);rw[Cv,NK]at this;exact⟨this _ eY,this _ eY⟩
 constructor;·rw[NK];intro x K;obtain⟨i,aB⟩:=List.mem_iff_getElem?.1 K;have aZ:=(List.getElem?_eq_some_iff.1 aB).1;rw[<-(show b.bJ.l.getD i 0=x from getD_some aB)];exact(cD i D).1
 ·rw[NK];intro x K;obtain⟨i,aB⟩:=List.mem_iff_getElem?.1 K;have aZ:=(List.getElem?_eq_some_iff.1 aB).1;rw[<-(show b.bN.l.getD i 0=x from getD_some aB)];exact(cD i D).2
def aYM{b:q2}{n k:Nat}(G:b.bJ.l.length=n)(U:b.bN.l.length=n)(Y:k<n){e:Int}(h:Cv b k=some e):(b.bJ.l.findSome? uF).isSome=true\/(b.bN.l.findSome? uF).isSome=true:=by
 cases dH:b.bJ.l.findSome? uF with
 |some x=>exact .inl rfl
 |none=>
  cases eH:b.bN.l.findSome? uF with
  |some x=>exact .inr rfl
  |none=>
   rw[NK]at dH eH;rw[Cv]at h;have:[b.bJ.l.getD k 0,b.bN.l.getD k 0].findSome? uF=none:=by
    rw[NK];intro x K;simp only[nX,pO,or_false]at K;rcases K with rfl|rfl;·exact dH _ (hS (bR (l:=b.bJ.l) (k:=k) 0 D))
    ·exact eH _ (hS (bR (l:=b.bN.l) (k:=k) 0 D))
   rw[this]at h;cases h
def aQ7(a:bT)(s:cG)(b:q2)(A:List Bool)(L:aW)(R:aP)(a1:qF a R)(aF:u3 s R)(aT:a4O b R)(hD:h4 a=0->mU a.aE A):
 aM prog 67 [a.val,s.val,b.val].toArray L R (λv E R'=>∃S:aP,v=.int .i64 (wI a s b A)/\L=E/\S++R=R'):=by
 have wS:=a1.places;have Tg:=aT.bJ;have a19:=aT.bN;refine rZ call67 Tg λb8W=>?_;refine rZ call67 a19 λb8U=>?_;refine rZ call67 wS λb3h=>?_;refine cX 124 call67 func67 rfl rfl rfl ?_;apply(fC);intro e4;apply(nW);intro dU;apply(nW);intro fK;apply kB∘vX;refine eD rfl (Ym a _ _ a1) ?_;apply(pQ);refine aJ ?_ ?_<;>intro bI;·apply(U1);refine eL L R ?_;exact⟨[],by rw[wI,if_pos bI],rfl,rfl⟩
 have bV:h4 a=0:=by omega
 have bM:=J9 bV;have xM:=hD bV;have IV:=bM.aE.places;apply k5∘y7;refine eD rfl (a5L a s _ _ a1 aF) ?_;apply(AJ);refine aJ ?_ ?_<;>intro cK;·apply(uJ);refine eL L R ?_;exact⟨[],by rw[wI,if_neg bI,if_pos LA],rfl,rfl⟩
 have FM:mP a s=true:=by simpa using cK
 have FO:=a1b FM;have SU:¬mP a s=false:=by rw[FM];decide
 apply k5∘jM∘xG∘vC;apply dT (aD:=[_,_,_,_,_,_,_,_]) (j:=8) (b4:=32) rfl rfl aK rfl b2 rfl;·intro h7;replace h7:=cP h7;exact(jM∘xG) v6
 intro zV;apply(dD);refine aJ ?_ ?_<;>intro dE;·apply(uJ);refine eL L R ?_;exact⟨[],by rw[wI,if_neg bI,if_neg SU,if_pos D],rfl,rfl⟩
 have lL:b.bJ.l.length=a.aE.places.l.length:=by omega
 have aL7:b.bN.l.length=a.aE.places.l.length:=by omega
 apply(LS);refine e3 [(3,.pointer _),(4,.pointer _),(5,.pointer _),(44,.int _ _),(45,.int _ _)] cB λg9=>?_;refine lF ([6,8,10]++dJ 45 27) (λg:X7 (Cv b) (b.bJ.l.length)=>[(45,.int .i64 ((g.1:Nat):Int))]) (λg=>(b.bJ.l.length)-g.1) ⟨0,UN _ _⟩ ?_;rintro⟨jJ,SW,i1⟩ c1;try dsimp only
 apply(gU);refine aJ ?_ ?_<;>intro gZ;·
  have HC:=bR (l:=b.bJ.l) (k:=jJ) 0 D;have b2L:=bR (l:=b.bN.l) (k:=jJ) 0 D;apply nC∘E9;refine jR M [0,1,2,3,4,5,6,7,8,9,12,10,11] ([bQ.mk fK _ _]) mixed aQ bC ?_;apply uH∘aKh∘s0∘uH∘aKh∘s0∘j7;refine pP Wv rfl rfl rfl ?_;rintro v E R' ⟨SB,rfl,rfl,AW⟩;replace AW:=AW.symm;subst AW;apply(fI);refine b7 CP rfl rfl rfl ?_;refine jI (bY (iH ?_));refine ON ([6,8,10]++dJ 45 27) QD [(45,.int _ _),(58,.slice _ _ _),(59,.int _ _),(60,.int _ _)] cB λs4=>?_;refine e7 (E:=(⟨.own SB 2 [],[b.bJ.l.getD jJ 0,b.bN.l.getD jJ 0]⟩:J Int).L 3 aR++(⟨fK,b.cells,103⟩::⟨dU,s.cells,35⟩::⟨e4,a.cells,32⟩::L)) (by simp only[J.L,gT.L,vZ,a3P,aR,rV,mK,nJ];rfl) ?_;refine lF ([6,10]++dJ 60 11) (λg:FS (uF) ([b.bJ.l.getD jJ 0,b.bN.l.getD jJ 0])=>[(60,.int .i64 ((g.1:Nat):Int))]) (λg=>([b.bJ.l.getD jJ 0,b.bN.l.getD jJ 0]).length-g.1) ⟨0,N5 _ _⟩ ?_;rintro⟨g8,g6,n3⟩ c1;try dsimp only
  have b9g:(⟨.own SB 2 [],[b.bJ.l.getD jJ 0,b.bN.l.getD jJ 0]⟩:J Int).ok 1 aR:=⟨rfl,gS _,by simp only[maxLen];omega,rfl⟩;have Z1:[b.bJ.l.getD jJ 0,b.bN.l.getD jJ 0].length=2:=rfl;apply(gU);refine aJ ?_ ?_<;>intro fW;·
   obtain⟨y,bB⟩:=lQ (l:=[b.bJ.l.getD jJ 0,b.bN.l.getD jJ 0]) (k:=g8) D;apply(jK);refine aA (iV M ((⟨.own SB 2 [],[b.bJ.l.getD jJ 0,b.bN.l.getD jJ 0]⟩:J Int)) _ rfl rfl rfl rfl bS (i:=g8) c7 iY) rfl ?_;refine aA (rX M ((⟨.own SB 2 [],[b.bJ.l.getD jJ 0,b.bN.l.getD jJ 0]⟩:J Int)) rfl rfl rfl cL bS bH bS aK) rfl ?_;apply q4∘q5;apply dT (aD:=[_,_]) (j:=2) (b4:=66) rfl rfl aK rfl b2 rfl;·exact JC
   intro o7;apply(dD);refine aJ ?_ ?_<;>intro lJ;·apply(oO);refine eS (bY (mE (lO (i7 (E1 (lO (lO (i7 (E1 (lO (i7 ?_)))))))))));refine eL L R ?_;(have WH:Cv b jJ=some 1:=by rw[Cv];exact GV n3 bB (if_pos D));exact⟨[],by rw[wI,if_neg bI,if_neg SU,if_neg D,if_pos (aYM rfl D D WH)],rfl,rfl⟩
   apply(k9);exact eG ⟨g8+1,LH n3 bB (if_neg D)⟩
  have FT:=LI n3 D;refine oZ (oX (AF (oW (hG (bY (dM ?_))))));apply(m0);exact eG ⟨jJ+1,OY i1 D FT⟩
 have uT:=QU i1 D;have Z7:=aRL (b:=b) rfl D uT;have b4c:rI b.bJ.l:=Sa Z7.1;have b37:rI b.bN.l:=Sa Z7.2;have MS:wI a s b A=((List.range a.aE.places.l.length).findSome? (wE a s b A)).getD 0:=by rw[wI,if_neg bI,if_neg SU,if_neg D,if_neg (by rw[Z7.1,Z7.2];simp)]
 apply oS∘C6;refine dN rfl (a1q a.aE _ _ a1.TE bM.aE (Df bV)) rfl ?_;rintro v E R' ⟨p,X6,S,rfl,iN,B5,dC,rfl,rfl⟩;obtain rfl:A=X6:=xM.XM B5;have aL2:p.l.length=a.aE.places.l.length:=by rw[dC,pU];exact xM.length
 have M0:qF a (S++R):=⟨a1.places.mono λr h=>aU (by simp[h]),a1.Z.mono λr h=>aU (by simp[h]),a1.bD.mono λr h=>aU (by simp[h]),a1.a8.mono λr h=>aU (by simp[h])⟩;have M2:u3 s (S++R):=⟨aF.bD.mono λr h=>aU (by simp[h]),aF.a8.mono λr h=>aU (by simp[h])⟩;apply tH∘y7;refine dN rfl (a7N a s _ _ M0 M2 bM FO) rfl ?_;rintro v E R' ⟨n,rfl,bA,rfl,rfl⟩;have IY:aN (p0 n.lE) (p0 n.lE::pH n.l9::(S++R)):=aU (.head _);have G8:aN (pH n.l9) (p0 n.lE::pH n.l9::(S++R)):=aU (.tail _ (.head _));have aMn:aN (zW a.aE.places) (p0 n.lE::pH n.l9::(S++R)):=wS.mono λr h=>aU (by simp[h]);have aLG:aN (dW b.bJ) (p0 n.lE::pH n.l9::(S++R)):=Tg.mono λr h=>aU (by simp[h]);have aLF:aN (dW b.bN) (p0 n.lE::pH n.l9::(S++R)):=a19.mono λr h=>aU (by simp[h]);apply(dO);intro rM;apply uI∘gF∘pE;refine e3 [(5,.pointer _),(11,.slice _ _ _),(12,.pointer _),(80,.slice _ _ _),(81,.int _ _),(82,.int _ _)] cB λGg=>?_;refine lF ([6,13,14]++dJ 82 42) (λg:X7 (wE a s b A) (a.aE.places.l.length)=>[(82,.int .i64 ((g.1:Nat):Int))]) (λg=>(a.aE.places.l.length)-g.1) ⟨0,UN _ _⟩ ?_;rintro⟨eK,j4,DS⟩ c1;try dsimp only
 apply(gU);refine aJ ?_ ?_<;>intro kK;·
  have SY:=bR (l:=a.aE.places.l) (k:=eK) default D;have M1:p.l[eK]?=some (!(A.getD eK false)):=by have:=xM.length;rw[dC,pW,bR (l:=A) (k:=eK) false D];rfl
  have HC:=bR (l:=b.bJ.l) (k:=eK) 0 D;have b2L:=bR (l:=b.bN.l) (k:=eK) 0 D;apply nC∘a7n∘R1;intro wL;apply eA∘BP∘fD;apply dT (aD:=[_,_,_,_]) (j:=2) (b4:=89) rfl rfl aK rfl b2 rfl;·intro iM;replace iM:=cP iM;apply(k2);refine aA (iV M (p) _ rfl rfl rfl rfl bS (i:=eK) c7 iY) rfl ?_;refine aA QF rfl ?_;exact iA
  intro o7;apply(dD);refine aJ ?_ ?_<;>intro qM;·
   (have DR:wE a s b A eK=if b.bJ.l.getD eK 0≠0\/b.bN.l.getD eK 0≠0 then some 12 else none:=by rw[wE,if_pos (by simpa[or_comm]using qM)]);apply eV∘h1∘a7n∘kY∘vC;apply dT (aD:=[_,_,_,_,_,_]) (j:=6) (b4:=101) rfl rfl aK rfl b2 rfl;·intro n1;replace n1:=cP n1;exact(h1∘a7n∘kY) v6
   intro Af;apply(dD);refine aJ ?_ ?_<;>intro MR;·exact aCk
   apply(k9);exact eG ⟨eK+1,OY DS D (DR.trans (if_neg D))⟩
  have DR:wE a s b A eK=if BK a s b.bN.l (eK:Int)<0\/0<BW a s b.bJ.l (eK:Int)then some 12 else none:=by rw[wE,if_neg (by simpa[and_comm]using qM)]
  apply eV∘lG∘h1;refine eD rfl (aIc n a s b.bN _ _ _ IY G8 aLF bA bM aL7 b37 D) ?_;apply(q5);refine Im (k:=115) b2 (λn1=>?_) (λn1=>?_);·replace n1:=cP n1;(iterate 6 refine Bt rfl rfl ?_);refine aA XY rfl ?_;apply(dD);refine yX rfl ?_;exact aCk
  replace n1:=cP n1;refine x9 TX rfl rfl ?_;refine x9 kT rfl rfl ?_;refine x9 qY rfl rfl ?_;refine x9 (mN D9) rfl rfl ?_;refine a41 rfl (aDY n a s b.bJ _ _ _ IY G8 aLG bA bM lL b4c D) rfl rfl ?_;rintro v E R' ⟨rfl,rfl,rfl⟩;refine x9 (Qh rfl rfl) rfl rfl ?_;refine aA XY rfl ?_;apply(dD);refine aJ ?_ ?_<;>intro V2;·exact aCk
  apply(k9);exact eG ⟨eK+1,OY DS D (DR.trans (if_neg D))⟩
 have A1:=QU DS D;apply(IG);refine eL L (p0 n.lE::pH n.l9::(S++R)) ?_;exact⟨[p0 n.lE,pH n.l9]++S,by rw[MS,A1];rfl,rfl,rfl⟩
def sX:bG:=⟨-1125899906842624,1125899906842624⟩
def w7(a:bT)(s:cG)(b:q2)(A:List Bool)(k:Nat):bG:=
 if(a.aE.Z.l.getD k default).dZ=true then⟨0,0⟩
 else if A.getD (a.aE.Z.l.getD k default).bK.toNat false=true then
  ⟨u9 (kA a s k) (b.bJ.l.getD (a.aE.Z.l.getD k default).bK.toNat 0-b.bN.l.getD (a.aE.Z.l.getD k default).to.toNat 0),
   u6 (kA a s k) (b.bN.l.getD (a.aE.Z.l.getD k default).bK.toNat 0-b.bJ.l.getD (a.aE.Z.l.getD k default).to.toNat 0)⟩
 else sX
def GN(a:bT)(s:cG)(b:q2)(A:List Bool):List bG:=
 if wI a s b A=0 then(List.range a.aE.Z.l.length).map (w7 a s b A)else[]
structure a4Q(a:bT)(s:cG)(b:q2):Prop where
 bV:h4 a=0
 aH:mP a s=true
 aZ:b.bJ.l.length=a.aE.places.l.length
 bF:b.bN.l.length=a.aE.places.l.length
 bL:rI b.bJ.l
 I3:rI b.bN.l
def aHq{a:bT}{s:cG}{b:q2}{A:List Bool}(h:wI a s b A=0):a4Q a s b:=by
 unfold wI at h;split at h;·exact Vy
 rename_i G;split at h;·cases h
 rename_i U;split at h;·cases h
 rename_i aO;split at h;·cases h
 rename_i bW;refine⟨by omega,by simpa using U,by omega,by omega,Sa ?_,Sa ?_⟩;·
  cases e:b.bJ.l.findSome? uF with
  |none=>rfl
  |some x=>exact absurd (.inl (by rw[e];rfl)) bW
 ·
  cases e:b.bN.l.findSome? uF with
  |none=>rfl
  |some x=>exact absurd (.inr (by rw[e];rfl)) bW
end
end Go.Proofs.YtdiajbdaadlfhaaGreatDoor
