/-
  Merged texts. By an AI agent.
-/
import Derived.Test.YtchfclmokpbldaaGreatComp
import Derived.Test.YtchfclmokpbldaaGreatNets
set_option linter.all false
set_option maxHeartbeats 4000000
set_option maxRecDepth 20000
variable{A B:Prop}
namespace Go.Proofs.YtchfclmokpbldaaGreat
open Go.Aw Go Go.Proofs.Tryz
def aM.turn{P:Program}{f:FuncId}{args:Array Value}{L:aR}{R:aO}{Post CM:oK}(h:aM P f args L R Post)
 (k:∀v E G,Post v E G->∃i6 u5,E.Perm i6/\(∀r∈u5,aL r G)/\CM v i6 u5):aM P f args L R CM:=
 ⟨h.1,λw Z b4=>(h.2 w Z b4).mono λe w' ⟨v,E,G,W,aP,cT⟩=>by
  obtain⟨i6,u5,O,X,aU⟩:=k v E G aP
  exact⟨v,i6,u5,W,aU,(cT.CA O).tI hA X⟩⟩
def R8(g:Int->Bool)(start:Int)(up:Bool):Option Int:=
 ((List.range ((sF up start).toNat+1)).find? λ(m:Nat)=>g (start+l7 up*(m:Int))).map λ(m:Nat)=>start+l7 up*(m:Int)
def aW5{g:Int->Bool}{start:Int}{up:Bool}{v:Int}(h:UP g start up v true):R8 g start up=some v:=by
 obtain⟨m,wQ,OG,a2K,b6n,b6p⟩:=h.A9 rfl;have e:(List.range ((sF up start).toNat+1)).find? (λ(m:Nat)=>g (start+l7 up*(m:Int)))=some m.toNat:=by
  rw[a3z];refine⟨?_,List.mem_range.2 D,λj a6=>?_⟩;·rw[RF wQ,<-a2K];exact b6n
  ·rw[b6p j D D];rfl
 rw[R8,e,Bw,RF wQ,a2K]
def aYk{g:Int->Bool}{start:Int}{up:Bool}{v:Int}(b2:0<=sF up start)(h:UP g start up v false):R8 g start up=none:=by
 obtain⟨_,a6⟩:=h.no rfl;have e:(List.range ((sF up start).toNat+1)).find? (λ(m:Nat)=>g (start+l7 up*(m:Int)))=none:=by rw[List.find?_range_eq_none];intro i aE;rw[a6 i D D];rfl
 rw[R8,e];rfl
def a6a{g:Int->Bool}{start:Int}{up:Bool}{v:Int}(b2:0<=sF up start)(h:R8 g start up=some v):UP g start up v true:=by
 unfold R8 at h;obtain⟨m,a3,rfl⟩:=Option.map_eq_some_iff.1 h;rw[a3z]at a3;obtain⟨O,X,aU⟩:=a3;have aLM:=List.mem_range.1 X;refine⟨λ_=>⟨m,by omega,by omega,rfl,O,λj b6d xJ=>?_⟩,λh=>by cases h⟩;have:=aU j.toNat D;rw[RF b6d]at this;cases e:g (start+l7 up*j)with
 |false=>rfl
 |true=>rw[e]at this;cases this
def aDu{g:Int->Bool}{start:Int}{up:Bool}{v:Int}{ok:Bool}(b2:0<=sF up start)(h:UP g start up v ok):v=(R8 g start up).getD 0/\ok=(R8 g start up).isSome:=by
 cases ok with
 |true=>rw[aW5 h];exact⟨rfl,rfl⟩
 |false=>rw[aYk b2 h];exact⟨(h.no rfl).1,rfl⟩
attribute [irreducible] R8
def V1(a:b3)(s:cS)(up:Bool)(l:List Int)(v:Int):Int->Bool:=if up=true then FO a s l v else FG a s l v
def BD(a:b3)(s:cS)(up:Bool)(l:List Int)(k:Nat):Option Int:=R8 (V1 a s up l k) (l.getD k 0) up
abbrev uO(a:b3)(A:List Bool)(k:Nat):Bool:=!(A.getD k false)||(a.aC.places.l.getD k default).tG
def vA(a:b3)(s:cS)(A:List Bool)(up:Bool)(l:List Int):Nat->Option (List Int)
 |0=>some l
 |k+1=>(vA a s A up l k).bind λm=>if uO a A k=true then some m else(BD a s up m k).map λv=>m.set k v
def u9(a:b3)(s:cS)(A:List Bool)(up:Bool):Nat->List Int->Option (List Int)
 |0,_=>none
 |n+1,l=>match vA a s A up l a.aC.places.l.length with
  |none=>none
  |some m=>if m=l then some m else u9 a s A up n m
def CU(a:b3)(ps:List Int)(A:List Bool)(i:Nat):Option Int:=if uO a A i=true/\ps.getD i 0≠0 then some 12 else none
def vT(a:b3)(s:cS)(ps:List Int)(A:List Bool):Int:=
 if h5 a≠0 then h5 a else if l0 a s=false then 21 else if ps.length≠a.aC.places.l.length then 11
 else if(ps.findSome? tN).isSome=true then 1 else((List.range a.aC.places.l.length).findSome? (CU a ps A)).getD 0
def iN(a:b3)(s:cS)(A:List Bool)(up:Bool)(ps:List Int):Int×List Int:=
 if vT a s ps A≠0 then(vT a s ps A,[])else match u9 a s A up 200 ps with
  |none=>(2,[])
  |some l=>(0,l)
def q7(a:b3)(s:cS)(A:List Bool):Int×List Int×List Int:=
 let p:=iN a s A false (List.replicate a.aC.places.l.length 0)
 if p.1≠0 then(p.1,[],[])else
  let q:=iN a s A true p.2
  if q.1≠0 then(q.1,[],[])else
   let r:=iN a s A false q.2
   if r.1≠0 then(r.1,[],[])else(0,r.2,q.2)
structure U9(a:b3)(s:cS)(ps:List Int)(A:List Bool):Prop where
 b2:h5 a=0
 aF:l0 a s=true
 aX:ps.length=a.aC.places.l.length
 aP:pP ps
 fix:∀i:Nat,i<a.aC.places.l.length->uO a A i=true->ps.getD i 0=0
def a0M{a:b3}{s:cS}{ps:List Int}{A:List Bool}:vT a s ps A=0↔U9 a s ps A:=by
 constructor;·
  intro h;unfold vT at h;split at h;·exact Vx
  rename_i O;split at h;·cases h
  rename_i X;split at h;·cases h
  rename_i aU;split at h;·cases h
  rename_i cK;refine⟨by omega,by simpa using X,by omega,Dd (by simpa using cK),λi aE aF=>?_⟩;have b1:(List.range a.aC.places.l.length).findSome? (CU a ps A)=none:=by
   cases e:(List.range a.aC.places.l.length).findSome? (CU a ps A)with
   |none=>rfl
   |some v=>
    obtain⟨j,_,a6⟩:=XR e;unfold CU at a6;split at a6;·cases a6;rw[e]at h;cases h
    ·cases a6
  rw[OU]at b1;have:=b1 i (List.mem_range.2 aE);unfold CU at this;split at this;·cases this
  ·rename_i fY;exact Decidable.not_not.1 λi7=>fY ⟨aF,i7⟩
 ·intro h;rw[vT,if_neg (by rw[h.b2];decide),if_neg (by rw[h.aF];decide),if_neg (by rw[h.aX];simp),if_neg (by rw[a6k h.aP];simp),List.findSome?_eq_none_iff.2 (λi aE=>show CU a ps A i=none from if_neg (λc4=>c4.2 (h.fix i (List.mem_range.1 aE) c4.1)))];rfl
def aZ3{a:b3}{s:cS}{up:Bool}{l:List Int}{k:Nat}{v:Int}(h:pP l)(cY:BD a s up l k=some v):-70368744177664<=v/\v<=70368744177664:=by obtain⟨m,wQ,OG,a2K,_,_⟩:=(a6a (Pk (h.get k)).1 cY).A9 rfl;rw[a2K];exact Yb (h.get k) ⟨wQ,OG⟩
structure HF(a:b3)(s:cS)(A:List Bool)(up:Bool)(l:List Int)(k:Nat)(m:List Int):Prop where
 to:vA a s A up l k=some m
 len:m.length=l.length
 c8:pP m
 aD:∀j:Nat,k<=j->m[j]?=l[j]?
def HF.zero{a:b3}{s:cS}{A:List Bool}{up:Bool}{l:List Int}(h:pP l):HF a s A up l 0 l:=⟨rfl,rfl,h,λ_ _=>rfl⟩
def HF.skip{a:b3}{s:cS}{A:List Bool}{up:Bool}{l m:List Int}{k:Nat}(h:HF a s A up l k m)(aF:uO a A k=true):HF a s A up l (k+1) m:=
 ⟨by rw[vA,h.to,Ns,if_pos aF],h.len,h.c8,λj a6=>h.aD j D⟩
def HF.fail{a:b3}{s:cS}{A:List Bool}{up:Bool}{l m:List Int}{k:Nat}(h:HF a s A up l k m)(aF:¬uO a A k=true)(b1:BD a s up m k=none):∀n,k+1<=n->vA a s A up l n=none:=by
 intro n AU;induction n with
 |zero=>omega
 |succ n c6=>
  rcases hF k n with O|O;·rw[vA,c6 D];rfl
  ·(obtain rfl:n=k:=by omega);rw[vA,h.to,Ns,if_neg aF,b1];rfl
def HF.next{a:b3}{s:cS}{A:List Bool}{up:Bool}{l m:List Int}{k:Nat}(h:HF a s A up l k m)(aF:¬uO a A k=true){v:Int}(cY:BD a s up m k=some v):HF a s A up l (k+1) (m.set k v):=
 ⟨by rw[vA,h.to,Ns,if_neg aF,cY];rfl,by rw[q0];exact h.len,h.c8.set _ (aZ3 h.c8 cY),λj a6=>by rw[KN D];exact h.aD j D⟩
def HF.aLE{a:b3}{s:cS}{A:List Bool}{up:Bool}{l m:List Int}{k:Nat}(h:HF a s A up l k m)(aG:k<l.length)(v:Int):decide (m.set k v≠l)=(decide (m≠l)||decide (v≠m.getD k 0)):=by
 have vN:=h.len;have b7:=bJ (l:=m) (k:=k) 0 D;by_cases O:v=m.getD k 0;·rw[O,Dk];simp
 ·
  have X:m.set k v≠l:=λe=>by have aU:=h.aD k (iK _);rw[<-e,tJ D,b7]at aU;exact O (yF aU).symm
  rw[decide_eq_true X,decide_eq_true O,Nk]
def aFN{a:b3}{s:cS}{A:List Bool}{up:Bool}{n:Nat}{l m:List Int}(aH:vA a s A up l a.aC.places.l.length=some m)(jF:m≠l):u9 a s A up (n+1) l=u9 a s A up n m:=by rw[u9,aH];exact if_neg jF
def aDT{a:b3}{s:cS}{A:List Bool}{up:Bool}{n:Nat}{l:List Int}(aH:vA a s A up l a.aC.places.l.length=some l):u9 a s A up (n+1) l=some l:=by rw[u9,aH];exact if_pos rfl
def aHj{a:b3}{s:cS}{A:List Bool}{up:Bool}{n:Nat}{l:List Int}(aH:vA a s A up l a.aC.places.l.length=none):u9 a s A up (n+1) l=none:=by rw[u9,aH]
def Pn{a:b3}{s:cS}{A:List Bool}{up:Bool}{l:List Int}(aX:pP l): ∀{k:Nat} {m:List Int},vA a s A up l k=some m->HF a s A up l k m
 |0,m,h=>by cases h;exact .zero aX
 |k+1,m,h=>by
  have c4:=h
  rw[vA,Wd]at c4
  obtain⟨OG,O,X⟩:=c4
  have c6:=Pn aX O
  split at X
  ·rename_i aF
   cases X
   exact c6.skip aF
  ·rename_i aF
   obtain⟨v,cY,rfl⟩:=Option.map_eq_some_iff.1 X
   exact c6.next aF cY
def a4y{a:b3}{s:cS}{A:List Bool}{up:Bool}: ∀{n:Nat} {l m:List Int},pP l->u9 a s A up n l=some m->m.length=l.length/\pP m/\vA a s A up m a.aC.places.l.length=some m
 |0,l,m,_,h=>by cases h
 |n+1,l,m,aX,h=>by
  rw[u9]at h
  split at h
  ·cases h
  ·rename_i OG O
   have aH:=Pn aX O
   split at h
   ·rename_i e
    cases h
    subst e
    exact⟨rfl,aX,O⟩
   ·obtain⟨g9,fI,o5⟩:=a4y aH.c8 h
    exact⟨g9.trans aH.len,fI,o5⟩
def a41{a:b3}{s:cS}{A:List Bool}{up:Bool}{ps:List Int}(h:(iN a s A up ps).1=0):U9 a s ps A/\u9 a s A up 200 ps=some (iN a s A up ps).2:=by
 unfold iN at h|-;split at h;·exact Vx
 ·
  rename_i O;rw[if_neg O];refine⟨a0M.1 D,?_⟩;split at h;·cases h
  ·rename_i l e;rw[e]
section
attribute [local irreducible] cQ dF dV aM cP eC e5 e1 e2 e6 eX e4 J.L
def aFE(h:A->B:=by exact aI (jA N ((⟨yD,m⟩:J Int)) _ rfl rfl ((show _=Value.slice _ _ _ from rfl).trans Xn) rfl bR (i:=i) dA jC) rfl):=h
def aEe(h:B:=by exact⟨J.nil,by rw[ER];rfl,J.iJ,by rw[ER],by rw[mE,nN],rfl⟩):=h
def aGh(h:A->B:=by exact aI O2 rfl):=h
def aWf(h:A->B:=by exact aI (tK N ((⟨yD,m⟩:J Int)) rfl rfl rfl cF bR bD bR aB) rfl):=h
def aU3(h:A->B:=by exact jH (j5 N ((⟨yD,m⟩:J Int)) (u) rfl rfl rfl rfl cF bR bD bR aW aB aB)):=h
def aZO(h:B:=by exact hP ⟨(i+1,m.set i u),by dsimp only;omega,fW.next LW cY,J.o6 HW jU g2⟩ gW ⟨rfl,by dsimp only;rw[gA];rfl,trivial⟩ bA eN hO):=h
def aYE(a:b3)(s:cS)(ps:a4 Int)(A:List Bool)(L:aR)(R:aO)(a3:mZ a R)(aH:pQ s R)(nE:aL (dU ps) R)(gE:h5 a=0->lB a.aC A):
 aM prog 295 [a.val,s.val,ps.val].toArray L R (λv E G=>v=.int .i64 (vT a s ps.l A)/\L=E/\R=G):=by
 have B7:=a3.places;refine m1 call295 nE λlK=>?_;refine m1 call295 B7 λa95=>?_;refine b6 49 call295 func295 rfl rfl rfl ?_;apply(dB);intro eS;apply(iV);intro eD;apply hH∘r5;refine cD rfl (Pg a _ _ a3) ?_;apply(j7);refine U ?_ ?_<;>intro aQ;·apply(FW);refine cX L R ?_;exact⟨by rw[vT,if_pos aQ],rfl,rfl⟩
 have b2:h5 a=0:=by omega
 have bH:=yR b2;have wM:=gE b2;apply hN∘vC;refine cD rfl (a6v a s _ _ a3 aH) ?_;apply(nK);refine U ?_ ?_<;>intro bL;·apply(kM);refine cX L R ?_;exact⟨by rw[vT,if_neg aQ,if_pos (by simpa[O8,b2]using bL)],rfl,rfl⟩
 have v9:l0 a s=true:=by simpa[O8,b2]using bL
 have AO:¬l0 a s=false:=by rw[v9];decide
 apply VR∘CT∘rR;refine U ?_ ?_<;>intro cC;·apply(kM);refine cX L R ?_;exact⟨by rw[vT,if_neg aQ,if_neg AO,if_pos D],rfl,rfl⟩
 have j1:ps.l.length=a.aC.places.l.length:=by omega
 apply hN∘gU;refine cD rfl (a6R ps _ _ nE) ?_;apply(nK);refine U ?_ ?_<;>intro dX;·apply(kM);refine cX L R ?_;exact⟨by rw[vT,if_neg aQ,if_neg AO,if_neg D,if_pos (by simp_all [Option.isSome_iff_ne_none])],rfl,rfl⟩
 have M:¬(ps.l.findSome? tN).isSome=true:=by simp_all
 apply e0∘z6;refine dT rfl aCU rfl ?_;rintro v E G ⟨p,KX,rfl,iF,uS,eI,rfl,rfl⟩;obtain rfl:A=KX:=wM.Bp uS;have Th:p.l.length=a.aC.places.l.length:=by rw[eI];exact a6g a.aC A
 have x8:vT a s ps.l A=((List.range ps.l.length).findSome? (CU a ps.l A)).getD 0:=by rw[vT,if_neg aQ,if_neg AO,if_neg D,if_neg M,j1]
 apply(HR);refine R5 λc w cT=>⟨_,_,cT.CA Bz,?_⟩;apply(NE);refine dS [(2,.slice _ _ _),(8,.slice _ _ _),(9,.int _ _)] bV λfK=>?_;refine gY ([6,9]++cN 32 17) (λg:E5 (CU a ps.l A) (ps.l.length)=>[(9,.int .i64 ((g.1:Nat):Int))]) (λg=>(ps.l.length)-g.1) ⟨0,EC _ _⟩ ?_;rintro⟨fF,zA,gM⟩ cH;try dsimp only
 apply(uM);refine U ?_ ?_<;>intro dY;·
  have zD:p.l[fF]?=some (uO a A fF):=by rw[eI];exact a1z D
  have wN:=bJ (l:=ps.l) (k:=fF) 0 D;apply j9∘h9;refine aI (jA N (p) _ rfl rfl rfl rfl bR (i:=fF) dA jC) rfl ?_;apply aGh∘dE;apply iR (Z:=[_,_,_,_,_]) (j:=4) (a9:=42) rfl rfl aB rfl aY rfl;·intro hD;replace hD:=bB hD;apply(h9);refine aI O0 rfl ?_;exact(jG) E2
  intro wP;apply(b9);refine U ?_ ?_<;>intro h1;·have AV:CU a ps.l A fF=some 12:=if_pos Xs;apply(vY);refine cX L R ?_;exact⟨by rw[x8,wH gM D AV];rfl,rfl,rfl⟩
  have AV:CU a ps.l A fF=none:=if_neg (λ⟨O,X⟩=>by
  rcases h1 with⟨aU,cK⟩|aU;·rw[uO,aU,cK]at O;cases O
  ·exact aU X)
  apply(mT);exact eO ⟨fF+1,z2 gM D (AV)⟩
 exact aTd
abbrev Rw(x:Option Int):Value:=.tuple #[.int .i64 (x.getD 0),.bool x.isSome]
def aDF{ps:List Int}(h:pP ps)(up:Bool)(k:Nat):0<=sF up (ps.getD k 0):=(Pk (h.get k)).1
def b7j{a:b3}{s:cS}{o:g6}{l:List Int}{k:Nat}{A:aR}{R:aO}{A8:Value}(uX:A8=(⟨o,l⟩:J Int).val)(h:Cr a s l k R)(kG:xT ((⟨o,l⟩:J Int).L 3 a1) A)(bH:(⟨o,l⟩:J Int).ok 1 a1):
 aM prog 296 [a.val,s.val,A8,.int .i64 (k:Int)].toArray A R (λw E G=>w=Rw (BD a s true l k)/\A=E/\R=G):=by subst uX;refine aM.Av kG bH ((aXA a s (⟨o,l⟩:J Int).V k [] _ ⟨FN h.b0 λr M=>aT (.tail _ M),NS h.set λr M=>aT (.tail _ M),h.ok,h.LO,h.len,h.c8,h.v⟩ mA).mono ?_);exact aSx
def aWu{a:b3}{s:cS}{o:g6}{l:List Int}{k:Nat}{A:aR}{R:aO}{A8:Value}(uX:A8=(⟨o,l⟩:J Int).val)(h:Cr a s l k R)(kG:xT ((⟨o,l⟩:J Int).L 3 a1) A)(bH:(⟨o,l⟩:J Int).ok 1 a1):
 aM prog 297 [a.val,s.val,A8,.int .i64 (k:Int)].toArray A R (λw E G=>w=Rw (BD a s false l k)/\A=E/\R=G):=by subst uX;refine aM.Av kG bH ((aYK a s (⟨o,l⟩:J Int).V k [] _ ⟨FN h.b0 λr M=>aT (.tail _ M),NS h.set λr M=>aT (.tail _ M),h.ok,h.LO,h.len,h.c8,h.v⟩ mA).mono ?_);exact aSt
def aEF(a:b3)(s:cS)(ps:a4 Int)(up:Bool)(A:List Bool)(L:aR)(R:aO)(a3:mZ a R)(aH:pQ s R)(nE:aL (dU ps) R)(gE:h5 a=0->lB a.aC A):
 aM prog 284 [a.val,s.val,ps.val,.bool up].toArray L R (λw E G=>∃p:J Int,w=.tuple #[p.val,.int .i64 (iN a s A up ps.l).1]/\p.ok 1 a1/\p.l=(iN a s A up ps.l).2/\p.L 3 a1++L=E/\R=G):=by
 have B7:=a3.places;refine b6 79 call284 func284 rfl rfl rfl ?_;apply(dB);intro eD;apply(iV);intro gQ;apply kA∘hH∘SV;refine cD rfl (aYE a s ps A _ _ a3 aH nE gE) ?_;apply(j7);refine U ?_ ?_<;>intro aQ;·apply HO∘kA∘w7;refine bQ L R yH ?_;exact⟨J.nil,by rw[iN,if_pos aQ];rfl,J.iJ,by rw[iN,if_pos aQ],by rw[mE,nN],rfl⟩
 have wO:=a0M.1 (show vT a s ps.l A=0 by omega);have bH:=yR wO.b2;have rZ:=Ip wO.aF;have wM:=gE wO.b2;have j1:=wO.aX;have r0:=bH.aC.places;have Gq:iN a s A up ps.l=match u9 a s A up 200 ps.l with
  |none=>(2,[])
  |some l=>(0,l):=by rw[iN,if_neg aQ]<;>rfl
 apply(D9);refine hT aRi rfl ?_;rintro v E G ⟨yD,rfl,aAa,rfl,rfl⟩;apply vD∘z6;refine dT rfl aCU rfl ?_;rintro v E G ⟨p,KX,rfl,iF,uS,eI,rfl,rfl⟩;obtain rfl:A=KX:=wM.Bp uS;have Th:p.l.length=a.aC.places.l.length:=by rw[eI];exact a6g a.aC A
 apply(HR);refine R5 λc w cT=>⟨_,_,cT.CA Bz,?_⟩;apply(NE);refine dS [(3,.bool _),(4,.pointer _),(5,.pointer _),(11,.slice _ _ _),(12,.slice _ _ _),(13,.int _ _)] bV λfK=>?_;refine k2 ([8,9,13,14,15,16,17]++cN 30 49) ((⟨λq=>[(13,.int .i64 ((q.1.1:Nat):Int))],λq=>p.L 4 jJ++((⟨yD,q.1.2⟩:J Int).L 3 a1++(⟨gQ,s.cells,80⟩::⟨eD,a.cells,32⟩::L)),λ_=>R,λq=>200-q.1.1⟩:fB {q:Nat×List Int//q.1<=200/\u9 a s A up 200 ps.l=u9 a s A up (200-q.1) q.2/\q.2.length=ps.l.length/\pP q.2/\(⟨yD,q.2⟩:J Int).ok 1 a1})) (⟨(0,ps.l),by dsimp only;omega,rfl,rfl,wO.aP,aAa⟩) ?_;rintro⟨⟨n,l⟩,rG,fO,lY,KM,CE⟩ cH;try dsimp only
 dsimp only at rG fO lY KM CE;apply FR∘CP;refine U ?_ ?_<;>intro bL;·
  have a74:200-n=(200-(n+1))+1:=by omega
  rw[a74]at fO;apply j9∘F1∘nP;refine FP ([8,9,13,14,15,16,17]++cN 30 49) G1 [(13,.int _ _),(14,.bool _),(15,.int _ _)] bV λoA=>?_;refine qK ([8,9,14,15,16,17]++cN 34 42) ((⟨λq=>[(15,.int .i64 ((q.1.1:Nat):Int)),(14,.bool (decide (q.1.2≠l)))],λq=>p.L 4 jJ++((⟨yD,q.1.2⟩:J Int).L 3 a1++(⟨gQ,s.cells,80⟩::⟨eD,a.cells,32⟩::L)),λ_=>R,λq=>ps.l.length-q.1.1⟩:fB {q:Nat×List Int//q.1<=ps.l.length/\HF a s A up l q.1 q.2/\(⟨yD,q.2⟩:J Int).ok 1 a1})) (⟨(0,l),by dsimp only;omega,.zero KM,CE⟩) ⟨rfl,by simp;rfl,trivial⟩ bA eN ?_;rintro⟨⟨i,m⟩,uB,fW,jU⟩ cH;try dsimp only
  dsimp only at uB fW jU;have pG:=fW.len;apply(uM);refine U ?_ ?_<;>intro cC;·
   obtain⟨El,LU⟩:∃El,El=uO a A i:=⟨_,rfl⟩;(have zD:p.l[i]?=some El:=by rw[eI,LU];exact a1z D);have B6:=bJ (l:=m) (k:=i) 0 D;refine eP (a8 (bK (fR (bK (bK (c2 ?_))))));apply(h9);refine aI (jA N (p) _ rfl rfl rfl rfl bR (i:=i) dA jC) rfl ?_;apply aGh∘b9;refine U ?_ ?_<;>intro dX;·have LW:uO a A i=true:=LU▸dX;refine mD (mF (mB (a8 (c2 ?_))));apply(M8);exact eO ⟨(i+1,m),by dsimp only;omega,fW.skip LW,jU⟩
   (have LW:¬uO a A i=true:=by rw[<-LU,dX];decide);have a1T:Cr a s m i R:=⟨a3,aH,bH,rZ,by omega,fW.c8,by omega⟩;apply e0∘Du∘dE∘b9;refine U ?_ ?_<;>intro dY;·have KA:up=true:=dY;apply eB∘vC∘h9;refine cD rfl (b7j (o:=yD) (l:=m) ((show _=Value.slice _ _ _ from rfl).trans Xn) a1T G2 jU) ?_;exact aPn
   (have KA:up=false:=by simpa using dY);apply eB∘vC∘h9;refine cD rfl (aWu (o:=yD) (l:=m) ((show _=Value.slice _ _ _ from rfl).trans Xn) a1T G2 jU) ?_;exact aPn
  obtain rfl:i=ps.l.length:=by omega
  have ET:=fW.to;rw[j1]at ET;apply n9∘SK;refine U ?_ ?_<;>intro h2;·(have LY:m=l:=by simpa using h2);(have ER:iN a s A up ps.l=(0,m):=by rw[Gq,fO,LY,aDT (by rw[<-LY]at ET|-;exact ET)]);apply dC∘gU∘kA∘dM∘ON;refine bQ ((⟨yD,m⟩:J Int).L 3 a1++L) R yH ?_;exact⟨⟨yD,m⟩,by rw[ER];simp only[J.val,pG,lY],jU,by rw[ER],rfl,rfl⟩
  have LY:m≠l:=by simpa using h2
  apply(mT);exact eO ⟨(n+1,m),by dsimp only;omega,fO.trans (aFN ET LY),pG.trans lY,fW.c8,jU⟩
 obtain rfl:n=200:=by omega
 have ER:iN a s A up ps.l=(2,[]):=by rw[Gq,fO];rfl
 apply n9∘Y6;refine bQ L R yH ?_;exact aEe
def aUv(a:b3)(s:cS)(ps:a4 Int)(A:List Bool)(L:aR)(R:aO)(a3:mZ a R)(aH:pQ s R)(nE:aL (dU ps) R)(gE:h5 a=0->lB a.aC A):
 aM prog 254 [a.val,s.val,ps.val].toArray L R (λw E G=>∃p:J Int,w=.tuple #[p.val,.int .i64 (iN a s A true ps.l).1]/\p.ok 1 a1/\p.l=(iN a s A true ps.l).2/\p.L 3 a1++L=E/\R=G):=by refine b6 14 call254 func254 rfl rfl rfl ?_;apply(dB);intro eS;apply(iV);intro eD;apply kA∘mO∘SV;refine dT rfl (aEF a s ps true A _ _ a3 aH nE gE) rfl ?_;exact aSH
def aVm(a:b3)(s:cS)(ps:a4 Int)(A:List Bool)(L:aR)(R:aO)(a3:mZ a R)(aH:pQ s R)(nE:aL (dU ps) R)(gE:h5 a=0->lB a.aC A):
 aM prog 253 [a.val,s.val,ps.val].toArray L R (λw E G=>∃p:J Int,w=.tuple #[p.val,.int .i64 (iN a s A false ps.l).1]/\p.ok 1 a1/\p.l=(iN a s A false ps.l).2/\p.L 3 a1++L=E/\R=G):=by refine b6 14 call253 func253 rfl rfl rfl ?_;apply(dB);intro eS;apply(iV);intro eD;apply kA∘mO∘SV;refine dT rfl (aEF a s ps false A _ _ a3 aH nE gE) rfl ?_;exact aSH
def a45(h:B:=by exact⟨J.nil,J.nil,by rw[AX];rfl,J.iJ,J.iJ,by rw[AX],by rw[AX],by rw[mE,nN,nN],rfl⟩):=h
def aFr{a7:Type}{f:a7->List Value}{z:List Value}{b n:Nat}{T:TypeId}{x:a7}{A:aR}(eW:z=f x):xT ((⟨.own b n [],List.replicate n x⟩:J a7).L T f) (⟨b,z3 z n,T⟩::A):=by rw[ZE eW A];exact aJ7
def aEb{a:b3}{s:cS}{q:J Int}{A:List Bool}{L:aR}{R:aO}{A8:Value}(uX:A8=q.val)(a3:mZ a R)(aH:pQ s R)(gE:h5 a=0->lB a.aC A)(kG:xT (q.L 3 a1) L)(bH:q.ok 1 a1):
 aM prog 253 [a.val,s.val,A8].toArray L R (λw E G=>∃p:J Int,w=.tuple #[p.val,.int .i64 (iN a s A false q.l).1]/\p.ok 1 a1/\p.l=(iN a s A false q.l).2/\p.L 3 a1++L=E/\R=G):=by subst uX;have X:=aM.Mn (S:=[dU q.V]) (Post:=λv E=>∃p:J Int,v=.tuple #[p.val,.int .i64 (iN a s A false q.l).1]/\p.ok 1 a1/\p.l=(iN a s A false q.l).2/\p.L 3 a1++[]=E) (zZ.aD (L:=L)) (λw Z b4 s aH=>by rw[List.mem_singleton.1 aH];exact VF b4 kG bH bD aW e8) ((aVm a s q.V A [] _ (FN a3 λr h=>aT (.tail _ h)) (NS aH λr h=>aT (.tail _ h)) mA gE).mono λv E G ⟨p,k7,lJ,m4,vG,JW⟩=>⟨⟨p,k7,lJ,m4,vG⟩,JW⟩);exact aRD
def aYu(a:b3)(s:cS)(A:List Bool)(L:aR)(R:aO)(a3:mZ a R)(aH:pQ s R)(gE:h5 a=0->lB a.aC A)(r0:a.aC.places.l.length<=64):
 aM prog 209 [a.val,s.val].toArray L R (λw E G=>∃b5 aE:J Int,w=.tuple #[.agg #[b5.val,aE.val],.int .i64 (q7 a s A).1]/\b5.ok 1 a1/\aE.ok 1 a1/\b5.l=(q7 a s A).2.1/\aE.l=(q7 a s A).2.2/\b5.L 3 a1++(aE.L 3 a1++L)=E/\R=G):=by
 have B7:=a3.places;have aBq:∀b,(⟨.own b a.aC.places.l.length [],List.replicate a.aC.places.l.length 0⟩:J Int).ok 1 a1:=λb=>ED bD DP;refine b6 50 call209 func209 rfl rfl rfl ?_;apply(dB);intro eH;apply(iV);intro eS;apply(dZ);intro eD;apply(x2);refine gZ N [0,1,2,3,4,5,6,7,8,9,10,11,12] ([bN.mk eS _ _,bN.mk eH _ _]) dO bI bA ?_;apply KI∘T7∘LD;refine bE yG rfl rfl rfl ?_;refine uN Wx rfl rfl rfl ?_;rintro v E G ⟨QA,rfl,rfl,a8B⟩;replace a8B:=a8B.symm;subst a8B;apply(gJ);refine tP rfl (aEb (q:=⟨.own QA a.aC.places.l.length [],List.replicate a.aC.places.l.length 0⟩) (aJM (a7:=Int)).symm a3 aH gE (aFr (f:=a1) (x:=0) rfl) (aBq QA)) rfl rfl ?_;rintro v E G ⟨p,rfl,iF,eI,rfl,rfl⟩;refine⟨bA,iQ,?_⟩;replace eI:p.l=(iN a s A false (List.replicate a.aC.places.l.length 0)).2:=eI;refine bE iL rfl rfl rfl ?_;refine bE q2 rfl rfl rfl ?_;refine bE q2 rfl rfl rfl ?_;refine bE zT rfl rfl rfl ?_;apply(qV);refine g5 (a8 (bK (bK ?_)));refine E7 (A:=[]) (aN:=1) [] bD aW iF e8 ?_;refine eM (by simp only[nN];rfl) ?_;have AS:mZ a (dU p.V::R):=FN a3 λr h=>aT (.tail _ h);have Gr:pQ s (dU p.V::R):=NS aH λr h=>aT (.tail _ h);obtain⟨x,K⟩:∃x,x=iN a s A false (List.replicate a.aC.places.l.length 0):=⟨_,rfl⟩;rw[<-K]at eI|-;apply(SS);refine U ?_ ?_<;>intro aQ;·
  apply VW∘tQ;refine lH (E:=L) (G:=R) Cd ?aP ?dI ?bO;case aP=>(have AX:q7 a s A=(x.1,[],[]):=by rw[q7];dsimp only;rw[<-K,if_pos aQ]);exact a45
  case dI=>exact bA
  case bO=>exact λr h=>aT (by simp[h])
 apply e0∘SV;refine dT rfl (aUv a s p.V A _ _ AS Gr mA gE) rfl ?_;rintro v E G ⟨q,rfl,gR,fT,rfl,rfl⟩;replace fT:q.l=(iN a s A true p.l).2:=fT;obtain⟨y,aS⟩:∃y,y=iN a s A true p.l:=⟨_,rfl⟩;rw[<-aS]at fT|-;have Q0:y=iN a s A true x.2:=by rw[aS,eI]
 refine aI iL rfl ?_;apply CO∘kA∘PT;refine U ?_ ?_<;>intro bL;·
  apply VW∘tQ;refine lH (E:=L) (G:=R) Cd ?aP ?dI ?bO;case aP=>(have AX:q7 a s A=(y.1,[],[]):=by rw[q7];dsimp only;rw[<-K,if_neg aQ,<-Q0,if_pos bL]);exact a45
  case dI=>exact bA
  case bO=>exact λr h=>aT (by simp[h])
 apply e0∘SV;refine dT rfl (aEb (q:=q) rfl AS Gr gE G2 gR) rfl ?_;rintro v E G ⟨u,rfl,a2v,Mj,rfl,rfl⟩;obtain⟨z,eW⟩:∃z,z=iN a s A false q.l:=⟨_,rfl⟩;rw[<-eW]at Mj|-;have TY:z=iN a s A false y.2:=by rw[eW,fT]
 refine aI iL rfl ?_;apply CO∘kA∘PT;refine U ?_ ?_<;>intro cC;·
  apply VW∘tQ;refine lH (E:=L) (G:=R) Cd ?aP ?dI ?bO;case aP=>(have AX:q7 a s A=(z.1,[],[]):=by rw[q7];dsimp only;rw[<-K,if_neg aQ,<-Q0,if_neg bL,<-TY,if_pos cC]);exact a45
  case dI=>exact bA
  case bO=>exact λr h=>aT (by simp[h])
 apply D9∘gU;refine aI a4i rfl ?_;apply(oH);refine lH (E:=u.L 3 a1++(q.L 3 a1++L)) (G:=R) Cd ?aP ?dI ?bO;case aP=>exact aQJ
 case dI=>exact bA
 case bO=>exact λr h=>aT (by simp[h])
def aHO(h:A->B:=by exact aI Ok rfl):=h
def aK6(h:A->B:=by exact aI O2 rfl):=h
def aGZ(h:B:=by exact⟨J.nil,q3 n.lN::qA n.l3::(S++fL),by rw[ER];rfl,J.iJ,by rw[ER],by rw[mE,nN],by rw[H9];simp⟩):=h
def aHX(h:A->B:=by exact aI (jA N ((⟨OK,m⟩:J Int)) _ rfl rfl ((show _=Value.slice _ _ _ from rfl).trans Xn) rfl bR (i:=i) dA jC) rfl):=h
def aU1(a:b3)(s:cS)(ps:a4 Int)(A:List Bool)(L:aR)(R:aO)(a3:mZ a R)(aH:pQ s R)(nE:aL (dU ps) R)(gE:h5 a=0->lB a.aC A):
 aM prog 277 [a.val,s.val,ps.val].toArray L R (λv E G=>∃S:aO,v=.int .i64 (vT a s ps.l A)/\L=E/\S++R=G):=by
 have B7:=a3.places;refine m1 call277 nE λlK=>?_;refine m1 call277 B7 λa95=>?_;refine b6 70 call277 func277 rfl rfl rfl ?_;apply(dB);intro eS;apply(iV);intro eD;apply hH∘r5;refine cD rfl (Zd a _ _ a3) ?_;apply(j7);refine U ?_ ?_<;>intro aQ;·apply(FW);refine cX L R ?_;exact⟨[],by rw[vT,if_pos aQ],rfl,rfl⟩
 have b2:h5 a=0:=by omega
 have bH:=yR b2;have wM:=gE b2;have QQ:=bH.aC.places;apply hN∘vC;refine cD rfl (a6h a s _ _ a3 aH) ?_;apply(nK);refine U ?_ ?_<;>intro bL;·apply(kM);refine cX L R ?_;exact⟨[],by rw[vT,if_neg aQ,if_pos MH],rfl,rfl⟩
 have v9:l0 a s=true:=by simpa using bL
 have AO:¬l0 a s=false:=by rw[v9];decide
 apply VR∘CT∘rR;refine U ?_ ?_<;>intro cC;·apply(kM);refine cX L R ?_;exact⟨[],by rw[vT,if_neg aQ,if_neg AO,if_pos D],rfl,rfl⟩
 have j1:ps.l.length=a.aC.places.l.length:=by omega
 apply hN∘BN;refine dS [(2,.slice _ _ _),(3,.pointer _),(29,.slice _ _ _),(30,.int _ _),(31,.int _ _)] bV λfK=>?_;refine gY ([6,9]++cN 31 11) (λg:FS (tN) (ps.l)=>[(31,.int .i64 ((g.1:Nat):Int))]) (λg=>(ps.l).length-g.1) ⟨0,y0 _ _⟩ ?_;rintro⟨fF,zA,gM⟩ cH;try dsimp only
 apply(h0);refine U ?_ ?_<;>intro dX;·
  obtain⟨y,aS⟩:=jW (l:=ps.l) (k:=fF) D;apply(j9);refine aI O0 rfl ?_;apply jG∘rS∘z5;apply cA (Z:=[_,_]) (j:=2) (a9:=37) rfl rfl aB rfl aY rfl;·exact G3
  intro mK;apply(b9);refine U ?_ ?_<;>intro dY;·apply(vY);refine cX L R ?_;have aAt:=yT gM aS (show tN y=some 1 from if_pos D);exact⟨[],by rw[vT,if_neg aQ,if_neg AO,if_neg D,if_pos (by rw[aAt];rfl)],rfl,rfl⟩
  apply(mU);exact eO ⟨fF+1,x5 gM aS (if_neg D)⟩
 have mX:=y1 gM D;apply n9∘z6;refine dT rfl (a1d a.aC _ _ a3.T1 bH.aC (a1o b2)) rfl ?_;rintro v E G ⟨p,KX,S,rfl,iF,uS,eI,rfl,rfl⟩;obtain rfl:A=KX:=wM.Bp uS;have Th:p.l.length=a.aC.places.l.length:=by rw[eI,sV];exact wM.length
 have b90:aL (dU ps) (S++R):=nE.mono λr h=>aT (by simp[h]);have aME:aL (OM a.aC.places) (S++R):=B7.mono λr h=>aT (by simp[h]);have x8:vT a s ps.l A=((List.range a.aC.places.l.length).findSome? (CU a ps.l A)).getD 0:=by rw[vT,if_neg aQ,if_neg AO,if_neg D,if_neg (by rw[mX];simp)]
 apply v1∘e7∘qP;refine dS [(2,.slice _ _ _),(10,.slice _ _ _),(47,.slice _ _ _),(48,.int _ _),(49,.int _ _)] bV λoA=>?_;refine gY ([6,11,12]++cN 49 21) (λg:E5 (CU a ps.l A) (a.aC.places.l.length)=>[(49,.int .i64 ((g.1:Nat):Int))]) (λg=>(a.aC.places.l.length)-g.1) ⟨0,EC _ _⟩ ?_;rintro⟨g9,hE,jT⟩ cH;try dsimp only
 apply(h0);refine U ?_ ?_<;>intro h1;·
  have B6:=bJ (l:=a.aC.places.l) (k:=g9) default D;have zD:p.l[g9]?=some (!(A.getD g9 false)):=by have:=wM.length;rw[eI,pA,bJ (l:=A) (k:=g9) false D];rfl
  have wN:=bJ (l:=ps.l) (k:=g9) 0 D;apply oJ∘aHO∘LI;intro n3;apply dM∘z8∘dE;apply cA (Z:=[_,_,_,_]) (j:=2) (a9:=56) rfl rfl aB rfl aY rfl;·intro fQ;replace fQ:=bB fQ;apply(h9);refine aI (jA N (p) _ rfl rfl rfl rfl bR (i:=g9) dA jC) rfl ?_;exact(aK6) g4
  intro mK;apply(dE);apply iR (Z:=[_,_,_,_,_]) (j:=8) (a9:=62) rfl rfl aB rfl aY rfl;·intro gH;replace gH:=bB gH;exact(h9∘aHO∘jG) E2
  intro uY;apply(b9);refine U ?_ ?_<;>intro h2;·have AV:CU a ps.l A g9=some 12:=if_pos ⟨by obtain⟨O|O,_⟩:=h2;rw[uO,O,Nk];rw[uO,O];rfl,h2.2⟩;apply(vY);refine cX L (S++R) ?_;exact⟨S,by rw[x8,wH jT D AV];rfl,rfl,rfl⟩
  have AV:CU a ps.l A g9=none:=if_neg (λ⟨O,X⟩=>by
  rcases h2 with⟨aU,cK⟩|aU;·rw[uO,aU,cK]at O;cases O
  ·exact aU X)
  apply(mU);exact eO ⟨g9+1,z2 jT D (AV)⟩
 have tV:=HV jT D;apply(D8);refine cX L (S++R) ?_;exact⟨S,by rw[x8,tV];rfl,rfl,rfl⟩
def aW6{n:s5}{a:b3}{s:cS}{o:g6}{l:List Int}{k:Nat}{A:aR}{R:aO}{A8:Value}(uX:A8=(⟨o,l⟩:J Int).val)(h:RN n a s l k R)(kG:xT ((⟨o,l⟩:J Int).L 3 a1) A)(bH:(⟨o,l⟩:J Int).ok 1 a1):
 aM prog 240 [n.val,A8,.int .i64 (k:Int)].toArray A R (λw E G=>w=Rw (BD a s true l k)/\A=E/\R=G):=by subst uX;refine aM.Av kG bH ((aVZ n a s (⟨o,l⟩:J Int).V k [] _ ⟨h.rE.mono λr M=>aT (.tail _ M),h.a1A.mono λr M=>aT (.tail _ M),h.is,h.ok,h.len,h.c8,h.v⟩ mA).mono ?_);exact aSx
def aYU{n:s5}{a:b3}{s:cS}{o:g6}{l:List Int}{k:Nat}{A:aR}{R:aO}{A8:Value}(uX:A8=(⟨o,l⟩:J Int).val)(h:RN n a s l k R)(kG:xT ((⟨o,l⟩:J Int).L 3 a1) A)(bH:(⟨o,l⟩:J Int).ok 1 a1):
 aM prog 239 [n.val,A8,.int .i64 (k:Int)].toArray A R (λw E G=>w=Rw (BD a s false l k)/\A=E/\R=G):=by subst uX;refine aM.Av kG bH ((aT8 n a s (⟨o,l⟩:J Int).V k [] _ ⟨h.rE.mono λr M=>aT (.tail _ M),h.a1A.mono λr M=>aT (.tail _ M),h.is,h.ok,h.len,h.c8,h.v⟩ mA).mono ?_);exact aSt
def aKB:Bool->FuncId
 |true=>240
 |false=>239
def b0V(up:Bool){n:s5}{a:b3}{s:cS}{o:g6}{l:List Int}{k:Nat}{A:aR}{R:aO}{A8:Value}(uX:A8=(⟨o,l⟩:J Int).val)(h:RN n a s l k R)(kG:xT ((⟨o,l⟩:J Int).L 3 a1) A)(bH:(⟨o,l⟩:J Int).ok 1 a1):
 aM prog (aKB up) [n.val,A8,.int .i64 (k:Int)].toArray A R (λw E G=>w=Rw (BD a s up l k)/\A=E/\R=G):=by
 cases up with
 |true=>exact aW6 uX h kG bH
 |false=>exact aYU uX h kG bH
def aH5(a:b3)(s:cS)(ps:a4 Int)(up:Bool)(A:List Bool)(L:aR)(R:aO)(a3:mZ a R)(aH:pQ s R)(nE:aL (dU ps) R)(gE:h5 a=0->lB a.aC A):
 aM prog 238 [a.val,s.val,ps.val,.func (.func (aKB up)) #[] #[]].toArray L R (λw E G=>∃(p:J Int) (S:aO),w=.tuple #[p.val,.int .i64 (iN a s A up ps.l).1]/\p.ok 1 a1/\p.l=(iN a s A up ps.l).2/\p.L 3 a1++L=E/\S++R=G):=by
 refine b6 80 call238 func238 rfl rfl rfl ?_;apply(dB);intro eD;apply(iV);intro gQ;apply kA∘hH∘SV;refine dT rfl (aU1 a s ps A _ _ a3 aH nE gE) rfl ?_;rintro v E G ⟨fL,rfl,rfl,rfl⟩;apply(j7);refine U ?_ ?_<;>intro aQ;·apply HO∘kA∘w7;refine bQ L (fL++R) yH ?_;exact⟨J.nil,fL,by rw[iN,if_pos aQ];rfl,J.iJ,by rw[iN,if_pos aQ],by rw[mE,nN],rfl⟩
 have wO:=a0M.1 (show vT a s ps.l A=0 by omega);have bH:=yR wO.b2;have rZ:=Ip wO.aF;have wM:=gE wO.b2;have j1:=wO.aX;have r0:=bH.aC.places;have Gq:iN a s A up ps.l=match u9 a s A up 200 ps.l with
  |none=>(2,[])
  |some l=>(0,l):=by rw[iN,if_neg aQ]<;>rfl
 have kJ:∀r∈R,aL r (fL++R):=λr h=>aT (by simp[h]);have AS:=FN a3 kJ;have Gr:=NS aH kJ;apply e0∘z6;refine dT rfl (a1d a.aC _ _ AS.T1 bH.aC (a1o wO.b2)) rfl ?_;rintro v E G ⟨p,KX,S,rfl,iF,uS,eI,rfl,rfl⟩;obtain rfl:A=KX:=wM.Bp uS;have Th:p.l.length=a.aC.places.l.length:=by rw[eI,sV];exact wM.length
 have WA:=wM.length;have kY:∀r∈fL++R,aL r (S++(fL++R)):=λr h=>aT (by simp only[Hw]at h|-;exact .inr h);apply vD∘vC;refine dT rfl (a7O a s _ _ (FN AS kY) (NS Gr kY) bH rZ) rfl ?_;rintro v E G ⟨n,rfl,b1,rfl,rfl⟩;have NY:∀r∈S++(fL++R),aL r (q3 n.lN::qA n.l3::(S++(fL++R))):=λr h=>aT (by simp only[sW];exact .inr (.inr h));have aM1:aL (dU ps) (q3 n.lN::qA n.l3::(S++(fL++R))):=((nE.mono kJ).mono kY).mono NY;have aMF:aL (OM a.aC.places) (q3 n.lN::qA n.l3::(S++(fL++R))):=((AS.places).mono kY).mono NY;have GJ:aL (q3 n.lN) (q3 n.lN::qA n.l3::(S++(fL++R))):=aT (.head _);have WD:aL (qA n.l3) (q3 n.lN::qA n.l3::(S++(fL++R))):=aT (.tail _ (.head _));obtain⟨oW,H9⟩:∃oW,oW=q3 n.lN::qA n.l3::(S++(fL++R)):=⟨_,rfl⟩;rw[<-H9]at aM1 aMF GJ WD|-;apply(dZ);intro n3;apply sI∘gU;refine hT (r9 (f:=a1) (xs:=ps) N rfl rfl rfl aW rfl rfl (aM1) bD D) rfl ?_;rintro v E G ⟨OK,rfl,aAd,rfl,rfl⟩;apply v1∘nP;refine dS [(3,_),(4,.pointer _),(11,.slice _ _ _),(12,.pointer _),(13,.slice _ _ _),(14,.int _ _)] bV λfK=>?_;refine k2 ([8,9]++cN 14 6++cN 35 45) ((⟨λq=>[(14,.int .i64 ((q.1.1:Nat):Int))],λq=>(⟨OK,q.1.2⟩:J Int).L 3 a1++(⟨n3,n.cells,221⟩::(p.L 4 jJ++(⟨gQ,s.cells,80⟩::⟨eD,a.cells,32⟩::L))),λ_=>oW,λq=>200-q.1.1⟩:fB {q:Nat×List Int//q.1<=200/\u9 a s A up 200 ps.l=u9 a s A up (200-q.1) q.2/\q.2.length=ps.l.length/\pP q.2/\(⟨OK,q.2⟩:J Int).ok 1 a1})) (⟨(0,ps.l),by dsimp only;omega,rfl,rfl,wO.aP,aAd⟩) ?_;rintro⟨⟨r3,l⟩,rG,fO,lY,KM,CE⟩ cH;try dsimp only
 dsimp only at rG fO lY KM CE;apply FR∘CP;refine U ?_ ?_<;>intro bL;·
  have a74:200-r3=(200-(r3+1))+1:=by omega
  rw[a74]at fO;apply j9∘F1∘e7∘qP;refine FP ([8,9]++cN 14 6++cN 35 45) G1 [(14,.int _ _),(15,.bool _),(41,.slice _ _ _),(42,.int _ _),(43,.int _ _)] bV λoA=>?_;refine qK ([8,9,15,16,17,18,19]++cN 43 34) ((⟨λq=>[(43,.int .i64 ((q.1.1:Nat):Int)),(15,.bool (decide (q.1.2≠l)))],λq=>(⟨OK,q.1.2⟩:J Int).L 3 a1++(⟨n3,n.cells,221⟩::(p.L 4 jJ++(⟨gQ,s.cells,80⟩::⟨eD,a.cells,32⟩::L))),λ_=>oW,λq=>a.aC.places.l.length-q.1.1⟩:fB {q:Nat×List Int//q.1<=a.aC.places.l.length/\HF a s A up l q.1 q.2/\(⟨OK,q.2⟩:J Int).ok 1 a1})) (⟨(0,l),by dsimp only;omega,.zero KM,CE⟩) ⟨rfl,by simp;rfl,trivial⟩ bA eN ?_;rintro⟨⟨i,m⟩,uB,fW,jU⟩ cH;try dsimp only
  dsimp only at uB fW jU;have pG:=fW.len;apply(h0);refine U ?_ ?_<;>intro cC;·
   have b9D:=bJ (l:=a.aC.places.l) (k:=i) default D;obtain⟨El,LU⟩:∃El,El=A.getD i false:=⟨_,rfl⟩;(have zD:p.l[i]?=some (!El):=by rw[eI,pA,bJ (l:=A) (k:=i) false D,LU];rfl);have B6:=bJ (l:=m) (k:=i) 0 D;apply(oJ);refine aI Ol rfl ?_;apply(LI);intro QA;apply dM∘F0∘dE;apply cA (Z:=[_,_,_,_]) (j:=2) (a9:=50) rfl rfl aB rfl aY rfl;·intro fQ;replace fQ:=bB fQ;apply(h9);refine aI (jA N (p) _ rfl rfl rfl rfl bR (i:=i) dA jC) rfl ?_;exact(aK6) g4
   intro mK;apply(b9);refine U ?_ ?_<;>intro dX;·(have LW:uO a A i=true:=by rw[uO,<-LU];rcases dX with h|h;rw[h,Nk];rw[h];rfl);refine mD (mF (mB (a8 (c2 ?_))));apply(s6);exact eO ⟨(i+1,m),by dsimp only;omega,fW.skip LW,jU⟩
   (have LW:¬uO a A i=true:=by rw[uO,<-LU,dX.1,dX.2];decide);have a1T:RN n a s m i oW:=⟨GJ,WD,b1,bH,by omega,fW.c8,by omega⟩;apply(e0);refine aI iL rfl ?_;apply nZ∘h9;refine US (Iy rfl rfl (b0V up (o:=OK) (l:=m) ((show _=Value.slice _ _ _ from rfl).trans Xn) a1T G2 jU)) rfl rfl ?_;rintro v E G ⟨rfl,rfl,rfl⟩;refine aI iL rfl ?_;apply CO∘Du∘SK;refine U ?_ ?_<;>intro dY;·(have cY:BD a s up m i=none:=by simpa using dY);(have ER:iN a s A up ps.l=(2,[]):=by rw[Gq,fO,aHj (fW.fail LW cY _ D)]);apply PP∘dM;refine eZ (a8 (iY (gB (iM (gB (vW (iM (gB (iM (gB (vW (iM (gB ?_)))))))))))));refine bQ L oW yH ?_;exact aGZ
   obtain⟨u,cY⟩:=Option.isSome_iff_exists.1 dY;have gA:=fW.aLE (k:=i) D u;apply(wW);rw[cY];apply tR∘h9∘aHX;refine aI (tK N ((⟨OK,m⟩:J Int)) rfl rfl rfl cF bR bD bR aB) rfl ?_;apply(rR);refine U ?_ ?_<;>intro h1;·apply wJ∘cE∘aHX;refine jH (j5 N ((⟨OK,m⟩:J Int)) (u) rfl rfl rfl rfl cF bR bD bR aW aB aB) ?_;rintro v E G ⟨rfl,rfl⟩;apply nG∘uJ;exact hP ⟨(i+1,m.set i u),by dsimp only;omega,fW.next LW cY,J.o6 HW jU g2⟩ gW ⟨rfl,by dsimp only;rw[gA,decide_eq_true (show u≠m.getD i 0 from h1),Nk];rfl,trivial⟩ bA eN hO
   apply(mU);(have GK:m.set i u=m:=by rw[show u=m.getD i 0 by simpa using h1,Dk]);exact eO ⟨(i+1,m),by dsimp only;omega,GK▸fW.next LW cY,jU⟩
  obtain rfl:i=a.aC.places.l.length:=by omega
  have ET:=fW.to;apply n9∘SK;refine U ?_ ?_<;>intro h2;·(have LY:m=l:=by simpa using h2);(have ER:iN a s A up ps.l=(0,m):=by rw[Gq,fO,LY,aDT (by rw[<-LY]at ET|-;exact ET)]);apply dC∘gU∘kA∘dM∘ON;refine bQ ((⟨OK,m⟩:J Int).L 3 a1++L) oW yH ?_;exact⟨⟨OK,m⟩,q3 n.lN::qA n.l3::(S++fL),by rw[ER];simp only[J.val,pG,lY],jU,by rw[ER],rfl,by rw[H9];simp⟩
  have LY:m≠l:=by simpa using h2
  apply(mT);exact eO ⟨(r3+1,m),by dsimp only;omega,fO.trans (aFN ET LY),pG.trans lY,fW.c8,jU⟩
 obtain rfl:r3=200:=by omega
 have ER:iN a s A up ps.l=(2,[]):=by rw[Gq,fO];rfl
 apply n9∘Y6;refine bQ L oW yH ?_;exact aGZ
def aZm(a:b3)(s:cS)(ps:a4 Int)(A:List Bool)(L:aR)(R:aO)(a3:mZ a R)(aH:pQ s R)(nE:aL (dU ps) R)(gE:h5 a=0->lB a.aC A):
 aM prog 187 [a.val,s.val,ps.val].toArray L R (λw E G=>∃(p:J Int) (S:aO),w=.tuple #[p.val,.int .i64 (iN a s A true ps.l).1]/\p.ok 1 a1/\p.l=(iN a s A true ps.l).2/\p.L 3 a1++L=E/\S++R=G):=by refine b6 14 call187 func187 rfl rfl rfl ?_;apply(dB);intro eS;apply(iV);intro eD;apply kA∘mO∘SV;refine dT rfl (aH5 a s ps true A _ _ a3 aH nE gE) rfl ?_;exact aSr
def b0R(a:b3)(s:cS)(ps:a4 Int)(A:List Bool)(L:aR)(R:aO)(a3:mZ a R)(aH:pQ s R)(nE:aL (dU ps) R)(gE:h5 a=0->lB a.aC A):
 aM prog 186 [a.val,s.val,ps.val].toArray L R (λw E G=>∃(p:J Int) (S:aO),w=.tuple #[p.val,.int .i64 (iN a s A false ps.l).1]/\p.ok 1 a1/\p.l=(iN a s A false ps.l).2/\p.L 3 a1++L=E/\S++R=G):=by refine b6 14 call186 func186 rfl rfl rfl ?_;apply(dB);intro eS;apply(iV);intro eD;apply kA∘mO∘SV;refine dT rfl (aH5 a s ps false A _ _ a3 aH nE gE) rfl ?_;exact aSr
def a4Y(h:B:=by exact⟨J.nil,J.nil,by rw[AX];rfl,J.iJ,J.iJ,by rw[AX],by rw[AX],by rw[mE,nN,nN],rfl⟩):=h
def aW2(a:b3)(s:cS)(ps:a4 Int)(A:List Bool)(L:aR)(R:aO)(a3:mZ a R)(aH:pQ s R)(nE:aL (dU ps) R)(gE:h5 a=0->lB a.aC A):
 aM prog 187 [a.val,s.val,ps.val].toArray L R (λw E G=>∃p:J Int,w=.tuple #[p.val,.int .i64 (iN a s A true ps.l).1]/\p.ok 1 a1/\p.l=(iN a s A true ps.l).2/\p.L 3 a1++L=E/\R=G):=
 aM.turn (aZm a s ps A L R a3 aH nE gE) λv E G ⟨p,S,k7,lJ,m4,vG,JW⟩=>⟨E,R,Ca _,λr h=>aT (by rw[<-JW];simp[h]),p,k7,lJ,m4,vG,rfl⟩
def aYH(a:b3)(s:cS)(ps:a4 Int)(A:List Bool)(L:aR)(R:aO)(a3:mZ a R)(aH:pQ s R)(nE:aL (dU ps) R)(gE:h5 a=0->lB a.aC A):
 aM prog 186 [a.val,s.val,ps.val].toArray L R (λw E G=>∃p:J Int,w=.tuple #[p.val,.int .i64 (iN a s A false ps.l).1]/\p.ok 1 a1/\p.l=(iN a s A false ps.l).2/\p.L 3 a1++L=E/\R=G):=
 aM.turn (b0R a s ps A L R a3 aH nE gE) λv E G ⟨p,S,k7,lJ,m4,vG,JW⟩=>⟨E,R,Ca _,λr h=>aT (by rw[<-JW];simp[h]),p,k7,lJ,m4,vG,rfl⟩
def aED{a:b3}{s:cS}{q:J Int}{A:List Bool}{L:aR}{R:aO}{A8:Value}(uX:A8=q.val)(a3:mZ a R)(aH:pQ s R)(gE:h5 a=0->lB a.aC A)(kG:xT (q.L 3 a1) L)(bH:q.ok 1 a1):
 aM prog 186 [a.val,s.val,A8].toArray L R (λw E G=>∃p:J Int,w=.tuple #[p.val,.int .i64 (iN a s A false q.l).1]/\p.ok 1 a1/\p.l=(iN a s A false q.l).2/\p.L 3 a1++L=E/\R=G):=by subst uX;have X:=aM.Mn (S:=[dU q.V]) (Post:=λv E=>∃p:J Int,v=.tuple #[p.val,.int .i64 (iN a s A false q.l).1]/\p.ok 1 a1/\p.l=(iN a s A false q.l).2/\p.L 3 a1++[]=E) (zZ.aD (L:=L)) (λw Z b4 s aH=>by rw[List.mem_singleton.1 aH];exact VF b4 kG bH bD aW e8) ((aYH a s q.V A [] _ (FN a3 λr h=>aT (.tail _ h)) (NS aH λr h=>aT (.tail _ h)) mA gE).mono λv E G ⟨p,k7,lJ,m4,vG,JW⟩=>⟨⟨p,k7,lJ,m4,vG⟩,JW⟩);exact aRD
def aU4(a:b3)(s:cS)(A:List Bool)(L:aR)(R:aO)(a3:mZ a R)(aH:pQ s R)(gE:h5 a=0->lB a.aC A)(r0:a.aC.places.l.length<=64):
 aM prog 111 [a.val,s.val].toArray L R (λw E G=>∃b5 aE:J Int,w=.tuple #[.agg #[b5.val,aE.val],.int .i64 (q7 a s A).1]/\b5.ok 1 a1/\aE.ok 1 a1/\b5.l=(q7 a s A).2.1/\aE.l=(q7 a s A).2.2/\b5.L 3 a1++(aE.L 3 a1++L)=E/\R=G):=by
 have B7:=a3.places;have aBq:∀b,(⟨.own b a.aC.places.l.length [],List.replicate a.aC.places.l.length 0⟩:J Int).ok 1 a1:=λb=>ED bD DP;refine b6 49 call111 func111 rfl rfl rfl ?_;apply(dB);intro eH;apply(iV);intro eS;apply(dZ);intro eD;apply(x2);refine gZ N [0,1,2,3,4,5,6,7,8,9,10,11,12] ([bN.mk eS _ _,bN.mk eH _ _]) dO bI bA ?_;apply KI∘T7∘LD;refine bE yG rfl rfl rfl ?_;refine uN Wx rfl rfl rfl ?_;rintro v E G ⟨NT,rfl,rfl,Ey⟩;replace Ey:=Ey.symm;subst Ey;apply(gJ);refine tP rfl (aED (q:=⟨.own NT a.aC.places.l.length [],List.replicate a.aC.places.l.length 0⟩) (aJM (a7:=Int)).symm a3 aH gE (aFr (f:=a1) (x:=0) rfl) (aBq NT)) rfl rfl ?_;rintro v E G ⟨p,rfl,iF,eI,rfl,rfl⟩;refine⟨bA,iQ,?_⟩;replace eI:p.l=(iN a s A false (List.replicate a.aC.places.l.length 0)).2:=eI;refine bE iL rfl rfl rfl ?_;refine bE q2 rfl rfl rfl ?_;refine bE q2 rfl rfl rfl ?_;refine bE zT rfl rfl rfl ?_;apply(qV);refine g5 (a8 (bK (bK ?_)));refine E7 (A:=[]) (aN:=1) [] bD aW iF e8 ?_;refine eM (by simp only[nN];rfl) ?_;have AS:mZ a (dU p.V::R):=FN a3 λr h=>aT (.tail _ h);have Gr:pQ s (dU p.V::R):=NS aH λr h=>aT (.tail _ h);obtain⟨x,K⟩:∃x,x=iN a s A false (List.replicate a.aC.places.l.length 0):=⟨_,rfl⟩;rw[<-K]at eI|-;apply(SS);refine U ?_ ?_<;>intro aQ;·
  apply VW∘tQ;refine lH (E:=L) (G:=R) Cd ?aP ?dI ?bO;case aP=>(have AX:q7 a s A=(x.1,[],[]):=by rw[q7];dsimp only;rw[<-K,if_pos aQ]);exact a4Y
  case dI=>exact bA
  case bO=>exact λr h=>aT (by simp[h])
 apply e0∘SV;refine dT rfl (aW2 a s p.V A _ _ AS Gr mA gE) rfl ?_;rintro v E G ⟨q,rfl,gR,fT,rfl,rfl⟩;replace fT:q.l=(iN a s A true p.l).2:=fT;obtain⟨y,aS⟩:∃y,y=iN a s A true p.l:=⟨_,rfl⟩;rw[<-aS]at fT|-;have Q0:y=iN a s A true x.2:=by rw[aS,eI]
 refine aI iL rfl ?_;apply CO∘kA∘PT;refine U ?_ ?_<;>intro bL;·
  apply VW∘tQ;refine lH (E:=L) (G:=R) Cd ?aP ?dI ?bO;case aP=>(have AX:q7 a s A=(y.1,[],[]):=by rw[q7];dsimp only;rw[<-K,if_neg aQ,<-Q0,if_pos bL]);exact a4Y
  case dI=>exact bA
  case bO=>exact λr h=>aT (by simp[h])
 apply e0∘SV;refine dT rfl (aED (q:=q) rfl AS Gr gE G2 gR) rfl ?_;rintro v E G ⟨u,rfl,a2v,Mj,rfl,rfl⟩;obtain⟨z,eW⟩:∃z,z=iN a s A false q.l:=⟨_,rfl⟩;rw[<-eW]at Mj|-;have TY:z=iN a s A false y.2:=by rw[eW,fT]
 refine aI iL rfl ?_;apply CO∘kA∘PT;refine U ?_ ?_<;>intro cC;·
  apply VW∘tQ;refine lH (E:=L) (G:=R) Cd ?aP ?dI ?bO;case aP=>(have AX:q7 a s A=(z.1,[],[]):=by rw[q7];dsimp only;rw[<-K,if_neg aQ,<-Q0,if_neg bL,<-TY,if_pos cC]);exact a4Y
  case dI=>exact bA
  case bO=>exact λr h=>aT (by simp[h])
 apply D9∘gU;refine aI a4i rfl ?_;apply(oH);refine lH (E:=u.L 3 a1++(q.L 3 a1++L)) (G:=R) Cd ?aP ?dI ?bO;case aP=>exact aQJ
 case dI=>exact bA
 case bO=>exact λr h=>aT (by simp[h])
end
structure UR(a:b3)(s:cS)(b:q8)(A:List Bool)(n:s5)(k:Nat)(l:List bC):Prop where
 len:l.length=a.aC.aJ.l.length
 NV:∀(j:Nat) (p:lI),j<k->n.lN.l[j]?=some p->l[p.pY.toNat]?=some (rP a s b A p.pY.toNat)
 T4:∀i:Nat,i<a.aC.aJ.l.length->(∀(j:Nat) (p:lI),j<k->n.lN.l[j]?=some p->p.pY.toNat≠i)->l[i]?=some ⟨0,0⟩
def UR.zero(a:b3)(s:cS)(b:q8)(A:List Bool)(n:s5):UR a s b A n 0 (List.replicate a.aC.aJ.l.length ⟨0,0⟩):=
 ⟨by simp,λj p a6=>by omega,λi aE _=>by rw[UE,if_pos aE]⟩
def UR.next{a:b3}{s:cS}{b:q8}{A:List Bool}{n:s5}{k:Nat}{l:List bC}(h:UR a s b A n k l){p:lI}(aP:n.lN.l[k]?=some p)(M:p.pY.toNat<a.aC.aJ.l.length){x:bC}(K:x=rP a s b A p.pY.toNat):UR a s b A n (k+1) (l.set p.pY.toNat x):=by
 have aX:=h.len;subst K;refine⟨by simp[aX],λj q a6 cJ=>?_,λi aE b1=>?_⟩;·
  rw[IW];split;·rename_i e;rw[if_pos D,e]
  ·
   rename_i e;rcases hF j k with O|O;·exact h.NV j q O cJ
   ·(obtain rfl:j=k:=by omega);rw[aP]at cJ;cases cJ;exact absurd rfl e
 ·rw[KN (b1 k p D aP)];exact h.T4 i aE λj q a6 cJ=>b1 j q D cJ
def UR.done{a:b3}{s:cS}{b:q8}{A:List Bool}{n:s5}{l:List bC}(h:UR a s b A n n.lN.l.length l)(b1:K5 a s n):l=(List.range a.aC.aJ.l.length).map (rP a s b A):=by
 have aX:=h.len;refine UG λi=>?_;rcases hF i a.aC.aJ.l.length with aE|aE;·
  rw[pA,KP aE];show _=some (rP a s b A i);cases cG:(a.aC.aJ.l.getD i default).eJ with
  |true=>rw[rP,if_pos cG];refine h.T4 i aE λj p a6 aP e=>?_;have:=(b1.open (hV aP)).2;rw[e,cG]at this;cases this
  |false=>obtain⟨j,p,a6,aP⟩:=b1.find (r:=(i:Int)) D (by rw[xP];exact cG);have:=h.NV j p (List.getElem?_eq_some_iff.1 a6).1 a6;rw[aP,xP]at this;exact this
 ·rw[uF D,uF DQ]
end Go.Proofs.YtchfclmokpbldaaGreat
