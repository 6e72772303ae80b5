/-
  Merged texts. By an AI agent.
-/
import Derived.Test.YtdiajbdaadlfhaaGreatDoorCflowR
import Derived.Test.YtdiajbdaadlfhaaGreatDoorNets
import Derived.Test.YtdiajbdaadlfhaaGreatDoorFits
set_option linter.all false
set_option maxHeartbeats 4000000
set_option maxRecDepth 20000
variable{A B:Prop}
namespace Go.Proofs.YtdiajbdaadlfhaaGreatDoor
open Go.Aw Go Go.Proofs.Tryz
structure Xr(a:bT)(s:cG)(b:q2)(A:List Bool):Prop where
 lU:a4Q a s b
 fix:∀i:Nat,i<a.aE.places.l.length->(!(A.getD i false)||(a.aE.places.l.getD i default).m7)=true->b.bJ.l.getD i 0=0/\b.bN.l.getD i 0=0
 Fs:∀i:Nat,i<a.aE.places.l.length->¬(!(A.getD i false)||(a.aE.places.l.getD i default).m7)=true->0<=BK a s b.bN.l (i:Int)/\BW a s b.bJ.l (i:Int)<=0
def aJq{a:bT}{s:cG}{b:q2}{A:List Bool}(h:a4Q a s b):wI a s b A=((List.range a.aE.places.l.length).findSome? (wE a s b A)).getD 0:=by have G:=h.aZ;have U:=h.bF;rw[wI,if_neg (by rw[h.bV];decide),if_neg (by rw[h.aH];decide),if_neg D,if_neg (by rw[a5b h.bL,a5b h.I3];simp)]
def aRW(a:bT)(s:cG)(b:q2)(A:List Bool)(i:Nat):wE a s b A i=none\/wE a s b A i=some 12:=by
 unfold wE;split;·
  split;·exact .inr rfl
  ·exact .inl rfl
 ·
  split;·exact .inr rfl
  ·exact .inl rfl
def aGZ{a:bT}{s:cG}{b:q2}{A:List Bool}:wI a s b A=0↔Xr a s b A:=by
 have node:∀i,wE a s b A i=none↔((!(A.getD i false)||(a.aE.places.l.getD i default).m7)=true->b.bJ.l.getD i 0=0/\b.bN.l.getD i 0=0)/\(¬(!(A.getD i false)||(a.aE.places.l.getD i default).m7)=true->0<=BK a s b.bN.l (i:Int)/\BW a s b.bJ.l (i:Int)<=0):=λi=>by
  unfold wE;by_cases G:(!(A.getD i false)||(a.aE.places.l.getD i default).m7)=true;·
   rw[if_pos G];refine⟨λh=>⟨λ_=>?_,λcD=>absurd G cD⟩,λh=>if_neg (by have:=h.1 G;omega)⟩;split at h;·cases h
   ·omega
  ·
   rw[if_neg G];refine⟨λh=>⟨λcD=>absurd cD G,λ_=>?_⟩,λh=>if_neg (by have:=h.2 G;omega)⟩;split at h;·cases h
   ·omega
 constructor;·
  intro h;have uQ:=aHq h;rw[aJq uQ]at h;have bA:(List.range a.aE.places.l.length).findSome? (wE a s b A)=none:=by
   cases e:(List.range a.aE.places.l.length).findSome? (wE a s b A)with
   |none=>rfl
   |some v=>
    obtain⟨i,_,aB⟩:=K3 e;rcases aRW a s b A i with G|G;·rw[G]at aB;cases aB
    ·rw[G]at aB;cases aB;rw[e]at h;cases h
  rw[NK]at bA;exact⟨uQ,λi aB=>((node i).1 (bA i (List.mem_range.2 aB))).1,λi aB=>((node i).1 (bA i (List.mem_range.2 aB))).2⟩
 ·intro h;rw[aJq h.lU,List.findSome?_eq_none_iff.2 (λi aB=>(node i).2 ⟨h.fix i (List.mem_range.1 aB),h.Fs i (List.mem_range.1 aB)⟩)];rfl
def aM.turn{P:Program}{f:FuncId}{args:Array Value}{L:aW}{R:aP}{Post tC:n8}(h:aM P f args L R Post)
 (k:∀v E R',Post v E R'->∃hA uD,E.Perm hA/\(∀r∈uD,aN r R')/\tC v hA uD):aM P f args L R tC:=
 ⟨h.1,λw aD bF=>(h.2 w aD bF).mono λe w' ⟨v,E,R',V,aG,cW⟩=>by
  obtain⟨hA,uD,G,U,aO⟩:=k v E R' aG
  exact⟨v,hA,uD,V,aO,(cW.yN G).rU iP U⟩⟩
def RB(g:Int->Bool)(start:Int)(up:Bool):Option Int:=
 ((List.range ((r0 up start).toNat+1)).find? λ(m:Nat)=>g (start+mT up*(m:Int))).map λ(m:Nat)=>start+mT up*(m:Int)
def aWF{g:Int->Bool}{start:Int}{up:Bool}{v:Int}(h:Bm g start up v true):RB g start up=some v:=by
 obtain⟨m,sA,m3,a3b,b5U,b5W⟩:=h.z1 rfl;have e:(List.range ((r0 up start).toNat+1)).find? (λ(m:Nat)=>g (start+mT up*(m:Int)))=some m.toNat:=by
  rw[a3Z];refine⟨?_,List.mem_range.2 D,λj a6=>?_⟩;·rw[Ba sA,<-a3b];exact b5U
  ·rw[b5W j D D];rfl
 rw[RB,e,Ay,Ba sA,a3b]
def aVG{g:Int->Bool}{start:Int}{up:Bool}{v:Int}(bV:0<=r0 up start)(h:Bm g start up v false):RB g start up=none:=by
 obtain⟨_,a6⟩:=h.no rfl;have e:(List.range ((r0 up start).toNat+1)).find? (λ(m:Nat)=>g (start+mT up*(m:Int)))=none:=by rw[List.find?_range_eq_none];intro i aB;rw[a6 i D D];rfl
 rw[RB,e];rfl
def a5H{g:Int->Bool}{start:Int}{up:Bool}{v:Int}(bV:0<=r0 up start)(h:RB g start up=some v):Bm g start up v true:=by
 unfold RB at h;obtain⟨m,a1,rfl⟩:=Option.map_eq_some_iff.1 h;rw[a3Z]at a1;obtain⟨G,U,aO⟩:=a1;have aK1:=List.mem_range.1 U;refine⟨λ_=>⟨m,by omega,by omega,rfl,G,λj b5w Uy=>?_⟩,λh=>by cases h⟩;have:=aO j.toNat D;rw[Ba b5w]at this;cases e:g (start+mT up*j)with
 |false=>rfl
 |true=>rw[e]at this;cases this
def aIM{g:Int->Bool}{start:Int}{up:Bool}{v:Int}{ok:Bool}(bV:0<=r0 up start)(h:Bm g start up v ok):v=(RB g start up).getD 0/\ok=(RB g start up).isSome:=by
 cases ok with
 |true=>rw[aWF h];exact⟨rfl,rfl⟩
 |false=>rw[aVG bV h];exact⟨(h.no rfl).1,rfl⟩
attribute [irreducible] RB
def T8(a:bT)(s:cG)(up:Bool)(l:List Int)(v:Int):Int->Bool:=if up=true then Cy a s l v else Da a s l v
def GK(a:bT)(s:cG)(up:Bool)(l:List Int)(k:Nat):Option Int:=RB (T8 a s up l k) (l.getD k 0) up
abbrev vG(a:bT)(A:List Bool)(k:Nat):Bool:=!(A.getD k false)||(a.aE.places.l.getD k default).m7
def qH(a:bT)(s:cG)(A:List Bool)(up:Bool)(l:List Int):Nat->Option (List Int)
 |0=>some l
 |k+1=>(qH a s A up l k).bind λm=>if vG a A k=true then some m else(GK a s up m k).map λv=>m.set k v
def vA(a:bT)(s:cG)(A:List Bool)(up:Bool):Nat->List Int->Option (List Int)
 |0,_=>none
 |n+1,l=>match qH a s A up l a.aE.places.l.length with
  |none=>none
  |some m=>if m=l then some m else vA a s A up n m
def IH(a:bT)(ps:List Int)(A:List Bool)(i:Nat):Option Int:=if vG a A i=true/\ps.getD i 0≠0 then some 12 else none
def C4(a:bT)(s:cG)(ps:List Int)(A:List Bool):Int:=
 if h4 a≠0 then h4 a else if mP a s=false then 21 else if ps.length≠a.aE.places.l.length then 11
 else if(ps.findSome? uF).isSome=true then 1 else((List.range a.aE.places.l.length).findSome? (IH a ps A)).getD 0
def l8(a:bT)(s:cG)(A:List Bool)(up:Bool)(ps:List Int):Int×List Int:=
 if C4 a s ps A≠0 then(C4 a s ps A,[])else match vA a s A up 200 ps with
  |none=>(2,[])
  |some l=>(0,l)
def uM(a:bT)(s:cG)(A:List Bool):Int×List Int×List Int:=
 let p:=l8 a s A false (List.replicate a.aE.places.l.length 0)
 if p.1≠0 then(p.1,[],[])else
  let q:=l8 a s A true p.2
  if q.1≠0 then(q.1,[],[])else
   let r:=l8 a s A false q.2
   if r.1≠0 then(r.1,[],[])else(0,r.2,q.2)
structure Q7(a:bT)(s:cG)(ps:List Int)(A:List Bool):Prop where
 bV:h4 a=0
 aH:mP a s=true
 aZ:ps.length=a.aE.places.l.length
 aG:rI ps
 fix:∀i:Nat,i<a.aE.places.l.length->vG a A i=true->ps.getD i 0=0
def Zr{a:bT}{s:cG}{ps:List Int}{A:List Bool}:C4 a s ps A=0↔Q7 a s ps A:=by
 constructor;·
  intro h;unfold C4 at h;split at h;·exact Vy
  rename_i G;split at h;·cases h
  rename_i U;split at h;·cases h
  rename_i aO;split at h;·cases h
  rename_i bW;refine⟨by omega,by simpa using U,by omega,Sa (by simpa using bW),λi aB aH=>?_⟩;have bA:(List.range a.aE.places.l.length).findSome? (IH a ps A)=none:=by
   cases e:(List.range a.aE.places.l.length).findSome? (IH a ps A)with
   |none=>rfl
   |some v=>
    obtain⟨j,_,a6⟩:=K3 e;unfold IH at a6;split at a6;·cases a6;rw[e]at h;cases h
    ·cases a6
  rw[NK]at bA;have:=bA i (List.mem_range.2 aB);unfold IH at this;split at this;·cases this
  ·rename_i dV;exact Decidable.not_not.1 λgY=>dV ⟨aH,gY⟩
 ·intro h;rw[C4,if_neg (by rw[h.bV];decide),if_neg (by rw[h.aH];decide),if_neg (by rw[h.aZ];simp),if_neg (by rw[a5b h.aG];simp),List.findSome?_eq_none_iff.2 (λi aB=>show IH a ps A i=none from if_neg (λcD=>cD.2 (h.fix i (List.mem_range.1 aB) cD.1)))];rfl
def aRu{a:bT}{s:cG}{up:Bool}{l:List Int}{k:Nat}{v:Int}(h:rI l)(cS:GK a s up l k=some v):-70368744177664<=v/\v<=70368744177664:=by obtain⟨m,sA,m3,a3b,_,_⟩:=(a5H (Oe (h.get k)).1 cS).z1 rfl;rw[a3b];exact Yu (h.get k) ⟨sA,m3⟩
structure H2(a:bT)(s:cG)(A:List Bool)(up:Bool)(l:List Int)(k:Nat)(m:List Int):Prop where
 to:qH a s A up l k=some m
 len:m.length=l.length
 b5:rI m
 aC:∀j:Nat,k<=j->m[j]?=l[j]?
def H2.zero{a:bT}{s:cG}{A:List Bool}{up:Bool}{l:List Int}(h:rI l):H2 a s A up l 0 l:=⟨rfl,rfl,h,λ_ _=>rfl⟩
def H2.skip{a:bT}{s:cG}{A:List Bool}{up:Bool}{l m:List Int}{k:Nat}(h:H2 a s A up l k m)(aH:vG a A k=true):H2 a s A up l (k+1) m:=
 ⟨by rw[qH,h.to,Ax,if_pos aH],h.len,h.b5,λj a6=>h.aC j D⟩
def H2.fail{a:bT}{s:cG}{A:List Bool}{up:Bool}{l m:List Int}{k:Nat}(h:H2 a s A up l k m)(aH:¬vG a A k=true)(bA:GK a s up m k=none):∀n,k+1<=n->qH a s A up l n=none:=by
 intro n A1;induction n with
 |zero=>omega
 |succ n cA=>
  rcases gX k n with G|G;·rw[qH,cA D];rfl
  ·(obtain rfl:n=k:=by omega);rw[qH,h.to,Ax,if_neg aH,bA];rfl
def H2.next{a:bT}{s:cG}{A:List Bool}{up:Bool}{l m:List Int}{k:Nat}(h:H2 a s A up l k m)(aH:¬vG a A k=true){v:Int}(cS:GK a s up m k=some v):H2 a s A up l (k+1) (m.set k v):=
 ⟨by rw[qH,h.to,Ax,if_neg aH,cS];rfl,by rw[w3];exact h.len,h.b5.set _ (aRu h.b5 cS),λj a6=>by rw[P7 D];exact h.aC j D⟩
def H2.b0n{a:bT}{s:cG}{A:List Bool}{up:Bool}{l m:List Int}{k:Nat}(h:H2 a s A up l k m)(Y:k<l.length)(v:Int):decide (m.set k v≠l)=(decide (m≠l)||decide (v≠m.getD k 0)):=by
 have sU:=h.len;have bE:=bR (l:=m) (k:=k) 0 D;by_cases G:v=m.getD k 0;·rw[G,Oj];simp
 ·
  have U:m.set k v≠l:=λe=>by have aO:=h.aC k (gS _);rw[<-e,I8 D,bE]at aO;exact G (uA aO).symm
  rw[decide_eq_true U,decide_eq_true G,a4c]
def aRI{a:bT}{s:cG}{A:List Bool}{up:Bool}{n:Nat}{l m:List Int}(aF:qH a s A up l a.aE.places.l.length=some m)(jC:m≠l):vA a s A up (n+1) l=vA a s A up n m:=by rw[vA,aF];exact if_neg jC
def aJY{a:bT}{s:cG}{A:List Bool}{up:Bool}{n:Nat}{l:List Int}(aF:qH a s A up l a.aE.places.l.length=some l):vA a s A up (n+1) l=some l:=by rw[vA,aF];exact if_pos rfl
def aWO{a:bT}{s:cG}{A:List Bool}{up:Bool}{n:Nat}{l:List Int}(aF:qH a s A up l a.aE.places.l.length=none):vA a s A up (n+1) l=none:=by rw[vA,aF]
def Of{a:bT}{s:cG}{A:List Bool}{up:Bool}{l:List Int}(aZ:rI l): ∀{k:Nat} {m:List Int},qH a s A up l k=some m->H2 a s A up l k m
 |0,m,h=>by cases h;exact .zero aZ
 |k+1,m,h=>by
  have cD:=h
  rw[qH,We]at cD
  obtain⟨m3,G,U⟩:=cD
  have cA:=Of aZ G
  split at U
  ·rename_i aH
   cases U
   exact cA.skip aH
  ·rename_i aH
   obtain⟨v,cS,rfl⟩:=Option.map_eq_some_iff.1 U
   exact cA.next aH cS
def a7P{a:bT}{s:cG}{A:List Bool}{up:Bool}: ∀{n:Nat} {l m:List Int},rI l->vA a s A up n l=some m->m.length=l.length/\rI m/\qH a s A up m a.aE.places.l.length=some m
 |0,l,m,_,h=>by cases h
 |n+1,l,m,aZ,h=>by
  rw[vA]at h
  split at h
  ·cases h
  ·rename_i m3 G
   have aF:=Of aZ G
   split at h
   ·rename_i e
    cases h
    subst e
    exact⟨rfl,aZ,G⟩
   ·obtain⟨g8,eK,mJ⟩:=a7P aF.b5 h
    exact⟨g8.trans aF.len,eK,mJ⟩
def a5s{a:bT}{s:cG}{A:List Bool}{up:Bool}{ps:List Int}(h:(l8 a s A up ps).1=0):Q7 a s ps A/\vA a s A up 200 ps=some (l8 a s A up ps).2:=by
 unfold l8 at h|-;split at h;·exact Vy
 ·
  rename_i G;rw[if_neg G];refine⟨Zr.1 D,?_⟩;split at h;·cases h
  ·rename_i l e;rw[e]
section
attribute [local irreducible] cO dG dP aM cI dR fA e2 e5 fB eQ e9 J.L
abbrev a7E(x:Option Int):Value:=.tuple #[.int .i64 (x.getD 0),.bool x.isSome]
def aGC{ps:List Int}(h:rI ps)(up:Bool)(k:Nat):0<=r0 up (ps.getD k 0):=(Oe (h.get k)).1
def aXh{aY:Type}{f:aY->List Value}{z:List Value}{b n:Nat}{T:TypeId}{x:aY}{A:aW}(dI:z=f x):pA ((⟨.own b n [],List.replicate n x⟩:J aY).L T f) (⟨b,y1 z n,T⟩::A):=by rw[R5 dI A];exact Hq
def aDQ(h:A->B:=by exact aA aCF rfl):=h
def aHK(h:A->B:=by exact aA QF rfl):=h
def aDs(h:B:=by exact⟨J.nil,p0 n.lE::pH n.l9::(S++fS),by rw[Z8];rfl,J.iJ,by rw[Z8],by rw[pC,nJ],by rw[PC];simp⟩):=h
def aKj(h:A->B:=by exact aA (iV M ((⟨TI,m⟩:J Int)) _ rfl rfl ((show _=Value.slice _ _ _ from rfl).trans (by simp only[J.val,B8,jH])) rfl bS (i:=i) c7 iY) rfl):=h
def aSP(a:bT)(s:cG)(ps:bP Int)(A:List Bool)(L:aW)(R:aP)(a1:qF a R)(aF:u3 s R)(tS:aN (dW ps) R)(hD:h4 a=0->mU a.aE A):
 aM prog 149 [a.val,s.val,ps.val].toArray L R (λv E R'=>∃S:aP,v=.int .i64 (C4 a s ps.l A)/\L=E/\S++R=R'):=by
 have wS:=a1.places;refine rZ call149 tS λl2=>?_;refine rZ call149 wS λb3h=>?_;refine cX 70 call149 func149 rfl rfl rfl ?_;apply(fC);intro e4;apply(nW);intro dU;apply kB∘vX;refine eD rfl (Ym a _ _ a1) ?_;apply(pQ);refine aJ ?_ ?_<;>intro bI;·apply(U1);refine eL L R ?_;exact⟨[],by rw[C4,if_pos bI],rfl,rfl⟩
 have bV:h4 a=0:=by omega
 have bM:=J9 bV;have xM:=hD bV;have IV:=bM.aE.places;apply k5∘y7;refine eD rfl (a5L a s _ _ a1 aF) ?_;apply(AJ);refine aJ ?_ ?_<;>intro cK;·apply(uJ);refine eL L R ?_;exact⟨[],by rw[C4,if_neg bI,if_pos LA],rfl,rfl⟩
 have FM:mP a s=true:=by simpa using cK
 have SU:¬mP a s=false:=by rw[FM];decide
 apply k5∘j0∘xG∘pG;refine aJ ?_ ?_<;>intro dE;·apply(uJ);refine eL L R ?_;exact⟨[],by rw[C4,if_neg bI,if_neg SU,if_pos D],rfl,rfl⟩
 have lL:ps.l.length=a.aE.places.l.length:=by omega
 apply k5∘r3;refine e3 [(2,.slice _ _ _),(3,.pointer _),(29,.slice _ _ _),(30,.int _ _),(31,.int _ _)] cB λg9=>?_;refine lF ([6,9]++dJ 31 11) (λg:FS (uF) (ps.l)=>[(31,.int .i64 ((g.1:Nat):Int))]) (λg=>(ps.l).length-g.1) ⟨0,N5 _ _⟩ ?_;rintro⟨jJ,SW,i1⟩ c1;try dsimp only
 apply(gU);refine aJ ?_ ?_<;>intro gZ;·
  obtain⟨y,bB⟩:=lQ (l:=ps.l) (k:=jJ) D;apply(jK);refine aA Nq rfl ?_;apply kY∘q4∘q5;apply dT (aD:=[_,_]) (j:=2) (b4:=37) rfl rfl aK rfl b2 rfl;·exact JC
  intro o7;apply(dD);refine aJ ?_ ?_<;>intro fW;·apply(GP);refine eL L R ?_;have WH:=GV i1 bB (show uF y=some 1 from if_pos D);exact⟨[],by rw[C4,if_neg bI,if_neg SU,if_neg D,if_pos (by rw[WH];rfl)],rfl,rfl⟩
  apply(k9);exact eG ⟨jJ+1,LH i1 bB (if_neg D)⟩
 have uT:=LI i1 D;apply oS∘C6;refine dN rfl (a1q a.aE _ _ a1.TE bM.aE (Df bV)) rfl ?_;rintro v E R' ⟨p,X6,S,rfl,iN,B5,dC,rfl,rfl⟩;obtain rfl:A=X6:=xM.XM B5;have aL2:p.l.length=a.aE.places.l.length:=by rw[dC,pU];exact xM.length
 have b9M:aN (dW ps) (S++R):=tS.mono λr h=>aU (by simp[h]);have aMm:aN (zW a.aE.places) (S++R):=wS.mono λr h=>aU (by simp[h]);have MS:C4 a s ps.l A=((List.range a.aE.places.l.length).findSome? (IH a ps.l A)).getD 0:=by rw[C4,if_neg bI,if_neg SU,if_neg D,if_neg (by rw[uT];simp)]
 apply r2∘gF∘pE;refine e3 [(2,.slice _ _ _),(10,.slice _ _ _),(47,.slice _ _ _),(48,.int _ _),(49,.int _ _)] cB λs4=>?_;refine lF ([6,11,12]++dJ 49 21) (λg:X7 (IH a ps.l A) (a.aE.places.l.length)=>[(49,.int .i64 ((g.1:Nat):Int))]) (λg=>(a.aE.places.l.length)-g.1) ⟨0,UN _ _⟩ ?_;rintro⟨g8,g6,n3⟩ c1;try dsimp only
 apply(gU);refine aJ ?_ ?_<;>intro lJ;·
  have SY:=bR (l:=a.aE.places.l) (k:=g8) default D;have M1:p.l[g8]?=some (!(A.getD g8 false)):=by have:=xM.length;rw[dC,pW,bR (l:=A) (k:=g8) false D];rfl
  have S6:=bR (l:=ps.l) (k:=g8) 0 D;apply nC∘aDQ∘R1;intro rM;apply eA∘BP∘fD;apply dT (aD:=[_,_,_,_]) (j:=2) (b4:=56) rfl rfl aK rfl b2 rfl;·intro iM;replace iM:=cP iM;apply(k2);refine aA (iV M (p) _ rfl rfl rfl rfl bS (i:=g8) c7 iY) rfl ?_;exact(aHK) iA
  intro o7;apply(fD);apply lR (aD:=[_,_,_,_,_]) (j:=8) (b4:=62) rfl rfl aK rfl b2 rfl;·intro h7;replace h7:=cP h7;exact(k2∘aDQ∘kY) v6
  intro zV;apply(dD);refine aJ ?_ ?_<;>intro kK;·have DR:IH a ps.l A g8=some 12:=if_pos ⟨by obtain⟨G|G,_⟩:=kK;rw[vG,G,a4c];rw[vG,G];rfl,kK.2⟩;apply(GP);refine eL L (S++R) ?_;exact⟨S,by rw[MS,GU n3 D DR];rfl,rfl,rfl⟩
  have DR:IH a ps.l A g8=none:=if_neg (λ⟨G,U⟩=>by
  rcases kK with⟨aO,bW⟩|aO;·rw[vG,aO,bW]at G;cases G
  ·exact aO U)
  apply(k9);exact eG ⟨g8+1,OY n3 D (DR)⟩
 have FT:=QU n3 D;apply(IG);refine eL L (S++R) ?_;exact⟨S,by rw[MS,FT];rfl,rfl,rfl⟩
def aZc{n:rL}{a:bT}{s:cG}{o:gT}{l:List Int}{k:Nat}{A:aW}{R:aP}{P5:Value}(vS:P5=(⟨o,l⟩:J Int).val)(h:QJ n a s l k R)(jQ:pA ((⟨o,l⟩:J Int).L 3 aR) A)(bM:(⟨o,l⟩:J Int).ok 1 aR):
 aM prog 104 [n.val,P5,.int .i64 (k:Int)].toArray A R (λw E R'=>w=a7E (GK a s true l k)/\A=E/\R=R'):=by subst vS;refine aM.a3a jQ bM ((aSv n a s (⟨o,l⟩:J Int).W k [] _ ⟨h.uX.mono λr O=>aU (.tail _ O),h.a1z.mono λr O=>aU (.tail _ O),h.is,h.ok,h.len,h.b5,h.v⟩ mL).mono ?_);rintro v E R' ⟨z,ok,rfl,hR,rfl,rfl⟩;obtain⟨rfl,rfl⟩:=aIM (aGC h.b5 true (Int.toNat k)) hR;exact BJ
def aYG{n:rL}{a:bT}{s:cG}{o:gT}{l:List Int}{k:Nat}{A:aW}{R:aP}{P5:Value}(vS:P5=(⟨o,l⟩:J Int).val)(h:QJ n a s l k R)(jQ:pA ((⟨o,l⟩:J Int).L 3 aR) A)(bM:(⟨o,l⟩:J Int).ok 1 aR):
 aM prog 103 [n.val,P5,.int .i64 (k:Int)].toArray A R (λw E R'=>w=a7E (GK a s false l k)/\A=E/\R=R'):=by subst vS;refine aM.a3a jQ bM ((aSo n a s (⟨o,l⟩:J Int).W k [] _ ⟨h.uX.mono λr O=>aU (.tail _ O),h.a1z.mono λr O=>aU (.tail _ O),h.is,h.ok,h.len,h.b5,h.v⟩ mL).mono ?_);rintro v E R' ⟨z,ok,rfl,hR,rfl,rfl⟩;obtain⟨rfl,rfl⟩:=aIM (aGC h.b5 false (Int.toNat k)) hR;exact BJ
def aHT:Bool->FuncId
 |true=>104
 |false=>103
def aV8(up:Bool){n:rL}{a:bT}{s:cG}{o:gT}{l:List Int}{k:Nat}{A:aW}{R:aP}{P5:Value}(vS:P5=(⟨o,l⟩:J Int).val)(h:QJ n a s l k R)(jQ:pA ((⟨o,l⟩:J Int).L 3 aR) A)(bM:(⟨o,l⟩:J Int).ok 1 aR):
 aM prog (aHT up) [n.val,P5,.int .i64 (k:Int)].toArray A R (λw E R'=>w=a7E (GK a s up l k)/\A=E/\R=R'):=by
 cases up with
 |true=>exact aZc vS h jQ bM
 |false=>exact aYG vS h jQ bM
def aHx(a:bT)(s:cG)(ps:bP Int)(up:Bool)(A:List Bool)(L:aW)(R:aP)(a1:qF a R)(aF:u3 s R)(tS:aN (dW ps) R)(hD:h4 a=0->mU a.aE A):
 aM prog 102 [a.val,s.val,ps.val,.func (.func (aHT up)) #[] #[]].toArray L R (λw E R'=>∃(p:J Int) (S:aP),w=.tuple #[p.val,.int .i64 (l8 a s A up ps.l).1]/\p.ok 1 aR/\p.l=(l8 a s A up ps.l).2/\p.L 3 aR++L=E/\S++R=R'):=by
 refine cX 80 call102 func102 rfl rfl rfl ?_;apply(fC);intro dU;apply(nW);intro fK;apply kS∘kB∘y7∘gQ;refine dN rfl (aSP a s ps A _ _ a1 aF tS hD) rfl ?_;rintro v E R' ⟨fS,rfl,rfl,rfl⟩;apply(pQ);refine aJ ?_ ?_<;>intro bI;·apply OA∘kS∘uG;refine cF L (fS++R) LB ?_;exact⟨J.nil,fS,by rw[l8,if_pos bI];rfl,J.iJ,by rw[l8,if_pos bI],by rw[pC,nJ],rfl⟩
 have HH:=Zr.1 (show C4 a s ps.l A=0 by omega);have bM:=J9 HH.bV;have FO:=a1b HH.aH;have xM:=hD HH.bV;have lL:=HH.aZ;have n2:=bM.aE.places;have aAx:l8 a s A up ps.l=match vA a s A up 200 ps.l with
  |none=>(2,[])
  |some l=>(0,l):=by rw[l8,if_neg bI]<;>rfl
 have oP:∀r∈R,aN r (fS++R):=λr h=>aU (by simp[h]);have rQ:=IC a1 oP;have Lj:=T9 aF oP;apply gI∘C6;refine dN rfl (a1q a.aE _ _ rQ.TE bM.aE (Df HH.bV)) rfl ?_;rintro v E R' ⟨p,X6,S,rfl,iN,B5,dC,rfl,rfl⟩;obtain rfl:A=X6:=xM.XM B5;have aL2:p.l.length=a.aE.places.l.length:=by rw[dC,pU];exact xM.length
 have aK7:=xM.length;have nG:∀r∈fS++R,aN r (S++(fS++R)):=λr h=>aU (by simp only[D7]at h|-;exact .inr h);apply tH∘y7;refine dN rfl (a7N a s _ _ (IC rQ nG) (T9 Lj nG) bM FO) rfl ?_;rintro v E R' ⟨n,rfl,bA,rfl,rfl⟩;have G5:∀r∈S++(fS++R),aN r (p0 n.lE::pH n.l9::(S++(fS++R))):=λr h=>aU (by simp only[nX];exact .inr (.inr h));have aMB:aN (dW ps) (p0 n.lE::pH n.l9::(S++(fS++R))):=((tS.mono oP).mono nG).mono G5;have aMn:aN (zW a.aE.places) (p0 n.lE::pH n.l9::(S++(fS++R))):=((rQ.places).mono nG).mono G5;have IY:aN (p0 n.lE) (p0 n.lE::pH n.l9::(S++(fS++R))):=aU (.head _);have G8:aN (pH n.l9) (p0 n.lE::pH n.l9::(S++(fS++R))):=aU (.tail _ (.head _));obtain⟨p1,PC⟩:∃p1,p1=p0 n.lE::pH n.l9::(S++(fS++R)):=⟨_,rfl⟩;rw[<-PC]at aMB aMn IY G8|-;apply(dO);intro rM;apply p6∘gQ;refine g2 (rH (f:=aR) (xs:=ps) M rfl rfl rfl aX rfl rfl (aMB) bH D) rfl ?_;rintro v E R' ⟨TI,rfl,b3E,rfl,rfl⟩;apply r2∘pR;refine e3 [(3,_),(4,.pointer _),(11,.slice _ _ _),(12,.pointer _),(13,.slice _ _ _),(14,.int _ _)] cB λg9=>?_;refine m6 ([8,9]++dJ 14 6++dJ 35 45) ((⟨λq=>[(14,.int .i64 ((q.1.1:Nat):Int))],λq=>(⟨TI,q.1.2⟩:J Int).L 3 aR++(⟨rM,n.cells,175⟩::(p.L 4 l1++(⟨fK,s.cells,35⟩::⟨dU,a.cells,32⟩::L))),λ_=>p1,λq=>200-q.1.1⟩:e0 {q:Nat×List Int//q.1<=200/\vA a s A up 200 ps.l=vA a s A up (200-q.1) q.2/\q.2.length=ps.l.length/\rI q.2/\(⟨TI,q.2⟩:J Int).ok 1 aR})) (⟨(0,ps.l),by dsimp only;omega,rfl,rfl,HH.aG,b3E⟩) ?_;rintro⟨⟨oR,l⟩,pN,fJ,jH,x2,F6⟩ c1;try dsimp only
 dsimp only at pN fJ jH x2 F6;apply nR∘nD;refine aJ ?_ ?_<;>intro cK;·
  have b0f:200-oR=(200-(oR+1))+1:=by omega
  rw[b0f]at fJ;apply jK∘xF∘gF∘pE;refine ON ([8,9]++dJ 14 6++dJ 35 45) QD [(14,.int _ _),(15,.bool _),(41,.slice _ _ _),(42,.int _ _),(43,.int _ _)] cB λs4=>?_;refine oM ([8,9,15,16,17,18,19]++dJ 43 34) ((⟨λq=>[(43,.int .i64 ((q.1.1:Nat):Int)),(15,.bool (decide (q.1.2≠l)))],λq=>(⟨TI,q.1.2⟩:J Int).L 3 aR++(⟨rM,n.cells,175⟩::(p.L 4 l1++(⟨fK,s.cells,35⟩::⟨dU,a.cells,32⟩::L))),λ_=>p1,λq=>a.aE.places.l.length-q.1.1⟩:e0 {q:Nat×List Int//q.1<=a.aE.places.l.length/\H2 a s A up l q.1 q.2/\(⟨TI,q.2⟩:J Int).ok 1 aR})) (⟨(0,l),by dsimp only;omega,.zero x2,F6⟩) ⟨rfl,by simp;rfl,trivial⟩ bC eX ?_;rintro⟨⟨i,m⟩,vW,gP,qR⟩ c1;try dsimp only
  dsimp only at vW gP qR;have B8:=gP.len;apply(gU);refine aJ ?_ ?_<;>intro dE;·
   have b9b:=bR (l:=a.aE.places.l) (k:=i) default D;obtain⟨a8k,PM⟩:∃a8k,a8k=A.getD i false:=⟨_,rfl⟩;(have M1:p.l[i]?=some (!a8k):=by rw[dC,pW,bR (l:=A) (k:=i) false D,PM];rfl);have SY:=bR (l:=m) (k:=i) 0 D;apply(nC);refine aA Xk rfl ?_;apply(R1);intro FG;apply eA∘RU∘fD;apply dT (aD:=[_,_,_,_]) (j:=2) (b4:=50) rfl rfl aK rfl b2 rfl;·intro iM;replace iM:=cP iM;apply(k2);refine aA (iV M (p) _ rfl rfl rfl rfl bS (i:=i) c7 iY) rfl ?_;exact(aHK) iA
   intro o7;apply(dD);refine aJ ?_ ?_<;>intro gZ;·(have Tm:vG a A i=true:=by rw[vG,<-PM];rcases gZ with h|h;rw[h,a4c];rw[h];rfl);refine oZ (oX (oW (bY (dM ?_))));apply(m0);exact eG ⟨(i+1,m),by dsimp only;omega,gP.skip Tm,qR⟩
   (have Tm:¬vG a A i=true:=by rw[vG,<-PM,gZ.1,gZ.2];decide);have b05:QJ n a s m i p1:=⟨IY,G8,bA,bM,by omega,gP.b5,by omega⟩;apply(gI);refine aA jE rfl ?_;apply lG∘k2;refine VI (He rfl rfl (aV8 up (o:=TI) (l:=m) ((show _=Value.slice _ _ _ from rfl).trans (by simp only[J.val,B8,jH])) b05 BD qR)) rfl rfl ?_;rintro v E R' ⟨rfl,rfl,rfl⟩;refine aA jE rfl ?_;apply UZ∘xF∘J5;refine aJ ?_ ?_<;>intro fW;·(have cS:GK a s up m i=none:=by simpa using fW);(have Z8:l8 a s A up ps.l=(2,[]):=by rw[aAx,fJ,aWO (gP.fail Tm cS _ D)]);apply C9∘eA;refine eS (bY (mE (i7 (lO (i7 (E1 (lO (i7 (lO (i7 (E1 (lO (i7 ?_)))))))))))));refine cF L p1 LB ?_;exact aDs
   obtain⟨u,cS⟩:=Option.isSome_iff_exists.1 fW;have iF:=gP.b0n (k:=i) D u;apply(CI);rw[cS];apply nP∘k2∘aKj;refine aA (rX M ((⟨TI,m⟩:J Int)) rfl rfl rfl cL bS bH bS aK) rfl ?_;apply(pG);refine aJ ?_ ?_<;>intro lJ;·apply y6∘cJ∘aKj;refine mO (mV M ((⟨TI,m⟩:J Int)) (u) rfl rfl rfl rfl cL bS bH bS aX aK aK) ?_;rintro v E R' ⟨rfl,rfl⟩;apply l6∘tF;exact lP ⟨(i+1,m.set i u),by dsimp only;omega,gP.next Tm cS,J.tU E3 qR eY⟩ hM ⟨rfl,by dsimp only;rw[iF,decide_eq_true (show u≠m.getD i 0 from lJ),a4c];rfl,trivial⟩ bC eX kM
   apply(k9);(have KM:m.set i u=m:=by rw[show u=m.getD i 0 by simpa using lJ,Oj]);exact eG ⟨(i+1,m),by dsimp only;omega,KM▸gP.next Tm cS,qR⟩
  obtain rfl:i=a.aE.places.l.length:=by omega
  have WS:=gP.to;apply oS∘J5;refine aJ ?_ ?_<;>intro kK;·(have KI:m=l:=by simpa using kK);(have Z8:l8 a s A up ps.l=(0,m):=by rw[aAx,fJ,KI,aJY (by rw[<-KI]at WS|-;exact WS)]);apply eV∘gQ∘kS∘eA∘TK;refine cF ((⟨TI,m⟩:J Int).L 3 aR++L) p1 LB ?_;exact⟨⟨TI,m⟩,p0 n.lE::pH n.l9::(S++fS),by rw[Z8];simp only[J.val,B8,jH],qR,by rw[Z8],rfl,by rw[PC];simp⟩
  have KI:m≠l:=by simpa using kK
  apply(Cs);exact eG ⟨(oR+1,m),by dsimp only;omega,fJ.trans (aRI WS KI),B8.trans jH,gP.b5,qR⟩
 obtain rfl:oR=200:=by omega
 have Z8:l8 a s A up ps.l=(2,[]):=by rw[aAx,fJ];rfl
 apply oS∘kS∘sO;refine cF L p1 LB ?_;exact aDs
def aXC(a:bT)(s:cG)(ps:bP Int)(A:List Bool)(L:aW)(R:aP)(a1:qF a R)(aF:u3 s R)(tS:aN (dW ps) R)(hD:h4 a=0->mU a.aE A):
 aM prog 66 [a.val,s.val,ps.val].toArray L R (λw E R'=>∃(p:J Int) (S:aP),w=.tuple #[p.val,.int .i64 (l8 a s A true ps.l).1]/\p.ok 1 aR/\p.l=(l8 a s A true ps.l).2/\p.L 3 aR++L=E/\S++R=R'):=by refine cX 14 call66 func66 rfl rfl rfl ?_;apply(fC);intro e4;apply(nW);intro dU;apply kS∘p5∘y7∘gQ;refine dN rfl (aHx a s ps true A _ _ a1 aF tS hD) rfl ?_;exact aPO
def aY2(a:bT)(s:cG)(ps:bP Int)(A:List Bool)(L:aW)(R:aP)(a1:qF a R)(aF:u3 s R)(tS:aN (dW ps) R)(hD:h4 a=0->mU a.aE A):
 aM prog 65 [a.val,s.val,ps.val].toArray L R (λw E R'=>∃(p:J Int) (S:aP),w=.tuple #[p.val,.int .i64 (l8 a s A false ps.l).1]/\p.ok 1 aR/\p.l=(l8 a s A false ps.l).2/\p.L 3 aR++L=E/\S++R=R'):=by refine cX 14 call65 func65 rfl rfl rfl ?_;apply(fC);intro e4;apply(nW);intro dU;apply kS∘p5∘y7∘gQ;refine dN rfl (aHx a s ps false A _ _ a1 aF tS hD) rfl ?_;exact aPO
def a61(h:B:=by exact⟨J.nil,J.nil,by rw[HI];rfl,J.iJ,J.iJ,by rw[HI],by rw[HI],by rw[pC,nJ,nJ],rfl⟩):=h
def aZe(a:bT)(s:cG)(ps:bP Int)(A:List Bool)(L:aW)(R:aP)(a1:qF a R)(aF:u3 s R)(tS:aN (dW ps) R)(hD:h4 a=0->mU a.aE A):
 aM prog 66 [a.val,s.val,ps.val].toArray L R (λw E R'=>∃p:J Int,w=.tuple #[p.val,.int .i64 (l8 a s A true ps.l).1]/\p.ok 1 aR/\p.l=(l8 a s A true ps.l).2/\p.L 3 aR++L=E/\R=R'):=
 aM.turn (aXC a s ps A L R a1 aF tS hD) λv E R' ⟨p,S,hO,a2,a3,a4,a5⟩=>⟨E,R,Mr _,λr h=>aU (by rw[<-a5];simp[h]),p,hO,a2,a3,a4,rfl⟩
def aYg(a:bT)(s:cG)(ps:bP Int)(A:List Bool)(L:aW)(R:aP)(a1:qF a R)(aF:u3 s R)(tS:aN (dW ps) R)(hD:h4 a=0->mU a.aE A):
 aM prog 65 [a.val,s.val,ps.val].toArray L R (λw E R'=>∃p:J Int,w=.tuple #[p.val,.int .i64 (l8 a s A false ps.l).1]/\p.ok 1 aR/\p.l=(l8 a s A false ps.l).2/\p.L 3 aR++L=E/\R=R'):=
 aM.turn (aY2 a s ps A L R a1 aF tS hD) λv E R' ⟨p,S,hO,a2,a3,a4,a5⟩=>⟨E,R,Mr _,λr h=>aU (by rw[<-a5];simp[h]),p,hO,a2,a3,a4,rfl⟩
def aEA{a:bT}{s:cG}{q:J Int}{A:List Bool}{L:aW}{R:aP}{P5:Value}(vS:P5=q.val)(a1:qF a R)(aF:u3 s R)(hD:h4 a=0->mU a.aE A)(jQ:pA (q.L 3 aR) L)(bM:q.ok 1 aR):
 aM prog 65 [a.val,s.val,P5].toArray L R (λw E R'=>∃p:J Int,w=.tuple #[p.val,.int .i64 (l8 a s A false q.l).1]/\p.ok 1 aR/\p.l=(l8 a s A false q.l).2/\p.L 3 aR++L=E/\R=R'):=by subst vS;have U:=aM.TB (S:=[dW q.W]) (Post:=λv E=>∃p:J Int,v=.tuple #[p.val,.int .i64 (l8 a s A false q.l).1]/\p.ok 1 aR/\p.l=(l8 a s A false q.l).2/\p.L 3 aR++[]=E) (nA.aC (L:=L)) (λw aD bF s aF=>by rw[List.mem_singleton.1 aF];exact wD bF jQ bM bH aX eW) ((aYg a s q.W A [] _ (IC a1 λr h=>aU (.tail _ h)) (T9 aF λr h=>aU (.tail _ h)) mL hD).mono λv E R' ⟨p,hO,a2,a3,a4,a5⟩=>⟨⟨p,hO,a2,a3,a4⟩,a5⟩);exact aM.turn U λv hA R' ⟨E,e,⟨p,hO,a2,a3,a4⟩,a5⟩=>⟨_,R',by rw[<-e,<-a4,rV];exact Gj,λr O=>aU O,p,hO,a2,a3,rfl,a5⟩
def aTI(a:bT)(s:cG)(A:List Bool)(L:aW)(R:aP)(a1:qF a R)(aF:u3 s R)(hD:h4 a=0->mU a.aE A)(n2:a.aE.places.l.length<=64):
 aM prog 37 [a.val,s.val].toArray L R (λw E R'=>∃cN aB:J Int,w=.tuple #[.agg #[cN.val,aB.val],.int .i64 (uM a s A).1]/\cN.ok 1 aR/\aB.ok 1 aR/\cN.l=(uM a s A).2.1/\aB.l=(uM a s A).2.2/\cN.L 3 aR++(aB.L 3 aR++L)=E/\R=R'):=by
 have wS:=a1.places;have b5t:∀b,(⟨.own b a.aE.places.l.length [],List.replicate a.aE.places.l.length 0⟩:J Int).ok 1 aR:=λb=>BT bH BE;refine cX 49 call37 func37 rfl rfl rfl ?_;apply(fC);intro eN;apply(nW);intro e4;apply(dO);intro dU;apply(E9);refine jR M [0,1,2,3,4,5,6,7,8,9,10,11,12] ([bQ.mk e4 _ _,bQ.mk eN _ _]) mixed aQ bC ?_;apply An∘Vp∘U4;refine b7 CP rfl rfl rfl ?_;refine pP a4k rfl rfl rfl ?_;rintro v E R' ⟨VK,rfl,rfl,Dp⟩;replace Dp:=Dp.symm;subst Dp;apply(fI);refine zD rfl (aEA (q:=⟨.own VK a.aE.places.l.length [],List.replicate a.aE.places.l.length 0⟩) (aG1 (aY:=Int)).symm a1 aF hD (aXh (f:=aR) (x:=0) rfl) (b5t VK)) rfl rfl ?_;rintro v E R' ⟨p,rfl,iN,dC,rfl,rfl⟩;refine⟨bC,hC,?_⟩;replace dC:p.l=(l8 a s A false (List.replicate a.aE.places.l.length 0)).2:=dC;refine b7 jE rfl rfl rfl ?_;refine b7 z6 rfl rfl rfl ?_;refine b7 z6 rfl rfl rfl ?_;refine b7 (qG K8) rfl rfl rfl ?_;apply(HP);refine jI (bY (cC (cC ?_)));refine rY (A:=[]) (aI:=1) [] bH aX iN eW ?_;refine e7 Nl ?_;have rQ:qF a (dW p.W::R):=IC a1 λr h=>aU (.tail _ h);have Lj:u3 s (dW p.W::R):=T9 aF λr h=>aU (.tail _ h);obtain⟨x,K⟩:∃x,x=l8 a s A false (List.replicate a.aE.places.l.length 0):=⟨_,rfl⟩;rw[<-K]at dC|-;apply nP∘pG;refine aJ ?_ ?_<;>intro bI;·
  apply RS∘yE;refine kN (E:=L) (R':=R) TR ?aG ?b3 ?b8;case aG=>(have HI:uM a s A=(x.1,[],[]):=by rw[uM];dsimp only;rw[<-K,if_pos bI]);exact a61
  case b3=>exact bC
  case b8=>exact λr h=>aU (by simp[h])
 apply gI∘y7∘gQ;refine dN rfl (aZe a s p.W A _ _ rQ Lj mL hD) rfl ?_;rintro v E R' ⟨q,rfl,g7,eZ,rfl,rfl⟩;replace eZ:q.l=(l8 a s A true p.l).2:=eZ;obtain⟨y,bB⟩:∃y,y=l8 a s A true p.l:=⟨_,rfl⟩;rw[<-bB]at eZ|-;have Ae:y=l8 a s A true x.2:=by rw[bB,dC]
 refine aA jE rfl ?_;apply C8∘FA∘pG;refine aJ ?_ ?_<;>intro cK;·
  apply RS∘yE;refine kN (E:=L) (R':=R) TR ?aG ?b3 ?b8;case aG=>(have HI:uM a s A=(y.1,[],[]):=by rw[uM];dsimp only;rw[<-K,if_neg bI,<-Ae,if_pos cK]);exact a61
  case b3=>exact bC
  case b8=>exact λr h=>aU (by simp[h])
 apply gI∘y7∘gQ;refine dN rfl (aEA (q:=q) rfl rQ Lj hD BD g7) rfl ?_;rintro v E R' ⟨u,rfl,a2W,HJ,rfl,rfl⟩;obtain⟨z,dI⟩:∃z,z=l8 a s A false q.l:=⟨_,rfl⟩;rw[<-dI]at HJ|-;have aM8:z=l8 a s A false y.2:=by rw[dI,eZ]
 refine aA jE rfl ?_;apply C8∘FA∘pG;refine aJ ?_ ?_<;>intro dE;·
  apply RS∘yE;refine kN (E:=L) (R':=R) TR ?aG ?b3 ?b8;case aG=>(have HI:uM a s A=(z.1,[],[]):=by rw[uM];dsimp only;rw[<-K,if_neg bI,<-Ae,if_neg cK,<-aM8,if_pos dE]);exact a61
  case b3=>exact bC
  case b8=>exact λr h=>aU (by simp[h])
 apply OI∘gQ;refine aA aCY rfl ?_;apply(yD);refine kN (E:=u.L 3 aR++(q.L 3 aR++L)) (R':=R) TR ?aG ?b3 ?b8;case aG=>
  have HI:uM a s A=(0,z.2,y.2):=by rw[uM];dsimp only;rw[<-K,if_neg bI,<-Ae,if_neg cK,<-aM8,if_neg dE]
  exact⟨u,q,by rw[HI];rfl,a2W,g7,by rw[HI];exact HJ,by rw[HI];exact eZ,rfl,rfl⟩
 case b3=>exact bC
 case b8=>exact λr h=>aU (by simp[h])
end
structure T5(a:bT)(s:cG)(b:q2)(A:List Bool)(n:rL)(k:Nat)(l:List bG):Prop where
 len:l.length=a.aE.Z.l.length
 ML:∀(j:Nat) (p:k7),j<k->n.lE.l[j]?=some p->l[p.o9.toNat]?=some (w7 a s b A p.o9.toNat)
 TF:∀i:Nat,i<a.aE.Z.l.length->(∀(j:Nat) (p:k7),j<k->n.lE.l[j]?=some p->p.o9.toNat≠i)->l[i]?=some ⟨0,0⟩
def T5.zero(a:bT)(s:cG)(b:q2)(A:List Bool)(n:rL):T5 a s b A n 0 (List.replicate a.aE.Z.l.length ⟨0,0⟩):=
 ⟨by simp,λj p a6=>by omega,λi aB _=>by rw[K5,if_pos aB]⟩
def T5.next{a:bT}{s:cG}{b:q2}{A:List Bool}{n:rL}{k:Nat}{l:List bG}(h:T5 a s b A n k l){p:k7}(aG:n.lE.l[k]?=some p)(O:p.o9.toNat<a.aE.Z.l.length){x:bG}(K:x=w7 a s b A p.o9.toNat):T5 a s b A n (k+1) (l.set p.o9.toNat x):=by
 have aZ:=h.len;subst K;refine⟨by simp[aZ],λj q a6 bZ=>?_,λi aB bA=>?_⟩;·
  rw[I9];split;·rename_i e;rw[if_pos D,e]
  ·
   rename_i e;rcases gX j k with G|G;·exact h.ML j q G bZ
   ·(obtain rfl:j=k:=by omega);rw[aG]at bZ;cases bZ;exact absurd rfl e
 ·rw[P7 (bA k p D aG)];exact h.TF i aB λj q a6 bZ=>bA j q D bZ
def T5.done{a:bT}{s:cG}{b:q2}{A:List Bool}{n:rL}{l:List bG}(h:T5 a s b A n n.lE.l.length l)(bA:JQ a s n):l=(List.range a.aE.Z.l.length).map (w7 a s b A):=by
 have aZ:=h.len;refine Au λi=>?_;rcases gX i a.aE.Z.l.length with aB|aB;·
  rw[pW,P8 aB];show _=some (w7 a s b A i);cases bU:(a.aE.Z.l.getD i default).dZ with
  |true=>rw[w7,if_pos bU];refine h.TF i aB λj p a6 aG e=>?_;have:=(bA.open (hS aG)).2;rw[e,bU]at this;cases this
  |false=>obtain⟨j,p,a6,aG⟩:=bA.find (r:=(i:Int)) D (by rw[tZ];exact bU);have:=h.ML j p (List.getElem?_eq_some_iff.1 a6).1 a6;rw[aG,tZ]at this;exact this
 ·rw[u1 D,u1 EB]
section
attribute [local irreducible] cO dG dP aM cI dR fA e2 e5 fB eQ e9 J.L
def aJZ(h:A->B:=by exact fE (v7 (row:=[_,_,_,_,_,_,_,_,_,_,_,_]) M rfl rfl rfl mC aK aK) rfl rfl rfl rfl):=h
def aHG(h:A->B:=by exact fE (by first|exact j9 M rfl rfl rfl rfl i6 (i:=P.aS.bK.toNat) c7 D|exact jF M rfl rfl rfl rfl (i:=P.aS.bK.toNat) c7 D) rfl rfl rfl rfl):=h
def aIm(h:A->B:=by exact fE (by first|exact j9 M rfl rfl rfl rfl i6 (i:=P.aS.to.toNat) c7 D|exact jF M rfl rfl rfl rfl (i:=P.aS.to.toNat) c7 D) rfl rfl rfl rfl):=h
def aY3(a:bT)(s:cG)(b:q2)(A:List Bool)(L:aW)(R:aP)(a1:qF a R)(aF:u3 s R)(aT:a4O b R)(hD:h4 a=0->mU a.aE A):
 aM prog 38 [a.val,s.val,b.val].toArray L R (λv E R'=>∃(p:J bG) (S:aP),v=p.val/\p.ok 2 bG.cells/\p.l=GN a s b A/\p.L 51 bG.cells++L=E/\S++R=R'):=by
 have WD:=a1.Z;have Tg:=aT.bJ;have a19:=aT.bN;refine cX 85 call38 func38 rfl rfl rfl ?_;apply(fC);intro e4;apply(nW);intro dU;apply(nW);intro fK;apply r2∘y7∘lG;refine dN rfl (aQ7 a s b A _ _ a1 aF aT hD) rfl ?_;rintro v E R' ⟨pD,rfl,rfl,rfl⟩;have rQ:qF a (pD++R):=⟨a1.places.mono λr h=>aU (by simp[h]),a1.Z.mono λr h=>aU (by simp[h]),a1.bD.mono λr h=>aU (by simp[h]),a1.a8.mono λr h=>aU (by simp[h])⟩;have b9t:=rQ.Z;apply(pG);refine aJ ?_ ?_<;>intro bI;·apply C9∘DZ;refine cF L (pD++R) BH ?_;exact⟨J.nil,pD,rfl,J.iJ,by rw[GN,if_neg bI],by rw[pC,nJ],rfl⟩
 have MS:wI a s b A=0:=by omega
 have uQ:=aHq MS;have bM:=J9 uQ.bV;have FO:=a1b uQ.aH;have xM:=hD uQ.bV;have HD:=bM.aE.Z;have lL:=uQ.aZ;have aL7:=uQ.bF;apply gI∘xG∘D1;rintro v E R' ⟨vI,rfl,rfl,G4⟩;replace G4:=G4.symm;subst G4;apply(OK);refine e7 (R5 (f:=bG.cells) (x:=⟨0,0⟩) rfl _) ?_;apply e1∘C6;refine dN rfl (a1q a.aE _ _ rQ.TE bM.aE (Df uQ.bV)) rfl ?_;rintro v E R' ⟨p,X6,eF,rfl,iN,B5,dC,rfl,rfl⟩;obtain rfl:A=X6:=xM.XM B5;have b9G:p.l.length=a.aE.places.l.length:=by rw[dC,pU];exact xM.length
 have M0:qF a (eF++(pD++R)):=⟨rQ.places.mono λr h=>aU a4E,rQ.Z.mono λr h=>aU a4E,rQ.bD.mono λr h=>aU a4E,rQ.a8.mono λr h=>aU a4E⟩;have M2:u3 s (eF++(pD++R)):=⟨aF.bD.mono λr h=>aU (by simp[h]),aF.a8.mono λr h=>aU (by simp[h])⟩;apply r2∘y7;refine dN rfl (a7N a s _ _ M0 M2 bM FO) rfl ?_;rintro v E R' ⟨n,rfl,bA,rfl,rfl⟩;have IY:aN (p0 n.lE) (p0 n.lE::pH n.l9::(eF++(pD++R))):=aU (.head _);have aLG:aN (dW b.bJ) (p0 n.lE::pH n.l9::(eF++(pD++R))):=Tg.mono λr h=>aU (by simp[h]);have aLF:aN (dW b.bN) (p0 n.lE::pH n.l9::(eF++(pD++R))):=a19.mono λr h=>aU (by simp[h]);have IW:=bA.length;refine aA (aGU (e:=172) M rfl aQ rfl rfl rfl rfl rfl) rfl ?_;apply(R0);refine e3 [(5,.pointer _),(7,.slice _ _ _),(8,.slice _ _ _),(27,.slice _ _ _),(28,.int _ _),(29,.int _ _)] cB λg9=>?_;refine m6 ([10]++dJ 29 55) ((⟨λq=>[(29,.int .i64 ((q.1.1:Nat):Int))],λq=>p.L 4 l1++((⟨.own vI a.aE.Z.l.length [],q.1.2⟩:J bG).L 51 bG.cells++(⟨fK,b.cells,103⟩::⟨dU,s.cells,35⟩::⟨e4,a.cells,32⟩::L)),λ_=>p0 n.lE::pH n.l9::(eF++(pD++R)),λq=>n.lE.l.length-q.1.1⟩:e0 {q:Nat×List bG//q.1<=n.lE.l.length/\T5 a s b A n q.1 q.2})) (⟨(0,List.replicate a.aE.Z.l.length ⟨0,0⟩),by dsimp only;omega,T5.zero a s b A n⟩) ?_;rintro⟨⟨k,l⟩,pN,fJ⟩ c1;try dsimp only
 dsimp only at pN fJ;have qN:=fJ.len;have Tv:(⟨.own vI a.aE.Z.l.length [],l⟩:J bG).ok 2 bG.cells:=by have:=BT (f:=bG.cells) (aI:=2) (b:=vI) (n:=a.aE.Z.l.length) (x:=⟨0,0⟩) bH BE;exact J.tU bH this (by simp;exact qN)
 apply(gU);refine aJ ?_ ?_<;>intro cK;·
  obtain⟨P,kR⟩:=lQ (l:=n.lE.l) (k:=k) D;have aLf:=aN.PW IY kR;obtain⟨aLj,aLk⟩:=bA.open (hS kR);have a13:=bA.PW P (hS kR);have aLi:=aF9 bM aLj a13;have KH:GD P=kA a s ((P.o9.toNat:Nat):Int):=funext λq=>by rw[aEL a13 q,Ba aLj.1]
  have mI:=bM.aE.aS P.o9.toNat _ Bj;have Up:=mI.bK;have Lh:=mI.to;have SR:P.aS.bK=(a.aE.Z.l.getD P.o9.toNat default).bK:=by rw[a13.aS]
  have Ek:P.aS.to=(a.aE.Z.l.getD P.o9.toNat default).to:=by rw[a13.aS]
  have aK7:=xM.length;have M1:p.l[P.aS.bK.toNat]?=some (!(A.getD P.aS.bK.toNat false)):=by rw[dC,pW,bR (l:=A) (k:=P.aS.bK.toNat) false D];rfl
  have g1:=bR (l:=b.bJ.l) (k:=P.aS.bK.toNat) 0 D;have oA:=bR (l:=b.bJ.l) (k:=P.aS.to.toNat) 0 D;have g3:=bR (l:=b.bN.l) (k:=P.aS.bK.toNat) 0 D;have g4:=bR (l:=b.bN.l) (k:=P.aS.to.toNat) 0 D;have dH:=uQ.bL.get P.aS.bK.toNat;have eH:=uQ.bL.get P.aS.to.toNat;have nS:=uQ.I3.get P.aS.bK.toNat;have B3:=uQ.I3.get P.aS.to.toNat;have HC:=bR (l:=l) (k:=P.o9.toNat) default D;apply(jK);refine aA rF rfl ?_;apply aBz∘dO;intro lI;apply uI∘gQ∘GQ;refine aA (iV M (p) _ rfl rfl rfl rfl bS (i:=P.aS.bK.toNat) c7 iY) rfl ?_;refine aA QF rfl ?_;apply(dD);refine aJ ?_ ?_<;>intro dE;·(have a2N:sX=w7 a s b A P.o9.toNat:=by rw[w7,if_neg (by rw[aLk];decide),<-SR,if_neg Bb]);apply eV∘FD∘CH;refine aA aPA rfl ?_;refine mO (N4 M ((⟨.own vI a.aE.Z.l.length [],l⟩:J bG)) (sX) rfl rfl rfl rfl cL bS bH bS (s6 rfl) aK aK) ?_;rintro v E R' ⟨rfl,rfl⟩;refine eS (bY (oZ (oX (oW (bY (dM ?_))))));apply(m0);exact aPm
  have a2N:(⟨u9 (GD P) (b.bJ.l.getD P.aS.bK.toNat 0-b.bN.l.getD P.aS.to.toNat 0),u6 (GD P) (b.bN.l.getD P.aS.bK.toNat 0-b.bJ.l.getD P.aS.to.toNat 0)⟩:bG)=w7 a s b A P.o9.toNat:=by rw[w7,if_neg (by rw[aLk];decide),<-SR,<-Ek,if_pos Bb,KH]
  refine gG (bY ?_);refine jV M [] [0,1,2,3,4,5,6,7,8,9,10,11,12,13,14,15,16,17,18,20,21,22,23,24,25,26,27,28,29,30,31,32,33,34,35,19,36,37,38] [39] ([bQ.mk lI _ _,bQ.mk fK _ _]) _ mixed aQ bC iP ?_;apply OL∘aJZ∘lS∘wZ∘lS∘aHG∘D3∘lS∘wZ∘lS∘aIm∘D3∘Aq∘aJZ∘lS∘wZ∘lS∘aHG∘D3∘lS∘wZ∘lS∘aIm∘D3∘Aq;refine mW rfl (aGr P (b.bJ.l.getD P.aS.bK.toNat 0-b.bN.l.getD P.aS.to.toNat 0) _ _ aLf aLi) rfl rfl ?_;rintro v E R' ⟨rfl,rfl,rfl⟩;refine⟨bC,hC,?_⟩;refine mW rfl (aKf P (b.bN.l.getD P.aS.bK.toNat 0-b.bJ.l.getD P.aS.to.toNat 0) _ _ aLf aLi) rfl rfl ?_;rintro v E R' ⟨rfl,rfl,rfl⟩;refine⟨bC,hC,?_⟩;apply(XG);refine fE aPA rfl rfl rfl rfl ?_;apply(zY);refine ID (N4 M ((⟨.own vI a.aE.Z.l.length [],l⟩:J bG)) (⟨u9 (GD P) (b.bJ.l.getD P.aS.bK.toNat 0-b.bN.l.getD P.aS.to.toNat 0),u6 (GD P) (b.bN.l.getD P.aS.bK.toNat 0-b.bJ.l.getD P.aS.to.toNat 0)⟩) rfl rfl rfl rfl cL bS bH bS (s6 rfl) aK aK) rfl rfl ?_;rintro v E R' ⟨rfl,rfl⟩;apply fI∘KV∘m0;exact aPm
 obtain rfl:k=n.lE.l.length:=by omega
 apply(R2);refine cF ((⟨.own vI a.aE.Z.l.length [],l⟩:J bG).L 51 bG.cells++L) (p0 n.lE::pH n.l9::(eF++(pD++R))) BH ?_;exact⟨(⟨.own vI a.aE.Z.l.length [],l⟩:J bG),p0 n.lE::pH n.l9::(eF++pD),u7 qN,Tv,by rw[GN,if_pos MS];exact fJ.done bA,rfl,by simp[kF]⟩
abbrev wG(x:bP bG):eT:=x.eJ 2 bG.cells []
def aTY(x y:bP bG)(L:aW)(R:aP)(K:aN (wG x) R)(bB:aN (wG y) R)(V:x.l=y.l):
 aM prog 13 [x.val,y.val].toArray L R (λv E R'=>v=.bool true/\L=E/\R=R'):=by
 have yI:x.l.length=y.l.length:=by rw[V]
 refine rZ call13 K λxY=>?_;refine cX 26 call13 func13 rfl rfl rfl ?_;apply E8∘mY∘j0∘j0∘pG;refine aJ ?_ ?_<;>intro bI;·apply(RT);refine m5 L R ?_;exact absurd bI D
 apply k5∘pR;refine e3 [(0,.slice _ _ _),(1,.slice _ _ _),(5,.int _ _)] cB λg9=>?_;refine lF ([4,5]++dJ 11 15) (λg:{k:Nat//k<=x.l.length}=>[(5,.int .i64 ((g.1:Nat):Int))]) (λg=>x.l.length-g.1) (⟨0,by omega⟩) ?_;rintro⟨k,Y⟩ c1;try dsimp only
 apply nR∘j0∘nD;refine aJ ?_ ?_<;>intro cK;·
  have G:=bR (l:=x.l) (k:=k) default D;have U:=bR (l:=y.l) (k:=k) default D;rw[<-V]at U;rw[V]at U;refine gG (bY (cC (iH (cC ?_))));refine jR M [0,1,2,3,4,5,6,7,8] _ mixed aQ iP ?_;refine b7 qX rfl rfl rfl ?_;apply j7∘XI∘XH;refine b7 qX rfl rfl rfl ?_;apply j7∘XI∘XH;refine b7 (aVe a4Y rfl rfl) rfl rfl rfl ?_;apply(A9);refine aJ ?_ ?_<;>intro dE;·apply(OH);refine m5 L R ?_;exact absurd dE (by rw[V];simp)
  exact aBS
 exact a4B
abbrev sM:cG:=⟨⟨none,0,[]⟩,⟨none,0,[]⟩⟩
end
section
def aEg(h:A->B:=by exact aA rF rfl):=h
def aM.Ve{P:Program}{f:FuncId}{args:Array Value}{A:aW}{R S:aP}{u:Value}
 (fL:∀w,∀aD:Nat->Prop,Holds (A++[]) aD R w->∀s∈S,p2 w (λb=>aD b\/∃e∈A,e.b=b) s)
 (h:aM P f args [] (S++R) (λv E R'=>v=u/\[]=E/\S++R=R')):aM P f args A R (λv E R'=>v=u/\A=E/\R=R'):=by have U:=aM.TB (S:=S) (Post:=λv E=>v=u/\[]=E) (nA.aC (L:=A)) fL (h.mono λv E R' ⟨hO,a2,a3⟩=>⟨⟨hO,a2⟩,a3⟩);exact aPV
attribute [local irreducible] cO dG dP aM cI dR fA e2 e5 fB eQ e9 J.L
def aUY(x:bP Int)(a:Int)(L:aW)(R:aP)(K:aN (dW x) R):
 aM prog 156 [x.val,.int .i64 a].toArray L R (λv E R'=>∃r:Int,v=.int .i64 r/\(0<=r↔a∈x.l)/\L=E/\R=R'):=by
 refine Bw call156 K λG9=>?_;refine cX 19 call156 func156 rfl rfl rfl ?_;apply oO∘mY∘r3;refine e3 [(0,.slice _ _ _),(1,.int _ _),(7,.int _ _),(8,.int _ _)] cB λg9=>?_;refine lF ([4,5]++dJ 8 11) (λg:{k:Nat//k<=x.l.length/\∀j:Nat,j<k->x.l.getD j 0≠a}=>[(8,.int .i64 ((g.1:Nat):Int))]) (λg=>x.l.length-g.1) (⟨0,by omega,λj a6=>by omega⟩) ?_;rintro⟨k,Y,jX⟩ c1;try dsimp only
 apply(gU);refine aJ ?_ ?_<;>intro bI;·
  have bE:=bR (l:=x.l) (k:=k) 0 D;apply nC∘q4∘k2∘aEg∘kY∘AL;refine aJ ?_ ?_<;>intro cK;·apply RZ∘TK;refine eL L R ?_;exact⟨k,rfl,⟨λ_=>by rw[cK];exact hS bE,λ_=>by omega⟩,rfl,rfl⟩
  apply(k9);exact lP (⟨k+1,by omega,λj a6=>by
  rcases gX j k with h|h;·exact jX j h
  ·(obtain rfl:j=k:=by omega);exact λh=>cK h.symm⟩) hM cB bC eX kM
 apply(IG);refine eL L R ?_;refine⟨-1,rfl,⟨λh=>by omega,λh=>?_⟩,rfl,rfl⟩;obtain⟨j,a6,rfl⟩:=Gm h;have:=jX j D;rw[lN,w4 a6]at this;exact absurd rfl this
def aJj(x:bP Int)(a:Int)(L:aW)(R:aP)(K:aN (dW x) R):
 aM prog 110 [x.val,.int .i64 a].toArray L R (λv E R'=>v=.bool (decide (a∈x.l))/\L=E/\R=R'):=by refine cX 9 call110 func110 rfl rfl rfl ?_;apply E8∘iG∘k2;refine dN rfl (aUY x a _ _ K) rfl ?_;exact aPM
def aZA(l:bP Int)(n:Int)(L:aW)(R:aP)(aZ:aN (dW l) R):
 aM prog 42 [l.val,.int .i64 n].toArray L R (λv E R'=>v=.bool (decide (n∈l.l))/\L=E/\R=R'):=by
 refine rZ call42 aZ λlL=>?_;refine cX 18 call42 func42 rfl rfl rfl ?_;apply E8∘mY∘pR;refine e3 [(0,.slice _ _ _),(1,.int _ _),(5,.int _ _)] cB λg9=>?_;refine lF (dJ 4 14) (λg:{k:Nat//k<=l.l.length/\∀j:Nat,j<k->l.l.getD j 0≠n}=>[(5,.int .i64 ((g.1:Nat):Int))]) (λg=>l.l.length-g.1) (⟨0,by omega,λj a6=>by omega⟩) ?_;rintro⟨k,Y,jX⟩ c1;try dsimp only
 apply nR∘j0∘nD;refine aJ ?_ ?_<;>intro bI;·
  have HC:=bR (l:=l.l) (k:=k) 0 D;apply jK∘k2∘aEg∘kY∘cJ∘AL;refine aJ ?_ ?_<;>intro cK;·apply(OH);refine m5 L R ?_;exact⟨by rw[decide_eq_true (by rw[<-cK];exact hS HC)],rfl,rfl⟩
  apply(Cs);exact lP (⟨k+1,by omega,λj a6=>by
  rcases gX j k with h|h;·exact jX j h
  ·(obtain rfl:j=k:=by omega);exact cK⟩) hM cB bC eX kM
 apply(Iy);refine m5 L R ?_;exact⟨by
 rw[decide_eq_false];intro a1;obtain⟨j,a6⟩:=List.mem_iff_getElem?.1 a1;have a9I:=(List.getElem?_eq_some_iff.1 a6).1;exact jX j D (getD_some a6),rfl,rfl⟩
end
section
attribute [local irreducible] cO dG dP aM cI dR fA e2 e5 fB eQ e9 J.L
def aR8{A:aW}{R:aP}{p q:J bG}(aG:pA (p.L 51 bG.cells) A)(bZ:pA (q.L 51 bG.cells) A)(PV:p.ok 2 bG.cells)(Fw:q.ok 2 bG.cells)(V:p.l=q.l):
 aM prog 13 [p.val,q.val].toArray A R (λv E R'=>v=.bool true/\A=E/\R=R'):=
 aM.Ve (S:=[wG p.W,wG q.W]) (λw aD bF s aF=>by
  simp only[nX,pO,or_false]at aF
  rcases aF with rfl|rfl
  ·exact wD bF aG PV bH aX eW
  ·exact wD bF bZ Fw bH aX eW) (aTY p.W q.W [] _ mL QH V)
def a69(m:eC):∃A,mU m A:=by refine⟨(List.range (JX m).length).map λi=>@decide (∃j:Nat,j<(JX m).length/\(JX m).getD j false=true/\uC m j i) (Classical.propDecidable _),by simp,λi aB=>?_⟩;rw[lN,pW,P8 aB];exact⟨λh=>@of_decide_eq_true _ (Classical.propDecidable _) h,λh=>@decide_eq_true _ (Classical.propDecidable _) h⟩
end
end Go.Proofs.YtdiajbdaadlfhaaGreatDoor
