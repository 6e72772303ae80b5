/-
  Merged texts. By an AI agent.
-/
import Derived.Test.YtchfclmokpbldaaGreatSeqS
import Derived.Test.YtchfclmokpbldaaGreatNets
import Derived.Test.YtchfclmokpbldaaGreatFits
import Derived.Test.YtchfclmokpbldaaGreatComp
import Derived.Test.YtchfclmokpbldaaGreatReach
set_option linter.all false
set_option maxHeartbeats 4000000
set_option maxRecDepth 20000
variable{A B:Prop}
namespace Go.Proofs.YtchfclmokpbldaaGreat
open Go.Aw Go Go.Proofs.Tryz
def YJ(f:lR):lR:=⟨f.cV,f.n4,f.Kz,⟨none,0,f.iA.l⟩⟩
def FE(d:kI):kI:=⟨d.cV,d.zJ,⟨none,0,d.hS.l⟩⟩
def YQ(m:h4):h4:=⟨⟨none,0,m.places.l⟩,⟨none,0,m.aJ.l⟩⟩
def q5(a:b3):b3:=⟨YQ a.aC,⟨none,0,a.c3.l.map YJ⟩,⟨none,0,a.cM.l.map FE⟩⟩
abbrev YZ(s:cS):cS:=Ax (R6 s)
def a1g{a7 rK:Type}{f:a7->rK}{l:List a7}{k:Nat}{d:a7}{e:rK}(h:f d=e):(l.map f).getD k e=f (l.getD k d):=by
 rw[m8,m8,pA];cases l[k]? with
 |none=>exact h.symm
 |some x=>rfl
def aVj(a:b3)(k:Nat):(q5 a).c3.l.getD k default=YJ (a.c3.l.getD k default):=a1g rfl
def a5a(a:b3)(k:Nat):(q5 a).cM.l.getD k default=FE (a.cM.l.getD k default):=a1g rfl
def aHg(a:b3)(s:cS)(r:Int): ∀k,oF (q5 a) (YZ s) r k=oF a s r k
 |0=>rfl
 |k+1=>by rw[oF,oF,aHg a s r k,a5a];rfl
def aIS(a:b3)(s:cS)(r q:Int): ∀k,tC (q5 a) (YZ s) r q k=tC a s r q k
 |0=>by rw[tC,tC,aHg,show(q5 a).cM.l.length=a.cM.l.length from sV _];rfl
 |k+1=>by rw[tC,tC,aIS a s r q k,aVj];rfl
def aXU(a:b3)(s:cS):mN (q5 a) (YZ s)=mN a s:=by funext r q;rw[mN,mN,aIS,show(q5 a).c3.l.length=a.c3.l.length from sV _]
def aYG(l:List kI):I8 (l.map FE)=I8 l:=by
 funext i;rw[I8,I8,pA];cases l[i]? with
 |none=>rfl
 |some d=>
  have aP:Kj (l.map FE) i (FE d)↔Kj l i d:=by unfold Kj;simp only[sV,a1g (f:=FE) (l:=l) (d:=default) (e:=default) rfl];exact Iff.rfl
  simp only[Bw,aP];rfl
def aTG(l:List kI):EB (l.map FE)=EB l:=by rw[EB,EB,aYG,sV]
def aGS(a:b3):h5 (q5 a)=h5 a:=by have O:(q5 a).c3.l=a.c3.l.map YJ:=rfl;have X:(q5 a).cM.l=a.cM.l.map FE:=rfl;have aU:(q5 a).aC=YQ a.aC:=rfl;have cK:uI (YQ a.aC)=uI a.aC:=rfl;rw[h5,h5,O,X,aU,cK,aTG,sV,aCu,aCu];rfl
def aT7(a:b3)(s:cS):l0 (q5 a) (YZ s)=l0 a s:=by
 have O:(q5 a).c3.l.length=a.c3.l.length:=sV _;have X:(q5 a).cM.l.length=a.cM.l.length:=sV _;have aU:P7 (q5 a).cM.l (YZ s).cM.l=P7 a.cM.l s.cM.l:=by funext i;show P7 (a.cM.l.map FE) s.cM.l i=_;rw[P7,P7,pA];cases s.cM.l[i]? <;>cases a.cM.l[i]? <;>rfl
 rw[l0,l0,O,X,aU];rfl
section
variable{a fA:b3}{s s':cS}
structure pM(a fA:b3)(s s':cS):Prop where
 aC:a.aC.places.l=fA.aC.places.l/\a.aC.aJ.l=fA.aC.aJ.l
 Vf:mN a s=mN fA s'
 AM:h5 a=h5 fA
 LO:l0 a s=l0 fA s'
variable(h:pM a fA s s')
include h
def pM.term(F Z:(Int->bC)->Int->Int):AD F Z a s=AD F Z fA s':=by funext ps v k;rw[AD,AD,r8,r8,h.Vf,h.aC.2]
def pM.sum(F Z:(Int->bC)->Int->Int)(ps:List Int)(v:Int): ∀k,w5 F Z a s ps v k=w5 F Z fA s' ps v k
 |0=>rfl
 |k+1=>by rw[w5,w5,pM.sum F Z ps v k,h.term]
def pM.bU:yO a s=yO fA s':=by funext ps v;rw[yO,yO,h.sum,h.aC.2]
def pM.bW:yN a s=yN fA s':=by funext ps v;rw[yN,yN,h.sum,h.aC.2]
def pM.test(up:Bool)(l:List Int):V1 a s up l=V1 fA s' up l:=by funext v q;rw[V1,V1];unfold FO FG;rw[h.bU,h.bW]
def pM.next(up:Bool):BD a s up=BD fA s' up:=by funext l k;rw[BD,BD,h.test]
def pM.fix(A:List Bool):uO a A=uO fA A:=by funext k;rw[uO,uO,h.aC.1]
def pM.aOy(A:List Bool)(up:Bool)(l:List Int): ∀k,vA a s A up l k=vA fA s' A up l k
 |0=>rfl
 |k+1=>by rw[vA,vA,pM.aOy A up l k,h.fix,h.next]
def pM.aOs(A:List Bool)(up:Bool): ∀n l,u9 a s A up n l=u9 fA s' A up n l
 |0,_=>rfl
 |n+1,l=>by
  rw[u9,u9,h.aOy,h.aC.1]
  cases vA fA s' A up l fA.aC.places.l.length with
  |none=>rfl
  |some m=>dsimp only;rw[pM.aOs A up n m]
def pM.start(ps:List Int)(A:List Bool):vT a s ps A=vT fA s' ps A:=by
 have e:CU a ps A=CU fA ps A:=by funext i;rw[CU,CU,h.fix]
 rw[vT,vT,h.AM,h.LO,h.aC.1,e]
def pM.b60(A:List Bool)(up:Bool)(ps:List Int):iN a s A up ps=iN fA s' A up ps:=by rw[iN,iN,h.start,h.aOs]
def pM.b63(A:List Bool):q7 a s A=q7 fA s' A:=by
 have e:iN a s A=iN fA s' A:=by funext up ps;exact h.b60 A up ps
 rw[q7,q7,e,h.aC.1]
def pM.b1s(b:q8)(A:List Bool):sJ a s b A=sJ fA s' b A:=by
 have e:s2 a s b A=s2 fA s' b A:=by funext i;rw[s2,s2,h.bU,h.bW,h.aC.1]
 rw[sJ,sJ,h.AM,h.LO,h.aC.1,e]
def pM.vI(b:q8)(A:List Bool):D4 a s b A=D4 fA s' b A:=by
 have e:rP a s b A=rP fA s' b A:=by funext k;rw[rP,rP,h.Vf,h.aC.2]
 rw[D4,D4,h.b1s,h.aC.2,e]
def pM.aLq(A:List Bool):rM a s A=rM fA s' A:=by
 have e:tS a=tS fA:=by funext k;rw[tS,tS,h.aC.2]
 rw[rM,rM,h.AM,h.LO,U1,U1,h.b63,h.vI,h.aC.2,e]
end
def pM.aLt(a:b3)(s:cS):pM (q5 a) a (YZ s) s:=⟨⟨rfl,rfl⟩,aXU a s,aGS a,aT7 a s⟩
def pM.symm{a fA:b3}{s s':cS}(h:pM a fA s s'):pM fA a s' s:=⟨⟨h.aC.1.symm,h.aC.2.symm⟩,h.Vf.symm,h.AM.symm,h.LO.symm⟩
def pM.trans{a fA aLo:b3}{s s' aOt:cS}(h:pM a fA s s')(k:pM fA aLo s' aOt):pM a aLo s aOt:=⟨⟨h.aC.1.trans k.aC.1,h.aC.2.trans k.aC.2⟩,h.Vf.trans k.Vf,h.AM.trans k.AM,h.LO.trans k.LO⟩
def pM.of{a fA:b3}{s s':cS}(O:q5 a=q5 fA)(X:R6 s=R6 s'):pM a fA s s':=by have eV:=(pM.aLt a s).symm;have fN:=pM.aLt fA s';rw[O,show YZ s=YZ s' from congrArg Ax X]at eV;exact eV.trans fN
def aUt(a:b3){s s':cS}(A:List Bool)(h:R6 s=R6 s'):rM a s A=rM a s' A:=(pM.of rfl h).aLq A
def aZx(a:b3){s s':cS}(h:R6 s=R6 s'):l0 a s=l0 a s':=(pM.of rfl h).LO
def b0d(a:b3)(s:cS)(A:List Bool):ZM a A (R6 s)=(rM a s A).2:=by rw[ZM,aUt a (s:=Ax (R6 s)) (s':=s) A rfl]
section
attribute [local irreducible] cQ dF dV aM cP eC e5 e1 e2 e6 eX e4 J.L
def Ec(h:A->B:=by exact aI X1 rfl):=h
def Yq(h:A->B:=by exact kB I1 rfl rfl):=h
def aKv(h:A->B:=by exact aI pL rfl):=h
structure gP where
 hX:Int
 kind:Int
 target:Int
 offset:Int
 GV:Int
 error:Int
 H5:Int
 Hf:Int
 deriving Inhabited
def gP.cells(s:gP):List Value:=[.int .i64 s.hX,.int .i64 s.kind,.int .i64 s.target,.int .i64 s.offset,.int .i64 s.GV,.int .i64 s.error,.int .i64 s.H5,.int .i64 s.Hf]
abbrev gP.val(s:gP):Value:=.agg #[.int .i64 s.hX,.int .i64 s.kind,.int .i64 s.target,.int .i64 s.offset,.int .i64 s.GV,.int .i64 s.error,.int .i64 s.H5,.int .i64 s.Hf]
structure eE where
 k5:Int
 time:Int
 EW:bC
 deriving Inhabited
def eE.cells(m:eE):List Value:=[.int .i64 m.k5,.int .i64 m.time,.int .i64 m.EW.bU,.int .i64 m.EW.bW]
abbrev eE.val(m:eE):Value:=.agg #[.int .i64 m.k5,.int .i64 m.time,.int .i64 m.EW.bU,.int .i64 m.EW.bW]
abbrev CI(x:a4 gP):fJ:=x.gN 8 gP.cells []
abbrev gT(x:a4 eE):fJ:=x.gN 4 eE.cells []
def Qo(b5 aE:Int)(x:a4 Int)(L:aR)(R:aO)(K:aL (dU x) R)(b1:x.l.length<=100):
 aM prog 174 [.int .i64 b5,.int .i64 aE,x.val].toArray L R (λv E G=>v=.bool (decide (∀n∈x.l,b5<=n/\n<=aE))/\L=E/\R=G):=by
 refine b6 24 call174 func174 rfl rfl rfl ?_;apply VY∘BN;refine dS [(0,.int _ _),(1,.int _ _),(9,.slice _ _ _),(10,.int _ _),(11,.int _ _)] bV λfK=>?_;refine gY ([6,8]++cN 11 13) (λg:{k:Nat//k<=x.l.length/\∀n∈x.l.take k,b5<=n/\n<=aE}=>[(11,.int .i64 ((g.1:Nat):Int))]) (λg=>x.l.length-g.1) (⟨0,by omega,by simp⟩) ?_;rintro⟨k,aG,hC⟩ cH;try dsimp only
 apply(h0);refine U ?_ ?_<;>intro aQ;·
  have O:=bJ (l:=x.l) (k:=k) 0 D;apply j9∘aKv∘jG∘rS∘Y2;apply cA (Z:=[_,_,_]) (j:=3) (a9:=18) rfl rfl aB rfl aY rfl;·intro eR;replace eR:=bB eR;exact(lD) MI
  intro h8;apply(b9);refine U ?_ ?_<;>intro bL;·apply(FV);refine lG L R ?_;exact⟨by rw[decide_eq_false (λh=>by have:=h _ (hV O);omega)],rfl,rfl⟩
  apply(mU);exact hP (⟨k+1,by omega,λn b1=>by
  rw[ME,O]at b1;simp only[aCt,Hw,aCv]at b1;rcases b1 with h|h;·exact hC n h
  ·omega⟩) gW bV bA eN hO
 apply(SJ);refine lG L R ?_;exact⟨by rw[decide_eq_true (λn b1=>by rw[DK D]at hC;exact hC n b1)],rfl,rfl⟩
def DW(s:gP):Prop:=(0<=s.hX/\s.hX<=255)/\0<=s.target/\(-1000000<=s.offset/\s.offset<=1000000)/\(-1000000<=s.GV/\s.GV<=1000000)/\(0<=s.error/\s.error<=1000000)/\(0<=s.H5/\s.H5<=1000000)/\(1<=s.Hf/\s.Hf<=1000000)
instance(s:gP):Decidable (DW s):=by unfold DW;infer_instance
def p5(s:gP):Int:=if¬(1<=s.kind/\s.kind<=6)then 5 else if DW s then 0 else 1
def a62(s:gP)(L:aR)(R:aO):
 aM prog 97 [s.val].toArray L R (λv E G=>v=.int .i64 (p5 s)/\L=E/\R=G):=by
 refine b6 44 call97 func97 rfl rfl rfl ?_;apply(dB);intro gL;apply(dM);refine eZ (a8 (bK (fR (bK (c2 ?_)))));apply fD∘GU;rintro v E G ⟨i1,rfl,rfl,a8R⟩;replace a8R:=a8R.symm;subst a8R;refine FL (aN:=1) (len:=1) (cap:=1) (rows:=[a1 s.kind]) (eU:=[]) rfl aW aW (λr M=>by rw[List.mem_singleton.1 M];rfl) aW rfl e8 ?_;refine cD rfl (Qo 1 6 ⟨some ⟨i1,0,none⟩,1,[s.kind]⟩ _ _ mA g2) ?_;apply XI∘w8;refine U ?_ ?_<;>intro aQ;·
  apply(uL);refine lH (E:=L) (G:=R) OZ ?aP ?dI ?bO;case aP=>exact⟨by simp at aQ;rw[p5,if_pos D],rfl,rfl⟩
  case dI=>exact bA
  case bO=>exact λr h=>aT (by simp[h])
 apply LB∘GU;rintro v E G ⟨n3,rfl,rfl,a8w⟩;replace a8w:=a8w.symm;subst a8w;refine FL (aN:=1) (len:=1) (cap:=1) (rows:=[a1 s.hX]) (eU:=[]) rfl aW aW (λr M=>by rw[List.mem_singleton.1 M];rfl) aW rfl e8 ?_;refine cD rfl (Qo 0 255 ⟨some ⟨n3,0,none⟩,1,[s.hX]⟩ _ _ mA g2) ?_;apply(JR);refine HC (k:=15) aY (λkL=>?_) (λkL=>?_);·
  replace kL:=bB kL;iterate 3 refine RU rfl rfl ?_
  apply Ec∘dE;·
   skip
   (iterate 7 refine RU rfl rfl ?_);apply Ec∘w8;refine vS rfl ?_;apply(uL);refine lH (E:=L) (G:=R) OZ ?aP ?dI ?bO;case aP=>exact⟨by rw[p5,if_neg Og,if_neg aDa],rfl,rfl⟩
   case dI=>exact bA
   case bO=>exact λr h=>aT (by simp[h])
 replace kL:=bB kL;refine kB xS rfl rfl ?_;apply(Yq);refine kB E0 rfl rfl ?_;apply Ec∘dE;refine HC (k:=20) aY (λpE=>?_) (λpE=>?_);·
  replace pE:=bB pE;iterate 7 refine RU rfl rfl ?_
  apply Ec∘w8;refine vS rfl ?_;apply(uL);refine lH (E:=L) (G:=R) OZ ?aP ?dI ?bO;case aP=>exact⟨by rw[p5,if_neg Og,if_neg aDa],rfl,rfl⟩
  case dI=>exact bA
  case bO=>exact λr h=>aT (by simp[h])
 replace pE:=bB pE;refine kB xS rfl rfl ?_;apply(Yq);refine kB xS rfl rfl ?_;apply(Yq);refine US Xe rfl rfl ?_;rintro v E G ⟨ZI,rfl,rfl,Fa⟩;replace Fa:=Fa.symm;subst Fa;refine FL (aN:=1) (len:=2) (cap:=2) (rows:=[a1 s.offset,a1 s.GV]) (eU:=[]) rfl aW aW (λr M=>by simp only[sW,vR,or_false]at M;rcases M with rfl|rfl<;>rfl) aW rfl e8 ?_;refine It rfl (Qo (-1000000) 1000000 ⟨some ⟨ZI,0,none⟩,2,[s.offset,s.GV]⟩ _ _ mA g2) rfl rfl ?_;rintro v E G ⟨rfl,rfl,rfl⟩;refine kB (NQ rfl) rfl rfl ?_;apply Ec∘w8;refine U ?_ ?_<;>intro bL;·
  apply(uL);refine lH (E:=L) (G:=R) OZ ?aP ?dI ?bO;case aP=>exact⟨by rw[p5,if_neg Og,if_neg aDa],rfl,rfl⟩
  case dI=>exact bA
  case bO=>exact λr h=>aT (by simp[h])
 apply dC∘j0;refine hT Xe rfl ?_;rintro v E G ⟨b1g,rfl,rfl,a8H⟩;replace a8H:=a8H.symm;subst a8H;refine FL (aN:=1) (len:=2) (cap:=2) (rows:=[a1 s.error,a1 s.H5]) (eU:=[]) rfl aW aW (λr M=>by simp only[sW,vR,or_false]at M;rcases M with rfl|rfl<;>rfl) aW rfl e8 ?_;refine cD rfl (Qo 0 1000000 ⟨some ⟨b1g,0,none⟩,2,[s.error,s.H5]⟩ _ _ mA g2) ?_;apply(JR);refine HC (k:=37) aY (λhM=>?_) (λhM=>?_);·
  replace hM:=bB hM;iterate 5 refine RU rfl rfl ?_
  apply Ec∘w8;refine vS rfl ?_;apply(uL);refine lH (E:=L) (G:=R) OZ ?aP ?dI ?bO;case aP=>exact⟨by rw[p5,if_neg Og,if_neg aTe],rfl,rfl⟩
  case dI=>exact bA
  case bO=>exact λr h=>aT (by simp[h])
 replace hM:=bB hM;refine kB xS rfl rfl ?_;apply(Yq);refine US a4l rfl rfl ?_;rintro v E G ⟨aLs,rfl,rfl,S8⟩;replace S8:=S8.symm;subst S8;refine FL (aN:=1) (len:=1) (cap:=1) (rows:=[a1 s.Hf]) (eU:=[]) rfl aW aW (λr M=>by rw[List.mem_singleton.1 M];rfl) aW rfl e8 ?_;refine It rfl (Qo 1 1000000 ⟨some ⟨aLs,0,none⟩,1,[s.Hf]⟩ _ _ mA g2) rfl rfl ?_;rintro v E G ⟨rfl,rfl,rfl⟩;refine kB (NQ rfl) rfl rfl ?_;apply Ec∘w8;refine U ?_ ?_<;>intro cC;·
  apply(uL);refine lH (E:=L) (G:=R) OZ ?aP ?dI ?bO;case aP=>exact⟨by rw[p5,if_neg Og,if_neg aTe],rfl,rfl⟩
  case dI=>exact bA
  case bO=>exact λr h=>aT (by simp[h])
 refine eP (hI (a8 (bK (c2 ?_))));apply(vB);refine lH (E:=L) (G:=R) OZ ?aP ?dI ?bO;case aP=>exact⟨by simp at aQ kL bL hM cC;rw[p5,if_neg D,if_pos (by rw[DW];omega)],rfl,rfl⟩
 case dI=>exact bA
 case bO=>exact λr h=>aT (by simp[h])
def aUD(k:Int)(L:aR)(R:aO):
 aM prog 98 [.int .i64 k].toArray L R (λv E G=>v=.bool (decide (k=4\/k=5\/k=6))/\L=E/\R=G):=by
 refine b6 13 call98 func98 rfl rfl rfl ?_;apply LA∘FX∘sG;apply cA (Z:=[_,_]) (j:=2) (a9:=5) rfl rfl aB rfl aY rfl;·intro fQ;replace fQ:=bB fQ;exact(cE) KV
 intro mK;apply(dE);apply cA (Z:=[_,_]) (j:=6) (a9:=9) rfl rfl aB rfl aY rfl;·intro kF;replace kF:=bB kF;exact(cE) KV
 intro IJ;apply(uK);refine lG L R ?_;exact⟨by refine congrArg Value.bool ?_;rw[Bv];simp;omega,rfl,rfl⟩
def YS(s:gP)(m:eE)(t:Int):Int:=(s.H5*(t-m.time)+999).tdiv 1000
def BI(s:gP)(m:eE)(t:Int):Prop:=p5 s≠0\/m.k5<0\/m.EW=kH\/t<m.time\/s.Hf<t-m.time
instance(s:gP)(m:eE)(t:Int):Decidable (BI s m t):=by unfold BI;infer_instance
def a04(s:gP)(m:eE)(t:Int):bC:=⟨m.EW.bU-YS s m t,m.EW.bW+YS s m t⟩
def v6(s:gP)(m:eE)(t:Int):bC:=
 if BI s m t then kH else if s.kind=4\/s.kind=5\/s.kind=6 then m.EW
 else if s.kind=1\/s.kind=2 then⟨max (a04 s m t).bU 0,max (a04 s m t).bW 0⟩else a04 s m t
def v2(m:eE):Prop:=(0<=m.time/\m.time<=2147483648)/\(-1125899906842624<=m.EW.bU/\m.EW.bU<=1125899906842624)/\(-1125899906842624<=m.EW.bW/\m.EW.bW<=1125899906842624)
def a1k{s:gP}{m:eE}{t:Int}(h:¬BI s m t):(0<=s.H5*(t-m.time)/\s.H5*(t-m.time)<=1000000000000)/\0<=YS s m t/\YS s m t<=1000000001:=by
 rw[BI]at h;have W:p5 s=0:=by omega
 rw[p5]at W;split at W;·omega
 split at W;·
  rename_i aH;rw[DW]at aH;have O:0<=t-m.time/\t-m.time<=1000000:=by omega
  have X:0<=s.H5/\s.H5<=1000000:=by omega
  have aU:0<=s.H5*(t-m.time):=CG X.1 O.1;have cK:s.H5*(t-m.time)<=1000000*1000000:=MF X.2 O.2 O.1 aW;refine⟨⟨aU,by omega⟩,?_⟩;rw[YS,GY D];omega
 ·omega
def R4{a b:bC}:a=b↔a.bU=b.bU/\a.bW=b.bW:=by cases a;cases b;simp
def aJR(s:gP)(m:eE)(t:Int)(L:aR)(R:aO)(a3:v2 m)(fH:0<=t/\t<=2147483648):
 aM prog 33 [s.val,m.val,.int .i64 t].toArray L R (λv E G=>v=(v6 s m t).val/\L=E/\R=G):=by
 rw[v2]at a3;refine b6 83 call33 func33 rfl rfl rfl ?_;apply(dB);intro eS;apply(iV);intro eD;apply(dZ);intro i1;apply(j8);refine cD rfl (PK _ _) ?_;apply(dZ);intro o0;apply(rT);refine aI q1 rfl ?_;refine cD rfl (a62 s _ _) ?_;apply(p9);apply cA (Z:=[_,_,_]) (j:=3) (a9:=14) rfl rfl aB rfl aY rfl;·exact Nz
 intro h8;apply(dE);apply cA (Z:=[_,_,_,_]) (j:=8) (a9:=19) rfl rfl aB rfl aY rfl;·intro gH;replace gH:=bB gH;apply z6∘nZ;refine aI (a01 Kh rfl rfl) rfl ?_;exact g4
 intro uY;apply(dE);apply cA (Z:=[_,_,_,_]) (j:=14) (a9:=25) rfl rfl aB rfl aY rfl;·intro pF;replace pF:=bB pF;exact(cE) O1
 intro Q4;apply(dE);apply cA (Z:=[_,_,_,_,_,_,_]) (j:=20) (a9:=31) rfl rfl aB rfl aY rfl;·intro J4;replace J4:=bB J4;exact(NF∘j3) a3Y
 intro Vh;apply(b9);refine U ?_ ?_<;>intro aQ;·
  apply dC∘nZ∘CR;refine bQ L R kS ?_;have y9:BI s m t:=by simp[kH]at aQ;rw[BI,R4];simp only[kH];omega
  exact Nf
 have y9:¬BI s m t:=by simp[kH]at aQ;rw[BI,R4];simp only[kH];omega
 obtain⟨EL,y8⟩:=a1k y9;rw[YS]at y8;apply(D5);refine cD rfl (aUD _ _ _) ?_;apply(b9);refine U ?_ ?_<;>intro bL;·apply dC∘z6∘CR;refine bQ L R kS ?_;exact⟨by rw[v6,if_neg y9,if_pos MH],rfl,rfl⟩
 apply e0∘gK∘fD∘j3∘L5∘k3∘L6∘mO∘BM∘j3∘BM∘k3∘A4∘dZ;intro jR;apply F0∘sG;apply cA (Z:=[_,_,_]) (j:=3) (a9:=69) rfl rfl aB rfl aY rfl;·exact Wz
 intro h8;apply(b9);refine U ?_ ?_<;>intro cC;·apply eB∘fD;refine aI E1 rfl ?_;apply(fD);refine aI E1 rfl ?_;apply vZ∘NB∘JP;refine bQ L R kS ?_;exact⟨by rw[v6,if_neg y9,if_neg MH,if_pos D];try rfl,rfl,rfl⟩
 apply e0∘JP;refine bQ L R kS ?_;exact⟨by rw[v6,if_neg y9,if_neg MH,if_neg D];try rfl,rfl,rfl⟩
def PA(l:List bC)(z:bC)(k:Nat):bC:=(l.take k).foldl (λo x=>⟨max o.bU x.bU,min o.bW x.bW⟩) z
def a58{l:List bC}{z:bC}{k:Nat}{x:bC}(h:l[k]?=some x):PA l z (k+1)=⟨max (PA l z k).bU x.bU,min (PA l z k).bW x.bW⟩:=by rw[PA,ME,h,Bu];rfl
def yM(x y:bC):bC:=⟨max x.bU y.bU,min x.bW y.bW⟩
def JA(x y:bC):bC:=if(yM x y).bW<(yM x y).bU then kH else yM x y
def aEO{x y:bC}:PA [x,y] x 2=yM x y:=by simp[PA,yM]
def aW8(x y:bC)(p:a4 bC)(L:aR)(R:aO)(aP:aL (sU p) R)(W:p.l=[x,y]):
 aM prog 195 [p.val].toArray L R (λv E G=>v=.tuple #[(JA x y).val,.bool (decide ((yM x y).bU<=(yM x y).bW))]/\L=E/\R=G):=by
 have eI:p.l.length=2:=by rw[W];rfl
 have gM:p.l[0]?=some x:=by rw[W];rfl
 refine b6 40 call195 func195 rfl rfl rfl ?_;apply dC∘dZ;intro eH;apply F1∘pR∘nJ;refine U ?_ ?_<;>intro aQ;·apply(dC);refine cD rfl (PK _ _) ?_;apply jZ∘nG∘A3;refine bQ L R a3M ?_;exact absurd aQ D
 apply D9∘Bk∘LI;intro eD;apply rT∘BN;refine dS [(2,.pointer _),(4,.pointer _),(14,.slice _ _ _),(15,.int _ _),(16,.int _ _)] bV λfK=>?_;refine k2 ([6]++cN 16 17) ((⟨λg=>[(16,.int .i64 ((g.1:Nat):Int))],λg=>⟨eD,(PA p.l x g.1).cells,90⟩::⟨eH,[.int .i64 0,.int .i64 0],90⟩::L,λ_=>R,λg=>p.l.length-g.1⟩:fB {g:Nat//g<=p.l.length})) (⟨0,by omega⟩) ?_;rintro⟨k,aG⟩ cH;try dsimp only
 apply(h0);refine U ?_ ?_<;>intro bL;·have O:=bJ (l:=p.l) (k:=k) default D;have J7:=a58 (z:=x) O;apply j9∘aKv∘LI;intro i1;apply jZ∘b9;refine iS N [27,28,29] [0,1,2,3,4,5,6,7,8,9,10] [11,12,13] (_) _ dO bI bA Ch ?_;apply(PY);refine fP E1 rfl rfl rfl rfl ?_;apply mH∘FZ;refine m2 KT rfl rfl rfl rfl ?_;apply VS∘lA∘Be∘PV;exact hP ⟨k+1,by omega⟩ gW bV (by dsimp only;rw[J7];exact Cq (Im (Cp _))) eN hO
 obtain rfl:k=p.l.length:=by omega
 have Tw:PA p.l x p.l.length=yM x y:=by rw[eI,W];exact aEO
 rw[Tw];apply xN∘j0∘HS;refine U ?_ ?_<;>intro cC;·apply(dC);refine cD rfl (PK _ _) ?_;exact aTp
 exact aSL
end
section
def aIB(h:A->B:=by exact aI pL rfl):=h
def aM.a2J{P:Program}{f:FuncId}{args:Array Value}{A:aR}{R S:aO}{u:Value}
 (eL:∀w,∀Z:Nat->Prop,sZ (A++[]) Z R w->∀s∈S,sB w (λb=>Z b\/∃e∈A,e.b=b) s)
 (h:aM P f args [] (S++R) (λv E G=>v=u/\[]=E/\S++R=G)):aM P f args A R (λv E G=>v=u/\A=E/\R=G):=by have X:=aM.Mn (S:=S) (Post:=λv E=>v=u/\[]=E) (zZ.aD (L:=A)) eL (h.mono λv E G ⟨k7,lJ,m4⟩=>⟨⟨k7,lJ⟩,m4⟩);exact aSe
attribute [local irreducible] cQ dF dV aM cP eC e5 e1 e2 e6 eX e4 J.L
def aZe(x:a4 Int)(a:Int)(L:aR)(R:aO)(K:aL (dU x) R):
 aM prog 235 [x.val,.int .i64 a].toArray L R (λv E G=>∃r:Int,v=.int .i64 r/\(0<=r↔a∈x.l)/\L=E/\R=G):=by
 refine G9 call235 K λJ2=>?_;refine b6 19 call235 func235 rfl rfl rfl ?_;apply PU∘BN;refine dS [(0,.slice _ _ _),(1,.int _ _),(7,.int _ _),(8,.int _ _)] bV λfK=>?_;refine gY ([4,5]++cN 8 11) (λg:{k:Nat//k<=x.l.length/\∀j:Nat,j<k->x.l.getD j 0≠a}=>[(8,.int .i64 ((g.1:Nat):Int))]) (λg=>x.l.length-g.1) (⟨0,by omega,λj a6=>by omega⟩) ?_;rintro⟨k,aG,hC⟩ cH;try dsimp only
 apply(h0);refine U ?_ ?_<;>intro aQ;·
  have b7:=bJ (l:=x.l) (k:=k) 0 D;apply oJ∘rS∘h9∘aIB∘jG∘nJ;refine U ?_ ?_<;>intro bL;·apply SM∘ON;refine cX L R ?_;exact⟨k,rfl,⟨λ_=>by rw[bL];exact hV b7,λ_=>by omega⟩,rfl,rfl⟩
  apply(mU);exact hP (⟨k+1,by omega,λj a6=>by
  rcases hF j k with h|h;·exact hC j h
  ·(obtain rfl:j=k:=by omega);exact λh=>bL h.symm⟩) gW bV bA eN hO
 apply(D8);refine cX L R ?_;refine⟨-1,rfl,⟨λh=>by omega,λh=>?_⟩,rfl,rfl⟩;obtain⟨j,a6,rfl⟩:=Hy h;have:=hC j D;rw[m8,DN a6]at this;exact absurd rfl this
def aVE(x:a4 Int)(a:Int)(L:aR)(R:aO)(K:aL (dU x) R):
 aM prog 169 [x.val,.int .i64 a].toArray L R (λv E G=>v=.bool (decide (a∈x.l))/\L=E/\R=G):=by refine b6 9 call169 func169 rfl rfl rfl ?_;apply LA∘j8∘h9;refine dT rfl (aZe x a _ _ K) rfl ?_;exact aSv
def aZE(l:a4 Int)(n:Int)(L:aR)(R:aO)(aX:aL (dU l) R):
 aM prog 50 [l.val,.int .i64 n].toArray L R (λv E G=>v=.bool (decide (n∈l.l))/\L=E/\R=G):=by
 refine m1 call50 aX λj1=>?_;refine b6 18 call50 func50 rfl rfl rfl ?_;apply VY∘nP;refine dS [(0,.slice _ _ _),(1,.int _ _),(5,.int _ _)] bV λfK=>?_;refine gY (cN 4 14) (λg:{k:Nat//k<=l.l.length/\∀j:Nat,j<k->l.l.getD j 0≠n}=>[(5,.int .i64 ((g.1:Nat):Int))]) (λg=>l.l.length-g.1) (⟨0,by omega,λj a6=>by omega⟩) ?_;rintro⟨k,aG,hC⟩ cH;try dsimp only
 apply(uM);refine U ?_ ?_<;>intro aQ;·
  have wA:=bJ (l:=l.l) (k:=k) 0 D;apply j9∘h9∘aIB∘jG∘cE∘nJ;refine U ?_ ?_<;>intro bL;·apply(FV);refine lG L R ?_;exact⟨by rw[decide_eq_true (by rw[<-bL];exact hV wA)],rfl,rfl⟩
  apply(mT);exact hP (⟨k+1,by omega,λj a6=>by
  rcases hF j k with h|h;·exact hC j h
  ·(obtain rfl:j=k:=by omega);exact bL⟩) gW bV bA eN hO
 apply(SJ);refine lG L R ?_;exact⟨by
 rw[decide_eq_false];intro a3;obtain⟨j,a6⟩:=List.mem_iff_getElem?.1 a3;have a9O:=(List.getElem?_eq_some_iff.1 a6).1;exact hC j D (getD_some a6),rfl,rfl⟩
end
section
attribute [local irreducible] cQ dF dV aM cP eC e5 e1 e2 e6 eX e4 J.L
def aJ9(m:h4):∃A,lB m A:=by refine⟨(List.range (M4 m).length).map λi=>@decide (∃j:Nat,j<(M4 m).length/\(M4 m).getD j false=true/\sY m j i) (Classical.propDecidable _),by simp,λi aE=>?_⟩;rw[m8,pA,KP aE];exact⟨λh=>@of_decide_eq_true _ (Classical.propDecidable _) h,λh=>@decide_eq_true _ (Classical.propDecidable _) h⟩
end
section
def aKC(h:A->B:=by exact aI aSz rfl):=h
def aJ5{b:Nat}{x y:bC}:(⟨.own b 2 [],[x,y]⟩:J bC).ok 2 bC.cells:=⟨by simp[bC.cells],by simp,by simp[maxLen],by simp[bC.cells]⟩
def aVI{A:aR}{R:aO}{b:Nat}{x y:bC}{T:TypeId}(kG:(⟨b,[.int .i64 x.bU,.int .i64 x.bW,.int .i64 y.bU,.int .i64 y.bW],T⟩:bN)∈A):
 aM prog 195 [.slice (some ⟨b,0,none⟩) 2 2].toArray A R (λv E G=>v=.tuple #[(JA x y).val,.bool (decide ((yM x y).bU<=(yM x y).bW))]/\A=E/\R=G):=
 aM.a2J (S:=[sU (⟨.own b 2 [],[x,y]⟩:J bC).V]) (λw Z b4 s aH=>by
  rw[List.mem_singleton.1 aH]
  exact VF (T:=T) b4 (λe W=>by
   have uU:e∈[(⟨b,[.int .i64 x.bU,.int .i64 x.bW,.int .i64 y.bU,.int .i64 y.bW],T⟩:bN)]:=W
   rw[List.mem_singleton.1 uU];exact kG) aJ5 bD aW e8) (aW8 x y (⟨.own b 2 [],[x,y]⟩:J bC).V [] _ mA rfl)
attribute [local irreducible] cQ dF dV aM cP eC e5 e1 e2 e6 eX e4 J.L
structure PH where
 dD:List bC
 S6:List Bool
 AJ:List Bool
def Kb(hZ:PH)(l:List gP)(t:Int)(x:eE):bC:=yM (hZ.dD.getD (l.getD x.k5.toNat default).target.toNat default) (v6 (l.getD x.k5.toNat default) x t)
def Qc(n:Nat)(kind:Int)(l:List gP)(x:eE):Prop:=(0<=x.k5/\x.k5<l.length)/\(l.getD x.k5.toNat default).kind=kind/\0<=(l.getD x.k5.toNat default).target/\(l.getD x.k5.toNat default).target<n
instance(n:Nat)(kind:Int)(l:List gP)(x:eE):Decidable (Qc n kind l x):=by unfold Qc;infer_instance
def E8(n:Nat)(kind:Int)(lost:bC)(t:Int)(l:List gP)(hZ:PH)(x:eE):PH:=
 if¬(Qc n kind l x/\hZ.S6.getD (l.getD x.k5.toNat default).target.toNat false=false)then hZ
 else if(Kb hZ l t x).bU<=(Kb hZ l t x).bW then⟨hZ.dD.set (l.getD x.k5.toNat default).target.toNat (Kb hZ l t x),hZ.S6,hZ.AJ⟩
 else⟨hZ.dD.set (l.getD x.k5.toNat default).target.toNat lost,hZ.S6.set (l.getD x.k5.toNat default).target.toNat true,hZ.AJ.set x.k5.toNat true⟩
def NM(aA:List bC)(lost:bC)(kind:Int)(l:List gP)(m:List eE)(t:Int)(k:Nat):PH:=
 (m.take k).foldl (E8 aA.length kind lost t l) ⟨aA,List.replicate aA.length false,List.replicate l.length false⟩
def aZ8{n:Nat}{kind:Int}{lost:bC}{t:Int}{l:List gP}{hZ:PH}{x:eE}:
 (E8 n kind lost t l hZ x).dD.length=hZ.dD.length/\(E8 n kind lost t l hZ x).S6.length=hZ.S6.length/\(E8 n kind lost t l hZ x).AJ.length=hZ.AJ.length:=by
 rw[E8];split;·exact⟨rfl,rfl,rfl⟩
 split<;>simp
def a6b{aA:List bC}{lost:bC}{kind:Int}{l:List gP}{m:List eE}{t:Int}{k:Nat}:
 (NM aA lost kind l m t k).dD.length=aA.length/\(NM aA lost kind l m t k).S6.length=aA.length/\(NM aA lost kind l m t k).AJ.length=l.length:=by
 rw[NM];generalize m.take k=DG;have:∀(DG:List eE) (hZ:PH),(hZ.dD.length=aA.length/\hZ.S6.length=aA.length/\hZ.AJ.length=l.length)->
  ((DG.foldl (E8 aA.length kind lost t l) hZ).dD.length=aA.length/\(DG.foldl (E8 aA.length kind lost t l) hZ).S6.length=aA.length/\(DG.foldl (E8 aA.length kind lost t l) hZ).AJ.length=l.length):=by
  intro DG;induction DG with
  |nil=>intro hZ h;exact h
  |cons x DG c6=>intro hZ h;exact c6 _ (by have:=aZ8 (n:=aA.length) (kind:=kind) (lost:=lost) (t:=t) (l:=l) (hZ:=hZ) (x:=x);omega)
 exact this DG _ g2
def aKh{aA:List bC}{lost:bC}{kind:Int}{l:List gP}{m:List eE}{t:Int}{k:Nat}{x:eE}(h:m[k]?=some x):
 NM aA lost kind l m t (k+1)=E8 aA.length kind lost t l (NM aA lost kind l m t k) x:=by rw[NM,ME,h];simp[NM]
def RV(b:List Bool)(k:Nat):List Int:=((List.range k).filter λi=>b.getD i false).map Int.ofNat
def aZt{b:List Bool}{k:Nat}:RV b (k+1)=if b.getD k false=true then RV b k++[(k:Int)]else RV b k:=by
 rw[RV,IX,List.filter_append,u1];split;·rename_i h;simp only[RV,List.filter_cons,List.filter_nil];rw[if_pos h];rfl
 ·rename_i h;simp only[RV,List.filter_cons,List.filter_nil];rw[if_neg h];simp
def M2(aA:List bC)(lost:bC)(kind:Int)(l:List gP)(m:List eE)(t:Int):PH:=NM aA lost kind l m t m.length
def aWM(aA:a4 bC)(lost:bC)(kind t:Int)(l:a4 gP)(m:a4 eE)(L:aR)(R:aO)(gA:aL (sU aA) R)(aX:aL (CI l) R)(a3:aL (gT m) R)
 (AP:aA.l.length<=1000) (j1:l.l.length<=1000) (QQ:m.l.length<=1000) (bH:∀x∈m.l,v2 x) (fH:0<=t/\t<=2147483648):
 aM prog 117 [aA.val,lost.val,.int .i64 kind,l.val,m.val,.int .i64 t].toArray L R
  (λw E G=>∃(p:J bC) (q:J Int),w=.tuple #[p.val,q.val]/\(p.ok 2 bC.cells/\q.ok 1 a1)/\p.l=(M2 aA.l lost kind l.l m.l t).dD/\q.l=RV (M2 aA.l lost kind l.l m.l t).AJ l.l.length/\q.L 3 a1++(p.L 90 bC.cells++L)=E/\R=G):=by
 refine b6 123 call117 func117 rfl rfl rfl ?_;apply(dB);intro o0;apply wI∘LF;refine hT aQt rfl ?_;rintro v E G ⟨yD,rfl,aAa,rfl,rfl⟩;apply(BK);have b3z:(⟨yD,aA.l⟩:J bC).l.length<=1000:=AP;apply eB∘pR∘GS;rintro v E G ⟨xB,rfl,rfl,k8⟩;replace k8:=k8.symm;subst k8;apply(BK);refine eM Ib ?_;apply eB∘pR∘GS;rintro v E G ⟨LN,rfl,rfl,QG⟩;replace QG:=QG.symm;subst QG;apply(HR);refine eM Ib ?_;apply eB∘BN;refine dS [(2,.int _ _),(3,.slice _ _ _),(5,.int _ _),(7,.pointer _),(14,.slice _ _ _),(15,.slice _ _ _),(16,.slice _ _ _),(33,.slice _ _ _),(34,.int _ _),(35,.int _ _)] bV λfK=>?_;refine k2 ([18,19,20,21]++cN 35 73) ((⟨λg=>[(35,.int .i64 ((g.1.1:Nat):Int))],λg=>(⟨.own LN l.l.length [],g.1.2.AJ⟩:J Bool).L 4 jJ++((⟨.own xB aA.l.length [],g.1.2.S6⟩:J Bool).L 4 jJ++((⟨yD,g.1.2.dD⟩:J bC).L 90 bC.cells++(⟨o0,lost.cells,90⟩::L))),λ_=>R,λg=>m.l.length-g.1.1⟩:fB {g:Nat×PH//g.1<=m.l.length/\g.2=NM aA.l lost kind l.l m.l t g.1})) (⟨(0,⟨aA.l,List.replicate aA.l.length false,List.replicate l.l.length false⟩),by dsimp only;omega,rfl⟩) ?_;rintro⟨⟨k,⟨pC,Z,B⟩⟩,rG,fO⟩ cH;try dsimp only
 dsimp only at rG fO;obtain⟨k6,iX,OX⟩:=a6b (aA:=aA.l) (lost:=lost) (kind:=kind) (l:=l.l) (m:=m.l) (t:=t) (k:=k);rw[<-fO]at k6 iX OX;dsimp only at k6 iX OX;have a9Q:(⟨yD,pC⟩:J bC).ok 2 bC.cells:=J.o6 bD aAa k6;have b3U:(⟨.own xB aA.l.length [],Z⟩:J Bool).ok 1 jJ:=by have:=ED (f:=jJ) (aN:=1) (b:=xB) (n:=aA.l.length) (x:=false) BP DP;exact J.o6 BP this (by simp;exact iX)
 have b9I:(⟨.own LN l.l.length [],B⟩:J Bool).ok 1 jJ:=by have:=ED (f:=jJ) (aN:=1) (b:=LN) (n:=l.l.length) (x:=false) BP DP;exact J.o6 BP this (by simp;exact OX)
 apply(h0);refine U ?_ ?_<;>intro aQ;·
  have B6:=bJ (l:=m.l) (k:=k) default D;have Ha:=bH _ (hV B6);have oM:=aKh (aA:=aA.l) (lost:=lost) (kind:=kind) (l:=l.l) (t:=t) B6;rw[<-fO]at oM;obtain⟨x,K⟩:∃x,x=m.l.getD k default:=⟨_,rfl⟩;rw[<-K]at B6 Ha oM;apply(j9);refine aI pL rfl ?_;apply(LG);intro JX;apply rT∘qO;apply cA (Z:=[_,_,_,_,_]) (j:=3) (a9:=42) rfl rfl aB rfl aY rfl;·intro eR;replace eR:=bB eR;exact(fD∘VQ) g4
  intro h8;apply(b9);refine U ?_ ?_<;>intro bL;·refine mD (mF (mB (a8 (c2 ?_))));apply(s6);exact eO ⟨(k+1,⟨pC,Z,B⟩),by dsimp only;omega,by rw[oM,E8,if_pos (λh=>by have:=h.1.1;omega)]⟩
  have wA:=bJ (l:=l.l) (k:=x.k5.toNat) default D;obtain⟨s,aH⟩:∃s,s=l.l.getD x.k5.toNat default:=⟨_,rfl⟩;rw[<-aH]at wA;have QT:Qc aA.l.length kind l.l x↔((0<=x.k5/\x.k5<l.l.length)/\s.kind=kind/\0<=s.target/\s.target<aA.l.length):=by rw[aH];exact Iff.rfl
  rw[E8,Kb,<-aH]at oM;dsimp only at oM;apply e0∘yY;refine aI aDi rfl ?_;refine aI Ck rfl ?_;apply(dZ);intro C3;apply rT∘gK∘p9;apply cA (Z:=[_,_,_]) (j:=4) (a9:=58) rfl rfl aB rfl aY rfl;·intro hD;replace hD:=bB hD;exact O1
  intro wP;apply(dE);apply cA (Z:=[_,_,_,_,_]) (j:=9) (a9:=63) rfl rfl aB rfl aY rfl;·intro mW;replace mW:=bB mW;exact(fD∘VQ) g4
  intro At;apply(dE);apply cA (Z:=[_,_,_,_,_]) (j:=16) (a9:=70) rfl rfl aB rfl aY rfl;·intro yA;replace yA:=bB yA;have a8k:=bJ (l:=Z) (k:=s.target.toNat) false D;apply(yY);refine aI aR9 rfl ?_;refine aI (tK N ((⟨.own xB aA.l.length [],Z⟩:J Bool)) rfl rfl rfl cF bR bD bR aB) rfl ?_;exact g4
  intro a2H;apply(b9);refine U ?_ ?_<;>intro cC;·refine mD (mF (mB (a8 (c2 ?_))));apply(s6);exact eO ⟨(k+1,⟨pC,Z,B⟩),by dsimp only;omega,by rw[oM,if_pos (λh=>by have O:=QT.1 h.1;have X:=h.2;simp only[X]at cC;simp at cC;omega)]⟩
  have b2g:=bJ (l:=pC) (k:=s.target.toNat) default D;have y9:Z.getD s.target.toNat false=false:=by simpa using cC.2
  rw[if_neg (λh=>h ⟨QT.2 D,y9⟩)]at oM;apply(wW);refine gZ N [0,1,2,3,4,5,6,7,8,9,10,11,12,13,14,15,16] _ dO bI hA ?_;refine bE oS rfl rfl rfl ?_;apply(g7);refine bE aSz rfl rfl rfl ?_;refine bE (a57 (row:=[_,_]) N ((⟨yD,pC⟩:J bC)) rfl rfl rfl cF bR bD bR aB aB) rfl rfl rfl ?_;refine bE q1 rfl rfl rfl ?_;apply KI∘hK;refine lW rfl (aJR s x t _ _ Ha fH) ?_;refine uN aCJ rfl rfl rfl ?_;rintro v E G ⟨b8S,rfl,rfl,a8Y⟩;replace a8Y:=a8Y.symm;subst a8Y;apply(gJ);refine lW rfl (aVI (x:=pC.getD s.target.toNat default) (y:=v6 s x t) (.head _)) ?_;refine bE iL rfl rfl rfl ?_;refine bE q2 rfl rfl rfl ?_;refine bE q2 rfl rfl rfl ?_;apply(qH);intro AG;apply(uC);refine bE (FB aY) rfl rfl rfl ?_;apply L4∘SK;refine U ?_ ?_<;>intro dX;·have a8k:=bJ (l:=Z) (k:=s.target.toNat) false D;have b10:=bJ (l:=B) (k:=x.k5.toNat) false D;refine iS N [93,94,95,96,97,98] [0,1,2,3,4,5,6] [7,8,9,10,11] ([bN.mk C3 _ _,bN.mk JX _ _,bN.mk o0 _ _]) _ dO bI bA (by(repeat(first|apply List.Sublist.cons (a:=bN.mk AG _ _)|apply List.Sublist.cons (a:=bN.mk Eh _ _)|apply List.Sublist.cons (a:=bN.mk NT _ _)|apply List.Sublist.cons_cons));exact rH _) ?_;refine m2 oS rfl rfl rfl rfl ?_;apply(FZ);refine m2 oS rfl rfl rfl rfl ?_;apply(FZ);refine fP X6 rfl rfl rfl rfl ?_;apply(oX);refine bE aR9 rfl rfl rfl ?_;refine HN (j5 N ((⟨.own xB aA.l.length [],Z⟩:J Bool)) (true) rfl rfl rfl rfl cF bR bD bR aW aB aB) rfl rfl ?_;rintro v E G ⟨rfl,rfl⟩;apply(gJ);refine bE (jA N ((⟨.own LN l.l.length [],B⟩:J Bool)) _ rfl rfl ((show _=Value.slice _ _ _ from rfl).trans (w6 OX)) rfl bR (i:=x.k5.toNat) dA jC) rfl rfl rfl ?_;refine HN (j5 N ((⟨.own LN l.l.length [],B⟩:J Bool)) (true) rfl rfl rfl rfl cF bR bD bR aW aB aB) rfl rfl ?_;rintro v E G ⟨rfl,rfl⟩;apply(gJ);refine g5 (a8 (c2 ?_));apply yY∘nZ∘aKC;refine jH (R2 N ((⟨yD,pC⟩:J bC)) (lost) rfl rfl rfl rfl cF bR bD bR (KO rfl) aB aB) ?_;rintro v E G ⟨rfl,rfl⟩;apply(uJ);exact eO ⟨(k+1,⟨pC.set s.target.toNat lost,Z.set s.target.toNat true,B.set x.k5.toNat true⟩),by dsimp only;omega,by rw[oM,if_neg Cg]⟩
  refine eP (a8 (c2 ?_));apply yY∘nZ∘aKC;refine jH (R2 N ((⟨yD,pC⟩:J bC)) (JA (pC.getD s.target.toNat default) (v6 s x t)) rfl rfl rfl rfl cF bR bD bR (KO rfl) aB aB) ?_;rintro v E G ⟨rfl,rfl⟩;apply(uJ);exact eO ⟨(k+1,⟨pC.set s.target.toNat (JA (pC.getD s.target.toNat default) (v6 s x t)),Z,B⟩),by dsimp only;omega,by rw[oM,if_pos Cg,JA,if_neg (Int.not_lt.2 Cg)]⟩
 obtain rfl:k=m.l.length:=by omega
 apply n9∘v1∘BN;refine dS [(14,.slice _ _ _),(22,.slice _ _ _),(108,.slice _ _ _),(109,.int _ _),(110,.int _ _)] bV λoA=>?_;refine qK ([22,23,24]++cN 110 11) ((⟨λg=>[(110,.int .i64 ((g.1.1:Nat):Int)),(22,g.1.2.val)],λg=>g.1.2.L 3 a1++((⟨.own LN l.l.length [],B⟩:J Bool).L 4 jJ++((⟨.own xB aA.l.length [],Z⟩:J Bool).L 4 jJ++((⟨yD,pC⟩:J bC).L 90 bC.cells++(⟨o0,lost.cells,90⟩::L)))),λ_=>R,λg=>l.l.length-g.1.1⟩:fB {g:Nat×J Int//g.1<=l.l.length/\g.2.ok 1 a1/\g.2.l=RV B g.1})) (⟨(0,J.nil),by dsimp only;omega,J.iJ,rfl⟩) bV X2 eN ?_;rintro⟨⟨i,q⟩,uB,fW,jU⟩ cH;try dsimp only
 dsimp only at uB fW jU;apply(h0);refine U ?_ ?_<;>intro dY;·
  have b10:=bJ (l:=B) (k:=i) false D;have aNp:=aZt (b:=B) (k:=i);have fT:q.l.length<=1000:=by rw[jU,RV,sV];exact G0 (List.length_filter_le _ _) DQ
  apply(oJ);refine aI (jA N ((⟨.own LN l.l.length [],B⟩:J Bool)) _ rfl rfl ((show _=Value.slice _ _ _ from rfl).trans (w6 OX)) rfl bR (i:=i) dA jC) rfl ?_;refine aI (tK N ((⟨.own LN l.l.length [],B⟩:J Bool)) rfl rfl rfl cF bR bD bR aB) rfl ?_;apply D6∘j8∘dE∘b9;refine U ?_ ?_<;>intro h1;·apply wJ∘GU;rintro v E G ⟨b8F,rfl,rfl,a8u⟩;replace a8u:=a8u.symm;subst a8u;refine hT (pO (f:=a1) (a:=_) N rfl rfl rfl rfl (fW) cF p2 rfl qI) rfl ?_;rintro v E G ⟨b6t,rfl,b4q,rfl,rfl⟩;apply kA∘uJ;exact eO ⟨(i+1,(⟨b6t,_⟩:J Int)),by dsimp only;omega,b4q,by dsimp only;rw[aNp,if_pos Xs,jU]⟩
  apply(mU);exact eO ⟨(i+1,q),by dsimp only;omega,fW,by dsimp only;rw[aNp,if_neg Xs,jU]⟩
 obtain rfl:i=l.l.length:=by omega
 apply M9∘gU∘wI∘DH;refine bQ (q.L 3 a1++((⟨yD,pC⟩:J bC).L 90 bC.cells++L)) R (yK rfl IZ IZ) ?_;exact⟨(⟨yD,pC⟩:J bC),q,by rw[J.val,J.val,k6];try rfl,⟨a9Q,fW⟩,by rw[M2,<-fO],by rw[M2,<-fO];exact jU,rfl,rfl⟩
def aYS(aA:a4 bC)(l:a4 gP)(m:a4 eE)(t:Int)(L:aR)(R:aO)(gA:aL (sU aA) R)(aX:aL (CI l) R)(a3:aL (gT m) R)
 (AP:aA.l.length<=1000) (j1:l.l.length<=1000) (QQ:m.l.length<=1000) (bH:∀x∈m.l,v2 x) (fH:0<=t/\t<=2147483648):
 aM prog 46 [aA.val,l.val,m.val,.int .i64 t].toArray L R
  (λw E G=>∃(p:J bC) (q:J Int),w=.tuple #[p.val,q.val]/\(p.ok 2 bC.cells/\q.ok 1 a1)/\p.l=(M2 aA.l kH 3 l.l m.l t).dD/\q.l=RV (M2 aA.l kH 3 l.l m.l t).AJ l.l.length/\q.L 3 a1++(p.L 90 bC.cells++L)=E/\R=G):=by refine b6 18 call46 func46 rfl rfl rfl ?_;apply dC∘wI∘LF;refine cD rfl (PK _ _) ?_;apply(P0);refine dT rfl (aWM aA kH 3 t l m _ _ gA aX a3 AP j1 QQ bH fH) rfl ?_;rintro v E G ⟨p,q,rfl,⟨O,X⟩,aU,cK,rfl,rfl⟩;apply CO∘wI∘DH;refine bQ (q.L 3 a1++(p.L 90 bC.cells++L)) R (yK rfl IZ IZ) ?_;exact⟨p,q,rfl,⟨O,X⟩,aU,cK,rfl,rfl⟩
end
structure jE where
 kind:Int
 cond:Int
 left:Int
 right:Int
 deriving Inhabited
def jE.cells(x:jE):List Value:=[.int .i64 x.kind,.int .i64 x.cond,.int .i64 x.left,.int .i64 x.right]
structure yW where
 cut:Int
 clear:Int
 Ej:Int
 deriving Inhabited
abbrev yW.val(x:yW):Value:=.agg #[.int .i64 x.cut,.int .i64 x.clear,.int .i64 x.Ej]
structure qM where
 kind:Int
 target:Int
 value:Int
 nF:yW
 deriving Inhabited
def qM.cells(x:qM):List Value:=[.int .i64 x.kind,.int .i64 x.target,.int .i64 x.value,.int .i64 x.nF.cut,.int .i64 x.nF.clear,.int .i64 x.nF.Ej]
abbrev qM.val(x:qM):Value:=.agg #[.int .i64 x.kind,.int .i64 x.target,.int .i64 x.value,.int .i64 x.nF.cut,.int .i64 x.nF.clear,.int .i64 x.nF.Ej]
structure kW where
 jN:a4 jE
 hold:Int
 aJ:a4 Int
 uR:Int
 deriving Inhabited
def kW.cells(x:kW):List Value:=[x.jN.val,.int .i64 x.hold,x.aJ.val,.int .i64 x.uR]
abbrev kW.val(x:kW):Value:=.agg #[x.jN.val,.int .i64 x.hold,x.aJ.val,.int .i64 x.uR]
structure fU where
 over:Bool
 cZ:Int
 A2:Int
 deriving Inhabited,DecidableEq
def fU.cells(x:fU):List Value:=[.bool x.over,.int .i64 x.cZ,.int .i64 x.A2]
abbrev fU.val(x:fU):Value:=.agg #[.bool x.over,.int .i64 x.cZ,.int .i64 x.A2]
structure b8 where
 off:Bool
 clear:Int
 i4:Int
 deriving Inhabited,DecidableEq
def b8.cells(x:b8):List Value:=[.bool x.off,.int .i64 x.clear,.int .i64 x.i4]
structure eA where
 b0:b3
 cO:a4 gP
 fC:a4 qM
 a2:a4 kW
 lM:a4 Int
def eA.cells(x:eA):List Value:=[x.b0.aC.places.val,x.b0.aC.aJ.val,x.b0.c3.val,x.b0.cM.val,x.cO.val,x.fC.val,x.a2.val,x.lM.val]
abbrev eA.val(x:eA):Value:=.agg #[x.b0.aC.places.val,x.b0.aC.aJ.val,x.b0.c3.val,x.b0.cM.val,x.cO.val,x.fC.val,x.a2.val,x.lM.val]
abbrev D1(x:a4 jE):fJ:=x.gN 4 jE.cells []
abbrev Iz(x:a4 qM):fJ:=x.gN 6 qM.cells []
abbrev kW.eU(z:kW):aO:=[D1 z.jN,dU z.aJ]
abbrev VL(x:a4 kW):fJ:=x.gN 4 kW.cells (x.l.flatMap kW.eU)
abbrev CJ(x:a4 fU):fJ:=x.gN 3 fU.cells []
abbrev sE(x:a4 b8):fJ:=x.gN 3 b8.cells []
def aL.jN{x:a4 kW}{R:aO}(h:aL (VL x) R){i:Nat}{z:kW}(aE:x.l[i]?=some z):aL (D1 z.jN) R:=
 h.sub (.S3 (List.mem_flatMap.2 ⟨z,hV aE,Ht⟩) .lT)
def aL.Xk{x:a4 kW}{R:aO}(h:aL (VL x) R){i:Nat}{z:kW}(aE:x.l[i]?=some z):aL (dU z.aJ) R:=
 h.sub (.S3 (List.mem_flatMap.2 ⟨z,hV aE,OV _ Ht⟩) .lT)
structure zY(s:eA)(R:aO):Prop where
 b0:mZ s.b0 R
 cO:aL (CI s.cO) R
 fC:aL (Iz s.fC) R
 a2:aL (VL s.a2) R
 lM:aL (dU s.lM) R
def zY.mono{s:eA}{R G:aO}(h:zY s R)(k:∀r∈R,aL r G):zY s G:=
 ⟨⟨h.b0.places.mono k,h.b0.aJ.mono k,h.b0.c3.mono k,h.b0.cM.mono k⟩,h.cO.mono k,h.fC.mono k,h.a2.mono k,h.lM.mono k⟩
def F2(l:yW):Prop:=l.cut<=1000000/\0<=l.clear/\l.clear<l.cut/\0<=l.Ej/\l.Ej<=100000
instance(l:yW):Decidable (F2 l):=by unfold F2;infer_instance
def JE(l:yW):Int:=if F2 l then 0 else 1
def uP(x:bC)(n:Int):Int:=if x.bW<x.bU then 0 else if n<=x.bU then 1 else if x.bW<n then -1 else 0
def I6(w:fU):Prop:=0<=w.A2/\-1<=w.cZ/\w.cZ<=w.A2/\(w.cZ= -1\/w.over=true)
instance(w:fU):Decidable (I6 w):=by unfold I6;infer_instance
def v4(l:yW)(w:fU)(x:bC)(t:Int):fU:=
 if uP x l.cut≠-1 then⟨true,-1,t⟩
 else if w.over=false then⟨false,w.cZ,t⟩
 else if l.clear<x.bW then⟨true,-1,t⟩
 else if l.Ej<=t-(if w.cZ<0 then t else w.cZ)then⟨false,-1,t⟩
 else⟨true,if w.cZ<0 then t else w.cZ,t⟩
def yP(l:yW)(w:fU)(t:Int):Int:=
 if¬F2 l then 1 else if t<0\/2147483648<t\/t<w.A2 then 8 else if¬I6 w then 10 else 0
def aK7:fU:=⟨false,0,0⟩
def Kc(l:yW)(w:fU)(x:bC)(t:Int):fU:=if yP l w t=0 then v4 l w x t else aK7
def oG(l:List jE):Nat->Int->Option (Int×Int)
 |0,_=>none
 |n+1,i=>
  if i<0 then none
  else if(l.getD i.toNat default).kind=1 then
   if(l.getD i.toNat default).left=0/\(l.getD i.toNat default).right=0/\0<=(l.getD i.toNat default).cond/\(l.getD i.toNat default).cond<64 then some (i,1)else none
  else if(l.getD i.toNat default).kind=2 then
   match oG l n (i-1)with
   |none=>none
   |some (f,d)=>if(l.getD i.toNat default).cond=0/\(l.getD i.toNat default).right=0/\(l.getD i.toNat default).left=i-1 then some (f,d+1)else none
  else if(l.getD i.toNat default).kind=3\/(l.getD i.toNat default).kind=4 then
   match oG l n (i-1)with
   |none=>none
   |some (m,r)=>if(l.getD i.toNat default).cond=0/\(l.getD i.toNat default).right=i-1/\(l.getD i.toNat default).left=m-1 then
    match oG l n (m-1)with
    |none=>none
    |some (f,q)=>some (f,max q r+1)else none
  else none
def BC(l:List jE):Bool:=
 decide (1<=l.length/\l.length<=64) && (match oG l l.length ((l.length:Int)-1)with
  |none=>false
  |some (f,d)=>decide (f=0/\d<=16))
def HA(l:List jE)(n:Nat):Int:=if BC l=false then 18 else if∃x∈l,x.kind=1/\(n:Int)<=x.cond then 1 else 0
def UZ(dR:List Int)(c:Int):Int:=if c<dR.length/\-1<=dR.getD c.toNat 0/\dR.getD c.toNat 0<=1 then dR.getD c.toNat 0 else 0
def AB(dR v:List Int)(x:jE):Int:=
 if x.kind=1 then UZ dR x.cond else if x.kind=2 then -(v.getD x.left.toNat 0)
 else if x.kind=3 then min (v.getD x.left.toNat 0) (v.getD x.right.toNat 0)else max (v.getD x.left.toNat 0) (v.getD x.right.toNat 0)
def n2(l:List jE)(dR:List Int):Nat->List Int
 |0=>[]
 |k+1=>n2 l dR k++[AB dR (n2 l dR k) (l.getD k default)]
def tL(l:List jE)(dR:List Int):Int:=if BC l=true then(n2 l dR l.length).getD (l.length-1) 0 else 0
def PM(a:b3)(s:gP):Int:=if s.kind=5 then(a.c3.l.length:Int)else if s.kind=6 then(a.cM.l.length:Int)else(a.aC.aJ.l.length:Int)
def wL(a:b3)(S:List gP)(i:Nat):Option Int:=
 if p5 (S.getD i default)≠0 then some (p5 (S.getD i default))
 else if¬(0<=(S.getD i default).target/\(S.getD i default).target<PM a (S.getD i default))then some 9
 else if∃k:Nat,k<i/\(S.getD k default).hX=(S.getD i default).hX then some 9 else none
def HJ(a:b3)(S:List gP):Int:=((List.range S.length).findSome? (wL a S)).getD 0
def Pm(S:List gP)(n:Nat)(c:qM):Int:=
 if c.kind=1\/c.kind=2\/c.kind=4 then if 0<=c.target/\c.target<S.length then 0 else 9
 else if c.kind=3 then if(0<=c.target/\c.target<S.length)/\(S.getD c.target.toNat default).kind=5 then 0 else 9
 else if c.kind=5 then if 0<=c.target/\c.target<n then 0 else 4
 else 5
def K1(S:List gP)(n:Nat)(c:qM):Int:=
 if Pm S n c≠0 then Pm S n c else if c.value<0\/1099511627776<c.value then 1 else if c.kind=1 then JE c.nF else 0
def AC(n:Nat)(l:List Int)(i:Nat):Prop:=¬(0<=l.getD i 0/\l.getD i 0<n)\/(0<i/\l.getD i 0<=l.getD (i-1) 0)
instance(n:Nat)(l:List Int)(i:Nat):Decidable (AC n l i):=by unfold AC;infer_instance
def BQ(fC n:Nat)(z:kW):Int:=
 if HA z.jN.l fC≠0 then HA z.jN.l fC else if z.hold<0\/100000<z.hold\/z.uR<0\/100<z.uR then 1
 else if∃i:Nat,i<z.aJ.l.length/\AC n z.aJ.l i then 4 else 0
def xL(e:Int):Option Int:=if e=0 then none else some e
def O9(s:eA):Int:=(s.fC.l.findSome? λc=>xL (K1 s.cO.l s.b0.aC.aJ.l.length c)).getD 0
def HY(s:eA):Int:=(s.a2.l.findSome? λz=>xL (BQ s.fC.l.length s.b0.aC.aJ.l.length z)).getD 0
def P3(s:eA):Int:=(s.lM.l.findSome? λp=>if p<1\/3<p then some 19 else none).getD 0
def nO(s:eA):Int:=
 if h5 s.b0≠0 then h5 s.b0
 else if 64<s.cO.l.length\/64<s.fC.l.length\/16<s.a2.l.length\/64<s.lM.l.length then 2
 else if HJ s.b0 s.cO.l≠0 then HJ s.b0 s.cO.l
 else if O9 s≠0 then O9 s
 else if HY s≠0 then HY s
 else P3 s
def p6(S:List gP)(m:List eE)(n t:Int):bC:=
 if(0<=n/\n<S.length)/\n<m.length/\(m.getD n.toNat default).k5=n then v6 (S.getD n.toNat default) (m.getD n.toNat default) t else kH
def Ea(x:bC):Int:=if x.bW<x.bU then 0 else if x.bU=1/\x.bW=1 then -1 else if 1<x.bU\/x.bW<1 then 1 else 0
def CL(c:qM)(w:fU)(t:Int):Int:=if c.kind=1 then yP c.nF w t else 0
def LL(S:List gP)(m:List eE)(aA:List bC)(c:qM)(w:fU)(t:Int):Int:=
 if c.kind=5 then -(p4 aA ⟨c.target,c.value⟩)
 else if c.kind=2 then -(uP (p6 S m c.target t) c.value)
 else if c.kind=3 then Ea (p6 S m c.target t)
 else if c.kind=4 then if p6 S m c.target t=kH then 1 else -1
 else if(v4 c.nF w (p6 S m c.target t) t).over=false then -1
 else if uP (p6 S m c.target t) c.nF.cut=1 then 1 else 0
def DZ(S:List gP)(m:List eE)(c:qM)(w:fU)(t:Int):fU:=if c.kind=1 then v4 c.nF w (p6 S m c.target t) t else w
def pI(s:eA)(m:List eE)(w:List fU)(aA:List bC)(t:Int):Int:=
 if nO s≠0 then nO s
 else if¬(m.length=s.cO.l.length/\w.length=s.fC.l.length/\aA.length=s.b0.aC.aJ.l.length)then 11
 else if t<0\/2147483648<t then 8
 else((List.range w.length).findSome? λi=>xL (CL (s.fC.l.getD i default) (w.getD i default) t)).getD 0
def GW(s:eA)(m:List eE)(w:List fU)(aA:List bC)(t:Int):List Int:=
 if pI s m w aA t≠0 then[]else(List.range w.length).map λi=>LL s.cO.l m aA (s.fC.l.getD i default) (w.getD i default) t
def oR(s:eA)(m:List eE)(w:List fU)(aA:List bC)(t:Int):List fU:=
 if pI s m w aA t≠0 then[]else(List.range w.length).map λi=>DZ s.cO.l m (s.fC.l.getD i default) (w.getD i default) t
def pU(s:eA)(v:List Int)(c:List b8)(t:Int):Int:=
 if nO s≠0 then nO s else if¬(v.length=s.fC.l.length/\c.length=s.a2.l.length)then 11 else if t<0\/2147483648<t then 8 else 0
def R0(v:Int)(c:b8)(t:Int):b8:=
 if v= -1 then if c.clear= -1 then⟨c.off,t,c.i4⟩else c else if c.off=true then⟨true,-1,c.i4⟩else⟨true,-1,v⟩
def H3(s:eA)(v:List Int)(c:List b8)(t:Int)(i:Nat):b8:=R0 (tL (s.a2.l.getD i default).jN.l v) (c.getD i default) t
def yU(s:eA)(v:List Int)(c:List b8):Nat->List Int
 |0=>[]
 |k+1=>if tL (s.a2.l.getD k default).jN.l v≠-1/\(c.getD k default).off=false then yU s v c k++[(k:Int)]else yU s v c k
def o1(s:eA)(v:List Int)(c:List b8)(t:Int):List b8:=if pU s v c t≠0 then[]else(List.range c.length).map (H3 s v c t)
def x6(s:eA)(v:List Int)(c:List b8)(t:Int):List Int:=if pU s v c t≠0 then[]else yU s v c c.length
end Go.Proofs.YtchfclmokpbldaaGreat
