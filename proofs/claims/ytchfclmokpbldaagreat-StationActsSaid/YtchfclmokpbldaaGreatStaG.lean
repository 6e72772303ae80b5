--By an AI agent.
import Derived.Test.YtchfclmokpbldaaGreatStaA
import Derived.Test.YtchfclmokpbldaaGreatCutB
import Derived.Test.YtchfclmokpbldaaGreatFeedP
set_option maxRecDepth 9999
set_option linter.all false
set_option maxHeartbeats 0
variable{A B:Prop}
namespace Go.Proofs.YtchfclmokpbldaaGreat
open Go.Aw Go Go.Proofs.Tryz
attribute [local irreducible] cH c6 dP aI cJ eD e9 e0 e1 e5 eS e8 J.L
def a33(h:A->B:=by exact(aG aZN ·)):=h
def Tf(h:A->B:=by exact(a4 oG ·)):=h
def Sp(h:A->B:=by exact(m5 oG ·)):=h
def a5V(h:A->B:=by exact(aG (a4S (m:=1) (aR:=1) (u:=l) O rfl rfl rfl rfl rfl bH D rfl) ·)):=h
def aNc(h:A->B:=by exact gO (tV (f:=m3) (xs:=l) O rfl rfl rfl bH rfl rfl (BS) bI D) rfl):=h
def a5u(h:A->B:=by exact uV (G:=S) g3 (λr M=>aM (.tail _ M))):=h
def a3L(h:A->B:=by exact(m5 Jo ·)):=h
def a53(h:A->B:=by exact(m5 a24 ·)):=h
def aMA(h:A->B:=by exact gO (Zd O (⟨a2o,h.l⟩:J Int) b rfl rfl rfl bH rfl rfl a1O hb c0 bI k1) rfl):=h
def b6s(h:A->B:=by exact(aG (mI (hN:=[(0,(Value.slice _ _ _).cells.toList),(1,(Value.int _ _).cells.toList)]) (cU:=[_,_]) O rfl rfl rfl rfl) ·)):=h
def b69(h:B:=by exact⟨⟨a7P,l.l⟩,cU,by rw[dW.Gd,JB];rfl,⟨aFy,dW.ok⟩,by rw[dW.Gd,JB],by rw[dW.Gd,JB,EX],dW.data,rfl,dW.sub⟩):=h
def aQo(h:A->B:=by exact gJ O [0,1,2,3,5,6,7,8,9,10,11,12,13,14,15,16,17,18,4,19] _ cX bE g3):=h
def aQK(h:A->B:=by exact(a4 (aKx (m:=1) (q:=3+j0 l.l) (aR:=1) (u:=l) O rfl rfl rfl rfl rfl rfl D bH D aEM rfl) ·)):=h
def aKp(h:A->B:=by exact(a4 (by first|exact j9 O rfl rfl rfl rfl jC (i:=4+j0 l.l) cW D|exact i9 O rfl rfl rfl rfl (i:=4+j0 l.l) cW D) ·)):=h
def aNq(h:A->B:=by exact(a4 (by first|exact j9 O rfl rfl rfl rfl jC (i:=5+j0 l.l) cW D|exact i9 O rfl rfl rfl rfl (i:=5+j0 l.l) cW D) ·)):=h
def aO2(h:A->B:=by exact(m5 (by first|exact j9 O rfl rfl rfl rfl jC (i:=2) cW D|exact i9 O rfl rfl rfl rfl (i:=2) cW D) ·)):=h
def aMq(h:A->B:=by exact(m5 (by first|exact j9 O rfl rfl rfl rfl jC (i:=3) cW D|exact i9 O rfl rfl rfl rfl (i:=3) cW D) ·)):=h
def aJY(h:A->B:=by exact(eO (aKx (m:=4) (q:=j0 l.l) (aR:=1) (u:=l) O rfl rfl rfl rfl rfl rfl D bH D aEM rfl) ·)):=h
def aMh(h:A->B:=by exact o4 (tV (f:=m3) (xs:=IF (oK l 4 1) (j0 l.l)) O rfl rfl rfl bH rfl rfl ((aM (.head _))) bI D) rfl rfl rfl):=h
def aRz(h:A->B:=by exact(a4 aIn ·)):=h
def aMk(h:A->B:=by exact o4 Js rfl rfl rfl):=h
def aNE(h:A->B:=by exact(aG (a4S (m:=j0 l.l+6) (aR:=1) (u:=l) O rfl rfl rfl rfl D D D rfl) ·)):=h
def b2N(h:B:=by exact⟨⟨aUt,l.l⟩,cU,by rw[dW.Gd,JB];rfl,⟨bDz,dW.ok⟩,by rw[dW.Gd,JB],by rw[dW.Gd,JB,EX],dW.data,rfl,dW.sub⟩):=h
structure lE where
 hV:Int
 kind:Int
 data:a0 Int
 deriving Inhabited
def lE.cells(x:lE):List Value:=[.int .i64 x.hV,.int .i64 x.kind,x.data.val]
abbrev lE.val(x:lE):Value:=.agg #[.int .i64 x.hV,.int .i64 x.kind,x.data.val]
abbrev lE.sub(x:lE):fG:=hA x.data
abbrev a37(x:a0 lE):fG:=x.fI 3 lE.cells (x.l.map lE.sub)
def lE.lI(x:lE):D0:=⟨x.hV,x.kind,x.data.l⟩
structure Dk(nH:List Int)(d:Int)(R:aJ)(l:a0 Int)(w1:Int)(cU:J lE)(S:aJ):Prop where
 sub:∀r∈R,aH r S
 inl:aH (hA l) S
 bytes:n2 l.l
 ok:cU.ok 3 lE.cells
 data:∀x∈cU.l,aH (hA x.data) S
 len:cU.l.length+l.l.length<=nH.length
 drop:d<=w1/\w1+l.l.length<=d+nH.length
 Gd:j3 nH d=⟨(j3 l.l w1).held,(j3 l.l w1).eJ,cU.l.map lE.lI++(j3 l.l w1).cU⟩
def Dk.skip{nH:List Int}{d:Int}{R:aJ}{l:a0 Int}{w1:Int}{cU:J lE}{S:aJ}(h:Dk nH d R l w1 cU S)(hl:0<l.l.length)(N:zW l.l\/(¬z0 l.l/\uZ (MI l.l)≠P6 l.l)):Dk nH d R (oK l 1 1) (w1+1) cU (hA (oK l 1 1)::S):=by have e:(oK l 1 1).l=l.l.tail:=List.drop_one;have kD:(oK l 1 1).l.length=l.l.length-1:=F9;have V:=h.len;have aQ:=h.drop;have vP:=Kl (d:=w1) (List.length_pos_iff.1 hl) N;refine⟨λr M=>(h.sub r M).mono λs hs=>aM (.tail _ hs),aM (.head _),λx K=>h.bytes x (by rw[e]at K;exact aH2 K),h.ok,λx K=>(h.data x K).mono λs hs=>aM (.tail _ hs),by omega,by omega,?_⟩;rw[e,<-vP];exact h.Gd
def Dk.aVm{nH:List Int}{d:Int}{R:aJ}{l:a0 Int}{w1:Int}{cU:J lE}{S:aJ}(h:Dk nH d R l w1 cU S)(hl:0<l.l.length)(N:¬zW l.l)(V:¬z0 l.l)(aQ:uZ (MI l.l)=P6 l.l){n:Nat}(hn:n=j0 l.l+6){o:gZ}{x:lE}(K:x.lI=a5a l.l)(hok:(⟨o,cU.l++[x]⟩:J lE).ok 3 lE.cells):
 Dk nH d R (oK l n 1) w1 ⟨o,cU.l++[x]⟩ (hA (oK l n 1)::hA x.data::S):=by
 subst hn;have cV:=aAo h.bytes V;have kD:(oK l (j0 l.l+6) 1).l.length=l.l.length-(j0 l.l+6):=F9;have b7:=h.len;have eG:=h.drop;refine⟨λr M=>(h.sub r M).mono λs hs=>aM (.tail _ (.tail _ hs)),aM (.head _),λy aN=>h.bytes y (Jf aN),hok,λy aN=>?_,?_,by omega,?_⟩;·
  rcases List.mem_append.1 aN with aN|aN;·exact(h.data y aN).mono λs hs=>aM (.tail _ (.tail _ hs))
  ·rw[List.mem_singleton.1 aN];exact aM (.tail _ (.head _))
 ·show(cU.l++[x]).length+_<=_;rw[iD,pN];omega
 ·rw[h.Gd,a4g (List.length_pos_iff.1 hl) N V aQ];show _=(⟨_,_,(cU.l++[x]).map lE.lI++_⟩:aOD);rw[wP,List.map_singleton,K,mQ];rfl
def aCG{l:List Int}:((l.drop 1).take (3+j0 l))=MI l:=by rw[MI,List.drop_take];congr 1;omega
def aPr{l:List Int}:((l.drop 4).take (j0 l))=(a5a l).data:=by show _=(l.take (4+j0 l)).drop 4;rw[List.drop_take];congr 1;omega
def b4h(h b:a0 Int)(d:Int)(L:aP)(R:aJ)(bX:aH (hA h) R)(hb:aH (hA b) R)(BO:n2 (h.l++b.l))(hd:0<=d/\d<=1152921504606846976)(hn:h.l.length+b.l.length<=1000000):
 aI prog 44 [.agg #[h.val,.int .i64 d],b.val].toArray L R (λv E G=>∃(p:J Int) (cU:J lE),v=.tuple #[.agg #[p.val,.int .i64 (j3 (h.l++b.l) d).eJ],cU.val]/\(p.ok 1 m3/\cU.ok 3 lE.cells)/\p.l=(j3 (h.l++b.l) d).held/\cU.l.map lE.lI=(j3 (h.l++b.l) d).cU/\(∀x∈cU.l,aH (hA x.data) G)/\p.L 5 m3++(cU.L 118 lE.cells++L)=E/\∀r∈R,aH r G):=by
 refine bW 107 call44 func44 ?_;apply(c8);intro cS;apply(dA);intro cT;apply vG∘fH;refine gO b0A rfl ?_;rintro v E G ⟨a2o,rfl,a1O,rfl,rfl⟩;apply hM∘aMA;rintro v E G ⟨UZ,rfl,a1P,rfl,rfl⟩;apply(FG);refine vF (A:=[]) (aR:=1) [] bI bH a1P lQ ?_;refine mJ Xk ?_;have a1J:(h.l++b.l).length<=1000000:=by rw[iD];exact hn
 apply eK∘vG∘fH∘dE;refine eI (aZ (a6 (e3 ?_)));refine c7 [(4,.pointer _),(6,.slice _ _ _),(7,.slice _ _ _),(8,.int _ _)] bP λeZ=>?_;refine mC ([6,7,8,9]++b4 17 85) ((⟨λg=>[(6,g.1.1.val),(8,.int .i64 g.1.2.1),(7,g.1.2.2.1.val)],λg=>g.1.2.2.1.L 118 lE.cells++(⟨cT,[.slice none 0 0,.int .i64 0],46⟩::⟨cS,[h.val,.int .i64 d],46⟩::L),λg=>g.1.2.2.2,λg=>g.1.1.l.length⟩:dV {g:a0 Int×Int×J lE×aJ//Dk (h.l++b.l) d R g.1 g.2.1 g.2.2.1 g.2.2.2})) (⟨((⟨UZ,h.l++b.l⟩:J Int).U,d,J.nil,hA (⟨UZ,h.l++b.l⟩:J Int).U::R),⟨λr M=>aM (.tail _ M),aM (.head _),BO,J.g6,λx K=>(by cases K),Nat.le_of_eq (PJ _),⟨oE _,oE _⟩,rfl⟩⟩) bP Db fF ?_;rintro⟨⟨l,w1,cU,S⟩,dW⟩ bZ;try dsimp only
 dsimp only at dW;have BS:=dW.inl;have bBw:=dW.len;have bBu:=dW.drop;refine a5q BS λaEM=>?_;apply s2∘nO∘BA;apply(W)<;>intro aO;·
  have aEF:=bJ l.l 0 0;have C6:=dW.bytes.at 1;refine dK (aZ (e3 (a6 (a6 (cR ?_)))));apply hM∘Io∘jI∘rO;apply cB (aC:=[_,_,_,_,_,_,_,_,_,_]) (j:=4) (a7:=24) rfl rfl aE rfl aW rfl;·
   intro gW;replace gW:=a8 gW;apply nO∘F6∘c9;apply iZ (aC:=[_,_,_,_,_]) (j:=8) (a7:=28) rfl rfl aE rfl aW rfl;·exact aYY
   intro wJ;exact hL
  intro yU;apply(b3);apply(W)<;>intro bF;·(have w6:zW l.l:=by rw[zW];omega);refine a6 ?_;refine ZN (m:=1) BS bH D bH ?_;exact(wC∘a5V∘z2∘jS∘dE) b0G
  have w6:¬zW l.l:=by rw[zW];omega
  apply Z0∘CI;apply cB (aC:=[_,_,_,_,_,_,_,_]) (j:=3) (a7:=43) rfl rfl aE rfl aW rfl;·exact aYj
  intro iG;apply(b3);apply(W)<;>intro b2;·have JB:j3 l.l w1=⟨l.l,w1,[]⟩:=a0x (List.length_pos_iff.1 D) w6 (by rw[z0];omega);refine lC (lB ?_);refine a4Z rfl ?_;refine tT (lA (aZ (a6 (cR ?_))));exact(hM) aZG
  have Oe:¬z0 l.l:=by rw[z0];omega
  have cV:=aAo dW.bytes Oe;have yQ:=bJ l.l 1 0;have bBQ:=bJ l.l (4+j0 l.l) 0;have bBS:=bJ l.l (5+j0 l.l) 0;have bBR:=dW.bytes.at (4+j0 l.l);have bBT:=dW.bytes.at (5+j0 l.l);apply G1∘a33∘jI∘B3∘OD;refine a3H (m:=1) (3+j0 l.l) BS bH D bH ?_;have bDa:aH (hA l) (hA (IF (oK l 1 1) (3+j0 l.l))::S):=BS.mono λr M=>aM (.tail _ M);apply aQo∘Tf∘g1∘EK∘aQK∘Tf∘g1∘EK∘aKp∘lW∘Wb;refine a4 a9m ?_;apply Tf∘g1∘EK∘aNq∘lW∘Wb;refine a4 a9n ?_;refine k6 rfl (b9F (IF (oK l 1 1) (3+j0 l.l)) _ _ n1 (λx K=>dW.bytes x (Jf (Qc K)))) ?_;refine a4 LR ?_;apply(vW);apply(W)<;>intro dZ;·have aSC:zW l.l\/(¬z0 l.l/\uZ (MI l.l)≠P6 l.l):=.inr ⟨Oe,λh=>dZ (by rw[aCG,h];rfl)⟩;refine a6 ?_;apply(a5u);refine ZN (m:=1) BS bH D bH ?_;exact(wC∘a5V∘z2∘jS∘dE) b0S
  have aE6:uZ (MI l.l)=P6 l.l:=by exact aXV
  have AJ:=bJ l.l 2 0;have aEG:=bJ l.l 3 0;have a6R:=dW.bytes.at 2;have bBP:=dW.bytes.at 3;have aFQ:=dW.ok;apply x2∘a5u;refine a3H (m:=4) (j0 l.l) BS bH D bH ?_;have bC9:aH (hA l) (hA (IF (oK l 4 1) (j0 l.l))::S):=BS.mono λr M=>aM (.tail _ M);have eB:(IF (oK l 4 1) (j0 l.l)).l.length=j0 l.l:=by show((l.l.drop 4).take _).length=_;rw[Cx,F9];omega
  refine hF O [81,82,83,84,85,86,87,88,89] [0,1,2,3,4,5,6,7,8,9,10,11,12] [13,14,15,16,17] (_) _ cX bE a2 dT ?_;apply Sp∘Sp∘aO2∘a3L∘a53∘Sp∘aMq∘a3L∘a53∘G2∘PA∘aJY∘x1∘aMh;rintro v E G ⟨a7V,rfl,aFO,rfl,rfl⟩;apply fS∘aRz∘aMk;rintro v E G ⟨bAp,rfl,rfl,Nf⟩;replace Nf:=Nf.symm;subst Nf;apply(fS);refine o4 (j2 (f:=lE.cells) (p:=cU) (a:=⟨l.l.getD 2 0,l.l.getD 3 0,(⟨a7V,(IF (oK l 4 1) (j0 l.l)).l⟩:J Int).U⟩) O rfl rfl rfl rfl (aFQ) c0 j8 rfl kH) rfl rfl rfl ?_;rintro v E G ⟨aHl,rfl,aFP,rfl,rfl⟩;apply(fS);refine a4 A0 ?_;apply(vW);refine vF (A:=[_]) (aR:=1) [] bI bH aFO lQ ?_;refine uV (G:=hA (⟨a7V,(IF (oK l 4 1) (j0 l.l)).l⟩:J Int).U::S) g3 (λr M=>aM (by
   rcases List.mem_cons.1 M with h|h;·exact Wl
   ·exact .tail _ (.tail _ h))) ?_
  refine ZN (m:=j0 l.l+6) (BS.mono λr M=>aM (.tail _ M)) D D bH ?_;apply wC∘z2∘aNE∘jS;refine eI (gV ?_);exact oT ⟨(oK l (j0 l.l+6) 1,w1,⟨aHl,cU.l++[_]⟩,_),dW.aVm D w6 Oe aE6 rfl (by show(⟨_,_,(l.l.drop 4).take _⟩:D0)=_;rw[aPr];rfl) aFP⟩ kG bP a2 fF a9l
 have Hi:l.l=[]:=List.length_eq_zero_iff.1 D;have JB:j3 l.l w1=⟨l.l,w1,[]⟩:=by rw[Hi];exact Ym _
 exact(S5) aZG
def b8i(h b:a0 Int)(d:Int)(L:aP)(R:aJ)(bX:aH (hA h) R)(hb:aH (hA b) R)(BO:n2 (h.l++b.l))(hd:0<=d/\d<=1152921504606846976)(hn:h.l.length+b.l.length<=1000000):
 aI prog 215 [.agg #[h.val,.int .i64 d],b.val].toArray L R (λv E G=>∃(p:J Int) (cU:J lE),v=.tuple #[.agg #[p.val,.int .i64 (j3 (h.l++b.l) d).eJ],cU.val]/\(p.ok 1 m3/\cU.ok 3 lE.cells)/\p.l=(j3 (h.l++b.l) d).held/\cU.l.map lE.lI=(j3 (h.l++b.l) d).cU/\(∀x∈cU.l,aH (hA x.data) G)/\p.L 5 m3++(cU.L 118 lE.cells++L)=E/\∀r∈R,aH r G):=by
 refine bW 112 call215 func215 ?_;apply(c8);intro cS;apply(dA);intro cT;apply vG∘fH;refine gO b0A rfl ?_;rintro v E G ⟨a2o,rfl,a1O,rfl,rfl⟩;apply hM∘aMA;rintro v E G ⟨UZ,rfl,a1P,rfl,rfl⟩;apply(FG);refine vF (A:=[]) (aR:=1) [] bI bH a1P lQ ?_;refine mJ Xk ?_;have a1J:(h.l++b.l).length<=1000000:=by rw[iD];exact hn
 apply(QW);refine aG (mI (hN:=[(1,(Value.int _ _).cells.toList)]) (cU:=[_,_]) O rfl rfl rfl rfl) ?_;apply(dA);intro kL;apply rP∘jS;refine eI (aZ (a6 (e3 ?_)));refine c7 [(4,.pointer _),(6,.slice _ _ _),(7,.pointer _),(8,.slice _ _ _)] bP λeZ=>?_;refine mC ([6,8,9]++b4 18 89) ((⟨λg=>[(6,g.1.1.val),(8,g.1.2.2.1.val)],λg=>g.1.2.2.1.L 118 lE.cells++(⟨kL,[.slice none 0 0,.int .i64 g.1.2.1],46⟩::⟨cT,[.slice none 0 0,.int .i64 0],46⟩::⟨cS,[h.val,.int .i64 d],46⟩::L),λg=>g.1.2.2.2,λg=>g.1.1.l.length⟩:dV {g:a0 Int×Int×J lE×aJ//Dk (h.l++b.l) d R g.1 g.2.1 g.2.2.1 g.2.2.2})) (⟨((⟨UZ,h.l++b.l⟩:J Int).U,d,J.nil,hA (⟨UZ,h.l++b.l⟩:J Int).U::R),⟨λr M=>aM (.tail _ M),aM (.head _),BO,J.g6,λx K=>(by cases K),Nat.le_of_eq (PJ _),⟨oE _,oE _⟩,rfl⟩⟩) bP Db fF ?_;rintro⟨⟨l,w1,cU,S⟩,dW⟩ bZ;try dsimp only
 dsimp only at dW;have BS:=dW.inl;have bBw:=dW.len;have bBu:=dW.drop;refine a5q BS λaEM=>?_;apply s2∘nO∘BA;apply(W)<;>intro aO;·
  have aEF:=bJ l.l 0 0;have C6:=dW.bytes.at 1;refine dK (aZ (e3 (a6 (a6 (cR ?_)))));apply hM∘Io∘jI∘rO;apply cB (aC:=[_,_,_,_,_,_,_,_,_,_]) (j:=4) (a7:=25) rfl rfl aE rfl aW rfl;·
   intro gW;replace gW:=a8 gW;apply nO∘F6∘c9;apply iZ (aC:=[_,_,_,_,_]) (j:=8) (a7:=29) rfl rfl aE rfl aW rfl;·exact aYY
   intro wJ;exact hL
  intro yU;apply(b3);apply(W)<;>intro bF;·(have w6:zW l.l:=by rw[zW];omega);refine a6 ?_;refine ZN (m:=1) BS bH D bH ?_;exact(wC∘a5V∘vG∘fH∘l8∘r7) b0G
  have w6:¬zW l.l:=by rw[zW];omega
  apply Z0∘CI;apply cB (aC:=[_,_,_,_,_,_,_,_]) (j:=3) (a7:=46) rfl rfl aE rfl aW rfl;·exact aYj
  intro iG;apply(b3);apply(W)<;>intro b2;·have JB:j3 l.l w1=⟨l.l,w1,[]⟩:=a0x (List.length_pos_iff.1 D) w6 (by rw[z0];omega);refine lC (lB ?_);refine a4Z rfl ?_;refine tT (lA (aZ (a6 (cR ?_))));exact(hM) aZL
  have Oe:¬z0 l.l:=by rw[z0];omega
  have cV:=aAo dW.bytes Oe;have yQ:=bJ l.l 1 0;have bBQ:=bJ l.l (4+j0 l.l) 0;have bBS:=bJ l.l (5+j0 l.l) 0;have bBR:=dW.bytes.at (4+j0 l.l);have bBT:=dW.bytes.at (5+j0 l.l);apply G1∘a33∘jI∘B3∘OD;refine a3H (m:=1) (3+j0 l.l) BS bH D bH ?_;have bDa:aH (hA l) (hA (IF (oK l 1 1) (3+j0 l.l))::S):=BS.mono λr M=>aM (.tail _ M);apply aQo∘Tf∘g1∘EK∘aQK∘Tf∘g1∘EK∘aKp∘lW∘Wb;refine a4 a9m ?_;apply Tf∘g1∘EK∘aNq∘lW∘Wb;refine a4 a9n ?_;refine k6 rfl (aKf (IF (oK l 1 1) (3+j0 l.l)) _ _ n1 (λx K=>dW.bytes x (Jf (Qc K)))) ?_;refine a4 LR ?_;apply(vW);apply(W)<;>intro dZ;·have aSC:zW l.l\/(¬z0 l.l/\uZ (MI l.l)≠P6 l.l):=.inr ⟨Oe,λh=>dZ (by rw[aCG,h];rfl)⟩;refine a6 ?_;apply(a5u);refine ZN (m:=1) BS bH D bH ?_;exact(wC∘a5V∘vG∘fH∘l8∘r7) b0S
  have aE6:uZ (MI l.l)=P6 l.l:=by exact aXV
  have AJ:=bJ l.l 2 0;have aEG:=bJ l.l 3 0;have a6R:=dW.bytes.at 2;have bBP:=dW.bytes.at 3;have aFQ:=dW.ok;apply x2∘a5u;refine a3H (m:=4) (j0 l.l) BS bH D bH ?_;have bC9:aH (hA l) (hA (IF (oK l 4 1) (j0 l.l))::S):=BS.mono λr M=>aM (.tail _ M);have eB:(IF (oK l 4 1) (j0 l.l)).l.length=j0 l.l:=by show((l.l.drop 4).take _).length=_;rw[Cx,F9];omega
  refine hF O [86,87,88,89,90,91,92,93,94] [0,1,2,3,4,5,6,7,8,9,10,11,12] [13,14,15,16,17] (_) _ cX bE a2 dT ?_;apply Sp∘Sp∘aO2∘a3L∘a53∘Sp∘aMq∘a3L∘a53∘G2∘PA∘aJY∘x1∘aMh;rintro v E G ⟨aUJ,rfl,bD1,rfl,rfl⟩;apply fS∘aRz∘aMk;rintro v E G ⟨Fv,rfl,rfl,Mc⟩;replace Mc:=Mc.symm;subst Mc;apply(fS);refine o4 (j2 (f:=lE.cells) (p:=cU) (a:=⟨l.l.getD 2 0,l.l.getD 3 0,(⟨aUJ,(IF (oK l 4 1) (j0 l.l)).l⟩:J Int).U⟩) O rfl rfl rfl rfl (aFQ) c0 j8 rfl kH) rfl rfl rfl ?_;rintro v E G ⟨bFV,rfl,bDy,rfl,rfl⟩;apply(fS);refine a4 A0 ?_;apply(vW);refine vF (A:=[_]) (aR:=1) [] bI bH bD1 lQ ?_;refine uV (G:=hA (⟨aUJ,(IF (oK l 4 1) (j0 l.l)).l⟩:J Int).U::S) g3 (λr M=>aM (by
   rcases List.mem_cons.1 M with h|h;·exact Wl
   ·exact .tail _ (.tail _ h))) ?_
  refine ZN (m:=j0 l.l+6) (BS.mono λr M=>aM (.tail _ M)) D D bH ?_;apply wC∘z2∘aNE∘jS;refine eI (gV ?_);exact oT ⟨(oK l (j0 l.l+6) 1,w1,⟨bFV,cU.l++[_]⟩,_),dW.aVm D w6 Oe aE6 rfl (by show(⟨_,_,(l.l.drop 4).take _⟩:D0)=_;rw[aPr];rfl) bDy⟩ kG bP a2 fF a9l
 have Hi:l.l=[]:=List.length_eq_zero_iff.1 D;have JB:j3 l.l w1=⟨l.l,w1,[]⟩:=by rw[Hi];exact Ym _
 exact(S5) aZL
end Go.Proofs.YtchfclmokpbldaaGreat
namespace Go.Proofs.YtchfclmokpbldaaGreat
open Go.Aw Go Go.Proofs.Tryz
section
attribute [local irreducible] cH c6 dP aI cJ eD e9 e0 e1 e5 eS e8 J.L
def aRn(h:A->B:=by exact(eO x9 ·)):=h
def fZ.set{s s':dQ}(h:fZ s s')(m:List eA)(t:Int):ZS s m t=ZS s' m t:=by rw[ZS,ZS,GL,GL,KD,KD,h.O4,h.M8,h.LJ];have e:∀i:Nat,(s.bU.aX.l.getD i default).hH.l=(s'.bU.aX.l.getD i default).hH.l:=h.uD;simp only[e]
def fZ.g8{s s':dQ}(h:fZ s s')(A:List Bool)(m:List eA)(t:Int):KE s A m t=KE s' A m t:=by
 have e:∀q:Zp,Gf s.bU A q=Gf s'.bU A q:=λq=>by rw[Gf,Gf,(qX.of (s:=Ib q) (s':=Ib q) h.bU rfl).aRJ A]
 rw[KE,KE,h.set,e,h.LJ]
def aJA{m:hZ}{u v:Nat}(h:uR (Fj m) u v):uR m u v:=by
 induction h with
 |refl=>exact .refl
 |tail _ k cM=>exact .tail cM k
def aJL{m:hZ}{u v:Nat}(h:uR m u v):uR (Fj m) u v:=by
 induction h with
 |refl=>exact .refl
 |tail _ k cM=>exact .tail cM k
def aPX(m:hZ)(A:List Bool):lS (Fj m) A↔lS m A:=
 ⟨λh=>⟨h.len,λi aA=>(h.M6 i aA).trans ⟨λ⟨j,N,V,aQ⟩=>⟨j,N,V,aJA aQ⟩,λ⟨j,N,V,aQ⟩=>⟨j,N,V,aJL aQ⟩⟩⟩,λh=>⟨h.len,λi aA=>(h.M6 i aA).trans ⟨λ⟨j,N,V,aQ⟩=>⟨j,N,V,aJL aQ⟩,λ⟨j,N,V,aQ⟩=>⟨j,N,V,aJA aQ⟩⟩⟩⟩
def fZ.xI{s s':dQ}(h:fZ s s'){A:List Bool}(gI:lS s'.bU.Y A):lS s.bU.Y A:=by have e:Fj s.bU.Y=Fj s'.bU.Y:=congrArg bR.Y h.bU;rw[<-aPX,e,aPX];exact gI
def aMx{S:List fA}{kind target:Int}{k:Nat}(hk:k<S.length)(h:(S.getD k default).kind=kind/\(S.getD k default).target=target)(hD:∀j:Nat,j<k->¬((S.getD j default).kind=kind/\(S.getD j default).target=target)):a0J S kind target=some k:=by rw[a0J,a8L];exact⟨by simpa using h,by rw[VD];exact hk,λj aY=>by have:=hD j aY;simp only[a2N,decide_eq_false_iff_not];exact this⟩
def b5X{S:List fA}{kind target:Int}(hD:∀j:Nat,j<S.length->¬((S.getD j default).kind=kind/\(S.getD j default).target=target)):a0J S kind target=none:=by rw[a0J,List.find?_eq_none];intro j aY;rw[VD]at aY;simpa using hD j aY
structure tX(x:cF)(R:aJ):Prop where
 aK:zX x.aK R
 c5:aH (gT x.c5) R
 LF:∀m∈x.c5.l,w9 m
 aUl:x.c5.l.length<=1000
 time:0<=x.time/\x.time<=2147483648
 ok:oI x.aK=0
def tX.of{g:hQ}{p:b0}{x:cF}{R:aJ}(dR:Inv g p)(K:h5 g p x)(N:zX x.aK R)(V:aH (gT x.c5) R):tX x R:=
 ⟨N,V,by rw[K.c5];exact dR.LF,by rw[K.c5,dR.c5];have:=dR.RX.len;omega,by rw[K.time];exact dR.time,by rw[K.aK.pT];exact dR.aK⟩
def aOR(x:cF)(kind target n:Int)(L:aP)(R:aJ)(h:tX x R):
 aI prog 128 [x.val,.int .i64 kind,.int .i64 target,.int .i64 n].toArray L R (λv E G=>v=.int .i64 (E3 x.aK.cD.l x.c5.l x.time kind target n)/\L=E/\R=G):=by
 have jA:=h.aK.cD;have kD:=(KP h.ok).len;refine bW 58 call128 func128 ?_;apply(c8);intro cT;apply g7∘eP∘r9;refine c7 [(1,.int _ _),(2,.int _ _),(3,.int _ _),(4,.pointer _),(14,.slice _ _ _),(15,.int _ _),(16,.int _ _)] bP λeZ=>?_;refine gP ([8,9,10,11]++b4 16 42) (λg:{k:Nat//k<=x.aK.cD.l.length/\∀j:Nat,j<k->¬((x.aK.cD.l.getD j default).kind=kind/\(x.aK.cD.l.getD j default).target=target)}=>[(16,.int .i64 ((g.1:Nat):Int))]) (λg=>x.aK.cD.l.length-g.1) (⟨0,by omega,λj aY=>by omega⟩) ?_;rintro⟨k,hk,hD⟩ bZ;try dsimp only
 apply(h2);apply(W)<;>intro aO;·
  have hg:=bJ x.aK.cD.l k default;apply(pR);refine aG qH ?_;refine aG Jq ?_;apply(dA);intro jE;apply dE∘rQ∘gE∘rO;apply cB (aC:=[_,_,_,_]) (j:=4) (a7:=25) rfl rfl aE rfl aW rfl;·intro gW;replace gW:=a8 gW;exact(gE) HW
  intro yU;apply(b3);apply(W)<;>intro bF;·refine lC (lB (lA (aZ (cR ?_))));apply(uX);exact a8k
  have vP:=aMx (S:=x.aK.cD.l) (kind:=kind) (target:=target) (k:=k) D D hD;apply iK∘eP;refine aG qI ?_;apply gE∘fH;refine cC rfl (aBG x.aK x.c5 (k:Int) x.time _ _ jA h.c5 h.LF h.time) ?_;apply(dA);intro FL;apply rP∘kJ∘tC;apply iZ (aC:=[_,_,_]) (j:=5) (a7:=44) rfl rfl aE rfl aW rfl;·intro k5;replace k5:=a8 k5;exact(fH) PP
  intro Ce;apply(c9);apply iZ (aC:=[_,_,_,_]) (j:=10) (a7:=49) rfl rfl aE rfl aW rfl;·intro qS;replace qS:=a8 qS;exact(gE) GD
  exact aW1
 exact aWa
def aNz(x:cF)(L:aP)(R:aJ)(h:tX x R):
 aI prog 54 [x.val].toArray L R (λv E G=>∃iH lO:a0 Int,v=.agg #[iH.val,lO.val]/\iH.l=GL x.aK x.c5.l x.time x.aK.bU.a3.l.length/\lO.l=KD x.aK x.c5.l x.time x.aK.bU.aX.l.length/\L=E/\cZ lO::cZ iH::R=G):=by
 have Gz:=h.aK.bU.a3;have aER:=h.aK.bU.aX;have Gn:=zE (KP h.ok).bU;have RG:=Gn.O4;have u5:=Gn.M8;refine bW 47 call54 func54 ?_;apply(c8);intro gK;apply(dA);intro cS;apply lP∘dA;intro dG;apply(r1);iterate 3 apply(eP)
 apply N8∘ZT;refine c7 [(1,.pointer _),(2,.pointer _),(3,.pointer _),(11,.int _ _),(12,.int _ _)] bP λeZ=>?_;refine mC ([4]++b4 12 12) ((⟨λg=>[(12,.int .i64 ((g.1.1:Nat):Int))],λg=>⟨dG,[g.1.2.val,.slice none 0 0],80⟩::(g.1.2.L 3 aL++(⟨cS,[.slice none 0 0,.slice none 0 0],80⟩::⟨gK,x.cells,54⟩::L)),λ_=>R,λg=>x.aK.bU.a3.l.length-g.1.1⟩:dV {g:Nat×J Int//g.1<=x.aK.bU.a3.l.length/\g.2.ok 1 aL/\g.2.l=GL x.aK x.c5.l x.time g.1})) (⟨(0,J.nil),by dsimp only;omega,J.g6,rfl⟩) bP Db fF ?_;rintro⟨⟨k,iH⟩,hk,MU,fW⟩ bZ;try dsimp only
 dsimp only at hk MU fW;have BP:iH.l.length=k:=by rw[fW,a5x]
 apply(h2);apply(W)<;>intro aO;·apply pR∘dE∘b3;refine hF O [] [0,1,2,3,4,5] [6,7,8] (_) _ cX bE a2 dT ?_;apply l1∘aRn∘wM;refine k2 rfl (aOR x 5 (k:Int) 3 _ _ h) rfl rfl ?_;rintro v E G ⟨rfl,rfl,rfl⟩;refine⟨a2,gN,?_⟩;apply(VA);rintro v E G ⟨C0,rfl,rfl,KZ⟩;replace KZ:=KZ.symm;subst KZ;apply(xF);refine o4 aYG rfl rfl rfl ?_;rintro v E G ⟨aUx,rfl,aTt,rfl,rfl⟩;exact(KI∘TL) aZC
 obtain rfl:k=x.aK.bU.a3.l.length:=by omega
 apply(AV);iterate 3 apply(eP)
 apply N8∘ZT;refine c7 [(1,.pointer _),(2,.pointer _),(3,.pointer _),(27,.slice _ _ _),(28,.int _ _),(29,.int _ _)] bP λnS=>?_;refine mC ([5,6]++b4 29 17) ((⟨λg=>[(29,.int .i64 ((g.1.1:Nat):Int))],λg=>⟨dG,[iH.val,g.1.2.val],80⟩::(g.1.2.L 3 aL++(iH.L 3 aL++(⟨cS,[.slice none 0 0,.slice none 0 0],80⟩::⟨gK,x.cells,54⟩::L))),λ_=>R,λg=>x.aK.bU.aX.l.length-g.1.1⟩:dV {g:Nat×J Int//g.1<=x.aK.bU.aX.l.length/\g.2.ok 1 aL/\g.2.l=KD x.aK x.c5.l x.time g.1})) (⟨(0,J.nil),by dsimp only;omega,J.g6,rfl⟩) bP Db fF ?_;rintro⟨⟨j,lO⟩,aY,C8,K4⟩ bZ;try dsimp only
 dsimp only at aY C8 K4;have JA:lO.l.length=j:=by rw[K4,a4h]
 apply(h2);apply(W)<;>intro bF;·have hg:=bJ x.aK.bU.aX.l j default;apply(pR);refine aG Dc ?_;apply Pu∘dA;intro hP;apply dE∘i3∘b3;refine hF O [] [0,1,2,3,4,5,6,7,8] [9,10,11] (_) _ cX bE a2 dT ?_;apply l1∘aRn∘wM∘l1;refine eO vZ ?_;refine k2 rfl (aOR x 6 (j:Int) _ _ _ h) rfl rfl ?_;rintro v E G ⟨rfl,rfl,rfl⟩;refine⟨a2,gN,?_⟩;apply(VA);rintro v E G ⟨Fx,rfl,rfl,Ms⟩;replace Ms:=Ms.symm;subst Ms;apply(xF);refine o4 b00 rfl rfl rfl ?_;rintro v E G ⟨bF5,rfl,bDQ,rfl,rfl⟩;apply KI∘TL;exact dU ⟨(j+1,⟨bF5,lO.l++[E3 x.aK.cD.l x.c5.l x.time 6 (j:Int) ((x.aK.bU.aX.l.getD j default).hH.l.length:Int)]⟩),by dsimp only;omega,bDQ,by dsimp only;rw[aNe,K4]⟩
 exact b1d
def aPa(s:dQ)(A:List Bool)(m:List eA)(t:Int){iH lO:a0 Int}(N:iH.l=GL s m t s.bU.a3.l.length)(V:lO.l=KD s m t s.bU.aX.l.length):KE s A m t=(P0 (tA s.bU ⟨iH,lO⟩ A).2 kY 3 s.cD.l m t).cU:=by
 rw[KE,<-b80 s.bU ⟨iH,lO⟩ A];have e:WW (⟨iH,lO⟩:cE)=ZS s m t:=by show(iH.l,lO.l)=_;rw[N,V,ZS]
 rw[e]
def a3M(x:cF)(A:List Bool)(L:aP)(R:aJ)(h:tX x R)(gI:lS x.aK.bU.Y A):
 aI prog 58 [x.val].toArray L R (λv E G=>∃Z:a0 a9,v=Z.val/\Z.l=KE x.aK A x.c5.l x.time/\L=E/\s3 Z::R=G):=by
 have jA:=h.aK.cD;have xT:=KP h.ok;have kD:=xT.len;have HL:=(zE xT.bU).Y.aD;refine bW 27 call58 func58 ?_;apply(c8);intro gK;apply(FG);refine gJ O [0,1,2,3,4,5,6,7,8,9,10] _ cX bE g3 ?_;apply kT∘kT∘ND;refine a4 x9 ?_;refine q1 rfl (aNz x _ _ h) rfl rfl ?_;rintro v E G ⟨iH,lO,rfl,fW,K4,rfl,rfl⟩;refine⟨a2,gN,?_⟩;refine q1 rfl (b28 x.aK.bU ⟨iH,lO⟩ A _ _ (IY h.aK.bU λr M=>aM (.tail _ (.tail _ M))) ⟨aM (.tail _ (.head _)),aM (.head _)⟩ (λ_=>gI)) rfl rfl ?_;rintro v E G ⟨q,rfl,gG,gB,rfl,rfl⟩;refine⟨a2,gN,?_⟩;refine a4 iR ?_;refine a4 sL ?_;refine a4 sL ?_;refine a4 A0 ?_;apply qD∘F7;have pV:lL x.aK.bU ⟨iH,lO⟩=true:=by exact b0v
 have rV:q.l.length=x.aK.bU.Y.aD.l.length:=by rw[gB];exact a4s xT.bU pV gI
 refine hG 90 a9.cells 2 q [] gG ?_;refine fU ?_;have b7:∀r∈R,aH r (s3 q.U::cZ lO::cZ iH::R):=λr M=>aM (.tail _ (.tail _ (.tail _ M)));apply wC∘eP∘kJ∘fH;refine cK (b2Q q.U x.aK.cD x.c5 x.time _ _ n1 (jA.mono b7) (h.c5.mono b7) (by show q.l.length<=1000;omega) D h.aUl h.LF h.time) ?_;rintro v E G ⟨dJ,fB,rfl,⟨aFU,K9⟩,aFV,F0,rfl,rfl⟩;refine aG iR ?_;apply S1∘FG;refine hG 90 a9.cells 2 dJ [] aFU ?_;refine fU ?_;apply wC∘S4;refine lJ (E:=L) (G:=s3 dJ.U::R) vD ?hp ?c2 ?bD;case hp=>exact⟨dJ.U,rfl,by show dJ.l=_;rw[aFV,aPa x.aK A x.c5.l x.time fW K4,<-gB],rfl,rfl⟩
 case c2=>exact a2
 case bD=>
  exact λr M=>by
   rcases List.mem_cons.1 M with h|h;·rw[h];exact aM (.head _)
   ·exact aM (.tail _ (.tail _ (.tail _ (.tail _ h))))
def aJx(h:A->B:=by exact(aG aI0 ·)):=h
def aKV(h:A->B:=by exact(aG lR ·)):=h
def b8t(h:A->B:=by exact(aG E0 ·)):=h
def b3U(l:wV)(w:fR)(L:aP)(R:aJ)(cV:w.xY<=2147483648/\w.cQ<=w.xY):
 aI prog 102 [l.val,w.val].toArray L R (λv E G=>v=.int .i64 (Km l w)/\L=E/\R=G):=by refine bW 18 call102 func102 ?_;apply(c8);intro cS;apply(iU);intro dG;apply g7∘aKV;refine cC rfl (aBL l _ _) ?_;exact aVC
def b4A(l:wV)(w:fR)(L:aP)(R:aJ)(cV:w.xY<=2147483648/\w.cQ<=w.xY):
 aI prog 140 [l.val,w.val].toArray L R (λv E G=>v=.int .i64 (Km l w)/\L=E/\R=G):=by refine bW 18 call140 func140 ?_;apply(c8);intro cS;apply(iU);intro dG;apply g7∘aKV;refine cC rfl (aCD l _ _) ?_;exact aVC
def b21(L:aP)(R:aJ):
 aI prog 79 ([]:List Value).toArray L R (λv E G=>v=(⟨true,-1,0⟩:fR).val/\L=E/\R=G):=by refine bW 2 call79 func79 ?_;exact aY7
def aCm(L:aP)(R:aJ):aI prog 123 ([]:List Value).toArray L R (λv E G=>v=u9.val/\L=E/\R=G):=by refine bW 2 call123 func123 ?_;exact aY3
def b2h(c:a0 b8)(r:j4)(L:aP)(R:aJ)(hc:aH (sS c) R):
 aI prog 157 [c.val,r.val].toArray L R (λv E G=>v=(o6 c.l r).val/\L=E/\R=G):=by
 refine nN call157 hc λHF=>?_;refine bW 39 call157 func157 ?_;apply(c8);intro dG;apply(dA);intro cT;apply r1∘fH∘tC;apply cB (aC:=[_,_,_,_,_,_,_,_,_,_,_,_,_,_,_,_,_,_,_,_,_,_,_,_,_,_,_]) (j:=3) (a7:=8) rfl rfl aE rfl aW rfl;·exact aV6
 intro iG;apply(b3);apply(W)<;>intro aO;·exact aYD
 apply(eR);refine cC rfl (aBb _ _) ?_;exact aVn
def b3A(c:a0 b8)(r:j4)(L:aP)(R:aJ)(hc:aH (sS c) R):
 aI prog 266 [c.val,r.val].toArray L R (λv E G=>v=(o6 c.l r).val/\L=E/\R=G):=by
 refine nN call266 hc λHF=>?_;refine bW 39 call266 func266 ?_;apply(c8);intro dG;apply(dA);intro cT;apply r1∘fH∘tC;apply cB (aC:=[_,_,_,_,_,_,_,_,_,_,_,_,_,_,_,_,_,_,_,_,_,_,_,_,_,_,_]) (j:=3) (a7:=8) rfl rfl aE rfl aW rfl;·exact aV6
 intro iG;apply(b3);apply(W)<;>intro aO;·exact aYD
 apply(eR);refine cC rfl (aCm _ _) ?_;exact aVn
def b7t{A:aP}{R:aJ}{p:J b8}(r:j4)(hp:sN (p.L 71 b8.cells) A)(bGk:p.ok 3 b8.cells):
 aI prog 157 [p.val,r.val].toArray A R (λv E G=>v=(o6 p.l r).val/\A=E/\R=G):=
 aI.a7K (S:=[sS p.U]) (λw aC bX s hs=>by
  rw[List.mem_singleton.1 hs]
  exact HA (T:=71) bX hp bGk bI bH lQ) (b2h p.U r [] _ n1)
def a5m(h:B:=by exact⟨.nil,.nil,by rw[X];rfl,⟨J.g6,J.g6⟩,by rw[JO,if_pos D],by rw[p5,if_pos D],by rw[lT,lT];rfl,rfl⟩):=h
def a58(h:A->B:=by exact(aG aYr ·)):=h
def aQ3(h:A->B:=by exact(aG qI ·)):=h
def aKD(h:A->B:=by exact pO rfl (tV (f:=fR.cells) (xs:=w) O rfl rfl rfl bH rfl rfl (cV) bI D) rfl rfl):=h
def b8G(h:A->B:=by exact(kN 5 Al dT rfl A0 ·)):=h
def b5u(h:A->B:=by exact(kN 6 Al dT rfl A0 ·)):=h
def aMu(h:A->B:=by exact(eO lR ·)):=h
def aMM{Z:List a9}{f:IL}:a9D Z [f]=[rJ Z f]:=rfl
abbrev JZ(s:dQ)(w:List fR)(t:Int):Nat->Option Int:=λi=>zR (E7 (s.dD.l.getD i default) (w.getD i default) t)
abbrev Kq(s:dQ)(m:List eA)(w:List fR)(Z:List a9)(t:Int):Nat->Int:=λi=>OJ s.cD.l m Z (s.dD.l.getD i default) (w.getD i default) t
abbrev Ec(s:dQ)(m:List eA)(w:List fR)(t:Int):Nat->fR:=λi=>GS s.cD.l m (s.dD.l.getD i default) (w.getD i default) t
structure aNu(s:dQ)(m:a0 eA)(w:a0 fR)(Z:a0 a9)(R:aJ):Prop where
 aK:zX s R
 bKG:aH (gT m) R
 bKY:aH (CY w) R
 bIX:aH (s3 Z) R
 ok:∀x∈m.l,w9 x
def aJV{s:dQ}{m:List eA}{w:List fR}{Z:List a9}{t:Int}(bQ:oI s=0)(N:m.length=s.cD.l.length/\w.length=s.dD.l.length/\Z.length=s.bU.Y.aD.l.length)(V:¬(t<0\/2147483648<t)):qW s m w Z t=((List.range w.length).findSome? (JZ s w t)).getD 0:=by rw[qW,if_neg D,if_neg (λh=>h N),if_neg V]
def b9t(s:dQ)(m:a0 eA)(w:a0 fR)(Z:a0 a9)(t:Int)(L:aP)(R:aJ)(h:aNu s m w Z R):
 aI prog 154 [s.val,m.val,w.val,Z.val,.int .i64 t].toArray L R
  (λv E G=>∃(p:J Int) (q:J fR),v=.tuple #[p.val,q.val,.int .i64 (qW s m.l w.l Z.l t)]/\(p.ok 1 aL/\q.ok 3 fR.cells)/\p.l=JO s m.l w.l Z.l t/\q.l=p5 s m.l w.l Z.l t/\p.L 3 aL++(q.L 153 fR.cells++L)=E/\R=G):=by
 obtain⟨hs,hm,cV,fW,hok⟩:=h;have jA:=hs.cD;have C7:=hs.dD;refine bW 152 call154 func154 ?_;apply(c8);intro eH;apply yG∘g7∘aQ3;refine cC rfl (a49 s _ _ hs) ?_;apply(kB);apply(W)<;>intro aO;·
  apply yF∘ME;refine bN L R HX ?_;have X:qW s m.l w.l Z.l t=oI s:=by rw[qW,if_pos aO]
  exact a5m
 have u6:=KP (s:=s) D;have oA:=u6.len;have UQ:=(zE u6.bU).Y.aD;apply Z0∘lM∘rO;apply cB (aC:=[_,_,_,_,_,_]) (j:=6) (a7:=32) rfl rfl aE rfl aW rfl;·exact a9r
 intro JG;apply(c9);apply cB (aC:=[_,_,_,_,_,_,_,_]) (j:=14) (a7:=40) rfl rfl aE rfl aW rfl;·intro qT;replace qT:=a8 qT;exact aI6
 intro UX;apply(b3);apply(W)<;>intro bF;·
  apply cO∘ME;refine bN L R HX ?_;have X:qW s m.l w.l Z.l t=11:=by rw[qW,if_neg D,if_pos D]
  exact a5m
 apply(OB);apply cB (aC:=[_,_]) (j:=2) (a7:=52) rfl rfl aE rfl aW rfl;·exact GG
 intro mY;apply(b3);apply(W)<;>intro b2;·
  apply cO∘ME;refine bN L R HX ?_;have X:qW s m.l w.l Z.l t=8:=by rw[qW,if_neg D,if_neg D,if_pos D]
  exact a5m
 have DG:=aJV (s:=s) (m:=m.l) (w:=w.l) (Z:=Z.l) (t:=t) D D D;apply(x2);refine a0r [56,57,58,59,60,14,15] ((⟨λg=>[(14,.slice (some ⟨g.1.1,0,none⟩) w.l.length w.l.length),(15,(⟨g.1.2,w.l⟩:J fR).val)],λg=>(⟨.own g.1.1 w.l.length [],List.replicate w.l.length 0⟩:J Int).L 3 aL++((⟨g.1.2,w.l⟩:J fR).L 153 fR.cells++(⟨eH,s.cells,38⟩::L)),λ_=>R,λ_=>0⟩:dV {g:Nat×gZ//(⟨g.2,w.l⟩:J fR).ok 3 fR.cells})) ?_ ?_;·
  skip
  refine Dt O [] [0,1,3,2,4,5,6] [] (_) [] 7 cX bE rfl rfl a2 λAl=>?_;refine kN 0 Al dT rfl oG ?_;refine kN 1 Al dT rfl vZ ?_;refine kN 3 Al dT rfl oG ?_;refine kI [2,4] Al dT bE ?_;refine o1 ?_ ?_;·
   skip
   refine pO rfl a3o rfl rfl ?_;rintro v E G ⟨Fy,rfl,rfl,T9⟩;replace T9:=T9.symm;subst T9;apply(fS);refine kI [4] Al dT bE ?_;apply kU∘aKD;rintro v E G ⟨aHc,rfl,Uz,rfl,rfl⟩;exact aVt
  apply kU∘aKD;rintro v E G ⟨aHc,rfl,Uz,rfl,rfl⟩;apply(fS);refine kI [2] Al dT bE ?_;apply(kU);refine pO rfl a3o rfl rfl ?_;rintro v E G ⟨Fy,rfl,rfl,T9⟩;replace T9:=T9.symm;subst T9;exact aVt
 rintro⟨⟨b,o⟩,Uz⟩ bZ;try dsimp only
 dsimp only at Uz;apply s2∘r9;refine c7 [(1,.slice _ _ _),(2,.slice _ _ _),(3,.slice _ _ _),(4,.int _ _),(5,.pointer _),(14,.slice _ _ _),(15,.slice _ _ _),(62,.slice _ _ _),(63,.int _ _),(64,.int _ _)] bP λeZ=>?_;refine kO ([10,11,12,16,17,18,19,20]++b4 64 86) ((⟨λg=>[(64,.int .i64 ((g.1.1:Nat):Int))],λg=>(⟨.own b w.l.length [],g.1.2.1⟩:J Int).L 3 aL++((⟨o,g.1.2.2⟩:J fR).L 153 fR.cells++(⟨eH,s.cells,38⟩::L)),λ_=>R,λg=>w.l.length-g.1.1⟩:dV {g:Nat×List Int×List fR//(g.1<=w.l.length/\(List.range w.l.length).findSome? (JZ s w.l t)=((List.range w.l.length).drop g.1).findSome? (JZ s w.l t))/\QM w.l.length 0 (Kq s m.l w.l Z.l t) g.1 g.2.1/\MD w.l (Ec s m.l w.l t) g.1 g.2.2})) (⟨(0,List.replicate w.l.length 0,w.l),⟨by dsimp only;omega,by rw[Jd]⟩,.zero,.zero⟩) ?_;rintro⟨⟨k,vs,ws⟩,⟨hk,hp⟩,K3,pA⟩ bZ;try dsimp only
 dsimp only at hk hp K3 pA;have wI:=K3.len;have vR:=pA.len;have aGG:(⟨.own b w.l.length [],vs⟩:J Int).ok 1 aL:=by have:=JL aL 1 b w.l.length 0 CG;exact J.oZ CG this (by simp;exact wI)
 have Bv:(⟨o,ws⟩:J fR).ok 3 fR.cells:=J.oZ bI Uz vR;apply(h2);apply(W)<;>intro dZ;·
  have rR:=bJ s.dD.l k default;have a2a:=bJ w.l k default;have aTY:=K3.YE k (g4 _) D;have aTZ:=pA.qV k (g4 _);rw[a2a]at aTZ;have a1q:=aO6 (u6.cond _ (gU rR));have Gm:=λ(v:Int)=>K3.next (x:=v) D;have MQ:=λ(v:fR)=>pA.next (x:=v) D;have l5:=KH (f:=JZ s w.l t) hp D;have nG:=λ(e:Int) (X:JZ s w.l t k=some e)=>zC (f:=JZ s w.l t) hp D X;obtain⟨c,hc⟩:∃c,c=s.dD.l.getD k default:=⟨_,rfl⟩;obtain⟨sH,Bu⟩:∃sH,sH=w.l.getD k default:=⟨_,rfl⟩;obtain⟨fQ,UB⟩:∃fQ,fQ=rL s.cD.l m.l c.target t:=⟨_,rfl⟩;have aGE:JZ s w.l t k=zR (E7 c sH t):=by rw[hc,Bu]
  have aGF:Kq s m.l w.l Z.l t k=OJ s.cD.l m.l Z.l c sH t:=by rw[hc,Bu]
  have a7x:Ec s m.l w.l t k=GS s.cD.l m.l c sH t:=by rw[hc,Bu]
  rw[<-hc]at rR a1q;rw[<-Bu]at a2a aTZ;rw[aGF]at Gm;rw[aGE]at l5 nG;rw[a7x]at MQ;rw[OJ,<-UB]at Gm;rw[E7]at l5 nG;apply(pR);refine aG qH ?_;refine aG a26 ?_;apply(dA);intro I3;apply dE∘rP∘aQ3∘hM∘gE;refine cC rfl (aBG s m c.target t _ _ jA hm hok D) ?_;rw[<-UB];apply(dA);intro MK;apply(CL);refine eI (aZ (e3 (a6 (cR ?_))));apply(v8);apply(W)<;>intro dX;·
   refine a6 ?_;refine gJ O [0,1,2,3,4,5,6,7,8,9,10,11,12,13,14] ([a5.mk MK _ _,a5.mk I3 _ _]) cX bE a2 ?_;apply(kT);refine a4 lR ?_;refine a4 oG ?_;apply FF∘PC∘YF∘g1;refine k6 rfl (b3S c.nI sH fQ t _ _) ?_;refine a4 iR ?_;refine a4 sL ?_;refine a4 sL ?_;apply(p2);intro KQ;apply wX∘LI∘b1∘qP;apply(W)<;>intro h3;·apply yF∘yG∘dE;refine eI (aZ (iT (gD (iS (iS (gD (wS (iS (gD ?_)))))))));refine bN L R HX ?_;have iJ:=nG (A5 c.nI sH t) (by rw[if_pos dX,a4C h3]);(have X:qW s m.l w.l Z.l t=A5 c.nI sH t:=by rw[DG,iJ];rfl);exact a5m
   (have F1:A5 c.nI sH t=0:=by omega);rw[a4p F1];refine dK (aZ ?_);refine hF O [96,97] [0,1,2,3,4,5,6,7,8,9] [10,11,12] ([a5.mk KQ _ _,a5.mk MK _ _,a5.mk I3 _ _]) _ cX bE a2 (by(repeat(first|apply List.Sublist.cons (a:=a5.mk Lq _ _)|apply List.Sublist.cons (a:=a5.mk sA _ _)|apply List.Sublist.cons_cons));exact oR _) ?_;apply(G2);refine m5 oG ?_;refine m5 zV ?_;apply(aMu);refine eO aIm ?_;apply(aMu);refine eO R9 ?_;refine k2 rfl (b71 c (yI c.nI sH fQ t) fQ _ _) rfl rfl ?_;rintro v E G ⟨rfl,rfl,rfl⟩;refine⟨a2,gN,?_⟩;refine eO (h4 O ((⟨o,ws⟩:J fR)) _ rfl rfl ((show _=Value.slice _ _ _ from rfl).trans (by simp only[J.val,vR])) rfl bC (i:=k) cW iC) ?_;apply(x1);refine GO (SV O ((⟨o,ws⟩:J fR)) (yI c.nI sH fQ t) rfl rfl rfl rfl c0 bC bI bC (LM rfl) aE aE) rfl rfl ?_;rintro v E G ⟨rfl,rfl⟩;apply(fS);refine a4 aYr ?_;refine GO (jL O ((⟨.own b w.l.length [],vs⟩:J Int)) (if(yI c.nI sH fQ t).over=false then -1 else if xG fQ c.nI.cut=1 then 1 else 0) rfl rfl rfl rfl c0 bC bI bC bH aE aE) rfl rfl ?_;rintro v E G ⟨rfl,rfl⟩;apply(fS);refine gS (gV (gV (aZ (cR ?_))));apply(uX);exact dU ⟨(k+1,vs.set k (if(yI c.nI sH fQ t).over=false then -1 else if xG fQ c.nI.cut=1 then 1 else 0),ws.set k (yI c.nI sH fQ t)),l5 (by rw[if_pos dX,F1];rfl),Gm _ (by rw[if_neg (show¬c.kind=5 by omega),if_neg (show¬c.kind=2 by omega),if_neg (show¬c.kind=3 by omega),if_neg (show¬c.kind=4 by omega)]),MQ _ (by rw[GS,if_pos dX,UB])⟩
  have cI:GS s.cD.l m.l c sH t=sH:=by rw[GS,if_neg dX]
  have a1l:=pA.EQ (show w.l[k]?=some (Ec s m.l w.l t k) by rw[a7x,a2a,cI]);have iB:=l5 (by rw[if_neg dX];rfl);apply(oX);apply(W)<;>intro hW;·apply yH∘oC∘fH;refine cC rfl (aAv fQ c.value _ _) ?_;(have Nj:-1<=xG fQ c.value/\xG fQ c.value<=1:=by rw[xG];(repeat' split)<;>omega);apply x3∘a58;refine i4 (jL O ((⟨.own b w.l.length [],vs⟩:J Int)) (-(xG fQ c.value)) rfl rfl rfl rfl c0 bC bI bC bH aE aE) ?_;rintro v E G ⟨rfl,rfl⟩;refine eI (gV (gV (aZ (cR ?_))));apply(uX);exact dU ⟨(k+1,vs.set k (-(xG fQ c.value)),ws),iB,Gm _ (by rw[if_neg D,if_pos hW]),a1l⟩
  apply(oX);apply(W)<;>intro oO;·apply yH∘oC;refine cC rfl (b3m fQ _ _) ?_;apply(a58);refine i4 (jL O ((⟨.own b w.l.length [],vs⟩:J Int)) (Jz fQ) rfl rfl rfl rfl c0 bC bI bC bH aE aE) ?_;rintro v E G ⟨rfl,rfl⟩;refine eI (gV (gV (aZ (cR ?_))));apply(uX);exact dU ⟨(k+1,vs.set k (Jz fQ),ws),iB,Gm _ (by rw[if_neg D,if_neg D,if_pos oO]),a1l⟩
  apply(oX);apply(W)<;>intro FV;·
   apply TC∘a58;refine i4 (jL O ((⟨.own b w.l.length [],vs⟩:J Int)) (-1) rfl rfl rfl rfl c0 bC bI bC bH aE aE) ?_;rintro v E G ⟨rfl,rfl⟩;apply(jW);refine gJ O [0,1,2] ([a5.mk MK _ _]) cX bE a2 ?_;apply(YF);refine k6 rfl (SS _ _) ?_;refine a4 (a5X Kx rfl rfl) ?_;apply(vW);apply(W)<;>intro aEK;·have bKg:=J.p4 (p:=(⟨.own b w.l.length [],vs⟩:J Int)) (i:=k) (x:= -1) CG aGG;have bKf:(vs.set k (-1))[k]?=some (-1):=tQ D;apply(yH);refine aG (h4 O ((⟨.own b w.l.length [],vs.set k (-1)⟩:J Int)) _ rfl rfl ((show _=Value.slice _ _ _ from rfl).trans (v4 (by rw[p6];exact wI))) rfl bC (i:=k) cW iC) ?_;refine i4 (jL O ((⟨.own b w.l.length [],vs.set k (-1)⟩:J Int)) (1) rfl rfl rfl rfl c0 bC bI bC bH aE aE) ?_;rintro v E G ⟨rfl,rfl⟩;refine eI (gV (gV (aZ (cR ?_))));apply(uX);exact dU ⟨(k+1,(vs.set k (-1)).set k 1,ws),iB,by dsimp only;rw[y6];exact Gm _ (by rw[if_neg D,if_neg D,if_neg D,if_pos FV,if_pos (W1.2 D)]),a1l⟩
   refine dK (gV (gV (aZ (cR ?_))));apply(uX);exact dU ⟨(k+1,vs.set k (-1),ws),iB,Gm _ (by rw[if_neg D,if_neg D,if_neg D,if_pos FV,if_neg (λe=>by rw[W1]at e;omega)]),a1l⟩
  apply(oX);apply(W)<;>intro bB1;·apply yH∘hM∘kJ∘y0;refine gO Qy rfl ?_;rintro v E G ⟨bAd,rfl,rfl,aD0⟩;replace aD0:=aD0.symm;subst aD0;refine JM 2 1 1 [IL.cells ⟨c.target,c.value⟩] [] (λr M=>by rw[List.mem_singleton.1 M];rfl) ?_;refine cK (b7S Z ⟨some ⟨bAd,0,none⟩,1,[⟨c.target,c.value⟩]⟩ _ _ (fW.mono λr h=>aM (by simp[h])) n1 (λf hf=>by rw[List.mem_singleton.1 hf];dsimp only;omega) (show 1<=1000 by decide) D) ?_;rintro v E G ⟨p,rfl,X0,eB,rfl,rfl⟩;rw[aMM]at eB;(have g0:p.l[0]?=some (rJ Z.l ⟨c.target,c.value⟩):=by rw[eB];rfl);(have bJU:p.l.length=1:=by rw[eB];rfl);(have FY:-1<=rJ Z.l ⟨c.target,c.value⟩/\rJ Z.l ⟨c.target,c.value⟩<=1:=by rw[rJ,HB];(repeat' split)<;>omega);refine aG (h4 O (p) _ rfl rfl rfl rfl bC (i:=0) cW iC) ?_;refine aG R8 ?_;apply x3∘a58;refine i4 (jL O ((⟨.own b w.l.length [],vs⟩:J Int)) (-(rJ Z.l ⟨c.target,c.value⟩)) rfl rfl rfl rfl c0 bC bI bC bH aE aE) ?_;rintro v E G ⟨rfl,rfl⟩;refine eI (gV (gV (aZ (cR ?_))));apply(uX);exact oT ⟨(k+1,vs.set k (-(rJ Z.l ⟨c.target,c.value⟩)),ws),iB,Gm _ (by rw[if_pos bB1]),a1l⟩ kG bP a2 (λr h=>aM (by simp[h])) k1
  (exfalso;omega)
 obtain rfl:k=w.l.length:=by omega
 have hn:=KO (f:=JZ s w.l t) hp (g4 _);have X:qW s m.l w.l Z.l t=0:=by rw[DG,hn];rfl
 apply S5∘hM∘yG∘q3;refine bN ((⟨.own b w.l.length [],vs⟩:J Int).L 3 aL++((⟨o,ws⟩:J fR).L 153 fR.cells++L)) R HX ?_;exact⟨(⟨.own b w.l.length [],vs⟩:J Int),(⟨o,ws⟩:J fR),by rw[X,J.val,J.val,wI,vR];try rfl,⟨aGG,Bv⟩,by rw[JO,if_neg D];exact K3.done,by rw[p5,if_neg D];exact pA.done,rfl,rfl⟩
def aCu(h:B:=by exact⟨.nil,.nil,by rw[X];rfl,⟨J.g6,J.g6⟩,by rw[qA,if_pos D],by rw[AD,if_pos D],by rw[lT,lT];rfl,rfl⟩):=h
def aP8{s:dQ}{v:List Int}{c:List b8}{k:Nat}:BE s v c (k+1)=if v0 (s.aU.l.getD k default).jQ.l v≠-1/\(c.getD k default).off=false then BE s v c k++[(k:Int)]else BE s v c k:=rfl
def aBr{s:dQ}{v:List Int}{c:List b8}: ∀n,(BE s v c n).length<=n
 |0=>by simp[BE]
 |n+1=>by
  have:=aBr (s:=s) (v:=v) (c:=c) n
  rw[BE]
  split
  ·rw[iD,pN];omega
  ·omega
def b9m(s:dQ)(u:a0 Int)(c:a0 b8)(t:Int)(L:aP)(R:aJ)(hs:zX s R)(hv:aH (cZ u) R)(hc:aH (sS c) R):
 aI prog 155 [s.val,u.val,c.val,.int .i64 t].toArray L R
  (λz E G=>∃(p:J b8) (q:J Int),z=.tuple #[p.val,q.val,.int .i64 (q6 s u.l c.l t)]/\(p.ok 3 b8.cells/\q.ok 1 aL)/\p.l=qA s u.l c.l t/\q.l=AD s u.l c.l t/\q.L 3 aL++(p.L 71 b8.cells++L)=E/\R=G):=by
 have pL:=hs.aU;refine bW 93 call155 func155 ?_;apply(c8);intro cT;apply yG∘g7;refine aG qI ?_;refine cC rfl (a49 s _ _ hs) ?_;apply(kB);apply(W)<;>intro aO;·
  apply yF∘ME;refine bN L R HX ?_;have X:q6 s u.l c.l t=oI s:=by rw[q6,if_pos aO]
  exact aCu
 have u6:=KP (s:=s) D;have oA:=u6.len;apply Z0∘lM∘rO;apply cB (aC:=[_,_,_,_,_,_]) (j:=6) (a7:=29) rfl rfl aE rfl aW rfl;·exact a9r
 intro JG;apply(b3);apply(W)<;>intro bF;·
  apply cO∘ME;refine bN L R HX ?_;have X:q6 s u.l c.l t=11:=by rw[q6,if_neg D,if_pos D]
  exact aCu
 apply(OB);apply cB (aC:=[_,_]) (j:=2) (a7:=39) rfl rfl aE rfl aW rfl;·exact GG
 intro mY;apply(b3);apply(W)<;>intro b2;·
  apply cO∘ME;refine bN L R HX ?_;have X:q6 s u.l c.l t=8:=by rw[q6,if_neg D,if_neg D,if_pos D]
  exact aCu
 have X:q6 s u.l c.l t=0:=by rw[q6,if_neg D,if_neg D,if_neg D]
 apply(G1);refine gO aZZ rfl ?_;rintro v E G ⟨bF6,rfl,aTu,rfl,rfl⟩;apply(FG);obtain⟨yC,aDM⟩:∃yC,yC=bF6:=⟨_,rfl⟩;rw[<-aDM]at aTu|-;apply eK∘z5∘r9;refine c7 [(1,.slice _ _ _),(3,.int _ _),(12,.slice _ _ _),(13,.slice _ _ _),(46,.slice _ _ _),(47,.int _ _),(48,.int _ _)] bP λeZ=>?_;refine mC ([13,14,15,16,17]++b4 48 43) ((⟨λg=>[(48,.int .i64 ((g.1.1:Nat):Int)),(13,g.1.2.2.val)],λg=>g.1.2.2.L 3 aL++((⟨yC,g.1.2.1⟩:J b8).L 71 b8.cells++(⟨cT,s.cells,38⟩::L)),λ_=>R,λg=>c.l.length-g.1.1⟩:dV {g:Nat×List b8×J Int//g.1<=c.l.length/\MD c.l (KT s u.l c.l t) g.1 g.2.1/\g.2.2.ok 1 aL/\g.2.2.l=BE s u.l c.l g.1})) (⟨(0,c.l,J.nil),by dsimp only;omega,.zero,J.g6,rfl⟩) bP DP fF ?_;rintro⟨⟨k,cs,q⟩,hk,pA,gG,gB⟩ bZ;try dsimp only
 dsimp only at hk pA gG gB;have vR:=pA.len;have AK:(⟨yC,cs⟩:J b8).ok 3 b8.cells:=J.oZ bI aTu vR;have rV:q.l.length<=k:=by rw[gB];exact aBr k
 apply(h2);apply(W)<;>intro dZ;·
  have rZ:=bJ s.aU.l k default;have Nm:=bJ c.l k default;have rR:=pA.qV k (g4 _);rw[Nm]at rR;have MQ:=λ(x:b8)=>pA.next (x:=x) D;have a6O:=pA.EQ (i:=k);have Hj:=aP8 (s:=s) (v:=u.l) (c:=c.l) (k:=k);obtain⟨z,eC⟩:∃z,z=s.aU.l.getD k default:=⟨_,rfl⟩;obtain⟨iE,Nn⟩:∃iE,iE=c.l.getD k default:=⟨_,rfl⟩;obtain⟨V9,K3⟩:∃V9,V9=v0 z.jQ.l u.l:=⟨_,rfl⟩;have Q8:KT s u.l c.l t k=WY V9 iE t:=by rw[KT,K3,eC,Nn]
  rw[<-eC]at rZ;rw[<-Nn]at rR Nm;rw[<-eC,<-Nn,<-K3]at Hj;rw[Q8]at MQ;rw[Q8,Nm]at a6O;apply(pR);refine aG qH ?_;apply(OH);intro Lq;apply dE∘rP∘h7;refine aG aYg ?_;apply U9∘lP∘fH∘hM;refine cC rfl (aQ2 z.jQ u _ _ (aH.jQ pL rZ) hv) ?_;rw[<-K3];apply Ez∘mT;apply(W)<;>intro dX;·
   apply s2∘hS;refine aG iQ ?_;apply(k7);refine aG b0t ?_;apply(mT);apply(W)<;>intro h3;·apply A9∘b1;refine aG iQ ?_;apply(k7);refine i4 b0K ?_;rintro v E G ⟨rfl,rfl⟩;refine eI (aZ (lC (lB (lA (aZ (cR ?_))))));exact(uX) aYh
   refine dK (aZ (lC (lB (lA (aZ (cR ?_))))));exact(uX) aZ8
  apply eR∘hS;refine aG iQ ?_;apply(k7);refine i4 b0I ?_;rintro v E G ⟨rfl,rfl⟩;apply(jW);have aEP:=J.p4 (f:=b8.cells) (aR:=3) (p:=(⟨yC,cs⟩:J b8)) (i:=k) (x:=⟨iE.off,-1,iE.jJ⟩) bI AK;have aEO:(cs.set k ⟨iE.off,-1,iE.jJ⟩)[k]?=some ⟨iE.off,-1,iE.jJ⟩:=tQ D;apply(A9);refine aG iQ ?_;apply(k7);refine aG b0U ?_;apply(oW);apply(W)<;>intro hW;·have bCf:=J.p4 (f:=b8.cells) (aR:=3) (p:=(⟨yC,cs.set k ⟨iE.off,-1,iE.jJ⟩⟩:J b8)) (i:=k) (x:=⟨true,-1,iE.jJ⟩) bI aEP;have bCc:((cs.set k ⟨iE.off,-1,iE.jJ⟩).set k ⟨true,-1,iE.jJ⟩)[k]?=some ⟨true,-1,iE.jJ⟩:=tQ Qs;apply cO∘hS∘G4;refine aG iQ ?_;apply(k7);refine i4 b0p ?_;rintro v E G ⟨rfl,rfl⟩;refine aG iQ ?_;apply(k7);refine i4 aZY ?_;rintro v E G ⟨rfl,rfl⟩;refine eI (aZ (cR ?_));apply(WT);rintro v E G ⟨a6p,rfl,rfl,D9⟩;replace D9:=D9.symm;subst D9;refine gO aY9 rfl ?_;rintro v E G ⟨aHj,rfl,a1T,rfl,rfl⟩;apply jS∘wB;exact dU ⟨(k+1,((cs.set k ⟨iE.off,-1,iE.jJ⟩).set k ⟨true,-1,iE.jJ⟩).set k ⟨true,-1,V9⟩,(⟨aHj,_⟩:J Int)),by dsimp only;omega,by dsimp only;rw[y6,y6];exact MQ _ (by rw[WY,if_neg dX,if_neg Xs]),a1T,by dsimp only;rw[Hj,if_pos ⟨dX,by simpa using hW⟩,gB]⟩
  exact(n6) b0X
 exact aYm
end
attribute [local irreducible] cH c6 dP aI cJ eD e9 e0 e1 e5 eS e8 J.L
def a5E(h:A->B:=by exact(a4 A0 ·)):=h
def aAQ(h:A->B:=by exact(aG lR ·)):=h
def aPA(h:A->B:=by exact(a4 qI ·)):=h
def b9z{A B C:aP}{x:a5}:(A++(x::(B++C))).Perm (x::(B++(A++C))):=List.perm_middle.trans (.cons _ (a8U A B C))
def aNs(g:hQ)(p:b0)(l:List Int){k:Nat}{z:Int}(h:l[k]?=some z):E6 g p (l.take (k+1))=zB g (E6 g p (l.take k)) z:=by rw[PM,h];simp[E6,Iy]
def a4z(kind:Int)(p:b0)(l:List Int){k:Nat}{z:Int}(h:l[k]?=some z):xH kind p (l.take (k+1))=o7 (xH kind p (l.take k)) kind z 0:=by rw[PM,h];simp[xH,Iy]
def aAu{g:hQ}: ∀(l:List Int) {p:b0},(E6 g p l).aS.length=p.aS.length
 |[],p=>rfl
 |z::l,p=>(aAu l).trans (by rw[aQ9])
def a3S{g:hQ}{p:b0}(dO:List Int): ∀k,(n8 g dO p k).aS.length=p.aS.length
 |0=>rfl
 |k+1=>by
  rw[n8,L8]
  split
  ·exact a3S dO k
  ·rw[aQ9]
   show(List.set _ _ _).length=_
   rw[p6];exact a3S dO k
def aMs{s:dQ}{v:List Int}{c:List b8}: ∀k,(BE s v c k).length<=k
 |0=>g4 _
 |k+1=>by
  have h:=aMs (s:=s) (v:=v) (c:=c) k
  rw[BE]
  split
  ·rw[iD,pN];omega
  ·omega
def a5t{s:dQ}{v:List Int}{c:List b8}: ∀k,∀z∈BE s v c k,0<=z/\z<k
 |0,z,h=>by cases h
 |k+1,z,h=>by
  rw[BE]at h
  split at h
  ·rcases List.mem_append.1 h with h|h
   ·have:=a5t k z h;omega
   ·rw[List.mem_singleton.1 h];omega
  ·have:=a5t k z h;omega
def a0a(a1:hQ)(p:b0)(x:cF)(bS:J fK)(b:Nat)(t:Int)(L:aP)(R:aJ)(dR:Inv a1 p)(K:h5 a1 p ({x with eM:=bS.U}:cF))(hs:zX x.aK R)(hm:aH (gT x.c5) R)(cV:aH (CY x.eF) R)(hc:aH (sS x.aS) R)(hf:k9 x.cP R)(UH:bS.ok 4 fK.cells)(dS:p.time<=t/\t<=2147483648):
 aI prog 82 [.pointer (some ⟨b,0,none⟩),.int .i64 t].toArray (⟨b,({x with eM:=bS.U}:cF).cells,54⟩::(bS.L 150 fK.cells++L)) R
  (λv E G=>∃(w:a0 fR) (c:a0 b8) (f:hI) (q:J fK) (S:aJ),q.ok 4 fK.cells/\h5 a1 (bM a1 p t) ({x with time:=t,eF:=w,aS:=c,cP:=f,aB:=(bM a1 p t).aB,eM:=q.U}:cF)/\(aH (CY w) (S++R)/\aH (sS c) (S++R)/\k9 f (S++R))/\
   ⟨b,({x with time:=t,eF:=w,aS:=c,cP:=f,aB:=(bM a1 p t).aB,eM:=q.U}:cF).cells,54⟩::(q.L 150 fK.cells++L)=E/\S++R=G):=by
 have Q3:=dR.at dS.1 dS.2;have hv:tX ({x with time:=t,eM:=bS.U}:cF) R:=tX.of (x:={x with time:=t,eM:=bS.U}) (p:=({p with time:=t}:b0)) Q3 {K with time:=rfl} hs hm;have gI:lS x.aK.bU.Y a1.bU:=fZ.xI K.aK Q3.xI;have bJS:bS.l=p.eM:=K.eM;have pX:x.c5.l=p.c5:=K.c5;have vR:x.eF.l=p.eF:=K.eF;have i1:x.aS.l=p.aS:=K.aS;have a7u:x.cP.aT.l=p.aF:=K.aF;have Pk:x.cP.aU.l=a1.cG:=K.cG;have bEE:x.cP.cA=a1.bT:=K.bT;have tL:=dR.Qx;have BU:x.aK.aU.l.length=a1.aK.aU.l.length:=fZ.a7O K.aK;have aSI:=dR.D5;have xT:=dR.RX.len;have a7s:=Q3.iV;have Ox:=a7s.NG;have a1c:Inv a1 ({p with time:=t,eF:=p5 a1.aK p.c5 p.eF (fC a1 ({p with time:=t}:b0)) t,aS:=qA a1.aK (o5 a1 ({p with time:=t}:b0)) p.aS t}:b0):=Q3.aHw;dsimp only[cF.cells];refine bW 209 call82 func82 ?_;apply cO∘G4;refine aG iQ ?_;apply r7∘jW;refine gJ O [0,1,2,3,4,5,6,7,8,9,10,11,12,13,14,16,15,17,18,19,20,21,22,23,24] _ cX bE g3 ?_;apply S0∘kT∘aPA∘TI∘TI∘S0;refine a4 x9 ?_;apply(g1);refine q1 rfl (a3M {x with time:=t,eM:=bS.U} a1.bU _ _ hv gI) rfl rfl ?_;rintro v E G ⟨Z,rfl,aE1,rfl,rfl⟩;refine⟨a2,gN,?_⟩;refine q1 rfl (b9t x.aK x.c5 x.eF Z t _ _ ⟨hs.mono λr M=>aM (.tail _ M),hm.mono λr M=>aM (.tail _ M),cV.mono λr M=>aM (.tail _ M),aM (.head _),hv.LF⟩) rfl rfl ?_;rintro v E G ⟨pE,mG,rfl,⟨aGa,aGe⟩,aGb,aGf,rfl,rfl⟩;refine⟨a2,gN,?_⟩;refine a4 iR ?_;iterate 3 refine a4 sL ?_
 apply a5E∘a5E∘qD;refine gS (aZ (a6 (a6 ?_)));have Uo:Z.l=fC a1 ({p with time:=t}:b0):=by rw[aE1];show KE x.aK a1.bU x.c5.l t=_;rw[fZ.g8 K.aK,pX];rfl
 have bBz:qW x.aK x.c5.l x.eF.l Z.l t=0:=by rw[fZ.qW K.aK,pX,vR,Uo];exact Q3.a2G
 have X1:pE.l=o5 a1 ({p with time:=t}:b0):=by rw[aGb,fZ.JO K.aK,pX,vR,Uo];rfl
 have aGc:mG.l=p5 a1.aK p.c5 p.eF (fC a1 ({p with time:=t}:b0)) t:=by rw[aGf,fZ.p5 K.aK,pX,vR,Uo]
 refine hG 3 aL 1 pE [] aGa ?_;refine fU ?_;refine hG 153 fR.cells 3 mG [] aGe ?_;refine fU ?_;have nF:∀r∈R,aH r (CY mG.U::cZ pE.U::s3 Z::R):=λr M=>aM (.tail _ (.tail _ (.tail _ M)));have bCC:i6 x.cP.aT.l x.cP.aU.l x.cP.cA=0:=by rw[a7u,Pk,bEE];exact dR.BN
 refine gJ O [0,1,2,3,4,5,6,7,8,9,10,11,12,13,14,15,16,17,18,19,20,21,22,23,24] _ cX bE g3 ?_;apply(g1);refine a4 LR ?_;apply(tN);refine l0 (k:=48) aW (λjM=>?_) (λjM=>?_);·replace jM:=a8 jM;exact absurd bBz jM
 replace jM:=a8 jM;apply S0∘kT;refine a4 lR ?_;refine k6 rfl (Fq x.cP _ _ (hf.mono nF)) ?_;refine a4 LR ?_;apply(mU);refine l0 (k:=56) aW (λnY=>?_) (λnY=>?_);·replace nY:=a8 nY;exact absurd bCC nY
 replace nY:=a8 nY;apply S0∘OE;refine a4 vZ ?_;apply S0∘OE;refine a4 vZ ?_;refine a4 LR ?_;apply(m2);apply(W)<;>intro aO;·(exfalso;rw[Pk]at aO;omega)
 apply(x2);refine gJ O [0,1,2,3,4,5,6,7,8,9,10,11,12,13,14,15,16,17] _ cX bE g3 ?_;apply S0∘kT∘aPA;refine a4 oG ?_;apply S0∘oV;refine q1 rfl (b9m x.aK pE.U x.aS t _ _ (hs.mono nF) YR (hc.mono nF)) rfl rfl ?_;rintro v E G ⟨eW,qE,rfl,⟨XZ,aGm⟩,aTy,aTG,rfl,rfl⟩;refine⟨a2,gN,?_⟩;refine a4 iR ?_;iterate 3 refine a4 sL ?_
 apply a5E∘a5E∘qD;refine gS (aZ (a6 (a6 ?_)));have bBb:q6 x.aK pE.l x.aS.l t=0:=by rw[fZ.q6 K.aK,X1,i1];exact Q3.aDk
 have Om:eW.l=qA a1.aK (o5 a1 ({p with time:=t}:b0)) p.aS t:=by exact aXy
 have rV:qE.l=(AD a1.aK (o5 a1 ({p with time:=t}:b0)) p.aS t):=by exact aXz
 refine hG 3 aL 1 qE [] aGm ?_;refine fU ?_;apply(WS);apply(W)<;>intro bF;·exact absurd bBb bF
 apply eR∘hS∘hS∘Fb;refine aG iQ ?_;apply(uY);refine aG iQ ?_;apply uY∘y1;obtain⟨gR,D7⟩:∃gR,gR=cZ qE.U::CY mG.U::cZ pE.U::s3 Z::R:=⟨_,rfl⟩;have Q5:∀r∈R,aH r gR:=λr M=>aM (by rw[D7];exact .tail _ (.tail _ (.tail _ (.tail _ M))));have aGl:aH (cZ qE.U) gR:=aM a2W;have aGd:aH (CY mG.U) gR:=aM a3x;have aF8:aH (cZ pE.U) gR:=aM a86;refine sU a3c ?_;have bJN:eW.l.length=a1.aK.aU.l.length:=by rw[Om];exact a1c.D5
 have bEz:qE.l.length<=16:=by exact aWP
 refine aN0 b9z ?_;refine mJ (E:=⟨b,({x with time:=t,eF:=mG.U,aS:=eW.U,eM:=bS.U}:cF).cells,54⟩::(bS.L 150 fK.cells++(eW.L 71 b8.cells++L))) rfl ?_;apply eK∘D2;refine c7 [(0,.pointer _),(1,.int _ _),(4,.slice _ _ _),(96,.slice _ _ _),(97,.int _ _),(98,.int _ _)] bP λeZ=>?_;refine kO ([10]++b4 98 8) ((⟨λg=>[(98,.int .i64 ((g.1.1:Nat):Int))],λg=>⟨b,({x with time:=t,eF:=mG.U,aS:=eW.U,cP:=g.1.2.1,eM:=g.1.2.2.1.U}:cF).cells,54⟩::(g.1.2.2.1.L 150 fK.cells++(eW.L 71 b8.cells++L)),λg=>g.1.2.2.2,λg=>qE.l.length-g.1.1⟩:dV {g:Nat×hI×J fK×aJ//g.1<=qE.l.length/\g.2.2.1.ok 4 fK.cells/\h5 a1 (E6 a1 ({p with time:=t,eF:=p5 a1.aK p.c5 p.eF (fC a1 ({p with time:=t}:b0)) t,aS:=qA a1.aK (o5 a1 ({p with time:=t}:b0)) p.aS t}:b0) (qE.l.take g.1)) ({x with time:=t,eF:=mG.U,aS:=eW.U,cP:=g.2.1,eM:=g.2.2.1.U}:cF)/\k9 g.2.1 g.2.2.2/\∀r∈gR,aH r g.2.2.2})) (⟨(0,x.cP,bS,gR),by dsimp only;omega,UH,{K with time:=rfl,eF:=aGc,aS:=Om},hf.mono Q5,mB _⟩) ?_;rintro⟨⟨k,iA,zQ,r5⟩,hk,aFl,XL,w4,a6K⟩ bZ;try dsimp only
 dsimp only[cF.cells];dsimp only at hk aFl XL w4 a6K;have w2:Inv a1 (E6 a1 ({p with time:=t,eF:=p5 a1.aK p.c5 p.eF (fC a1 ({p with time:=t}:b0)) t,aS:=qA a1.aK (o5 a1 ({p with time:=t}:b0)) p.aS t}:b0) (qE.l.take k)):=a1c.aS _;apply(h2);apply(W)<;>intro b2;·have DE:=bJ qE.l k 0;have bEA:=a5t (s:=a1.aK) (v:=o5 a1 ({p with time:=t}:b0)) (c:=p.aS) p.aS.length (qE.l.getD k 0) (by(have e:BE a1.aK (o5 a1 ({p with time:=t}:b0)) p.aS p.aS.length=qE.l:=by rw[rV,AD,if_neg aIx]);rw[e];exact gU DE);have bEy:=aGl.mono a6K;have cI:=aNs a1 ({p with time:=t,eF:=p5 a1.aK p.c5 p.eF (fC a1 ({p with time:=t}:b0)) t,aS:=qA a1.aK (o5 a1 ({p with time:=t}:b0)) p.aS t}:b0) qE.l DE;apply(j7);refine aG qH ?_;apply jI∘dE;refine eI (aZ (cR ?_));apply(G4);refine cK (aNR a1 (E6 a1 ({p with time:=t,eF:=p5 a1.aK p.c5 p.eF (fC a1 ({p with time:=t}:b0)) t,aS:=qA a1.aK (o5 a1 ({p with time:=t}:b0)) p.aS t}:b0) (qE.l.take k)) {x with time:=t,eF:=mG.U,cP:=iA} eW zQ b (qE.l.getD k 0) _ _ w2 XL w4 XZ aFl (by rw[aAu];show _/\_<((qA a1.aK (o5 a1 ({p with time:=t}:b0)) p.aS t).length:Int);rw[<-Om];omega)) ?_;rintro v E G ⟨iN,xX,e2,a1K,uI,vO,rfl,rfl⟩;apply(wB);exact dU ⟨(k+1,iN,xX,e2++r5),by dsimp only;omega,a1K,by dsimp only;rw[cI];exact uI,vO,λr M=>(a6K r M).mono λr M=>aM (mA _ M)⟩
 obtain rfl:k=qE.l.length:=by omega
 have aEr:E6 a1 ({p with time:=t,eF:=p5 a1.aK p.c5 p.eF (fC a1 ({p with time:=t}:b0)) t,aS:=qA a1.aK (o5 a1 ({p with time:=t}:b0)) p.aS t}:b0) (qE.l.take qE.l.length)=iV a1 ({p with time:=t}:b0):=by rw[HV (g4 _),rV];rfl
 rw[aEr]at XL w2;have aEL:eW.l=(iV a1 ({p with time:=t}:b0)).aS:=XL.aS;have aGn:x.aB=(iV a1 ({p with time:=t}:b0)).aB:=XL.aB;have Hs:t=(iV a1 ({p with time:=t}:b0)).time:=XL.time;have aTS:iA.aU.l=a1.cG:=XL.cG;have Bq:iA.aT.l=(iV a1 ({p with time:=t}:b0)).aF:=XL.aF;have Bl:iA.cA=a1.bT:=XL.bT;apply(O9);refine hF O [] [0,1,2,3,4,5,6,7,8,9,10,11] [12] (_) _ cX bE a2 (by(repeat(first|apply List.Sublist.cons (a:=a5.mk b _ _)|apply List.Sublist.cons_cons));exact oR _) ?_;apply DK∘DK;refine eO iQ ?_;apply(IP);refine eO iQ ?_;apply(wL);refine eO E0 ?_;refine k2 rfl (b7t (p:=eW) x.aB x8 XZ) rfl rfl ?_;rintro v E G ⟨rfl,rfl,rfl⟩;refine⟨a2,gN,?_⟩;refine eO iQ ?_;apply(a5h);refine Ye rfl rfl rfl rfl s6 aE aE aE a2 ?_;refine gS (aZ (a6 (a6 ?_)));have aFf:o6 eW.l x.aB=o6 (iV a1 ({p with time:=t}:b0)).aS (iV a1 ({p with time:=t}:b0)).aB:=by rw[aEL,aGn]
 obtain⟨jP,zN⟩:∃jP,jP=o6 (iV a1 ({p with time:=t}:b0)).aS (iV a1 ({p with time:=t}:b0)).aB:=⟨_,rfl⟩;rw[aFf,<-zN];have a6N:IX iA.aT.l iA.aU.l iA.cA t=0:=by rw[Bq,aTS,Bl,IX,if_neg (by rw[w2.BN];decide),if_pos (by have:=w2.a2A;rw[<-Hs]at this;exact this)]
 apply(A9);refine aG iQ ?_;apply eP∘aAQ∘b1;refine cK (b84 iA t _ _ w4) ?_;rintro v E G ⟨ER,HT,bGQ,rF,to,rfl,⟨aGB,aGD,aGx,aGz⟩,a18,rfl,rfl⟩;refine aG iR ?_;iterate 4 apply(EJ)
 apply(dA);intro FL;apply i3∘yG∘pQ∘mT;apply(W)<;>intro dZ;·
  obtain⟨aGA,aGC,rfl,a19,a7v⟩:=a18 a6N;refine hG 3 aL 1 to [] aGz ?_;refine fU ?_;refine hG 3 aL 1 rF [] aGx ?_;refine fU ?_;refine hG 3 aL 1 HT [] aGD ?_;refine fU ?_;refine hG 76 bL.cells 5 ER [] aGB ?_;refine fU ?_;obtain⟨e4,uG⟩:∃e4,e4=uT ER.U::cZ HT.U::cZ rF.U::cZ to.U::r5:=⟨_,rfl⟩;have bBs:∀r∈r5,aH r e4:=λr M=>aM aIH;have aTU:aH (cZ rF.U) e4:=aM a3v;have aTV:aH (cZ to.U) e4:=aM aII;have Gx:k9 ⟨ER.U,HT.U,iA.cA⟩ e4:=⟨aM Qu,aM Xm⟩;refine sU Xw ?_;have Nh:∀r∈gR,aH r e4:=λr M=>(a6K r M).mono bBs;have aDN:ER.l=({iV a1 ({p with time:=t}:b0)with aB:=o6 (iV a1 ({p with time:=t}:b0)).aS (iV a1 ({p with time:=t}:b0)).aB,aF:=(oL (iV a1 ({p with time:=t}:b0)).aF a1.bT t).aF}:b0).aF:=by rw[aGA,Bq,Bl]
  have a1e:rF.l=(oL (iV a1 ({p with time:=t}:b0)).aF a1.bT t).bV:=by rw[a19,Bq,Bl]
  have a1f:to.l=(oL (iV a1 ({p with time:=t}:b0)).aF a1.bT t).U3:=by rw[a7v,Bq,Bl]
  have a1j:=a0v (aF:=(iV a1 ({p with time:=t}:b0)).aF) (bT:=a1.bT) (t:=t) (iV a1 ({p with time:=t}:b0)).aF.length;have a14:=w2.Gg.wN;have Pb:rF.l.length<=32:=by rw[a1e];exact GB a1j.1 a14
  have bEX:to.l.length<=32:=by rw[a1f];exact GB a1j.2 a14
  have a1b:Inv a1 ({iV a1 ({p with time:=t}:b0)with aB:=o6 (iV a1 ({p with time:=t}:b0)).aS (iV a1 ({p with time:=t}:b0)).aB,aF:=(oL (iV a1 ({p with time:=t}:b0)).aF a1.bT t).aF}:b0):=by have N:Inv a1 ({iV a1 ({p with time:=t}:b0)with aB:=o6 (iV a1 ({p with time:=t}:b0)).aS (iV a1 ({p with time:=t}:b0)).aB}:b0):={w2 with aB:=aBs _ _ w2.aB.1};have V:=N.Wg (aF:=(oL (iV a1 ({p with time:=t}:b0)).aF a1.bT t).aF) (by have aQ:=Rz (bT:=a1.bT) (t:=t) w2.BN (iV a1 ({p with time:=t}:b0)).aF.length (g4 _);(have e:∀u,u=t->vE (iV a1 ({p with time:=t}:b0)).aF (oL (iV a1 ({p with time:=t}:b0)).aF a1.bT t).aF u:=λu c4=>by rw[c4];exact aQ);exact e _ Hs.symm);exact V
  have UA:h5 a1 ({iV a1 ({p with time:=t}:b0)with aB:=o6 (iV a1 ({p with time:=t}:b0)).aS (iV a1 ({p with time:=t}:b0)).aB,aF:=(oL (iV a1 ({p with time:=t}:b0)).aF a1.bT t).aF}:b0) ({x with time:=t,eF:=mG.U,aS:=eW.U,cP:=⟨ER.U,HT.U,iA.cA⟩,aB:=jP,eM:=zQ.U}:cF):={XL with aF:=aDN,cG:=aGC.trans aTS,aB:=zN};apply cO∘hS∘aAQ;refine aG iQ ?_;apply(eP);refine PW O rfl rfl rfl rfl s6 aE aE aE ?_;apply(y1);refine uV (E:=⟨b,({x with time:=t,eF:=mG.U,aS:=eW.U,cP:=⟨ER.U,HT.U,iA.cA⟩,aB:=jP,eM:=zQ.U}:cF).cells,54⟩::(zQ.L 150 fK.cells++(eW.L 71 b8.cells++L))) a2 fF ?_;dsimp only[cF.cells];apply eK∘D2;refine c7 [(0,.pointer _),(4,.slice _ _ _),(13,.slice _ _ _),(135,.slice _ _ _),(136,.int _ _),(137,.int _ _)] bP λnS=>?_;refine kO ([16]++b4 137 8) ((⟨λg=>[(137,.int .i64 ((g.1.1:Nat):Int))],λg=>⟨b,({x with time:=t,eF:=mG.U,aS:=eW.U,cP:=⟨ER.U,HT.U,iA.cA⟩,aB:=jP,eM:=g.1.2.U}:cF).cells,54⟩::(g.1.2.L 150 fK.cells++(eW.L 71 b8.cells++L)),λ_=>e4,λg=>rF.l.length-g.1.1⟩:dV {g:Nat×J fK//g.1<=rF.l.length/\g.2.ok 4 fK.cells/\h5 a1 (xH 3 ({iV a1 ({p with time:=t}:b0)with aB:=o6 (iV a1 ({p with time:=t}:b0)).aS (iV a1 ({p with time:=t}:b0)).aB,aF:=(oL (iV a1 ({p with time:=t}:b0)).aF a1.bT t).aF}:b0) (rF.l.take g.1)) ({x with time:=t,eF:=mG.U,aS:=eW.U,cP:=⟨ER.U,HT.U,iA.cA⟩,aB:=jP,eM:=g.2.U}:cF)})) (⟨(0,zQ),by dsimp only;omega,aFl,UA⟩) ?_;rintro⟨⟨eE,xX⟩,hK,a1K,MP⟩ bZ;try dsimp only
  dsimp only[cF.cells];dsimp only at hK a1K MP;apply(h2);apply(W)<;>intro dX;·have Ht:=bJ rF.l eE 0;have cI:=a4z 3 ({iV a1 ({p with time:=t}:b0)with aB:=o6 (iV a1 ({p with time:=t}:b0)).aS (iV a1 ({p with time:=t}:b0)).aB,aF:=(oL (iV a1 ({p with time:=t}:b0)).aF a1.bT t).aF}:b0) rF.l Ht;apply(j7);refine aG a28 ?_;apply jI∘dE;refine eI (aZ (cR ?_));apply(G4);refine cK (V5 ({x with time:=t,eF:=mG.U,aS:=eW.U,cP:=⟨ER.U,HT.U,iA.cA⟩,aB:=jP,eM:=x.eM}:cF) xX b 3 (rF.l.getD eE 0) 0 _ _ a1K (by have N:=MP.eM;have V:=(a1b.Ie 3 (rF.l.take eE)).eM;rw[<-N]at V;exact V)) ?_;rintro v E G ⟨a2m,bC4,bC3,rfl,rfl⟩;apply(wB);exact dU ⟨(eE+1,a2m),by dsimp only;omega,bC4,by dsimp only;rw[cI];exact MP.AR bC3⟩
  obtain rfl:eE=rF.l.length:=by omega
  rw[HV (g4 _)]at MP;have aDJ:Inv a1 (xH 3 ({iV a1 ({p with time:=t}:b0)with aB:=o6 (iV a1 ({p with time:=t}:b0)).aS (iV a1 ({p with time:=t}:b0)).aB,aF:=(oL (iV a1 ({p with time:=t}:b0)).aF a1.bT t).aF}:b0) rF.l):=a1b.Ie 3 _;apply oD∘D2;refine c7 [(0,.pointer _),(4,.slice _ _ _),(145,.slice _ _ _),(146,.int _ _),(147,.int _ _)] bP λNH=>?_;refine kO ([18]++b4 147 8) ((⟨λg=>[(147,.int .i64 ((g.1.1:Nat):Int))],λg=>⟨b,({x with time:=t,eF:=mG.U,aS:=eW.U,cP:=⟨ER.U,HT.U,iA.cA⟩,aB:=jP,eM:=g.1.2.U}:cF).cells,54⟩::(g.1.2.L 150 fK.cells++(eW.L 71 b8.cells++L)),λ_=>e4,λg=>to.l.length-g.1.1⟩:dV {g:Nat×J fK//g.1<=to.l.length/\g.2.ok 4 fK.cells/\h5 a1 (xH 2 (xH 3 ({iV a1 ({p with time:=t}:b0)with aB:=o6 (iV a1 ({p with time:=t}:b0)).aS (iV a1 ({p with time:=t}:b0)).aB,aF:=(oL (iV a1 ({p with time:=t}:b0)).aF a1.bT t).aF}:b0) rF.l) (to.l.take g.1)) ({x with time:=t,eF:=mG.U,aS:=eW.U,cP:=⟨ER.U,HT.U,iA.cA⟩,aB:=jP,eM:=g.2.U}:cF)})) (⟨(0,xX),by dsimp only;omega,a1K,MP⟩) ?_;rintro⟨⟨i2,aUi⟩,l4,aFm,Q6⟩ bZ;try dsimp only
  dsimp only[cF.cells];dsimp only at l4 aFm Q6;apply(h2);apply(W)<;>intro h3;·have Ht:=bJ to.l i2 0;have cI:=a4z 2 (xH 3 ({iV a1 ({p with time:=t}:b0)with aB:=o6 (iV a1 ({p with time:=t}:b0)).aS (iV a1 ({p with time:=t}:b0)).aB,aF:=(oL (iV a1 ({p with time:=t}:b0)).aF a1.bT t).aF}:b0) rF.l) to.l Ht;apply(j7);refine aG aZJ ?_;apply jI∘dE;refine eI (aZ (cR ?_));apply(G4);refine cK (V5 ({x with time:=t,eF:=mG.U,aS:=eW.U,cP:=⟨ER.U,HT.U,iA.cA⟩,aB:=jP,eM:=x.eM}:cF) aUi b 2 (to.l.getD i2 0) 0 _ _ aFm (by have N:=Q6.eM;have V:=(aDJ.Ie 2 (to.l.take i2)).eM;rw[<-N]at V;exact V)) ?_;rintro v E G ⟨bFG,bC6,bC5,rfl,rfl⟩;apply(wB);exact dU ⟨(i2+1,bFG),by dsimp only;omega,bC6,by dsimp only;rw[cI];exact Q6.AR bC5⟩
  obtain rfl:i2=to.l.length:=by omega
  obtain⟨n3,Mb⟩:∃n3,n3=NG a1 (iV a1 ({p with time:=t}:b0)):=⟨_,rfl⟩;have aEs:xH 2 (xH 3 ({iV a1 ({p with time:=t}:b0)with aB:=o6 (iV a1 ({p with time:=t}:b0)).aS (iV a1 ({p with time:=t}:b0)).aB,aF:=(oL (iV a1 ({p with time:=t}:b0)).aF a1.bT t).aF}:b0) rF.l) to.l=n3:=by rw[Mb,a1e,a1f,NG];simp only[<-Hs]
  rw[HV (g4 _),aEs]at Q6;rw[<-Mb]at Ox;obtain⟨oU,a1k⟩:∃oU,oU=o5 a1 ({p with time:=t}:b0):=⟨_,rfl⟩;rw[<-a1k]at X1;have aDP:n3.aS.length=eW.l.length:=by rw[<-Q6.aS]
  apply oD∘hS;refine aG iQ ?_;apply(r9);refine c7 [(0,.pointer _),(4,.slice _ _ _),(159,.int _ _),(160,.int _ _)] bP λWh=>?_;refine kO ([19]++b4 160 49) ((⟨λg=>[(160,.int .i64 ((g.1.1:Nat):Int))],λg=>⟨b,({x with time:=t,eF:=mG.U,aS:=(⟨eW.o,g.1.2.2.2.1⟩:J b8).U,cP:=g.1.2.1,aB:=jP,eM:=g.1.2.2.1.U}:cF).cells,54⟩::(g.1.2.2.1.L 150 fK.cells++((⟨eW.o,g.1.2.2.2.1⟩:J b8).L 71 b8.cells++L)),λg=>g.1.2.2.2.2,λg=>eW.l.length-g.1.1⟩:dV {g:Nat×hI×J fK×List b8×aJ//g.1<=eW.l.length/\g.2.2.1.ok 4 fK.cells/\h5 a1 (n8 a1 oU n3 g.1) ({x with time:=t,eF:=mG.U,aS:=(⟨eW.o,g.2.2.2.1⟩:J b8).U,cP:=g.2.1,aB:=jP,eM:=g.2.2.1.U}:cF)/\k9 g.2.1 g.2.2.2.2/\∀r∈e4,aH r g.2.2.2.2})) (⟨(0,⟨ER.U,HT.U,iA.cA⟩,aUi,eW.l,e4),by dsimp only;omega,aFm,Q6,Gx,mB _⟩) ?_;rintro⟨⟨eV,KU,Cf,xN,QE⟩,m4,a69,XM,Gy,Mk⟩ bZ;try dsimp only
  dsimp only[cF.cells];dsimp only at m4 a69 XM Gy Mk;have Aq:xN=(n8 a1 oU n3 eV).aS:=XM.aS;have a1s:xN.length=eW.l.length:=by rw[Aq,a3S,aDP]
  have aSJ:(⟨eW.o,xN⟩:J b8).ok 3 b8.cells:=J.oZ bI XZ a1s;have Ug:Inv a1 (n8 a1 oU n3 eV):=Ox.n8 oU eV;apply(h2);apply(W)<;>intro hW;·
   have rR:=bJ xN eV default;obtain⟨c,nQ⟩:∃c,c=xN.getD eV default:=⟨_,rfl⟩;rw[<-nQ]at rR;have a15:KU.aT.l=(n8 a1 oU n3 eV).aF:=XM.aF;have Pj:KU.aU.l=a1.cG:=XM.cG;have a11:KU.cA=a1.bT:=XM.bT;have Gv:n8 a1 oU n3 (eV+1)=L8 a1 oU (n8 a1 oU n3 eV) eV:=rfl;(have C8:a0c a1 (n8 a1 oU n3 eV).aF eV=(xC KU.aT.l KU.aU.l KU.cA (KU.aU.l.getD (eV:Int).toNat 0)).any (λk=>TP (KU.aT.l.getD k.toNat default)):=by rw[a15,Pj,a11];rfl);apply pR∘g7∘hS;refine aG iQ ?_;apply(gE);refine aG aIJ ?_;apply(k7);refine aG (qK O ((⟨eW.o,xN⟩:J b8)) rfl rfl rfl c0 bC bI bC aE) ?_;apply(c9);apply cB (aC:=[_,_,_,_,_,_,_]) (j:=8) (a7:=171) rfl rfl aE rfl aW rfl;·intro gM;replace gM:=a8 gM;apply(hS);refine aG iQ ?_;apply eP∘aAQ∘b1;refine cC rfl (b77 KU (eV:Int) _ _ Gy (by rw[a15,Pj,a11];exact Ug.BN) (by rw[Pj];omega)) ?_;exact LQ
   intro wJ;apply(b3);apply(W)<;>intro oO;·refine lC (lB (lA (aZ (cR ?_))));apply(uX);exact dU ⟨(eV+1,KU,Cf,xN,QE),by dsimp only;omega,a69,by dsimp only;rw[Gv,L8,if_pos (by rw[<-Aq,<-nQ,C8];simpa using oO)];exact XM,Gy,Mk⟩
   (have u5:¬((n8 a1 oU n3 eV).aS.getD eV default).off=true/\¬a0c a1 (n8 a1 oU n3 eV).aF eV=false:=by rw[<-Aq,<-nQ,C8,<-not_or];simpa using oO);have rZ:=bJ x.aK.aU.l eV default;have aEq:∀r∈R,aH r QE:=λr M=>((Q5 r M).mono Nh).mono Mk;have aGU:=hs.aU.mono aEq;have a12:=aH.jQ aGU rZ;have aF9:=(aF8.mono Nh).mono Mk;apply(x2);refine hF O [189] [0,1,2,3,4,5,6,7,8,9,10,11,12,13,14,15,16,17,18,19,20,21,22] [23,24,25,26] (_) _ cX bE a2 dT ?_;apply(DK);refine eO iQ ?_;apply CN∘DK;refine eO iQ ?_;apply(l1);refine m5 zV ?_;apply(DK);refine eO iQ ?_;apply wL∘CN;refine eO aZF ?_;apply EM∘vA∘Vy;refine k2 rfl (aQ2 (x.aK.aU.l.getD eV default).jQ pE.U _ _ a12 aF9) rfl rfl ?_;rintro v E G ⟨rfl,rfl,rfl⟩;refine⟨a2,gN,?_⟩;refine eO aIJ ?_;apply EM∘x1;refine GO (jL O ((⟨eW.o,xN⟩:J b8)) (⟨true,c.clear,c.jJ⟩) rfl rfl rfl rfl c0 bC bI bC bH aE aE) rfl rfl ?_;rintro v E G ⟨rfl,rfl⟩;apply(fS);refine a4 aIJ ?_;apply(Il);have bCg:=J.p4 (f:=b8.cells) (aR:=3) (p:=⟨eW.o,xN⟩) (i:=eV) (x:=⟨true,c.clear,c.jJ⟩) bI aSJ;have aEO:(xN.set eV ⟨true,c.clear,c.jJ⟩)[eV]?=some ⟨true,c.clear,c.jJ⟩:=tQ D;refine GO (jL O ((⟨eW.o,xN.set eV ⟨true,c.clear,c.jJ⟩⟩:J b8)) (⟨true,c.clear,v0 (x.aK.aU.l.getD eV default).jQ.l pE.l⟩) rfl rfl rfl rfl c0 bC bI bC bH aE aE) rfl rfl ?_;rintro v E G ⟨rfl,rfl⟩;apply fS∘vW;obtain⟨xO,Gu⟩:∃xO,xO=xN.set eV ⟨true,c.clear,v0 (x.aK.aU.l.getD eV default).jQ.l pE.l⟩:=⟨_,rfl⟩;(have a1r:xO.length=xN.length:=by rw[Gu,p6]);(have As:(⟨eW.o,xO⟩:J b8).U.val=(⟨eW.o,xN⟩:J b8).U.val:=by simp only[J.U,a0.val,a1r]);have aEQ:(⟨eW.o,xO⟩:J b8).ok 3 b8.cells:=J.oZ bI XZ (a1r.trans a1s);refine mJ (E:=⟨b,({x with time:=t,eF:=mG.U,aS:=(⟨eW.o,xO⟩:J b8).U,cP:=KU,aB:=jP,eM:=Cf.U}:cF).cells,54⟩::(Cf.L 150 fK.cells++((⟨eW.o,xO⟩:J b8).L 71 b8.cells++L))) (by simp only[cF.cells,As];rw[Gu];simp only[y6]) ?_;(have Nv:v0 (x.aK.aU.l.getD eV default).jQ.l pE.l=v0 (a1.aK.aU.l.getD eV default).jQ.l oU:=by rw[fZ.jQ K.aK eV,X1]);obtain⟨LG,Hl⟩:∃LG:b0,LG={n8 a1 oU n3 eV with aS:=(n8 a1 oU n3 eV).aS.set eV ⟨true,((n8 a1 oU n3 eV).aS.getD eV default).clear,v0 (a1.aK.aU.l.getD eV default).jQ.l oU⟩}:=⟨_,rfl⟩;(have Ol:xO=LG.aS:=by rw[Gu,Hl,Nv,nQ,Aq]);(have aDK:Inv a1 LG:=by exact b0s);(have aEt:h5 a1 LG ({x with time:=t,eF:=mG.U,aS:=(⟨eW.o,xO⟩:J b8).U,cP:=KU,aB:=jP,eM:=Cf.U}:cF):=by rw[Hl]at Ol|-;exact{XM with aS:=Ol});(have JA:n8 a1 oU n3 (eV+1)=zB a1 LG (eV:Int):=by rw[Gv,L8,if_neg (not_or.2 u5),Hl]);apply A9∘b1;refine cK (aNR a1 LG ({x with time:=t,eF:=mG.U,aS:=(⟨eW.o,xO⟩:J b8).U,cP:=KU,aB:=jP,eM:=Cf.U}:cF) (⟨eW.o,xO⟩:J b8) Cf b (eV:Int) _ _ aDK aEt Gy aEQ a69 (by rw[<-Ol];omega)) ?_;rintro v E G ⟨f7,bFH,b4G,bC7,bBt,bCz,rfl,rfl⟩;apply(wB);exact dU ⟨(eV+1,f7,bFH,xO,b4G++QE),by dsimp only;omega,bC7,by dsimp only;rw[JA];exact bBt,bCz,λr M=>(Mk r M).mono λr M=>aM (mA _ M)⟩
  obtain rfl:eV=eW.l.length:=by omega
  have aEx:n8 a1 oU n3 eW.l.length=bM a1 p t:=by rw[bM,<-a1k,<-Mb,aDP]
  rw[aEx]at XM;have rW:jP=(bM a1 p t).aB:=XM.aB;refine hG 71 b8.cells 3 (⟨eW.o,xN⟩:J b8) [] aSJ ?_;refine fU ?_;have bEo:=(aGd.mono Nh).mono Mk;have aEq:∀r∈R,aH r QE:=λr M=>((Q5 r M).mono Nh).mono Mk;have Gl:∀r∈QE,aH r ((sS (⟨eW.o,xN⟩:J b8).U::QE)++R):=λr M=>aM (.tail _ (sI _ M));refine lC (lB (tT (lA ?_)));refine Sb (E:=⟨b,({x with time:=t,eF:=mG.U,aS:=(⟨eW.o,xN⟩:J b8).U,cP:=KU,aB:=jP,eM:=Cf.U}:cF).cells,54⟩::(Cf.L 150 fK.cells++L)) (G:=(sS (⟨eW.o,xN⟩:J b8).U::QE)++R) (Sx rfl) ?hp ?c2 ?bD;case hp=>exact⟨mG.U,(⟨eW.o,xN⟩:J b8).U,KU,Cf,sS (⟨eW.o,xN⟩:J b8).U::QE,a69,by rw[<-rW];exact XM,⟨bEo.mono Gl,aM (.head _),Gy.mono Gl⟩,by rw[<-rW];rfl,rfl⟩
  case c2=>exact a2
  case bD=>
   exact λr M=>by
    rcases List.mem_append.1 M with h|h;·exact aM h
    ·exact(aEq r h).mono λr M=>aM (.tail _ M)
 exact absurd a6N dZ
end Go.Proofs.YtchfclmokpbldaaGreat
namespace Go.Proofs.YtchfclmokpbldaaGreat
open Go.Aw Go Go.Proofs.Tryz
def aQl(h:A->B:=by exact(aG qH ·)):=h
def aPq(h:A->B:=by exact gO Dg rfl):=h
def aJ5(h:A->B:=by exact(aG qI ·)):=h
def aI.a75{P:Program}{f:FuncId}{args:Array Value}{L:aP}{R:aJ}{Post xA:oY}(h:aI P f args L R Post)(k:∀v E G c w,Post v E G->dL c E G w->∃iM yD,dL c iM yD w/\xA v iM yD):aI P f args L R xA:=
 ⟨h.1,λw aC bX=>(h.2 w aC bX).mono λ_ _ ⟨v,E,G,e,p,s⟩=>let ⟨iM,yD,s',O7⟩:=k v E G _ _ p s;⟨v,iM,yD,e,O7,s'⟩⟩
attribute [local irreducible] cH c6 dP aI cJ eD e9 e0 e1 e5 eS e8 J.L
def aBF(x:a0 Int)(L:aP)(R:aJ)(K:aH (cZ x) R)(hn:x.l.length<=1000):
 aI prog 149 [x.val].toArray L R (λv E G=>∃o:gZ,v=(⟨o,x.l⟩:J Int).val/\(⟨o,x.l⟩:J Int).ok 1 aL/\(⟨o,x.l⟩:J Int).L 3 aL++L=E/\R=G):=by refine bW 5 call149 func149 ?_;apply cO∘vG∘hM;refine gO (tV (f:=aL) (xs:=x) O rfl rfl rfl bH rfl rfl (K) bI D) rfl ?_;rintro v E G ⟨Ci,rfl,aFH,rfl,rfl⟩;apply(S4);refine bN ((⟨Ci,x.l⟩:J Int).L 3 aL++L) R vD ?_;exact⟨Ci,rfl,aFH,rfl,rfl⟩
structure a3G(l:List hY)(k:Nat)(R:aJ)(iH:J hY)(S:aJ):Prop where
 ok:iH.ok 4 hY.cells
 len:iH.l.length=k
 eq:iH.l.map Fg=(l.take k).map Fg
 sub:∀f∈iH.l,aH f.fI S
 ext:∀r∈R,aH r S
structure a3E(l:List g9)(k:Nat)(R:aJ)(lO:J g9)(S:aJ):Prop where
 ok:lO.ok 3 g9.cells
 len:lO.l.length=k
 eq:lO.l.map IG=(l.take k).map IG
 sub:∀f∈lO.l,aH f.fI S
 ext:∀r∈R,aH r S
structure a6b(l:List jU)(k:Nat)(R:aJ)(p1:J jU)(S:aJ):Prop where
 ok:p1.ok 4 jU.cells
 len:p1.l.length=k
 eq:p1.l.map W6=(l.take k).map W6
 sub:∀f∈p1.l,∀s∈jU.eQ f,aH s S
 ext:∀r∈R,aH r S
def aDc{aV r4:Type}{f:aV->r4}{l n0:List aV}{k:Nat}{x y:aV}(h:n0.map f=(l.take k).map f)(K:l[k]?=some x)(X:f y=f x):(n0++[y]).map f=(l.take (k+1)).map f:=by rw[PM,K,wP,wP,h];show _++[f y]=_++[f x];rw[X]
def a3G.next{l:List hY}{k:Nat}{R S:aJ}{iH:J hY}(h:a3G l k R iH S){x y:hY}(K:l[k]?=some x)(X:Fg y=Fg x){o:gZ}(hok:(⟨o,iH.l++[y]⟩:J hY).ok 4 hY.cells):a3G l (k+1) R ⟨o,iH.l++[y]⟩ (y.fI::S):=
 ⟨hok,by show(iH.l++[y]).length=_;rw[iD,h.len];rfl,aDc h.eq K X,λf hf=>by
  rcases List.mem_append.1 hf with hf|hf
  ·exact(h.sub f hf).mono λr M=>aM (.tail _ M)
  ·rw[List.mem_singleton.1 hf];exact aM (.head _),λr M=>(h.ext r M).mono λr M=>aM (.tail _ M)⟩
def a3E.next{l:List g9}{k:Nat}{R S:aJ}{iH:J g9}(h:a3E l k R iH S){x y:g9}(K:l[k]?=some x)(X:IG y=IG x){o:gZ}(hok:(⟨o,iH.l++[y]⟩:J g9).ok 3 g9.cells):a3E l (k+1) R ⟨o,iH.l++[y]⟩ (y.fI::S):=
 ⟨hok,by show(iH.l++[y]).length=_;rw[iD,h.len];rfl,aDc h.eq K X,λf hf=>by
  rcases List.mem_append.1 hf with hf|hf
  ·exact(h.sub f hf).mono λr M=>aM (.tail _ M)
  ·rw[List.mem_singleton.1 hf];exact aM (.head _),λr M=>(h.ext r M).mono λr M=>aM (.tail _ M)⟩
def a6b.next{l:List jU}{k:Nat}{R S:aJ}{iH:J jU}(h:a6b l k R iH S){x y:jU}(K:l[k]?=some x)(X:W6 y=W6 x){o:gZ}(hok:(⟨o,iH.l++[y]⟩:J jU).ok 4 jU.cells):a6b l (k+1) R ⟨o,iH.l++[y]⟩ (cZ y.aD::DT y.jQ::S):=
 ⟨hok,by show(iH.l++[y]).length=_;rw[iD,h.len];rfl,aDc h.eq K X,λf hf s hs=>by
  rcases List.mem_append.1 hf with hf|hf
  ·exact(h.sub f hf s hs).mono λr M=>aM (.tail _ (.tail _ M))
  ·rw[List.mem_singleton.1 hf]at hs
   simp only[jU.eQ,vC,x7,or_false]at hs
   rcases hs with rfl|rfl
   ·exact aM (.tail _ (.head _))
   ·exact aM (.head _),λr M=>(h.ext r M).mono λr M=>aM (.tail _ (.tail _ M))⟩
def b1S(a:bR)(L:aP)(R:aJ)(ha:nT a R)(bQ:hO a=0):
 aI prog 226 [a.val].toArray L R (λv E G=>∃(fE:bR) (S:aJ),v=fE.val/\sP fE=sP a/\nT fE (S++R)/\L=E/\S++R=G):=by
 have hok:=zE bQ;have q9:=hok.Y.places;have OX:=hok.Y.aD;have RG:=hok.O4;have u5:=hok.M8;have Be:=ha.places;have aGo:=ha.aD;have Gz:=ha.a3;have aER:=ha.aX;refine bW 55 call226 func226 ?_;apply(c8);intro gK;apply(dA);intro cS;apply(jW);refine gJ O [0,1,2,4,5,6,3,7,8,9,10,11] _ cX bE g3 ?_;apply OE∘OE;refine o4 (tV (f:=kR.cells) (xs:=a.Y.places) O rfl rfl rfl bH rfl rfl (Be) bI D) rfl rfl rfl ?_;rintro v E G ⟨RT,rfl,aFA,rfl,rfl⟩;apply(fS);refine o4 (tV (f:=eL.cells) (xs:=a.Y.aD) O rfl rfl rfl bH rfl rfl (aGo) bI D) rfl rfl rfl ?_;rintro v E G ⟨p0,rfl,Oi,rfl,rfl⟩;apply fS∘bGz;refine a4 aIB ?_;apply(p2);intro dG;apply(sE);refine gS (aZ (a6 (a6 ?_)));refine hG 157 eL.cells 10 (⟨p0,a.Y.aD.l⟩:J eL) [] Oi ?_;refine fU ?_;refine hG 159 kR.cells 2 (⟨RT,a.Y.places.l⟩:J kR) [] aFA ?_;refine fU ?_;obtain⟨gR,D7⟩:∃gR,gR=O8 (⟨RT,a.Y.places.l⟩:J kR).U::YI (⟨p0,a.Y.aD.l⟩:J eL).U::R:=⟨_,rfl⟩;have nF:∀r∈R,aH r gR:=λr M=>aM (by rw[D7];exact .tail _ (.tail _ M));have bBl:aH (O8 (⟨RT,a.Y.places.l⟩:J kR).U) gR:=aM a2W;have bBn:aH (YI (⟨p0,a.Y.aD.l⟩:J eL).U) gR:=aM a3x;refine sU a3c ?_;have bCA:=Gz.mono nF;have bCl:=aER.mono nF;apply eK∘r9;refine c7 [(1,.pointer _),(2,.pointer _),(3,.pointer _),(19,.slice _ _ _),(20,.int _ _),(21,.int _ _)] bP λeZ=>?_;refine mC ([5]++b4 21 15) ((⟨λg=>[(21,.int .i64 ((g.1.1:Nat):Int))],λg=>⟨dG,[(⟨RT,a.Y.places.l⟩:J kR).val,(⟨p0,a.Y.aD.l⟩:J eL).val,g.1.2.1.val,.slice none 0 0],32⟩::(g.1.2.1.L 278 hY.cells++(⟨cS,[.slice none 0 0,.slice none 0 0,.slice none 0 0,.slice none 0 0],32⟩::⟨gK,a.cells,32⟩::L)),λg=>g.1.2.2,λg=>a.a3.l.length-g.1.1⟩:dV {g:Nat×J hY×aJ//g.1<=a.a3.l.length/\a3G a.a3.l g.1 gR g.2.1 g.2.2})) (⟨(0,J.nil,gR),by dsimp only;omega,⟨J.g6,rfl,rfl,λf hf=>(by cases hf),mB _⟩⟩) bP Db fF ?_;rintro⟨⟨k,iH,S⟩,hk,h1⟩ bZ;try dsimp only
 dsimp only at hk h1;have bBe:=h1.ok;have bJe:=h1.len;have bCB:=bCA.mono h1.ext;apply(h2);apply(W)<;>intro aO;·have hg:=bJ a.a3.l k default;obtain⟨x,K⟩:∃x,x=a.a3.l.getD k default:=⟨_,rfl⟩;rw[<-K]at hg;have Hv:=aH.nD bCB hg;have OZ:=(hok.nD k x hg).1.a7J;apply j7∘aQl∘OH;intro eH;apply(CL);refine gO (tV (f:=h6.cells) (xs:=x.hJ) O rfl rfl rfl bH rfl rfl (Hv) bI D) rfl ?_;rintro v E G ⟨Pp,rfl,a1Q,rfl,rfl⟩;apply(uY);refine eI (aZ (cR ?_));apply fH∘sD∘aPq;rintro v E G ⟨ML,rfl,rfl,K1⟩;replace K1:=K1.symm;subst K1;refine gO (j2 (f:=hY.cells) (p:=iH) (a:=⟨x.b9,x.nB,x.Tn,(⟨Pp,x.hJ.l⟩:J h6).U⟩) O rfl rfl rfl rfl (bBe) c0 j8 rfl kH) rfl ?_;rintro v E G ⟨aUy,rfl,aFF,rfl,rfl⟩;apply(uY);refine eI (gV (aZ ?_));refine hG 319 h6.cells 2 (⟨Pp,x.hJ.l⟩:J h6) [] a1Q ?_;refine fU ?_;apply eK∘uX;exact dU ⟨(k+1,⟨aUy,iH.l++[_]⟩,_),by dsimp only;omega,h1.next (y:=⟨x.b9,x.nB,x.Tn,(⟨Pp,x.hJ.l⟩:J h6).U⟩) hg rfl aFF⟩
 obtain rfl:k=a.a3.l.length:=by omega
 have bCm:=bCl.mono h1.ext;apply AV∘r9;refine c7 [(2,.pointer _),(3,.pointer _),(37,.slice _ _ _),(38,.int _ _),(39,.int _ _)] bP λnS=>?_;refine mC ([7]++b4 39 15) ((⟨λg=>[(39,.int .i64 ((g.1.1:Nat):Int))],λg=>⟨dG,[(⟨RT,a.Y.places.l⟩:J kR).val,(⟨p0,a.Y.aD.l⟩:J eL).val,iH.val,g.1.2.1.val],32⟩::(g.1.2.1.L 239 g9.cells++(iH.L 278 hY.cells++(⟨cS,[.slice none 0 0,.slice none 0 0,.slice none 0 0,.slice none 0 0],32⟩::⟨gK,a.cells,32⟩::L))),λg=>g.1.2.2,λg=>a.aX.l.length-g.1.1⟩:dV {g:Nat×J g9×aJ//g.1<=a.aX.l.length/\a3E a.aX.l g.1 S g.2.1 g.2.2})) (⟨(0,J.nil,S),by dsimp only;omega,⟨J.g6,rfl,rfl,λf hf=>(by cases hf),mB _⟩⟩) bP Db fF ?_;rintro⟨⟨j,lO,e2⟩,aY,hR⟩ bZ;try dsimp only
 dsimp only at aY hR;have bBd:=hR.ok;have aSh:=hR.len;have bCn:=bCm.mono hR.ext;apply(h2);apply(W)<;>intro bF;·have hg:=bJ a.aX.l j default;obtain⟨x,K⟩:∃x,x=a.aX.l.getD j default:=⟨_,rfl⟩;rw[<-K]at hg;have Hv:=aH.uD bCn hg;have OZ:=(hok.uD j x hg).1.len;apply(j7);refine aG Dc ?_;apply Pu∘dA;intro kL;apply(CL);refine cK (aBF x.hH _ _ Hv D) ?_;rintro v E G ⟨tM,rfl,Bc,rfl,rfl⟩;apply(uY);refine eI (aZ (cR ?_));apply(fH);refine aG lR ?_;refine gO Js rfl ?_;rintro v E G ⟨bIB,rfl,rfl,aD9⟩;replace aD9:=aD9.symm;subst aD9;refine gO (j2 (f:=g9.cells) (p:=lO) (a:=⟨x.b9,x.yV,(⟨tM,x.hH.l⟩:J Int).U⟩) O rfl rfl rfl rfl (bBd) c0 j8 rfl kH) rfl ?_;rintro v E G ⟨bF8,rfl,bDS,rfl,rfl⟩;apply(uY);refine eI (gV (aZ ?_));refine hG 3 aL 1 (⟨tM,x.hH.l⟩:J Int) [] Bc ?_;refine fU ?_;apply eK∘uX;exact dU ⟨(j+1,⟨bF8,lO.l++[_]⟩,_),by dsimp only;omega,hR.next (y:=⟨x.b9,x.yV,(⟨tM,x.hH.l⟩:J Int).U⟩) hg rfl bDS⟩
 obtain rfl:j=a.aX.l.length:=by omega
 refine Dw (T:=278) (f:=hY.cells) (aR:=4) iH (iH.l.map hY.fI) c0 bI bH h1.ok (λs hs=>by obtain⟨f,hf,rfl⟩:=List.mem_map.1 hs;exact(h1.sub f hf).mono hR.ext) ?_;refine fU ?_;refine Dw (T:=239) (f:=g9.cells) (aR:=3) lO (lO.l.map g9.fI) c0 bI bH hR.ok (λs hs=>by obtain⟨f,hf,rfl⟩:=List.mem_map.1 hs;exact(hR.sub f hf).mono λr M=>aM (.tail _ M)) ?_;refine fU ?_;apply oD∘sD∘wA;refine lJ (E:=L) (G:=(MN lO.U::Q1 iH.U::e2)++R) (pG rfl aIQ) ?hp ?c2 ?bD;case hp=>
  exact⟨⟨⟨(⟨RT,a.Y.places.l⟩:J kR).U,(⟨p0,a.Y.aD.l⟩:J eL).U⟩,iH.U,lO.U⟩,MN lO.U::Q1 iH.U::e2,rfl,by
  rw[sP,sP];refine congr (congr (congrArg bR.mk rfl) ?_) ?_;·show(⟨none,0,iH.l.map Fg⟩:a0 hY)=_;rw[h1.eq,HV (g4 _)]
  ·show(⟨none,0,lO.l.map IG⟩:a0 g9)=_;rw[hR.eq,HV (g4 _)],⟨((bBl.mono h1.ext).mono hR.ext).mono λr M=>aM (.tail _ (.tail _ (sI _ M))),((bBn.mono h1.ext).mono hR.ext).mono λr M=>aM (.tail _ (.tail _ (sI _ M))),aM (.tail _ (.head _)),aM (.head _)⟩,rfl,rfl⟩
 case c2=>exact a2
 case bD=>
  exact λr M=>by
   rcases List.mem_append.1 M with h|h;·exact aM h
   ·exact(((nF r h).mono h1.ext).mono hR.ext).mono λr M=>aM (.tail _ (.tail _ M))
def aPQ{n:Nat}{l:List Int}(h: ∀i:Nat,i<l.length->¬AB n l i): ∀i:Nat,i<l.length->(i:Int)<=l.getD i 0/\l.getD i 0<n
 |0,aA=>by have:=h 0 aA;rw[AB]at this;omega
 |i+1,aA=>by
  have N:=aPQ h i D
  have V:=h (i+1) aA
  rw[AB,Nat.add_sub_cancel]at V
  omega
def b9Y{n m:Nat}{z:jU}(h:CR n m z=0):z.jQ.l.length<=64/\z.aD.l.length<=m+1:=by
 rw[CR]at h;split at h;·omega
 rename_i N;split at h;·cases h
 split at h;·cases h
 rename_i aQ;have N:H8 z.jQ.l n=0:=Decidable.not_not.1 N;refine⟨?_,?_⟩;·
  rw[H8]at N;split at N;·cases N
  ·rename_i b7;(have b7:CA z.jQ.l=true:=by simpa using b7);rw[CA,oS,decide_eq_true_eq]at b7;omega
 ·
  rcases gY (m+1) z.aD.l.length with hl|hl;·have:=aPQ (n:=m) (l:=z.aD.l) (λi aA hb=>aQ ⟨i,aA,hb⟩) (m+1) hl;omega
  ·exact hl
def b3d(s:dQ)(L:aP)(R:aJ)(hs:zX s R)(bQ:oI s=0):
 aI prog 148 [s.val].toArray L R (λv E G=>∃(s':dQ) (S:aJ),v=s'.val/\fZ s' s/\zX s' (S++R)/\L=E/\S++R=G):=by
 have hok:=KP bQ
 have kD:=hok.len
 have OX:=(zE hok.bU).Y.aD
 have jA:=hs.cD
 have C7:=hs.dD
 have pL:=hs.aU
 have Be:=hs.mF
 refine bW 42 call148 func148 ?_
 apply(c8)
 intro gK
 apply(dA)
 intro cS
 apply(jW)
 refine gJ O [0,1,3,4,6,7,9,10,2,5,8,11,12,13,14] _ cX bE g3 ?_
 apply kT∘ND∘WP∘iI
 refine q1 rfl (b1S s.bU _ _ hs.bU hok.bU) rfl rfl ?_
 rintro v E G ⟨fE,aAF,rfl,bBV,Q7,rfl,rfl⟩
 refine⟨a2,gN,?_⟩
 have a1i:∀r∈R,aH r (aAF++R):=λr M=>aM (mA _ M)
 have aGs:=jA.mono a1i
 have bB5:=C7.mono a1i
 have bEf:=Be.mono a1i
 have bFk:=pL.mono a1i
 refine o4 (tV (f:=fA.cells) (xs:=s.cD) O rfl rfl rfl bH rfl rfl (aGs) bI D) rfl rfl rfl ?_
 rintro v E G ⟨RT,rfl,aFA,rfl,rfl⟩
 apply(fS)
 refine o4 (tV (f:=m9.cells) (xs:=s.dD) O rfl rfl rfl bH rfl rfl (bB5) bI D) rfl rfl rfl ?_
 rintro v E G ⟨UZ,rfl,a1P,rfl,rfl⟩
 apply(fS)
 refine o4 (tV (f:=aL) (xs:=s.mF) O rfl rfl rfl bH rfl rfl (bEf) bI D) rfl rfl rfl ?_
 rintro v E G ⟨a2p,rfl,bDI,rfl,rfl⟩
 apply(fS)
 refine a4 aZj ?_
 apply(p2)
 intro dG
 apply(sE)
 refine gS (aZ (a6 (a6 ?_)))
 refine hG 170 aL 1 (⟨a2p,s.mF.l⟩:J Int) [] bDI ?_
 refine fU ?_
 refine hG 102 m9.cells 6 (⟨UZ,s.dD.l⟩:J m9) [] a1P ?_
 refine fU ?_
 refine hG 88 fA.cells 8 (⟨RT,s.cD.l⟩:J fA) [] aFA ?_
 refine fU ?_
 obtain⟨gR,D7⟩:∃gR,gR=z9 (⟨RT,s.cD.l⟩:J fA).U::Dv (⟨UZ,s.dD.l⟩:J m9).U::cZ (⟨a2p,s.mF.l⟩:J Int).U::(aAF++R):=⟨_,rfl⟩
 have nF:∀r∈aAF++R,aH r gR:=λr M=>aM (by rw[D7];exact .tail _ (.tail _ (.tail _ M)))
 have bBo:aH (z9 (⟨RT,s.cD.l⟩:J fA).U) gR:=aM a2W
 have bBk:aH (Dv (⟨UZ,s.dD.l⟩:J m9).U) gR:=aM a3x
 have bBm:aH (cZ (⟨a2p,s.mF.l⟩:J Int).U) gR:=aM a86
 refine sU a3c ?_
 have a7E:=bFk.mono nF
 have bBJ:=IY Q7 nF
 apply eK∘r9
 refine c7 [(2,.pointer _),(3,.pointer _),(20,.slice _ _ _),(21,.int _ _),(22,.int _ _)] bP λeZ=>?_
 refine mC ([5]++b4 22 19) ((⟨λg=>[(22,.int .i64 ((g.1.1:Nat):Int))],λg=>⟨dG,[fE.Y.places.val,fE.Y.aD.val,fE.a3.val,fE.aX.val,(⟨RT,s.cD.l⟩:J fA).val,(⟨UZ,s.dD.l⟩:J m9).val,g.1.2.1.val,(⟨a2p,s.mF.l⟩:J Int).val],38⟩::(g.1.2.1.L 97 jU.cells++(⟨cS,[.slice none 0 0,.slice none 0 0,.slice none 0 0,.slice none 0 0,.slice none 0 0,.slice none 0 0,.slice none 0 0,.slice none 0 0],38⟩::⟨gK,s.cells,38⟩::L)),λg=>g.1.2.2,λg=>s.aU.l.length-g.1.1⟩:dV {g:Nat×J jU×aJ//g.1<=s.aU.l.length/\a6b s.aU.l g.1 gR g.2.1 g.2.2})) (⟨(0,J.nil,gR),by dsimp only;omega,⟨J.g6,rfl,rfl,λf hf=>(by cases hf),mB _⟩⟩) bP Db fF ?_
 rintro⟨⟨k,p1,S⟩,hk,AG⟩ bZ
 try dsimp only
 dsimp only at hk AG
 have bBH:=AG.ok
 have bJh:=AG.len
 have aT8:=a7E.mono AG.ext
 apply(h2)
 apply(W)<;>intro aO
 ·
  have hg:=bJ s.aU.l k default
  obtain⟨x,K⟩:∃x,x=s.aU.l.getD k default:=⟨_,rfl⟩
  rw[<-K]at hg
  have aGK:=aH.jQ aT8 hg
  have bFd:=aH.a3t aT8 hg
  have US:=b9Y (hok.dI x (gU hg))
  apply j7∘aQl∘OH
  intro eH
  apply(G5)
  refine hF O [] [0,1,3,4,2,6,5] [7,8,9] (_) _ cX bE a2 dT ?_
  apply(QV)
  refine MG (tV (f:=eX.cells) (xs:=x.jQ) O rfl rfl rfl bH rfl rfl (aGK) bI D) rfl rfl rfl ?_
  rintro v E G ⟨Ih,rfl,aFD,rfl,rfl⟩
  apply fS∘wL
  refine k2 rfl (aBF x.aD _ _ bFd D) rfl rfl ?_
  rintro v E G ⟨tM,rfl,Bc,rfl,rfl⟩
  refine⟨a2,gN,?_⟩
  apply x1∘a5k
  refine gS (aZ (cR ?_))
  apply fH∘sD∘aPq
  rintro v E G ⟨QZ,rfl,rfl,K2⟩
  replace K2:=K2.symm;subst K2
  refine gO (j2 (f:=jU.cells) (p:=p1) (a:=⟨(⟨Ih,x.jQ.l⟩:J eX).U,x.hold,(⟨tM,x.aD.l⟩:J Int).U,x.tG⟩) O rfl rfl rfl rfl (bBH) c0 j8 rfl kH) rfl ?_
  rintro v E G ⟨aUA,rfl,a1S,rfl,rfl⟩
  apply(uY)
  refine eI (gV (aZ ?_))
  refine hG 172 eX.cells 4 (⟨Ih,x.jQ.l⟩:J eX) [] aFD ?_
  refine fU ?_
  refine hG 3 aL 1 (⟨tM,x.aD.l⟩:J Int) [] Bc ?_
  refine fU ?_
  apply eK∘uX
  exact dU ⟨(k+1,⟨aUA,p1.l++[_]⟩,_),by dsimp only;omega,AG.next (y:=⟨(⟨Ih,x.jQ.l⟩:J eX).U,x.hold,(⟨tM,x.aD.l⟩:J Int).U,x.tG⟩) hg rfl a1S⟩
 obtain rfl:k=s.aU.l.length:=by omega
 refine Dw (T:=97) (f:=jU.cells) (aR:=4) p1 (p1.l.flatMap jU.eQ) c0 bI bH AG.ok (λs hs=>by
  obtain⟨f,hf,hs⟩:=List.mem_flatMap.1 hs
  exact AG.sub f hf s hs) ?_
 refine fU ?_
 apply oD∘aJ5∘wA
 refine lJ (E:=L) (G:=(SO p1.U::S)++R) (pG rfl a3b) ?hp ?c2 ?bD
 case hp=>
  exact⟨⟨fE,(⟨RT,s.cD.l⟩:J fA).U,(⟨UZ,s.dD.l⟩:J m9).U,p1.U,(⟨a2p,s.mF.l⟩:J Int).U⟩,SO p1.U::S,rfl,by
  show yE _=yE _
  rw[yE,yE]
  refine congr (congr (congr (congr (congrArg dQ.mk bBV) rfl) rfl) ?_) rfl
  show(⟨none,0,p1.l.map W6⟩:a0 jU)=_
  rw[AG.eq,HV (g4 _)],by
  have eG:∀r∈gR,aH r ((SO p1.U::S)++R):=λr M=>(AG.ext r M).mono λr M=>aM (.tail _ (sI _ M))
  exact⟨IY bBJ eG,bBo.mono eG,bBk.mono eG,aM (.head _),bBm.mono eG⟩,rfl,rfl⟩
 case c2=>exact a2
 case bD=>
  exact λr M=>by
   rcases List.mem_append.1 M with h|h
   ·exact aM h
   ·exact(((a1i r h).mono nF).mono AG.ext).mono λr M=>aM (.tail _ M)
structure Zm(x:cF)(s:dQ)(h:a0 Int)(w:a0 fR)(c:a0 b8)(f:hI)(dH:J eA)(bS:J fK)(R:aJ):Prop where
 Hy:dH.ok 4 eA.cells
 RQ:bS.ok 4 fK.cells
 FP:fZ s x.aK
 a6w:h.l=x.held.l
 a6z:w.l=x.eF.l
 a6v:c.l=x.aS.l
 a0V:f.aT.l=x.cP.aT.l
 a6A:f.aU.l=x.cP.aU.l
 a6y:f.cA=x.cP.cA
 em:dH.l=x.c5.l
 a6x:bS.l=x.eM.l
 aK:zX s R
 held:aH (hA h) R
 eF:aH (CY w) R
 aS:aH (sS c) R
 cP:k9 f R
def Zm.is{x:cF}{s:dQ}{h:a0 Int}{w:a0 fR}{c:a0 b8}{f:hI}{dH:J eA}{bS:J fK}{R:aJ}(k:Zm x s h w c f dH bS R){g:hQ}{p:b0}(K:h5 g p x):h5 g p ⟨s,x.time,h,x.eJ,dH.U,w,c,f,x.aB,bS.U⟩:=
 ⟨k.FP.trans K.aK,K.time,k.a6w.trans K.held,K.eJ,k.em.trans K.c5,k.a6z.trans K.eF,k.a6v.trans K.aS,k.a0V.trans K.aF,k.a6A.trans K.cG,k.a6y.trans K.bT,K.aB,k.a6x.trans K.eM⟩
structure Zn(x:cF):Prop where
 ok:oI x.aK=0
 held:x.held.l.length<=1000
 c5:x.c5.l.length<=1000
 eF:x.eF.l.length<=1000
 aS:x.aS.l.length<=1000
 aF:x.cP.aT.l.length<=1000
 cG:x.cP.aU.l.length<=1000
 eM:x.eM.l.length<=1000
def Zn.of{g:hQ}{p:b0}{x:cF}(dR:Inv g p)(K:h5 g p x):Zn x:=by have kD:=dR.RX.len;exact⟨by rw[K.aK.pT];exact dR.aK,by rw[K.held];have:=dR.held.2;omega,by rw[K.c5,dR.c5];omega,by rw[K.eF,dR.Iv];omega,by rw[K.aS,dR.D5];omega,by rw[K.aF];have:=dR.Gg.wN;omega,by rw[K.cG];have:=dR.Gg.yA;omega,by rw[K.eM];have:=dR.eM;omega⟩
structure aLN(x:cF)(s:dQ)(h:a0 Int)(f:hI)(dH:J eA)(mG:J fR)(eW:J b8)(bS:J fK)(R:aJ):Prop where
 Hy:dH.ok 4 eA.cells
 aUh:mG.ok 3 fR.cells
 aG0:eW.ok 3 b8.cells
 RQ:bS.ok 4 fK.cells
 FP:fZ s x.aK
 a6w:h.l=x.held.l
 a6z:mG.l=x.eF.l
 a6v:eW.l=x.aS.l
 a0V:f.aT.l=x.cP.aT.l
 a6A:f.aU.l=x.cP.aU.l
 a6y:f.cA=x.cP.cA
 em:dH.l=x.c5.l
 a6x:bS.l=x.eM.l
 aK:zX s R
 held:aH (hA h) R
 cP:k9 f R
def aPP(x:cF)(L:aP)(R:aJ)(w3:Zn x)(bD:lK x R):
 aI prog 76 [x.val].toArray L R (λv E G=>∃(s:dQ) (h:a0 Int) (f:hI) (dH:J eA) (mG:J fR) (eW:J b8) (bS:J fK) (S:aJ),v=(⟨s,x.time,h,x.eJ,dH.U,mG.U,eW.U,f,x.aB,bS.U⟩:cF).val/\aLN x s h f dH mG eW bS (S++R)/\bS.L 150 fK.cells++(eW.L 71 b8.cells++(mG.L 153 fR.cells++(dH.L 93 eA.cells++L)))=E/\S++R=G):=by have N:=w3.held;have V:=w3.c5;have aQ:=w3.eF;have b7:=w3.aS;have eG:=w3.aF;have gF:=w3.cG;have iF:=w3.eM;have jA:=bD.aK;refine bW 42 call76 func76 ?_;apply(c8);intro gK;apply(dA);intro cS;apply lP∘eP∘aJ5;refine cK (b3d x.aK _ _ jA w3.ok) ?_;rintro v E G ⟨s',aAI,rfl,bEJ,aGs,rfl,rfl⟩;have Ni:∀r∈R,aH r (aAI++R):=λr M=>aM (mA _ M);have eU:=bD.held.mono Ni;have eE:=bD.c5.mono Ni;have i2:=bD.eF.mono Ni;have eV:=bD.aS.mono Ni;have vS:=bD.cP.aF.mono Ni;have BV:=bD.cP.cG.mono Ni;have JH:=bD.eM.mono Ni;apply(eP);refine PW O rfl rfl rfl rfl s6 aE aE aE ?_;apply lP∘FE;refine gO (tV (f:=m3) (xs:=x.held) O rfl rfl rfl bH rfl rfl (eU) bI D) rfl ?_;rintro v E G ⟨zS,rfl,Oh,rfl,rfl⟩;apply eP∘QT∘fH;refine gO (tV (f:=eA.cells) (xs:=x.c5) O rfl rfl rfl bH rfl rfl (eE) bI D) rfl ?_;rintro v E G ⟨p0,rfl,Oi,rfl,rfl⟩;apply QT∘fH;refine gO (tV (f:=fR.cells) (xs:=x.eF) O rfl rfl rfl bH rfl rfl (i2) bI D) rfl ?_;rintro v E G ⟨RU,rfl,aFB,rfl,rfl⟩;apply QT∘fH;refine gO (tV (f:=b8.cells) (xs:=x.aS) O rfl rfl rfl bH rfl rfl (eV) bI D) rfl ?_;rintro v E G ⟨B0,rfl,XW,rfl,rfl⟩;apply QT∘FE;refine gO (tV (f:=bL.cells) (xs:=x.cP.aT) O rfl rfl rfl bH rfl rfl (vS) bI D) rfl ?_;rintro v E G ⟨Ih,rfl,aFD,rfl,rfl⟩;apply eP∘QT∘FE;refine cK (aBF x.cP.aU _ _ BV D) ?_;rintro v E G ⟨tM,rfl,Bc,rfl,rfl⟩;apply eP∘QT∘fH;refine gO (tV (f:=fK.cells) (xs:=x.eM) O rfl rfl rfl bH rfl rfl (JH) bI D) rfl ?_;rintro v E G ⟨aUB,rfl,bDO,rfl,rfl⟩;apply uY∘jW;refine hG 3 aL 1 (⟨tM,x.cP.aU.l⟩:J Int) [] Bc ?_;refine fU ?_;refine hG 76 bL.cells 5 (⟨Ih,x.cP.aT.l⟩:J bL) [] aFD ?_;refine fU ?_;refine hG 5 m3 1 (⟨zS,x.held.l⟩:J Int) [] Oh ?_;refine fU ?_;apply(eK);refine aG x9 ?_;apply(wA);refine bN ((⟨aUB,x.eM.l⟩:J fK).L 150 fK.cells++((⟨B0,x.aS.l⟩:J b8).L 71 b8.cells++((⟨RU,x.eF.l⟩:J fR).L 153 fR.cells++((⟨p0,x.c5.l⟩:J eA).L 93 eA.cells++L)))) ((hA (⟨zS,x.held.l⟩:J Int).U::uT (⟨Ih,x.cP.aT.l⟩:J bL).U::cZ (⟨tM,x.cP.aU.l⟩:J Int).U::aAI)++R) (pG rfl Qr) ?_;exact⟨s',(⟨zS,x.held.l⟩:J Int).U,⟨(⟨Ih,x.cP.aT.l⟩:J bL).U,(⟨tM,x.cP.aU.l⟩:J Int).U,x.cP.cA⟩,(⟨p0,x.c5.l⟩:J eA),⟨RU,x.eF.l⟩,⟨B0,x.aS.l⟩,(⟨aUB,x.eM.l⟩:J fK),hA (⟨zS,x.held.l⟩:J Int).U::uT (⟨Ih,x.cP.aT.l⟩:J bL).U::cZ (⟨tM,x.cP.aU.l⟩:J Int).U::aAI,rfl,⟨Oi,aFB,XW,bDO,bEJ,rfl,rfl,rfl,rfl,rfl,rfl,rfl,rfl,aGs.mono λr M=>aM (.tail _ (.tail _ (.tail _ M))),aM (.head _),⟨aM (.tail _ (.head _)),aM (.tail _ (.tail _ (.head _)))⟩⟩,rfl,rfl⟩
def b4c(x:cF)(L:aP)(R:aJ)(w3:Zn x)(bD:lK x R):
 aI prog 76 [x.val].toArray L R (λv E G=>∃(s:dQ) (h:a0 Int) (w:a0 fR) (c:a0 b8) (f:hI) (dH:J eA) (bS:J fK) (S:aJ),v=(⟨s,x.time,h,x.eJ,dH.U,w,c,f,x.aB,bS.U⟩:cF).val/\Zm x s h w c f dH bS (S++R)/\bS.L 150 fK.cells++(dH.L 93 eA.cells++L)=E/\S++R=G):=by refine aI.a75 (aPP x L R w3 bD) ?_;rintro v E G c w ⟨s,h,f,dH,mG,eW,bS,S,hv,fJ,rfl,rfl⟩ cI;have N:=cI.DJ (a8U _ _ _);have V:=N.TZ (eQ:=[]) fJ.aG0 bI bH lQ;have aQ:=V.DJ (a8U _ _ _);have b7:=aQ.TZ (eQ:=[]) fJ.aUh bI bH lQ;have eG:∀r∈S++R,aH r ((CY mG.U::sS eW.U::S)++R):=λr M=>aM (.tail _ (.tail _ M));exact⟨_,_,b7,s,h,mG.U,eW.U,f,dH,bS,CY mG.U::sS eW.U::S,hv,⟨fJ.Hy,fJ.RQ,fJ.FP,fJ.a6w,fJ.a6z,fJ.a6v,fJ.a0V,fJ.a6A,fJ.a6y,fJ.em,fJ.a6x,fJ.aK.mono eG,fJ.held.mono eG,aM (.head _),aM (.tail _ (.head _)),fJ.cP.mono eG⟩,rfl,rfl⟩
end Go.Proofs.YtchfclmokpbldaaGreat
namespace Go.Proofs.YtchfclmokpbldaaGreat
open Go.Aw Go Go.Proofs.Tryz
section
attribute [local irreducible] cH c6 dP aI cJ eD e9 e0 e1 e5 eS e8 J.L
def El(h:A->B:=by exact(aG (mI (hN:=[]) (cU:=[_,_,_,_]) O rfl rfl rfl rfl) ·)):=h
def Zx(h:B:=by exact⟨(⟨0,0,⟨0,0⟩⟩:eA),by rw[X],λh=>by omega,rfl,rfl⟩):=h
def a4m(h:A->B:=by exact(eO a24 ·)):=h
def b7m(h:A->B:=by exact(a4 Xx ·)):=h
def aQW(h:A->B:=by exact(aG aZv ·)):=h
def aJi(h:A->B:=by exact(aG Jq ·)):=h
def aL2(h:A->B:=by exact(aG (mI (hN:=[(0,(Value.int _ _).cells.toList),(1,(Value.int _ _).cells.toList),(2,(Value.agg _).cells.toList)]) (cU:=[_,_,_,_]) O rfl rfl rfl rfl) ·)):=h
def aP5(h:A->B:=by exact hF O [] [0,1,2,3,4,5,6,7,8,9,10,11,12,13,14,15,16,17] [18] (_) _ cX bE a2 b07):=h
def aK8(h:A->B:=by exact(eO aZv ·)):=h
def aLk(h:A->B:=by exact(eO Jq ·)):=h
def aQR(h:A->B:=by exact(eO aZN ·)):=h
def aQM(h:A->B:=by exact Ye rfl rfl rfl rfl s6 aE aE aE a2):=h
def aM4(h:B:=by exact⟨⟨a,t,DX (S.l.getD a.toNat default) (f.data.l.getD 0 0*256+f.data.l.getD 1 0)⟩,by rw[X],λ_=>by rw[Se,XP,if_pos D];rfl,rfl,rfl⟩):=h
def aJN(a:Int)(L:aP)(R:aJ)(ha:-1000000000000<=a/\a<=1000000000000):
 aI prog 194 [.int .i64 a].toArray L R (λv E G=>v=.int .i64 (a/1000)/\L=E/\R=G):=by
 have hm:=Int.tmod_def a 1000;have N:0<=a->a.tdiv 1000=a/1000:=λh=>JQ h;have V:a<0->a.tdiv 1000= -((-a)/1000):=λh=>by
  have:a= -(-a):=by omega
  rw[this,Int.neg_tdiv,JQ D];omega
 refine bW 12 call194 func194 ?_;apply cO∘pQ∘PB∘Ez∘Im∘D1;apply(W)<;>intro aO;·apply p8∘kP∘pQ∘q3;refine dC L R ?_;exact⟨by rw[show a.tdiv 1000-1=a/1000 by omega],rfl,rfl⟩
 apply eR∘a0h;refine dC L R ?_;exact⟨by rw[show a.tdiv 1000=a/1000 by omega],rfl,rfl⟩
def b23(s:fA)(r:Int)(L:aP)(R:aJ)(hs:qM s=0)(M3:-1000000<=r/\r<=1000000):
 aI prog 115 [s.val,.int .i64 r].toArray L R (λv E G=>v=(DX s r).val/\L=E/\R=G):=by
 refine bW 71 call115 func115 ?_;apply(c8);intro cS;apply(dA);intro cT;apply r1∘WE;apply cB (aC:=[_,_]) (j:=2) (a7:=10) rfl rfl aE rfl aW rfl;·exact GG
 intro mY;apply(b3);apply(W)<;>intro aO;·apply(cO);refine cC rfl (SS _ _) ?_;apply(FB);refine bN L R mR ?_;exact⟨by rw[DX,if_pos D],rfl,rfl⟩
 have c1:¬(qM s≠0\/¬(0<=r/\r<=65535)):=by omega
 have pX:=a9Q (s:=s) (r:=r) hs D;have u6:=a5B hs;rw[E4]at u6;have a1F:1<=s.kind/\s.kind<=6:=by
  rw[qM]at hs;split at hs;·omega
  ·omega
 apply eR∘KL∘b3;refine v2 ([5]++b4 17 6) ((⟨λg=>[(5,.int .i64 g.1)],λ_=>⟨cT,[.int .i64 0,.int .i64 0],90⟩::⟨cS,s.cells,88⟩::L,λ_=>R,λ_=>0⟩:dV {n:Int//n=if 4<=s.kind then ZM s.kind else -1})) ?_ ?_;·
  refine e3 (a6 (cR ?_));apply(v8);apply(W)<;>intro bF;·apply eK∘dE;refine eI (gV ?_);exact nZ ⟨1,by rw[if_pos D,ZM,if_neg D,if_neg D]⟩
  apply(oX);apply(W)<;>intro b2;·apply eK∘dE;refine eI (gV ?_);exact nZ ⟨2,by rw[if_pos D,ZM,if_neg D,if_pos D]⟩
  apply(oX);apply(W)<;>intro dZ;·apply eK∘dE;refine eI (gV ?_);exact nZ ⟨5,by rw[if_pos D,ZM,if_pos D]⟩
  refine dK (gV ?_);exact nZ ⟨-1,by rw[if_neg D]⟩
 rintro⟨F3,M0⟩ bZ;try dsimp only
 have bJH:4<=s.kind↔0<=F3:=by
  rw[M0,ZM];repeat' split
  all_goals omega
 apply(ZY);apply(W)<;>intro dX;·
  apply A7∘b1∘BA;apply(W)<;>intro h3;·apply(cO);refine cC rfl (SS _ _) ?_;apply(i3);refine eI (aZ (iT (gD (gD ?_))));refine bN L R mR ?_;exact⟨by rw[if_pos D]at M0;rw[DX,if_neg c1,if_pos D,if_pos D],rfl,rfl⟩
  apply eR∘pS∘y0∘FB;refine bN L R mR ?_;exact⟨by rw[if_pos D]at M0;rw[DX,if_neg c1,if_pos D,if_neg D],rfl,rfl⟩
 apply eR∘gE∘RW∘zG;refine gJ O [0,1,2,5,6,8,9,10,11,14,15,3,4,7,12,13,16,17,18,19] ([a5.mk cS _ _]) cX bE a2 ?_;apply oV∘iI∘oV;refine a4 Qw ?_;apply(iI);refine k6 rfl (aJN (s.EP*r) _ _ D) ?_;apply EK∘yZ;refine k6 rfl (aJN (-(s.EP*r)) _ _ D) ?_;apply yZ∘EK;refine a4 Xo ?_;apply(p2);intro kL;apply sE∘LI∘fH∘tC;apply cB (aC:=[_,_,_]) (j:=3) (a7:=57) rfl rfl aE rfl aW rfl;·exact a3w
 intro iG;apply(b3);apply(W)<;>intro hW;·apply(QW);refine aG B9 ?_;apply(fH);refine aG B9 ?_;apply r7∘G3∘S6;refine bN L R mR ?_;exact⟨by rw[DX,if_neg c1,if_neg D,if_pos D,Lh];simp only[a8D],rfl,rfl⟩
 apply eR∘S6;refine bN L R mR ?_;exact⟨by rw[DX,if_neg c1,if_neg D,if_neg D,Lh];simp only[a8D],rfl,rfl⟩
def Do(S:List fA)(uC z a:Int):Prop:=(a= -1/\∀j:Nat,z<j->j<S.length->(S.getD j default).hV≠uC)\/((z<a/\a<S.length)/\(S.getD a.toNat default).hV=uC/\∀j:Nat,z<j->(j:Int)<a->(S.getD j default).hV≠uC)
def aNy{S:List fA}{uC a:Int}(h:Do S uC (-1) a):DS S uC=a:=by
 rcases h with⟨N,V⟩|⟨N,V,aQ⟩;·rw[DS,List.find?_eq_none.2 (λi aA=>by rw[VD]at aA;simpa using V i D aA),N];rfl
 ·
  have:(List.range S.length).find? (λi=>decide ((S.getD i default).hV=uC))=some a.toNat:=by rw[a8L];refine⟨by simpa using V,by rw[VD];omega,λj aY=>?_⟩;simpa using aQ j D D
  rw[DS,this];show((a.toNat:Nat):Int)=a;omega
def Do.bCT{S:List fA}{z uC:Int}(eC:0<=z/\z<S.length)(h:(S.getD z.toNat default).hV=uC):Do S uC (z-1) z:=
 .inr ⟨by omega,h,λj N V=>by omega⟩
def Do.bFP{S:List fA}{z uC a:Int}(eC:0<=z/\z<S.length)(k:Do S uC z a)(h:(S.getD z.toNat default).hV≠uC):Do S uC (z-1) a:=by
 rcases k with⟨N,V⟩|⟨N,V,aQ⟩;·
  refine .inl ⟨N,λj aY hl=> ?_⟩;rcases GA (z<j)with b7|b7;·exact V j b7 hl
  ·(obtain rfl:j=z.toNat:=by omega);exact h
 ·
  refine .inr ⟨by omega,V,λj aY hl=> ?_⟩;rcases GA (z<j)with b7|b7;·exact aQ j b7 hl
  ·(obtain rfl:j=z.toNat:=by omega);exact h
def b7Q(S:a0 fA)(f:lE)(t:Int)(L:aP)(R:aJ)(dW:aH (z9 S) R)(hf:aH (hA f.data) R)(hb:n2 f.data.l)(hn:S.l.length<=64):
 aI prog 45 [S.val,f.val,.int .i64 t].toArray L R (λv E G=>∃m:eA,v=.tuple #[m.val,.int .i64 (v3 S.l f.lI t)]/\(v3 S.l f.lI t=0->m=Se S.l f.lI t)/\L=E/\R=G):=by
 refine nN call45 hf λBP=>?_;refine bW 85 call45 func45 ?_;apply(c8);intro cT;apply(dA);intro hP;apply(WL);apply cB (aC:=[_,_]) (j:=2) (a7:=13) rfl rfl aE rfl aW rfl;·exact GG
 intro mY;apply(b3);apply(W)<;>intro aO;·exact b0b
 apply eR∘g7∘QQ∘mM;refine c7 [(0,.slice _ _ _),(2,.int _ _),(4,.pointer _),(6,.pointer _),(8,.int _ _),(9,.int _ _)] bP λeZ=>?_;refine gP ([8,9]++b4 21 13) (λg:{g:Int×Int//(-1<=g.1/\g.1<S.l.length)/\Do S.l f.hV g.1 g.2}=>[(9,.int .i64 g.1.1),(8,.int .i64 g.1.2)]) (λg=>(g.1.1+1).toNat) (⟨((S.l.length:Int)-1,-1),by dsimp only;omega,.inl ⟨rfl,λj N V=>by dsimp only at N;omega⟩⟩) ?_;rintro⟨⟨z,a⟩,eC,ha⟩ bZ;try dsimp only
 dsimp only at eC ha;apply(ZY);apply(W)<;>intro bF;·exact aVD
 obtain rfl:z= -1:=by omega
 have XP:DS S.l f.lI.hV=a:=aNy ha;have aEE:a<0\/(0<=a/\a<S.l.length):=by
  rcases ha with h|h;·omega
  ·omega
 apply AV∘WE;apply cB (aC:=[_,_,_,_,_,_]) (j:=2) (a7:=36) rfl rfl aE rfl aW rfl;·intro fD;replace fD:=a8 fD;have a1w:=bJ S.l a.toNat default;apply h7∘aQW∘aJi;refine cC rfl (a9K (S.l.getD a.toNat default) _ _) ?_;exact HW
 intro mY;apply(b3);apply(W)<;>intro dZ;·
  apply cO∘El∘q4;refine bN L R Dd ?_;have X:v3 S.l f.lI t=9:=by rw[v3,if_neg D,XP,if_pos D]
  exact Zx
 have a1w:=bJ S.l a.toNat default;have Lx:¬(t<0\/2147483648<t):=by omega
 have Uf:¬(a<0\/qM (S.l.getD a.toNat default)≠0):=by omega
 have K4:f.lI.data.length=f.data.l.length:=rfl;have a18:f.lI.kind=f.kind:=rfl;apply eR∘pS;refine cC rfl (SS _ _) ?_;apply aL2∘dA;intro jE;apply(G6);refine eI (aZ (e3 (a6 (cR ?_))));apply(v8);apply(W)<;>intro dX;·
  apply s2∘lM∘qP;apply(W)<;>intro h3;·apply cO∘El∘i3∘dE;refine eI (aZ (iT (gD (iS (gD ?_)))));exact aIv
  have bQ:=bJ f.data.l 0 0;have N:=bJ f.data.l 1 0;have aEF:=hb.at 0;have yQ:=hb.at 1;refine dK (aZ ?_);apply aP5∘G2∘aK8∘aLk∘l1∘a8a∘vA∘a4m;refine eO a9m ?_;apply l1∘aQR∘vA∘a4m;refine eO a9n ?_;refine k2 rfl (b23 (S.l.getD a.toNat default) _ _ _ D D) rfl rfl ?_;rintro v E G ⟨rfl,rfl,rfl⟩;refine⟨a2,gN,?_⟩;apply a5h∘aQM;refine gS (gV (aZ (a6 (cR ?_))));apply sD∘pI;refine bN L R Dd ?_;have X:v3 S.l f.lI t=0:=by rw[v3,if_neg Lx,XP,if_neg Uf,if_neg D,if_neg D]
  exact aM4
 apply(oX);apply(W)<;>intro hW;·
  apply cO∘lM∘qP;apply(W)<;>intro oO;·exact(cO∘El∘aOJ) aIv
  refine dK (gV (aZ (a6 (cR ?_))));apply sD∘pI;refine bN L R Dd ?_;have X:v3 S.l f.lI t=0:=by rw[v3,if_neg Lx,XP,if_neg Uf,if_neg D,if_neg D]
  exact aWc
 exact(cO∘El∘aOJ) b0V
def b1u(S:a0 fA)(f:lE)(t:Int)(L:aP)(R:aJ)(dW:aH (z9 S) R)(hf:aH (hA f.data) R)(hb:n2 f.data.l)(hn:S.l.length<=64):
 aI prog 216 [S.val,f.val,.int .i64 t].toArray L R (λv E G=>∃m:eA,v=.tuple #[m.val,.int .i64 (v3 S.l f.lI t)]/\(v3 S.l f.lI t=0->m=Se S.l f.lI t)/\L=E/\R=G):=by
 refine nN call216 hf λBP=>?_;refine bW 98 call216 func216 ?_;apply(c8);intro cT;apply(dA);intro hP;apply(Ez);refine cC rfl a27 ?_;apply(oW);apply(W)<;>intro aO;·exact b0b
 apply eR∘g7∘QQ∘mM;refine c7 [(0,.slice _ _ _),(2,.int _ _),(4,.pointer _),(6,.pointer _),(8,.int _ _),(9,.int _ _)] bP λeZ=>?_;refine gP ([8,9]++b4 18 13) (λg:{g:Int×Int//(-1<=g.1/\g.1<S.l.length)/\Do S.l f.hV g.1 g.2}=>[(9,.int .i64 g.1.1),(8,.int .i64 g.1.2)]) (λg=>(g.1.1+1).toNat) (⟨((S.l.length:Int)-1,-1),by dsimp only;omega,.inl ⟨rfl,λj N V=>by dsimp only at N;omega⟩⟩) ?_;rintro⟨⟨z,a⟩,eC,ha⟩ bZ;try dsimp only
 dsimp only at eC ha;apply(ZY);apply(W)<;>intro bF;·exact aVD
 obtain rfl:z= -1:=by omega
 have XP:DS S.l f.lI.hV=a:=aNy ha;have Lx:¬(t<0\/2147483648<t):=by omega
 have aEE:a<0\/(0<=a/\a<S.l.length):=by
  rcases ha with h|h;·omega
  ·omega
 apply AV∘WE;apply cB (aC:=[_,_,_,_,_,_]) (j:=2) (a7:=33) rfl rfl aE rfl aW rfl;·intro fD;replace fD:=a8 fD;have a1w:=bJ S.l a.toNat default;apply h7∘aQW∘aJi;refine cC rfl (a4T (S.l.getD a.toNat default) _ _) ?_;exact HW
 intro mY;apply(b3);apply(W)<;>intro dZ;·
  apply cO∘El∘q4;refine bN L R Dd ?_;have X:v3 S.l f.lI t=9:=by rw[v3,if_neg Lx,XP,if_pos D]
  exact Zx
 have a1w:=bJ S.l a.toNat default;have Uf:¬(a<0\/qM (S.l.getD a.toNat default)≠0):=by omega
 have K4:f.lI.data.length=f.data.l.length:=rfl;have a18:f.lI.kind=f.kind:=rfl;apply GW∘rO;apply iZ (aC:=[_,_,_]) (j:=3) (a7:=45) rfl rfl aE rfl aW rfl;·exact Jh
 intro iG;apply(b3);apply(W)<;>intro dX;·exact(cO∘El∘q4) b0V
 apply GW∘tC;apply iZ (aC:=[_,_,_,_]) (j:=3) (a7:=54) rfl rfl aE rfl aW rfl;·intro eN;replace eN:=a8 eN;exact Ji
 intro iG;apply(c9);apply cB (aC:=[_,_,_,_,_,_,_,_,_]) (j:=9) (a7:=60) rfl rfl aE rfl aW rfl;·
  intro nY;replace nY:=a8 nY;apply fH∘tC;apply iZ (aC:=[_,_,_,_]) (j:=13) (a7:=64) rfl rfl aE rfl aW rfl;·intro pW;replace pW:=a8 pW;exact Ji
  intro UW;exact hL
 intro Hx;apply(b3);apply(W)<;>intro h3;·exact(cO∘El∘q4) aIv
 have X:v3 S.l f.lI t=0:=by rw[v3,if_neg Lx,XP,if_neg Uf,if_neg D,if_neg D]
 apply eR∘pS;refine cC rfl JV ?_;apply aL2∘dA;intro jE;apply G6∘mT;apply(W)<;>intro hW;·have bQ:=bJ f.data.l 0 0;have N:=bJ f.data.l 1 0;have aEF:=hb.at 0;have yQ:=hb.at 1;apply aP5∘G2∘aK8∘aLk∘l1∘a8a∘vA∘a4m;refine eO a9m ?_;apply l1∘aQR∘vA∘a4m;refine eO a9n ?_;refine k2 rfl (b1K (S.l.getD a.toNat default) _ _ _) rfl rfl ?_;rintro v E G ⟨rfl,rfl,rfl⟩;refine⟨a2,gN,?_⟩;apply a5h∘aQM;refine gS (aZ (a6 (cR ?_)));apply sD∘pI;refine bN L R Dd ?_;exact aM4
 apply eR∘sD∘pI;refine bN L R Dd ?_;exact aWc
def a5C(h:A->B:=by exact(aG x9 ·)):=h
def aOA(h:A->B:=by exact(hG 93 eA.cells 4 dH [] fJ.Hy ·)):=h
def Lo(g:hQ)(q:b0×Int)(L:aP)(R:aJ):oY:=λv E G=>∃(y:cF) (S:aJ),v=.tuple #[y.val,.int .i64 q.2]/\h5 g q.1 y/\lK y G/\L=E/\S++R=G
def QG{g:hQ}{p:b0}{x:cF}(K:h5 g p x){t:Int}:(t<x.time\/2147483648<t)↔o8 p t:=by rw[K.time,o8]
def Zm.XG{x:cF}{s:dQ}{h:a0 Int}{w:a0 fR}{c:a0 b8}{f:hI}{dH:J eA}{bS:J fK}{R G:aJ}(k:Zm x s h w c f dH bS R)(bD:∀r∈R,aH r G)(N:aH (gT dH.U) G)(V:aH (iY bS.U) G):lK (⟨s,x.time,h,x.eJ,dH.U,w,c,f,x.aB,bS.U⟩:cF) G:=⟨k.aK.mono bD,k.held.mono bD,N,k.eF.mono bD,k.aS.mono bD,k.cP.mono bD,V⟩
def b5P(g:hQ)(p:b0)(x:cF)(t:Int)(L:aP)(R:aJ)(dR:Inv g p)(K:h5 g p x)(bD:lK x R):
 aI prog 25 [x.val,.int .i64 t].toArray L R (Lo g (IJ g p t) L R):=by
 refine bW 16 call25 func25 ?_;apply(c8);intro cS;apply(dA);intro cT;apply mL∘a5C;refine cK Xt ?_;rintro v E G ⟨s,h,w,c,f,dH,bS,fP,rfl,fJ,rfl,rfl⟩;apply(dA);intro hP;apply rQ∘a5C∘b1;refine cC rfl (Sa x t _ _) ?_;apply(b3);apply(W)<;>intro aO;·refine a6 ?_;apply(aOA);refine fU ?_;refine hG 150 fK.cells 4 bS [] fJ.RQ ?_;refine fU ?_;apply eK∘a5C∘q4;refine bN L ((iY bS.U::gT dH.U::fP)++R) nL ?_;have hl:o8 p t:=(QG K).1 EY;exact⟨(⟨s,x.time,h,x.eJ,dH.U,w,c,f,x.aB,bS.U⟩:cF),iY bS.U::gT dH.U::fP,by rw[IJ,if_pos hl],by rw[IJ,if_pos hl];exact fJ.is K,fJ.XG (λr M=>aM (.tail _ (.tail _ M))) YR n1,rfl,rfl⟩
 have hl:¬o8 p t:=λh=>absurd ((QG K).2 h) EY;have dS:=wT hl;have D6:=fJ.is K;have mV:∀r∈fP++R,aH r (gT dH.U::(fP++R)):=λr M=>aM (.tail _ M);apply(aOA);refine fU ?_;apply(WV);refine cK b0Q ?_;rintro v E G ⟨fT,jG,iN,q,e2,gG,dW,⟨tK,b2,vO⟩,rfl,rfl⟩;apply(jW);refine hG 150 fK.cells 4 q [] gG ?_;refine fU ?_;have aQ:∀r∈e2++(gT dH.U::(fP++R)),aH r ((iY q.U::(e2++(gT dH.U::fP)))++R):=λr M=>aM a3u;have b7:∀r∈fP++R,aH r ((iY q.U::(e2++(gT dH.U::fP)))++R):=λr M=>(mV r M).mono λr M=>aQ r (mA _ M);refine sU (G:=((iY q.U::(e2++(gT dH.U::fP)))++R)) (by simp only[oF,mQ]) ?_;apply eK∘a5C∘pI;refine bN L ((iY q.U::(e2++(gT dH.U::fP)))++R) nL ?_;exact⟨(⟨s,t,h,x.eJ,dH.U,fT,jG,iN,(bM g p t).aB,q.U⟩:cF),iY q.U::(e2++(gT dH.U::fP)),by rw[IJ,if_neg hl],by rw[IJ,if_neg hl];exact dW,⟨fJ.aK.mono b7,fJ.held.mono b7,aQ _ (mA _ (.head _)),tK.mono aQ,b2.mono aQ,vO.mono aQ,aM (.head _)⟩,rfl,rfl⟩
end
attribute [local irreducible] cH c6 dP aI cJ eD e9 e0 e1 e5 eS e8 J.L
def KC(h:A->B:=by exact(aG x9 ·)):=h
def Kd(h:A->B:=by exact(hG 93 eA.cells 4 dH [] fJ.Hy ·)):=h
def a54(h:A->B:=by exact(hG 150 fK.cells 4 bS [] fJ.RQ ·)):=h
def a3Q(h:A->B:=by exact(hG 150 fK.cells 4 fB [] K9 ·)):=h
def aCK(h:A->B:=by exact PW O rfl rfl rfl rfl s6 aE aE aE):=h
def aKd(h:A->B:=by exact(aG lR ·)):=h
def aRc(h:A->B:=by exact(hG 3 aL 1 HQ [] aGk ·)):=h
def aRj(h:A->B:=by exact(hG 76 bL.cells 5 EI [] aFX ·)):=h
def aNP(h:A->B:=by exact(a4 qI ·)):=h
def aQQ(h:A->B:=by exact(a4 x9 ·)):=h
def aJy(h:A->B:=by exact(a4 E0 ·)):=h
def aKb(h:A->B:=by exact q1 rfl aYq rfl rfl):=h
def aOh(h:B:=by exact⟨(⟨s,t,h,x.eJ,dH.U,fT,jG,iN,(bM g p t).aB,fB.U⟩:cF),iY fB.U::(e2++(gT dH.U::fP)),by rw[dY],by rw[dY];exact dW.AR F0,⟨fJ.aK.mono b7,fJ.held.mono b7,(eG _ (.head _)).mono aQ,tK.mono aQ,b2.mono aQ,vO.mono aQ,aM (.head _)⟩,rfl,rfl⟩):=h
def aLv(h:A->B:=by exact(aG E0 ·)):=h
def h5.g8{g:hQ}{q:b0}{x:cF}(h:h5 g q x):KE x.aK g.bU x.c5.l x.time=fC g q:=by rw[fZ.g8 h.aK,h.c5,h.time,fC]
def b1E(g:hQ)(p:b0)(x:cF)(k sh t:Int)(L:aP)(R:aJ)(dR:Inv g p)(K:h5 g p x)(bD:lK x R):
 aI prog 80 [x.val,.int .i64 k,.int .i64 sh,.int .i64 t].toArray L R (Lo g (CW g p k sh t) L R):=by
 refine bW 36 call80 func80 ?_;apply(c8);intro cT;apply(dA);intro gL;apply mL∘KC;refine cK Xt ?_;rintro v E G ⟨s,h,w,c,f,dH,bS,fP,rfl,fJ,rfl,rfl⟩;apply(dA);intro jE;apply rQ∘KC∘b1;refine cC rfl (Sa x t _ _) ?_;apply(b3);apply(W)<;>intro aO;·refine a6 ?_;apply(Kd);refine fU ?_;apply(a54);refine fU ?_;apply eK∘KC∘q4;refine bN L ((iY bS.U::gT dH.U::fP)++R) nL ?_;have hl:o8 p t:=(QG K).1 EY;exact⟨(⟨s,x.time,h,x.eJ,dH.U,w,c,f,x.aB,bS.U⟩:cF),iY bS.U::gT dH.U::fP,by rw[CW,if_pos hl],by rw[CW,if_pos hl];exact fJ.is K,fJ.XG (λr M=>aM (.tail _ (.tail _ M))) YR n1,rfl,rfl⟩
 have hl:¬o8 p t:=λh=>absurd ((QG K).2 h) EY;have dS:=wT hl;have D6:=fJ.is K;have vP:f.aT.l=p.aF:=D6.aF;have HH:f.aU.l=g.cG:=D6.cG;have kS:f.cA=g.bT:=D6.bT;have HC:sT f.aT.l f.aU.l f.cA k sh=sT p.aF g.cG g.bT k sh:=by rw[vP,HH,kS]
 apply eR∘eP∘aKd∘pS;refine cK (b7h f k sh _ _ fJ.cP) ?_;rintro v E G ⟨EI,HQ,PE,rfl,⟨aFX,aGk⟩,aED,rfl,rfl⟩;refine aG iR ?_;apply(G7);intro FL;apply i3∘TJ;apply(W)<;>intro bF;·
  refine a6 ?_;apply(aRc);refine fU ?_;apply(aRj);refine fU ?_;refine uV (G:=fP++R) g3 (λr M=>aM (.tail _ (.tail _ M))) ?_;apply(Kd);refine fU ?_;apply(a54);refine fU ?_;apply eK∘KC∘tZ;refine bN L ((iY bS.U::gT dH.U::fP)++R) nL ?_;have X:sT p.aF g.cG g.bT k sh≠0:=by rw[<-HC];exact bF
  exact⟨(⟨s,x.time,h,x.eJ,dH.U,w,c,f,x.aB,bS.U⟩:cF),iY bS.U::gT dH.U::fP,by rw[CW,if_neg hl,if_pos X,HC],by rw[CW,if_neg hl,if_pos X];exact D6,fJ.XG (λr M=>aM (.tail _ (.tail _ M))) YR n1,rfl,rfl⟩
 apply x2∘aRj;refine fU ?_;apply(aRc);refine fU ?_;apply(Kd);refine fU ?_;have X:sT p.aF g.cG g.bT k sh=0:=by rw[<-HC];exact Decidable.not_not.1 bF
 obtain⟨XY,aGj,aGp⟩:=aED (by rw[HC];exact X);have w2:=dR.aDe X;have a1m:h5 g {p with aF:=LZ p.aF k sh} (⟨s,x.time,h,x.eJ,dH.U,w,c,⟨EI.U,HQ.U,PE⟩,x.aB,bS.U⟩:cF):={D6 with aF:=by rw[<-vP];exact XY,cG:=aGj.trans HH,bT:=aGp.trans kS};have mV:∀r∈fP++R,aH r (gT dH.U::cZ HQ.U::uT EI.U::(fP++R)):=λr M=>aM (.tail _ (.tail _ (.tail _ M)));apply eK∘aKd∘eP∘aCK∘jW;refine uV (E:=⟨jE,(⟨s,x.time,h,x.eJ,dH.U,w,c,⟨EI.U,HQ.U,PE⟩,x.aB,bS.U⟩:cF).cells,54⟩::(bS.L 150 fK.cells++_)) a2 fF ?_;apply(p8);refine cK (a0a g {p with aF:=LZ p.aF k sh} (⟨s,x.time,h,x.eJ,dH.U,w,c,⟨EI.U,HQ.U,PE⟩,x.aB,bS.U⟩:cF) bS jE t _ _ w2 a1m (fJ.aK.mono mV) n1 (fJ.eF.mono mV) (fJ.aS.mono mV) ⟨aM (.tail _ (.tail _ (.head _))),aM (.tail _ (.head _))⟩ fJ.RQ dS) ?_;rintro v E G ⟨fT,jG,iN,q,e2,gG,dW,⟨tK,b2,vO⟩,rfl,rfl⟩;apply(jW);refine hG 150 fK.cells 4 q [] gG ?_;refine fU ?_;have aQ:∀r∈e2++(gT dH.U::cZ HQ.U::uT EI.U::(fP++R)),aH r ((iY q.U::(e2++(gT dH.U::cZ HQ.U::uT EI.U::fP)))++R):=λr M=>aM (by rw[oF,mQ,oF,oF,oF];exact .tail _ M);have b7:∀r∈fP++R,aH r ((iY q.U::(e2++(gT dH.U::cZ HQ.U::uT EI.U::fP)))++R):=λr M=>(mV r M).mono λr M=>aQ r (mA _ M);refine sU (G:=((iY q.U::(e2++(gT dH.U::cZ HQ.U::uT EI.U::fP)))++R)) (by simp only[oF,mQ]) ?_;apply eK∘KC∘pI;refine bN L ((iY q.U::(e2++(gT dH.U::cZ HQ.U::uT EI.U::fP)))++R) nL ?_;have e:CW g p k sh t=(bM g {p with aF:=LZ p.aF k sh} t,0):=by rw[CW,if_neg hl,if_neg a20]
 exact⟨(⟨s,t,h,x.eJ,dH.U,fT,jG,iN,(bM g {p with aF:=LZ p.aF k sh} t).aB,q.U⟩:cF),iY q.U::(e2++(gT dH.U::cZ HQ.U::uT EI.U::fP)),by rw[e],by rw[e];exact dW,⟨fJ.aK.mono b7,fJ.held.mono b7,aQ _ (mA _ (.head _)),tK.mono aQ,b2.mono aQ,vO.mono aQ,aM (.head _)⟩,rfl,rfl⟩
def aQw(g:hQ)(p:b0)(x:cF)(a z t:Int)(L:aP)(R:aJ)(dR:Inv g p)(K:h5 g p x)(bD:lK x R):
 aI prog 21 [x.val,.int .i64 a,.int .i64 z,.int .i64 t].toArray L R (Lo g (zZ g p a z t) L R):=by
 refine bW 49 call21 func21 ?_;apply(c8);intro cT;apply(dA);intro gL;apply mL∘KC;refine cK Xt ?_;rintro v E G ⟨s,h,w,c,f,dH,bS,fP,rfl,fJ,rfl,rfl⟩;apply(dA);intro jE;apply rQ∘KC∘b1;refine cC rfl (Sa x t _ _) ?_;apply(b3);apply(W)<;>intro aO;·refine a6 ?_;apply(Kd);refine fU ?_;apply(a54);refine fU ?_;apply eK∘KC∘q4;refine bN L ((iY bS.U::gT dH.U::fP)++R) nL ?_;have hl:o8 p t:=(QG K).1 EY;exact⟨(⟨s,x.time,h,x.eJ,dH.U,w,c,f,x.aB,bS.U⟩:cF),iY bS.U::gT dH.U::fP,by rw[zZ,if_pos hl],by rw[zZ,if_pos hl];exact fJ.is K,fJ.XG (λr M=>aM (.tail _ (.tail _ M))) YR n1,rfl,rfl⟩
 have hl:¬o8 p t:=λh=>absurd ((QG K).2 h) EY;have dS:=wT hl;have D6:=fJ.is K;have mV:∀r∈fP++R,aH r (gT dH.U::(fP++R)):=λr M=>aM (.tail _ M);apply(Kd);refine fU ?_;apply(WV);refine cK (a0a g p (⟨s,x.time,h,x.eJ,dH.U,w,c,f,x.aB,bS.U⟩:cF) bS jE t _ _ dR D6 (fJ.aK.mono mV) n1 (fJ.eF.mono mV) (fJ.aS.mono mV) (fJ.cP.mono mV) fJ.RQ dS) ?_;rintro v E G ⟨fT,jG,iN,q,e2,gG,dW,⟨tK,b2,vO⟩,rfl,rfl⟩;apply(jW);have nX:=dR.settle dS.1 dS.2;have eG:∀r∈gT dH.U::(fP++R),aH r (e2++(gT dH.U::(fP++R))):=λr M=>aM (mA _ M);have gF:∀r∈fP++R,aH r (e2++(gT dH.U::(fP++R))):=λr M=>(mV r M).mono eG;have EF:tX (⟨s,t,h,x.eJ,dH.U,fT,jG,iN,(bM g p t).aB,q.U⟩:cF) (e2++(gT dH.U::(fP++R))):=tX.of nX dW (fJ.aK.mono gF) (eG _ (.head _));have uF:lS s.bU.Y g.bU:=fZ.xI dW.aK nX.xI;refine gJ O [0,1,2,3,4,6,7,8,9,10,5,11,12,13,14,15,16,17] _ cX bE g3 ?_;apply kT∘aNP∘iI∘aQQ∘kT∘aJy;iterate 3 apply(g1)
 apply(aKb);rintro v E G ⟨Z,rfl,fW,rfl,rfl⟩;refine⟨a2,gN,?_⟩;refine k6 rfl (b7v s jG Z (bM g p t).aB a z t _ _ ⟨(fJ.aK.mono gF).mono λr M=>aM (.tail _ M),b2.mono λr M=>aM (.tail _ M),aM (.head _)⟩) ?_;refine a4 iR ?_;refine a4 sL ?_;refine a4 sL ?_;apply(p2);intro FL;apply(wX);refine gS (aZ (a6 (a6 ?_)));have iJ:Z.l=fC g (bM g p t):=fW.trans (h5.g8 dW);have nQ:jG.l=(bM g p t).aS:=dW.aS;have HC:p9 s jG.l Z.l (bM g p t).aB a z t=p9 g.aK (bM g p t).aS (fC g (bM g p t)) (bM g p t).aB a z t:=by rw[fZ.p9 dW.aK,nQ,iJ]
 have Q2:u0 s jG.l Z.l (bM g p t).aB a z t=u0 g.aK (bM g p t).aS (fC g (bM g p t)) (bM g p t).aB a z t:=by rw[fZ.u0 dW.aK,nQ,iJ]
 rw[HC,Q2];obtain⟨e,X⟩:∃e,e=p9 g.aK (bM g p t).aS (fC g (bM g p t)) (bM g p t).aB a z t:=⟨_,rfl⟩;rw[<-X];have Hn:q.l.length<=400:=by have:=nX.eM;rw[<-dW.eM]at this;exact this
 apply(WS);apply(W)<;>intro bF;·
  refine a6 ?_;refine uV (E:=⟨jE,(⟨s,t,h,x.eJ,dH.U,fT,jG,iN,(bM g p t).aB,q.U⟩:cF).cells,54⟩::(q.L 150 fK.cells++_)) a2 fF ?_;apply p8∘b1;refine cK (V5 (⟨s,t,h,x.eJ,dH.U,fT,jG,iN,(bM g p t).aB,q.U⟩:cF) q jE 7 z e _ _ gG Hn) ?_;rintro v E G ⟨fB,K9,F0,rfl,rfl⟩;apply jW∘a3Q;refine fU ?_;refine uV (G:=((iY fB.U::(e2++(gT dH.U::fP)))++R)) g3 (λr M=>aM (by
   rw[oF,mQ,oF]at M;rcases List.mem_cons.1 M with h|h;·exact Wl
   ·exact .tail _ (.tail _ h))) ?_
  have aQ:∀r∈(e2++(gT dH.U::(fP++R))),aH r ((iY fB.U::(e2++(gT dH.U::fP)))++R):=λr M=>aM a3u;have b7:∀r∈fP++R,aH r ((iY fB.U::(e2++(gT dH.U::fP)))++R):=λr M=>(gF r M).mono aQ;apply eK∘KC∘tZ;refine bN L ((iY fB.U::(e2++(gT dH.U::fP)))++R) nL ?_;have dY:zZ g p a z t=(o7 (bM g p t) 7 z e,e):=by rw[zZ,if_neg hl];dsimp only;rw[<-X,if_pos bF]
  exact aOh
 apply eR∘aLv∘eP∘aCK∘jW;refine uV (E:=⟨jE,(⟨s,t,h,x.eJ,dH.U,fT,jG,iN,u0 g.aK (bM g p t).aS (fC g (bM g p t)) (bM g p t).aB a z t,q.U⟩:cF).cells,54⟩::(q.L 150 fK.cells++_)) a2 fF ?_;apply p8∘b1;refine cK (V5 (⟨s,t,h,x.eJ,dH.U,fT,jG,iN,u0 g.aK (bM g p t).aS (fC g (bM g p t)) (bM g p t).aB a z t,q.U⟩:cF) q jE 4 z a _ _ gG Hn) ?_;rintro v E G ⟨fB,K9,F0,rfl,rfl⟩;apply jW∘a3Q;refine fU ?_;refine uV (G:=((iY fB.U::(e2++(gT dH.U::fP)))++R)) g3 (λr M=>aM (by
  rw[oF,mQ,oF]at M;rcases List.mem_cons.1 M with h|h;·exact Wl
  ·exact .tail _ (.tail _ h))) ?_
 have aQ:∀r∈(e2++(gT dH.U::(fP++R))),aH r ((iY fB.U::(e2++(gT dH.U::fP)))++R):=λr M=>aM a3u;have b7:∀r∈fP++R,aH r ((iY fB.U::(e2++(gT dH.U::fP)))++R):=λr M=>(gF r M).mono aQ;apply eK∘KC∘pI;refine bN L ((iY fB.U::(e2++(gT dH.U::fP)))++R) nL ?_;have dY:zZ g p a z t=(o7 {(bM g p t)with aB:=u0 g.aK (bM g p t).aS (fC g (bM g p t)) (bM g p t).aB a z t} 4 z a,0):=by rw[zZ,if_neg hl];dsimp only;rw[<-X,if_neg bF]
 have Gl:h5 g {(bM g p t)with aB:=u0 g.aK (bM g p t).aS (fC g (bM g p t)) (bM g p t).aB a z t} (⟨s,t,h,x.eJ,dH.U,fT,jG,iN,u0 g.aK (bM g p t).aS (fC g (bM g p t)) (bM g p t).aB a z t,q.U⟩:cF):={dW with aB:=rfl};exact⟨(⟨s,t,h,x.eJ,dH.U,fT,jG,iN,u0 g.aK (bM g p t).aS (fC g (bM g p t)) (bM g p t).aB a z t,fB.U⟩:cF),iY fB.U::(e2++(gT dH.U::fP)),by rw[dY],by rw[dY];exact Gl.AR F0,⟨fJ.aK.mono b7,fJ.held.mono b7,(eG _ (.head _)).mono aQ,tK.mono aQ,b2.mono aQ,vO.mono aQ,aM (.head _)⟩,rfl,rfl⟩
def b9f(g:hQ)(p:b0)(x:cF)(a t:Int)(L:aP)(R:aJ)(dR:Inv g p)(K:h5 g p x)(bD:lK x R):
 aI prog 22 [x.val,.int .i64 a,.int .i64 t].toArray L R (Lo g (CQ g p a t) L R):=by
 refine bW 50 call22 func22 ?_;apply(c8);intro dG;apply(dA);intro hP;apply mL∘KC;refine cK Xt ?_;rintro v E G ⟨s,h,w,c,f,dH,bS,fP,rfl,fJ,rfl,rfl⟩;apply(dA);intro gL;apply rQ∘KC∘b1;refine cC rfl (Sa x t _ _) ?_;apply(b3);apply(W)<;>intro aO;·refine a6 ?_;apply(Kd);refine fU ?_;apply(a54);refine fU ?_;apply eK∘KC∘q4;refine bN L ((iY bS.U::gT dH.U::fP)++R) nL ?_;have hl:o8 p t:=(QG K).1 EY;exact⟨(⟨s,x.time,h,x.eJ,dH.U,w,c,f,x.aB,bS.U⟩:cF),iY bS.U::gT dH.U::fP,by rw[CQ,if_pos hl],by rw[CQ,if_pos hl];exact fJ.is K,fJ.XG (λr M=>aM (.tail _ (.tail _ M))) YR n1,rfl,rfl⟩
 have hl:¬o8 p t:=λh=>absurd ((QG K).2 h) EY;have dS:=wT hl;have D6:=fJ.is K;have mV:∀r∈fP++R,aH r (gT dH.U::(fP++R)):=λr M=>aM (.tail _ M);apply(Kd);refine fU ?_;apply(WV);refine cK (a0a g p (⟨s,x.time,h,x.eJ,dH.U,w,c,f,x.aB,bS.U⟩:cF) bS gL t _ _ dR D6 (fJ.aK.mono mV) n1 (fJ.eF.mono mV) (fJ.aS.mono mV) (fJ.cP.mono mV) fJ.RQ dS) ?_;rintro v E G ⟨fT,jG,iN,q,e2,gG,dW,⟨tK,b2,vO⟩,rfl,rfl⟩;apply(jW);have nX:=dR.settle dS.1 dS.2;have eG:∀r∈gT dH.U::(fP++R),aH r (e2++(gT dH.U::(fP++R))):=λr M=>aM (mA _ M);have gF:∀r∈fP++R,aH r (e2++(gT dH.U::(fP++R))):=λr M=>(mV r M).mono eG;have EF:tX (⟨s,t,h,x.eJ,dH.U,fT,jG,iN,(bM g p t).aB,q.U⟩:cF) (e2++(gT dH.U::(fP++R))):=tX.of nX dW (fJ.aK.mono gF) (eG _ (.head _));have uF:lS s.bU.Y g.bU:=fZ.xI dW.aK nX.xI;apply eK∘FE∘zG;refine gJ O [0,1,2,3,4,6,7,8,9,5,10,11,12,13,14,15,16] _ cX bE g3 ?_;apply kT∘aNP∘iI∘aQQ∘kT∘aJy∘g1∘g1∘aKb;rintro v E G ⟨Z,rfl,fW,rfl,rfl⟩;refine⟨a2,gN,?_⟩;refine k6 rfl (b20 s jG Z (bM g p t).aB a t _ _ ⟨(fJ.aK.mono gF).mono λr M=>aM (.tail _ M),b2.mono λr M=>aM (.tail _ M),aM (.head _)⟩) ?_;refine a4 iR ?_;refine a4 sL ?_;refine a4 sL ?_;apply(p2);intro jE;apply(wX);refine gS (aZ (a6 (a6 ?_)));have iJ:Z.l=fC g (bM g p t):=fW.trans (h5.g8 dW);have nQ:jG.l=(bM g p t).aS:=dW.aS;have HC:tD s jG.l Z.l (bM g p t).aB a t=tD g.aK (bM g p t).aS (fC g (bM g p t)) (bM g p t).aB a t:=by rw[fZ.tD dW.aK,nQ,iJ]
 have Q2:vL s jG.l Z.l (bM g p t).aB a t=vL g.aK (bM g p t).aS (fC g (bM g p t)) (bM g p t).aB a t:=by rw[fZ.vL dW.aK,nQ,iJ]
 rw[HC,Q2];obtain⟨e,X⟩:∃e,e=tD g.aK (bM g p t).aS (fC g (bM g p t)) (bM g p t).aB a t:=⟨_,rfl⟩;rw[<-X];have Hn:q.l.length<=400:=by have:=nX.eM;rw[<-dW.eM]at this;exact this
 apply(WS);apply(W)<;>intro bF;·
  refine a6 ?_;refine uV (E:=⟨gL,(⟨s,t,h,x.eJ,dH.U,fT,jG,iN,(bM g p t).aB,q.U⟩:cF).cells,54⟩::(q.L 150 fK.cells++_)) a2 fF ?_;apply p8∘b1;refine cK (V5 (⟨s,t,h,x.eJ,dH.U,fT,jG,iN,(bM g p t).aB,q.U⟩:cF) q gL 7 (bM g p t).aB.dI e _ _ gG Hn) ?_;rintro v E G ⟨fB,K9,F0,rfl,rfl⟩;apply jW∘a3Q;refine fU ?_;refine uV (G:=((iY fB.U::(e2++(gT dH.U::fP)))++R)) g3 (λr M=>aM (by
   rw[oF,mQ,oF]at M;rcases List.mem_cons.1 M with h|h;·exact Wl
   ·exact .tail _ (.tail _ h))) ?_
  have aQ:∀r∈(e2++(gT dH.U::(fP++R))),aH r ((iY fB.U::(e2++(gT dH.U::fP)))++R):=λr M=>aM a3u;have b7:∀r∈fP++R,aH r ((iY fB.U::(e2++(gT dH.U::fP)))++R):=λr M=>(gF r M).mono aQ;apply eK∘KC∘tZ;refine bN L ((iY fB.U::(e2++(gT dH.U::fP)))++R) nL ?_;have dY:CQ g p a t=(o7 (bM g p t) 7 (bM g p t).aB.dI e,e):=by rw[CQ,if_neg hl];dsimp only;rw[<-X,if_pos bF]
  exact aOh
 apply eR∘aLv∘eP∘aCK∘jW;refine uV (E:=⟨gL,(⟨s,t,h,x.eJ,dH.U,fT,jG,iN,vL g.aK (bM g p t).aS (fC g (bM g p t)) (bM g p t).aB a t,q.U⟩:cF).cells,54⟩::(q.L 150 fK.cells++_)) a2 fF ?_;apply p8∘b1;refine cK (V5 (⟨s,t,h,x.eJ,dH.U,fT,jG,iN,vL g.aK (bM g p t).aS (fC g (bM g p t)) (bM g p t).aB a t,q.U⟩:cF) q gL 5 (bM g p t).aB.dI a _ _ gG Hn) ?_;rintro v E G ⟨fB,K9,F0,rfl,rfl⟩;apply jW∘a3Q;refine fU ?_;refine uV (G:=((iY fB.U::(e2++(gT dH.U::fP)))++R)) g3 (λr M=>aM (by
  rw[oF,mQ,oF]at M;rcases List.mem_cons.1 M with h|h;·exact Wl
  ·exact .tail _ (.tail _ h))) ?_
 have aQ:∀r∈(e2++(gT dH.U::(fP++R))),aH r ((iY fB.U::(e2++(gT dH.U::fP)))++R):=λr M=>aM a3u;have b7:∀r∈fP++R,aH r ((iY fB.U::(e2++(gT dH.U::fP)))++R):=λr M=>(gF r M).mono aQ;apply eK∘KC∘pI;refine bN L ((iY fB.U::(e2++(gT dH.U::fP)))++R) nL ?_;have dY:CQ g p a t=(o7 {(bM g p t)with aB:=vL g.aK (bM g p t).aS (fC g (bM g p t)) (bM g p t).aB a t} 5 (bM g p t).aB.dI a,0):=by rw[CQ,if_neg hl];dsimp only;rw[<-X,if_neg bF]
 have Gl:h5 g {(bM g p t)with aB:=vL g.aK (bM g p t).aS (fC g (bM g p t)) (bM g p t).aB a t} (⟨s,t,h,x.eJ,dH.U,fT,jG,iN,vL g.aK (bM g p t).aS (fC g (bM g p t)) (bM g p t).aB a t,q.U⟩:cF):={dW with aB:=rfl};exact⟨(⟨s,t,h,x.eJ,dH.U,fT,jG,iN,vL g.aK (bM g p t).aS (fC g (bM g p t)) (bM g p t).aB a t,fB.U⟩:cF),iY fB.U::(e2++(gT dH.U::fP)),by rw[dY],by rw[dY];exact Gl.AR F0,⟨fJ.aK.mono b7,fJ.held.mono b7,(eG _ (.head _)).mono aQ,tK.mono aQ,b2.mono aQ,vO.mono aQ,aM (.head _)⟩,rfl,rfl⟩
def a5F(h:A->B:=by exact(aG x9 ·)):=h
def aNp:∀(n:Nat) {l:List Int} (d:Int),l.length=n->n2 l->∀f∈(j3 l d).cU,n2 f.data:=by
 intro n;induction n using Nat.strongRecOn with
 |ind n cM=>
  intro l d hn hb f hf;rcases GA (l=[])with h|h;·subst h;rw[Ym]at hf;cases hf
  ·
   have Bg:=List.length_pos_iff.2 h;have FU:n2 l.tail:=λx K=>hb x (aH2 K);have Oy:=cM l.tail.length (by rw[Wz];omega) (d+1) rfl FU;rcases GA (zW l)with N|N;·rw[Kl h (.inl N)]at hf;exact Oy f hf
   ·
    rcases GA (z0 l)with V|V;·rw[a0x h N V]at hf;cases hf
    ·
     rcases GA (uZ (MI l)=P6 l)with aQ|aQ;·
      rw[a4g h N V aQ]at hf;rcases List.mem_cons.1 hf with hf|hf;·rw[hf];intro x K;have K:x∈(l.take (4+j0 l)).drop 4:=K;exact hb x (Qc (Jf K))
      ·exact cM (l.drop (j0 l+6)).length (by rw[F9];omega) d rfl (λx K=>hb x (Jf K)) f hf
     ·rw[Kl h (.inr ⟨V,aQ⟩)]at hf;exact Oy f hf
def aJ2:∀(n:Nat) {l:List Int} (d:Int),l.length=n->(j3 l d).cU.length<=n:=by
 intro n;induction n using Nat.strongRecOn with
 |ind n cM=>
  intro l d hn;rcases GA (l=[])with h|h;·subst h;rw[Ym];exact AY _
  ·
   have Bg:=List.length_pos_iff.2 h;have Oy:=cM l.tail.length (by rw[Wz];omega) (d+1) rfl;rw[Wz]at Oy;rcases GA (zW l)with N|N;·rw[Kl h (.inl N)];omega
   ·
    rcases GA (z0 l)with V|V;·rw[a0x h N V];exact AY _
    ·
     rcases GA (uZ (MI l)=P6 l)with aQ|aQ;·rw[a4g h N V aQ];have:=cM (l.drop (j0 l+6)).length (by rw[F9];omega) d rfl;rw[F9]at this;show(_::_).length<=n;rw[sK];omega
     ·rw[Kl h (.inr ⟨V,aQ⟩)];omega
def aOp{S:List fA}{t:Int}{m:List eA}{l:List D0}{k:Nat}{x:D0}(h:l[k]?=some x):(l.take (k+1)).foldl (J8 S t) m=J8 S t ((l.take k).foldl (J8 S t) m) x:=by rw[PM,h,Iy];rfl
def r2:cF:=⟨⟨⟨⟨⟨none,0,[]⟩,⟨none,0,[]⟩⟩,⟨none,0,[]⟩,⟨none,0,[]⟩⟩,⟨none,0,[]⟩,⟨none,0,[]⟩,⟨none,0,[]⟩,⟨none,0,[]⟩⟩,0,⟨none,0,[]⟩,0,⟨none,0,[]⟩,⟨none,0,[]⟩,⟨none,0,[]⟩,⟨⟨none,0,[]⟩,⟨none,0,[]⟩,0⟩,⟨0,0,0,0,0⟩,⟨none,0,[]⟩⟩
def aAr{S:List fA}{f:D0}{t:Int}(h:v3 S f t=0):0<=DS S f.hV/\(DS S f.hV).toNat<S.length:=by
 rw[v3]at h;split at h;·cases h
 split at h;·cases h
 rename_i V;have:=b15 (S:=S) (uC:=f.hV) D;exact⟨this.2,this.1⟩
def b1G(g:hQ)(p:b0)(x:cF)(oN:a0 Int)(t:Int)(L:aP)(R:aJ)(dR:Inv g p)(K:h5 g p x)(bD:lK x R)(OT:aH (hA oN) R)(a6S:n2 oN.l)(Gr:oN.l.length<=100000)(OU:0<=p.eJ/\p.eJ<=1152921504606846976):
 aI prog 18 [x.val,oN.val,.int .i64 t].toArray L R (Lo g (IK g p oN.l t) L R):=by
 have X5:x.eJ=p.eJ:=K.eJ;refine bW 65 call18 func18 ?_;apply(c8);intro dG;apply(dA);intro hP;apply mL∘a5F;refine cK Xt ?_;rintro v E G ⟨s,h,w,c,f,dH,bS,fP,rfl,fJ,rfl,rfl⟩;apply(dA);intro gL;apply rQ∘a5F∘b1;refine cC rfl (Sa x t _ _) ?_;apply(b3);apply(W)<;>intro aO;·refine a6 ?_;refine hG 93 eA.cells 4 dH [] fJ.Hy ?_;refine fU ?_;refine hG 150 fK.cells 4 bS [] fJ.RQ ?_;refine fU ?_;apply eK∘a5F∘q4;refine bN L ((iY bS.U::gT dH.U::fP)++R) nL ?_;have hl:o8 p t:=(QG K).1 EY;exact⟨(⟨s,x.time,h,x.eJ,dH.U,w,c,f,x.aB,bS.U⟩:cF),iY bS.U::gT dH.U::fP,by rw[IK,if_pos hl],by rw[IK,if_pos hl];exact fJ.is K,fJ.XG (λr M=>aM (.tail _ (.tail _ M))) YR n1,rfl,rfl⟩
 have hl:¬o8 p t:=λh=>absurd ((QG K).2 h) EY;have dS:=wT hl;have D6:=fJ.is K;have He:h.l=p.held:=D6.held;have aS0:=dR.held;have oA:s.cD.l=g.aK.cD.l:=fZ.LJ D6.aK;have HM:=dR.RX.len;have a09:n2 (h.l++oN.l):=λy aN=>by exact aWl
 have bJT:dH.l.length=g.aK.cD.l.length:=by rw[show dH.l=p.c5 from D6.c5];exact dR.c5
 apply eR∘CM∘hM;refine cK (b4h h oN x.eJ _ _ fJ.held (OT.mono λr M=>aM (mA _ M)) a09 D (by rw[He];omega)) ?_;rintro v E G ⟨yW,cU,rfl,⟨aF2,aFT⟩,aF3,Ok,a1u,rfl,a6L⟩;have iJ:j3 (h.l++oN.l) x.eJ=j3 (p.held++oN.l) p.eJ:=by rw[He,X5]
 have bEc:cU.l.length<=200000:=by have N:=aJ2 _ (l:=h.l++oN.l) x.eJ rfl;rw[<-Ok,uQ,iD,He]at N;omega
 have a1p:=aNp _ (l:=h.l++oN.l) x.eJ rfl a09;rw[<-Ok]at a1p;refine aG iR ?_;apply(G7);intro h8;apply i3∘vG∘oC∘eP;refine PW O rfl rfl rfl rfl s6 aE aE aE ?_;apply(y1);refine Dw (T:=118) (f:=lE.cells) (aR:=3) cU (cU.l.map lE.sub) c0 bI bH aFT (λs hs=>by obtain⟨y,aN,rfl⟩:=List.mem_map.1 hs;exact a1u y aN) ?_;refine fU ?_;refine hG 5 m3 1 yW [] aF2 ?_;refine fU ?_;obtain⟨nM,Q4⟩:∃nM,nM=hA yW.U::a37 cU.U::G:=⟨_,rfl⟩;have D8:∀r∈fP++R,aH r nM:=λr M=>(a6L r M).mono λr M=>aM a89;have aF0:aH (hA yW.U) nM:=aM (by rw[Q4];exact .head _);have aFS:aH (a37 cU.U) nM:=aM (by rw[Q4];exact .tail _ (.head _));have aES:∀y∈cU.l,aH (hA y.data) nM:=λy aN=>(a1u y aN).mono λr M=>aM a89;have aGt:=fJ.aK.cD.mono D8;refine sU (show _=nM by rw[Q4]) ?_;refine a5q aFS λbEb=>?_;refine uV (E:=⟨gL,(⟨s,x.time,yW.U,(j3 (h.l++oN.l) x.eJ).eJ,dH.U,w,c,f,x.aB,bS.U⟩:cF).cells,54⟩::(bS.L 150 fK.cells++(dH.L 93 eA.cells++(⟨hP,r2.cells,54⟩::⟨dG,x.cells,54⟩::L)))) a2 fF ?_;apply eK∘D2;refine c7 [(2,.int _ _),(6,.pointer _),(8,.pointer _),(30,.slice _ _ _),(31,.int _ _),(32,.int _ _)] bP λeZ=>?_;refine kO ([12,13,14]++b4 32 30) ((⟨λg=>[(32,.int .i64 ((g.1.1:Nat):Int))],λg=>⟨gL,(⟨s,x.time,yW.U,(j3 (h.l++oN.l) x.eJ).eJ,dH.U,w,c,f,x.aB,bS.U⟩:cF).cells,54⟩::(bS.L 150 fK.cells++((⟨dH.o,g.1.2⟩:J eA).L 93 eA.cells++(⟨hP,r2.cells,54⟩::⟨dG,x.cells,54⟩::L))),λ_=>nM,λg=>cU.l.length-g.1.1⟩:dV {q:Nat×List eA//q.1<=cU.l.length/\q.2=((cU.l.map lE.lI).take q.1).foldl (J8 g.aK.cD.l t) p.c5})) (⟨(0,dH.l),by dsimp only;omega,D6.c5⟩) ?_;rintro⟨⟨k,vT⟩,hk,pX⟩ bZ;try dsimp only
 dsimp only at hk pX;have UI:vT.length=dH.l.length:=by rw[pX,(a3R (S:=g.aK.cD.l) (t:=t) _ dR.LF).2,show dH.l=p.c5 from D6.c5]
 have aFp:(⟨dH.o,vT⟩:J eA).ok 4 eA.cells:=J.oZ bI fJ.Hy UI;apply(h2);apply(W)<;>intro bF;·
  have hg:=bJ cU.l k default;obtain⟨bK,kS⟩:∃bK,bK=cU.l.getD k default:=⟨_,rfl⟩;rw[<-kS]at hg;have aE2:=gU hg;have MY:(cU.l.map lE.lI)[k]?=some bK.lI:=by rw[pF,hg];rfl
  have Uw:=aOp (S:=g.aK.cD.l) (t:=t) (m:=p.c5) MY;rw[<-pX]at Uw;have FY:n2 bK.data.l:=a1p bK.lI (gU MY);apply(j7);refine aG qH ?_;apply Pu∘dA;intro lN;apply rP∘FE;refine aG lR ?_;apply(b1);refine cK (b7Q s.cD bK t _ _ aGt (aES bK aE2) FY (by rw[oA];omega)) ?_;rintro v E G ⟨m,rfl,hm,rfl,rfl⟩;refine aG iR ?_;apply(G7);intro FM;apply i3∘pQ∘tC;apply iZ (aC:=[_,_,_,_,_,_]) (j:=2) (a7:=47) rfl rfl aE rfl aW rfl;·intro fD;replace fD:=a8 fD;exact(fH∘lM) GD
  intro mY;apply(b3);apply(W)<;>intro b2;·(have At:v3 g.aK.cD.l bK.lI t=0:=by rw[<-oA];exact b2.1);have Uu:=hm b2.1;rw[oA]at Uu;(have M0:m.lX=DS g.aK.cD.l bK.lI.hV:=by rw[Uu];rfl);have Gv:=aAr At;have xR:=iL (l:=vT) (k:=m.lX.toNat) default (by rw[M0];omega);(have bDp:0<=m.lX:=by omega);apply eK∘kJ∘sD;refine aG (h4 O ((⟨dH.o,vT⟩:J eA)) _ rfl rfl ((show _=Value.slice _ _ _ from rfl).trans (by simp only[J.val,UI])) rfl bC (i:=m.lX.toNat) cW iC) ?_;refine i4 (SV O ((⟨dH.o,vT⟩:J eA)) (m) rfl rfl rfl rfl c0 bC bI bC (LM rfl) aE aE) ?_;rintro v E G ⟨rfl,rfl⟩;exact(wB) b1e
  apply(n6);exact oQ ⟨(k+1,vT),by dsimp only;omega,by
  dsimp only;rw[Uw,J8,if_neg];intro At;have aSN:v3 s.cD.l bK.lI t=0:=by rw[oA];exact At
  have Gv:=aAr At;have M0:m.lX=DS g.aK.cD.l bK.lI.hV:=by rw[hm aSN,oA];rfl
  rcases b2 with C5|C5;·exact C5 aSN
  ·exact C5 (by rw[M0];omega)⟩
 obtain rfl:k=cU.l.length:=by omega
 have sB:(cU.l.map lE.lI).take cU.l.length=(j3 (p.held++oN.l) p.eJ).cU:=by rw[<-iJ,<-Ok,HV (by rw[uQ];exact g4 _)]
 rw[sB]at pX;have w2:=dR.TY a6S t;have As:(⟨dH.o,vT⟩:J eA).U.val=dH.U.val:=by simp only[J.U,a0.val,UI]
 refine hG 93 eA.cells 4 (⟨dH.o,vT⟩:J eA) [] aFp ?_;refine fU ?_;refine mJ (E:=⟨gL,(⟨s,x.time,yW.U,(j3 (h.l++oN.l) x.eJ).eJ,(⟨dH.o,vT⟩:J eA).U,w,c,f,x.aB,bS.U⟩:cF).cells,54⟩::(bS.L 150 fK.cells++(⟨hP,r2.cells,54⟩::⟨dG,x.cells,54⟩::L))) (by simp only[cF.cells,As]) ?_;have a1m:h5 g (TY g p oN.l t) (⟨s,x.time,yW.U,(j3 (h.l++oN.l) x.eJ).eJ,(⟨dH.o,vT⟩:J eA).U,w,c,f,x.aB,bS.U⟩:cF):={D6 with held:=by show yW.l=_;rw[aF3,iJ];rfl,eJ:=by show(j3 (h.l++oN.l) x.eJ).eJ=_;rw[iJ];rfl,c5:=pX};obtain⟨qZ,Gj⟩:∃qZ,qZ=gT (⟨dH.o,vT⟩:J eA).U::nM:=⟨_,rfl⟩;have aTe:aH (gT (⟨dH.o,vT⟩:J eA).U) qZ:=aM (by rw[Gj];exact .head _);have a1g:∀r∈nM,aH r qZ:=λr M=>aM (by rw[Gj];exact .tail _ M);have mV:∀r∈fP++R,aH r qZ:=λr M=>(D8 r M).mono a1g;refine sU (show _=qZ by rw[Gj]) ?_;apply oD∘b1;refine cK (a0a g (TY g p oN.l t) (⟨s,x.time,yW.U,(j3 (h.l++oN.l) x.eJ).eJ,(⟨dH.o,vT⟩:J eA).U,w,c,f,x.aB,bS.U⟩:cF) bS gL t _ _ w2 a1m (fJ.aK.mono mV) aTe (fJ.eF.mono mV) (fJ.aS.mono mV) (fJ.cP.mono mV) fJ.RQ dS) ?_;rintro v E G ⟨fT,jG,iN,q,e2,gG,dW,⟨tK,b2,vO⟩,rfl,rfl⟩;apply(jW);refine hG 150 fK.cells 4 q [] gG ?_;refine fU ?_;have aQ:∀r∈e2++qZ,aH r ((iY q.U::(e2++qZ))++R):=λr M=>aM (.tail _ (sI _ M));have Gh:∀r∈qZ,aH r ((iY q.U::(e2++qZ))++R):=λr M=>aQ r (mA _ M);have b7:∀r∈fP++R,aH r ((iY q.U::(e2++qZ))++R):=λr M=>(mV r M).mono Gh;apply eK∘a5F∘pI;refine lJ (E:=L) (G:=(iY q.U::(e2++qZ))++R) nL ?hp ?c2 ?bD;case hp=>
  have dY:IK g p oN.l t=(bM g (TY g p oN.l t) t,0):=by rw[IK,if_neg hl]
  exact⟨(⟨s,t,yW.U,(j3 (h.l++oN.l) x.eJ).eJ,(⟨dH.o,vT⟩:J eA).U,fT,jG,iN,(bM g (TY g p oN.l t) t).aB,q.U⟩:cF),iY q.U::(e2++qZ),by rw[dY],by rw[dY];exact dW,⟨fJ.aK.mono b7,(aF0.mono a1g).mono Gh,aTe.mono Gh,tK.mono aQ,b2.mono aQ,vO.mono aQ,aM (.head _)⟩,rfl,rfl⟩
 case c2=>exact a2
 case bD=>
  exact λr M=>by
   rcases List.mem_append.1 M with h|h;·exact aM h
   ·exact(mV r (mA _ h)).mono λr M=>aM (.tail _ (mA _ M))
def Za(h:A->B:=by exact(aG x9 ·)):=h
def aRs(h:A->B:=by exact(hG 93 eA.cells 4 dH [] fJ.Hy ·)):=h
def aQN(h:A->B:=by exact(a4 lR ·)):=h
def aQ0(h:A->B:=by exact(hG 150 fK.cells 4 fB [] K9 ·)):=h
def aN4(h:A->B:=by exact(aG lR ·)):=h
def aLa(h:A->B:=by exact Ye rfl rfl rfl rfl s6 aE aE aE a2):=h
structure a9v(f BM:hI):Prop where
 aF:f.aT.l=BM.aT.l
 cG:f.aU.l=BM.aU.l
 bT:f.cA=BM.cA
section
variable{s s':dQ}{f BM:hI}(h:fZ s s')(k:a9v f BM)(c:List b8)(Z:List a9)(r:j4)(t:Int)
include k in
def Ko(z:Int):xK f z=xK BM z:=by rw[xK,xK,k.aF,k.cG,k.bT]
include h k
def b1U:nP s c Z r f t=nP s' c Z r BM t:=by simp only[nP,fZ.uO h,fZ.sF h,fZ.a7O h,k.aF,k.cG,k.bT,Ko k]
def a0p:r6 s c Z r f t=r6 s' c Z r BM t:=by simp only[r6,b1U h k,k.aF,k.cG,k.bT,Ko k]
def aJw:z7 s c Z r f t=z7 s' c Z r BM t:=by simp only[z7,a0p h k,P2,k.cG,Ko k]
def aQc:CV s c Z r f t=CV s' c Z r BM t:=by simp only[CV,a0p h k,P2,k.cG,Ko k]
def aNg:D3 s c Z r f t=D3 s' c Z r BM t:=by simp only[D3,a0p h k,k.aF,Ko k]
end
def b7R(g:hQ)(p:b0)(x:cF)(t:Int)(L:aP)(R:aJ)(dR:Inv g p)(K:h5 g p x)(bD:lK x R):
 aI prog 23 [x.val,.int .i64 t].toArray L R (Lo g (CE g p t) L R):=by
 refine bW 67 call23 func23 ?_;apply(c8);intro cS;apply(dA);intro cT;apply mL∘Za;refine cK Xt ?_;rintro v E G ⟨s,h,w,c,f,dH,bS,fP,rfl,fJ,rfl,rfl⟩;apply(dA);intro hP;apply rQ∘Za∘b1;refine cC rfl (Sa x t _ _) ?_;apply(b3);apply(W)<;>intro aO;·refine a6 ?_;apply(aRs);refine fU ?_;refine hG 150 fK.cells 4 bS [] fJ.RQ ?_;refine fU ?_;apply eK∘Za∘q4;refine bN L ((iY bS.U::gT dH.U::fP)++R) nL ?_;have hl:o8 p t:=(QG K).1 EY;exact⟨(⟨s,x.time,h,x.eJ,dH.U,w,c,f,x.aB,bS.U⟩:cF),iY bS.U::gT dH.U::fP,by rw[CE,if_pos hl],by rw[CE,if_pos hl];exact fJ.is K,fJ.XG (λr M=>aM (.tail _ (.tail _ M))) YR n1,rfl,rfl⟩
 have hl:¬o8 p t:=λh=>absurd ((QG K).2 h) EY;have dS:=wT hl;have D6:=fJ.is K;have mV:∀r∈fP++R,aH r (gT dH.U::(fP++R)):=λr M=>aM (.tail _ M);apply(aRs);refine fU ?_;apply(WV);refine cK b0Q ?_;rintro v E G ⟨fT,jG,iN,q,e2,gG,dW,⟨tK,b2,vO⟩,rfl,rfl⟩;apply(jW);have nX:=dR.settle dS.1 dS.2;have eG:∀r∈gT dH.U::(fP++R),aH r (e2++(gT dH.U::(fP++R))):=λr M=>aM (mA _ M);have gF:∀r∈fP++R,aH r (e2++(gT dH.U::(fP++R))):=λr M=>(mV r M).mono eG;have EF:tX (⟨s,t,h,x.eJ,dH.U,fT,jG,iN,(bM g p t).aB,q.U⟩:cF) (e2++(gT dH.U::(fP++R))):=tX.of nX dW (fJ.aK.mono gF) (eG _ (.head _));have uF:lS s.bU.Y g.bU:=fZ.xI dW.aK nX.xI;have nQ:jG.l=(bM g p t).aS:=dW.aS;have K5:a9v iN (pD g (bM g p t)):=⟨dW.aF,dW.cG,dW.bT⟩;have F2:=nX.RX.len;have rT:=nX.Gg;have s1:jG.l.length<=1000:=by rw[nQ,nX.D5];omega
 have zM:iN.aT.l.length<=1000:=by rw[K5.aF];exact GB rT.wN bH
 have bDr:iN.aU.l.length<=1000:=by rw[K5.cG];exact GB rT.yA bH
 apply eK∘FE∘zG;refine gJ O [0,1,2,3,4,6,7,8,9,10,5,11,12,13,14,15,16,17,18,19,20,21,22] _ cX bE g3 ?_;apply(kT);refine a4 qI ?_;apply(iI);refine a4 x9 ?_;apply(kT);refine a4 E0 ?_;apply kT∘aQN∘g1;refine q1 rfl aYq rfl rfl ?_;rintro v E G ⟨Z,rfl,fW,rfl,rfl⟩;refine⟨a2,gN,?_⟩;refine q1 rfl (b2X s jG Z (bM g p t).aB iN t _ _ ⟨(fJ.aK.mono gF).mono λr M=>aM (.tail _ M),b2.mono λr M=>aM (.tail _ M),aM (.head _)⟩ (vO.mono λr M=>aM (.tail _ M)) ⟨s1,zM,bDr⟩) rfl rfl ?_;rintro v E G ⟨Iq,eW,yX,p1,bT,rfl,⟨XZ,aF7,aGg⟩,Ai,rfl,bBr⟩;refine⟨a2,gN,?_⟩;refine a4 iR ?_;iterate 4 refine a4 sL ?_
 apply(p2);intro gL;apply(p2);intro jE;apply(sE);refine a4 A0 ?_;apply(wX);refine gS (aZ (a6 (a6 ?_)));have iJ:Z.l=fC g (bM g p t):=fW.trans (h5.g8 dW);have Nl:r6 s jG.l Z.l (bM g p t).aB iN t=r6 g.aK (bM g p t).aS (fC g (bM g p t)) (bM g p t).aB (pD g (bM g p t)) t:=by rw[a0p dW.aK K5,nQ,iJ]
 have C7:Iq=z7 g.aK (bM g p t).aS (fC g (bM g p t)) (bM g p t).aB (pD g (bM g p t)) t:=by rw[Ai.aB,aJw dW.aK K5,nQ,iJ]
 have bB3:eW.l=CV g.aK (bM g p t).aS (fC g (bM g p t)) (bM g p t).aB (pD g (bM g p t)) t:=by rw[Ai.aS,aQc dW.aK K5,nQ,iJ]
 have bB7:yX.l=D3 g.aK (bM g p t).aS (fC g (bM g p t)) (bM g p t).aB (pD g (bM g p t)) t:=by rw[Ai.aF,aNg dW.aK K5,nQ,iJ]
 have bB8:p1.l=g.cG:=Ai.cG.trans K5.cG;have bB4:bT=g.bT:=Ai.bT.trans K5.bT;rw[Nl];obtain⟨e,X⟩:∃e,e=r6 g.aK (bM g p t).aS (fC g (bM g p t)) (bM g p t).aB (pD g (bM g p t)) t:=⟨_,rfl⟩;rw[<-X]at Nl|-;have Hn:q.l.length<=400:=by have:=nX.eM;rw[<-dW.eM]at this;exact this
 refine hG 3 aL 1 p1 [] aGg ?_;refine fU ?_;refine hG 76 bL.cells 5 yX [] aF7 ?_;refine fU ?_;refine hG 71 b8.cells 3 eW [] XZ ?_;refine fU ?_;obtain⟨n4,I5⟩:∃n4,n4=sS eW.U::uT yX.U::cZ p1.U::G:=⟨_,rfl⟩;have HE:∀r∈(e2++(gT dH.U::(fP++R))),aH r n4:=λr M=>(bBr r (.tail _ M)).mono λr M=>aM (by rw[I5];exact .tail _ (.tail _ (.tail _ M)));have a1X:aH (sS eW.U) n4:=aM a2V;have aFZ:k9 ⟨yX.U,p1.U,bT⟩ n4:=⟨aM (by rw[I5];exact .tail _ (.head _)),aM (by rw[I5];exact .tail _ (.tail _ (.head _)))⟩;have aDQ:∀r∈fP++R,aH r n4:=λr M=>(gF r M).mono HE;refine sU a9q ?_;apply(WS);apply(W)<;>intro bF;·
  refine a6 ?_;refine uV (E:=⟨hP,(⟨s,t,h,x.eJ,dH.U,fT,jG,iN,(bM g p t).aB,q.U⟩:cF).cells,54⟩::(q.L 150 fK.cells++_)) a2 fF ?_;apply p8∘b1;refine cK (V5 (⟨s,t,h,x.eJ,dH.U,fT,jG,iN,(bM g p t).aB,q.U⟩:cF) q hP 7 (bM g p t).aB.dI e _ _ gG Hn) ?_;rintro v E G ⟨fB,K9,F0,rfl,rfl⟩;apply jW∘aQ0;refine fU ?_;have aQ:∀r∈(e2++(gT dH.U::(fP++R))),aH r ((iY fB.U::n4)++R):=λr M=>(HE r M).mono λr M=>aM (.tail _ (sI _ M));have b7:∀r∈fP++R,aH r ((iY fB.U::n4)++R):=λr M=>(gF r M).mono aQ;apply eK∘Za∘tZ;refine lJ (E:=L) (G:=(iY fB.U::n4)++R) nL ?hp ?c2 ?bD;case hp=>(have dY:CE g p t=(o7 (bM g p t) 7 (bM g p t).aB.dI e,e):=by rw[CE,if_neg hl];dsimp only;rw[<-X,if_pos bF]);exact⟨(⟨s,t,h,x.eJ,dH.U,fT,jG,iN,(bM g p t).aB,fB.U⟩:cF),iY fB.U::n4,by rw[dY],by rw[dY];exact dW.AR F0,⟨fJ.aK.mono b7,fJ.held.mono b7,(eG _ (.head _)).mono aQ,tK.mono aQ,b2.mono aQ,vO.mono aQ,aM (.head _)⟩,rfl,rfl⟩
  case c2=>exact a2
  case bD=>
   exact λr M=>by
    rcases List.mem_append.1 M with h|h;·exact aM h
    ·exact(aDQ r (mA _ h)).mono λr M=>aM (.tail _ M)
 have qB:e=0:=Decidable.not_not.1 bF;have wF:nP s jG.l Z.l (bM g p t).aB iN t=0:=by have C5:r6 s jG.l Z.l (bM g p t).aB iN t=0:=Nl.trans qB;exact aXx
 obtain⟨zO,HP,bFi⟩:=aBq wF;apply eR∘fH∘eP∘aN4∘b1;refine cK (aN9 jG iN (bM g p t).aB.dI _ _ (b2.mono HE) (vO.mono HE) bFi D HP) ?_;rintro v E G ⟨rfl,rfl,aEp⟩;obtain⟨nM,D8⟩:∃nM,nM=G:=⟨_,rfl⟩;rw[<-D8]at aEp|-;refine aG iR ?_;apply S1∘GX∘jW;refine hF O [59,60] [0,1,2] [3,4,5,6,7,8] (_) _ cX bE a2 (by(repeat(first|apply List.Sublist.cons (a:=a5.mk hP _ _)|apply List.Sublist.cons_cons));exact oR _) ?_;refine eO E0 ?_;refine m5 oG ?_;refine m5 lR ?_;apply x1∘kT∘aLa∘Sg∘kT∘aLa∘F7;have Q8:xK iN (bM g p t).aB.dI=xK (pD g (bM g p t)) (bM g p t).aB.dI:=Ko K5 _;refine uV (E:=⟨hP,(⟨s,t,h,x.eJ,dH.U,fT,eW.U,⟨yX.U,p1.U,bT⟩,Iq,q.U⟩:cF).cells,54⟩::(q.L 150 fK.cells++_)) a2 fF ?_;apply(p8);refine cK (V5 (⟨s,t,h,x.eJ,dH.U,fT,eW.U,⟨yX.U,p1.U,bT⟩,Iq,q.U⟩:cF) q hP 6 (xK iN (bM g p t).aB.dI) 0 _ _ gG Hn) ?_;rintro v E G ⟨fB,K9,F0,rfl,rfl⟩;apply jW∘aQ0;refine fU ?_;obtain⟨qZ,Gj⟩:∃qZ,qZ=iY fB.U::nM:=⟨_,rfl⟩;refine sU (show _=qZ by rw[Gj]) ?_;have a7l:aH (iY fB.U) (qZ++R):=aM (by rw[Gj];exact .head _);have bA1:∀r∈nM,aH r (qZ++R):=λr M=>aM (by rw[Gj];exact .tail _ (sI _ M));have Gh:∀r∈n4,aH r (qZ++R):=λr M=>(aEp r M).mono bA1;have aSa:∀r∈(e2++(gT dH.U::(fP++R))),aH r (qZ++R):=λr M=>(HE r M).mono Gh;have b7:∀r∈fP++R,aH r (qZ++R):=λr M=>(aDQ r M).mono Gh;have uH:∀r∈R,aH r qZ:=λr M=>((aDQ r (mA _ M)).mono aEp).mono λr M=>aM (by rw[Gj];exact .tail _ M);apply eK∘Za∘pI;refine lJ (E:=L) (G:=qZ++R) nL ?hp ?c2 ?bD;case hp=>
  have dY:CE g p t=(o7 {(bM g p t)with aB:=z7 g.aK (bM g p t).aS (fC g (bM g p t)) (bM g p t).aB (pD g (bM g p t)) t,aS:=CV g.aK (bM g p t).aS (fC g (bM g p t)) (bM g p t).aB (pD g (bM g p t)) t,aF:=D3 g.aK (bM g p t).aS (fC g (bM g p t)) (bM g p t).aB (pD g (bM g p t)) t} 6 (xK (pD g (bM g p t)) (bM g p t).aB.dI) 0,0):=by rw[CE,if_neg hl];dsimp only;rw[<-X,if_neg bF]
  have Gl:h5 g {(bM g p t)with aB:=z7 g.aK (bM g p t).aS (fC g (bM g p t)) (bM g p t).aB (pD g (bM g p t)) t,aS:=CV g.aK (bM g p t).aS (fC g (bM g p t)) (bM g p t).aB (pD g (bM g p t)) t,aF:=D3 g.aK (bM g p t).aS (fC g (bM g p t)) (bM g p t).aB (pD g (bM g p t)) t} (⟨s,t,h,x.eJ,dH.U,fT,eW.U,⟨yX.U,p1.U,bT⟩,Iq,q.U⟩:cF):={dW with aB:=C7,aS:=bB3,aF:=bB7,cG:=bB8,bT:=bB4};rw[Q8]at F0;exact⟨(⟨s,t,h,x.eJ,dH.U,fT,eW.U,⟨yX.U,p1.U,bT⟩,Iq,fB.U⟩:cF),qZ,by rw[dY],by rw[dY];exact Gl.AR F0,⟨fJ.aK.mono b7,fJ.held.mono b7,(eG _ (.head _)).mono aSa,tK.mono aSa,a1X.mono Gh,aFZ.mono Gh,a7l⟩,rfl,rfl⟩
 case c2=>exact a2
 case bD=>
  exact λr M=>by
   rcases List.mem_append.1 M with h|h;·exact aM h
   ·exact uH r h
def Du(g:hQ)(p:b0)(k:Nat):Bool:=(List.range k).any λi=>decide (rL g.aK.cD.l p.c5 (i:Int) p.time≠kY)
def a4X(g:hQ)(p:b0)(k:Nat):Du g p (k+1)=(Du g p k||decide (rL g.aK.cD.l p.c5 (k:Int) p.time≠kY)):=by rw[Du,LO,List.any_append];simp[Du]
def SX(g:hQ)(p:b0)(d:Int)(k:Nat):Int:=if Du g p k=true then min d p.time else d
def b2Y{g:hQ}{p:b0}{d:Int}{k:Nat}(h:rL g.aK.cD.l p.c5 (k:Int) p.time≠kY):SX g p d (k+1)=min (SX g p d k) p.time:=by rw[SX,SX,a4X,decide_eq_true h,Wu,if_pos rfl];split<;>omega
def b7b{g:hQ}{p:b0}{d:Int}{k:Nat}(h:rL g.aK.cD.l p.c5 (k:Int) p.time=kY):SX g p d (k+1)=SX g p d k:=by rw[SX,SX,a4X,decide_eq_false (λV=>V h),Bool.or_false]
def b8L(a1:hQ)(p:b0)(x:cF)(L:aP)(R:aJ)(dR:Inv a1 p)(K:h5 a1 p x)(bD:lK x R):
 aI prog 37 [x.val].toArray L R (λv E G=>v=.int .i64 (Sv a1 p)/\L=E/\R=G):=by
 have kD:=dR.RX.len;have i1:x.aK.dD.l=a1.aK.dD.l:=fZ.dD K.aK;have oA:x.aK.cD.l=a1.aK.cD.l:=fZ.LJ K.aK;have vR:x.eF.l=p.eF:=K.eF;have pX:x.c5.l=p.c5:=K.c5;have rX:x.time=p.time:=K.time;have UM:=dR.time;have bE6:x.eF.l.length=a1.aK.dD.l.length:=by rw[vR];exact dR.Iv
 have a1s:x.aK.dD.l.length=a1.aK.dD.l.length:=by rw[i1]
 have bEP:x.aK.cD.l.length=a1.aK.cD.l.length:=by rw[oA]
 have C7:=bD.aK.dD;have aGH:=bD.eF;have aFs:∀m∈x.c5.l,w9 m:=by rw[pX];exact dR.LF
 have aEW:Ew x.cP.aT.l x.cP.aU.l x.cP.cA=(QY p.aF a1.bT):=by rw[K.aF,K.cG,K.bT,Ew,if_neg (by rw[dR.BN];decide)]
 refine bW 70 call37 func37 ?_;apply(c8);intro gK;apply mL∘eP∘aN4;refine cC rfl (b5w x.cP _ _ bD.cP) ?_;apply(OD);rw[aEW];apply eK∘eP∘r9;refine c7 [(1,.pointer _),(3,.int _ _),(12,.slice _ _ _),(13,.int _ _),(14,.int _ _)] bP λeZ=>?_;refine gP ([3,4,5]++b4 14 26) (λg:{k:Nat//k<=a1.aK.dD.l.length}=>[(14,.int .i64 ((g.1:Nat):Int)),(3,.int .i64 (BJ a1 p g.1 (QY p.aF a1.bT)))]) (λg=>a1.aK.dD.l.length-g.1) (⟨0,by omega⟩) ?_;rintro⟨k,hk⟩ bZ;try dsimp only
 apply(h2);apply(W)<;>intro aO;·
  have hg:=bJ x.aK.dD.l k default;have Nx:=bJ x.eF.l k default;have Bv:=dR.Iw (x.eF.l.getD k default) (by rw[<-vR];exact gU Nx);have a2b:=Bv.1;rw[L2]at a2b;have Nq:BJ a1 p (k+1) (QY p.aF a1.bT)=if(x.aK.dD.l.getD k default).kind=1 then min (BJ a1 p k (QY p.aF a1.bT)) (Km (x.aK.dD.l.getD k default).nI (x.eF.l.getD k default))else BJ a1 p k (QY p.aF a1.bT):=by rw[BJ,i1,vR]
  obtain⟨c,hc⟩:∃c,c=x.aK.dD.l.getD k default:=⟨_,rfl⟩;obtain⟨w,cV⟩:∃w,w=x.eF.l.getD k default:=⟨_,rfl⟩;rw[<-hc]at hg Nq;rw[<-cV]at Nx Bv a2b Nq;apply(pR);refine aG qH ?_;refine aG a26 ?_;apply(dA);intro eH;apply dE∘CL∘tC;apply iZ (aC:=[_,_,_,_,_]) (j:=3) (a7:=22) rfl rfl aE rfl aW rfl;·intro eN;replace eN:=a8 eN;exact(b1∘lM) GD
  intro iG;apply(b3);apply(W)<;>intro bF;·refine gJ O [0,1,2,3,4,5,6,7,8,9,10] _ cX bE g3 ?_;apply g1∘kT∘aQN∘KK∘PC;refine k6 rfl (b3U c.nI w _ _ D) ?_;refine a4 NR ?_;exact(qD∘TL) aZn
  exact(n6) aZt
 obtain rfl:k=a1.aK.dD.l.length:=by omega
 obtain⟨mS,hR⟩:∃mS,mS=BJ a1 p a1.aK.dD.l.length (QY p.aF a1.bT):=⟨_,rfl⟩;rw[<-hR];apply AV∘eP∘r9;refine c7 [(1,.pointer _),(3,.int _ _),(43,.int _ _),(44,.int _ _)] bP λnS=>?_;refine gP ([3,6]++b4 44 18) (λg:{j:Nat//j<=a1.aK.cD.l.length}=>[(44,.int .i64 ((g.1:Nat):Int)),(3,.int .i64 (SX a1 p mS g.1))]) (λg=>a1.aK.cD.l.length-g.1) (⟨0,by omega⟩) ?_;rintro⟨j,aY⟩ bZ;try dsimp only
 apply(h2);apply(W)<;>intro b2;·
  have a1H:rL x.aK.cD.l x.c5.l (j:Int) x.time=rL a1.aK.cD.l p.c5 (j:Int) p.time:=by rw[oA,pX,rX]
  apply pR∘mL∘eP;refine aG qI ?_;apply gE∘fH;refine cC rfl (aBG x.aK x.c5 (j:Int) x.time _ _ bD.aK.cD bD.c5 aFs D) ?_;refine cC rfl (SS _ _) ?_;refine aG (aBQ Kx rfl rfl) ?_;apply(b3);apply(W)<;>intro dZ;·
   apply p8∘fH;refine aG NR ?_;apply dE∘wB;exact oT ⟨j+1,by omega⟩ kG (by
   dsimp only;rw[b2Y (by rw[<-a1H];intro h;rw[h]at dZ;simp[kY]at dZ),<-rX];exact⟨rfl,rfl,trivial⟩) a2 fF k1
  apply(n6);exact oT ⟨j+1,by omega⟩ kG (by
  dsimp only;rw[b7b (by rw[<-a1H,W1];simpa[kY]using dZ)];exact⟨rfl,rfl,trivial⟩) a2 fF k1
 obtain rfl:j=a1.aK.cD.l.length:=by omega
 have aEV:SX a1 p mS a1.aK.cD.l.length=Zu a1 p:=by rw[SX,Zu,aAx,Du,hR]
 rw[aEV];apply AV∘IW∘S9;apply(W)<;>intro dX;·apply N9∘l8∘z1;refine dC L R ?_;exact⟨by rw[Sv,if_pos D,rX],rfl,rfl⟩
 apply eR∘a0h;refine dC L R ?_;exact⟨by rw[Sv,if_neg D],rfl,rfl⟩
end Go.Proofs.YtchfclmokpbldaaGreat
