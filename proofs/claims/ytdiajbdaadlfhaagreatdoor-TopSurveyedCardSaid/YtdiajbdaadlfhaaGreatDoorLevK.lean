/-
  Merged texts. By an AI agent.
-/
import Derived.Test.YtdiajbdaadlfhaaGreatDoorStaA
import Derived.Test.YtdiajbdaadlfhaaGreatDoorFlows
set_option linter.all false
set_option maxHeartbeats 4000000
set_option maxRecDepth 20000
variable{A B:Prop}
namespace Go.Proofs.YtdiajbdaadlfhaaGreatDoor
open Go.Aw Go Go.Proofs.Tryz
section
variable{P:Program}{aV:Operand->Value}{L:aW}{R:aP}{dst:Option Tmp}{ty:TypeId}{pos:String}{after:Array Edge}{guard:Option (Nat×Bool)}{T hN:TypeId}{x y z:Operand}{a b c:Int}{k fH:IntKind}
def Hy(K:aV x=.int fH a)(bB:aV y=.int k b)(aT:0<=b)(V:a.fdiv (2^(min b.toNat fH.bits))=c):cI P ⟨dst,.binOp .shr T x y hN,ty,pos,after,guard⟩ aV L R (.int fH c):=λ_ _ _=>by
 have aT:Op.shift .shr fH a k b=(pure (.int fH c):Sem Value):=by
  unfold Op.shift
  rw[if_neg D,<-V]
 simp[execOp,K,bB,eqGuard,binOp,aT]
def a04(K:aV x=.int fH a)(bB:aV y=.int k b)(aT:0<=b)(V:fH.wrap (a*2^(min b.toNat fH.bits))=c):cI P ⟨dst,.binOp .shl T x y hN,ty,pos,after,guard⟩ aV L R (.int fH c):=λ_ _ _=>by
 have aT:Op.shift .shl fH a k b=(pure (.int fH c):Sem Value):=by
  unfold Op.shift
  rw[if_neg D,<-V]
 simp[execOp,K,bB,eqGuard,binOp,aT]
def Nu(K:aV x=.int fH a)(bB:aV y=.int fH b)(V:fH.wrap ((BitVec.ofInt fH.bits a &&& BitVec.ofInt fH.bits b).toNat:Int)=c):cI P ⟨dst,.binOp .and T x y hN,ty,pos,after,guard⟩ aV L R (.int fH c):=λ_ _ _=>by
 have aT:Op.intBits .and fH a b=(pure (.int fH c):Sem Value):=by
  unfold Op.intBits
  rw[<-V]
 simp[execOp,K,bB,eqGuard,binOp,aT]
def aFG(K:aV x=.int fH a)(bB:aV y=.int fH b)(V:fH.wrap ((BitVec.ofInt fH.bits a|||BitVec.ofInt fH.bits b).toNat:Int)=c):cI P ⟨dst,.binOp .or T x y hN,ty,pos,after,guard⟩ aV L R (.int fH c):=λ_ _ _=>by
 have aT:Op.intBits .or fH a b=(pure (.int fH c):Sem Value):=by
  unfold Op.intBits
  rw[<-V]
 simp[execOp,K,bB,eqGuard,binOp,aT]
def aT5(K:aV x=.int fH a)(bB:aV y=.int fH b)(V:fH.wrap ((BitVec.ofInt fH.bits a^^^BitVec.ofInt fH.bits b).toNat:Int)=c):cI P ⟨dst,.binOp .xor T x y hN,ty,pos,after,guard⟩ aV L R (.int fH c):=λ_ _ _=>by
 have aT:Op.intBits .xor fH a b=(pure (.int fH c):Sem Value):=by
  unfold Op.intBits
  rw[<-V]
 simp[execOp,K,bB,eqGuard,binOp,aT]
end
def aBm(n w:Nat)(h:n<2^w):(BitVec.ofInt w (n:Int)).toNat=n:=by rw[BitVec.ofInt_natCast,BitVec.toNat_ofNat,Wq h]
def Y0(n:Nat)(h:n<2^64):(BitVec.ofInt IntKind.i64.bits (n:Int)).toNat=n:=aBm n 64 h
def Iv{n:Nat}(h:n<2^62):IntKind.i64.wrap (n:Int)=(n:Int):=by exact aBH
def aIA{a:Int}(h:0<=a/\a<1048576):IntKind.i64.wrap ((BitVec.ofInt IntKind.i64.bits a &&& BitVec.ofInt IntKind.i64.bits 65535).toNat:Int)=a%65536:=by
 obtain⟨n,rfl⟩:∃n:Nat,a=(n:Int):=⟨a.toNat,by omega⟩;have G:(BitVec.ofInt IntKind.i64.bits (n:Int) &&& BitVec.ofInt IntKind.i64.bits 65535).toNat=n%65536:=by rw[a3R,Y0 n D,show(BitVec.ofInt IntKind.i64.bits 65535).toNat=65535 from Y0 65535 aX];exact a3L n 16
 rw[G,Iv D];omega
def aJU{a:Int}(h:0<=a/\a<1048576):IntKind.i64.wrap ((BitVec.ofInt IntKind.i64.bits a &&& BitVec.ofInt IntKind.i64.bits 1).toNat:Int)=a%2:=by
 obtain⟨n,rfl⟩:∃n:Nat,a=(n:Int):=⟨a.toNat,by omega⟩;have G:(BitVec.ofInt IntKind.i64.bits (n:Int) &&& BitVec.ofInt IntKind.i64.bits 1).toNat=n%2:=by rw[a3R,Y0 n D,show(BitVec.ofInt IntKind.i64.bits 1).toNat=1 from Y0 1 aX];exact a3L n 1
 rw[G,Iv D];omega
def aSG{a:Int}(h:0<=a/\a<65536):IntKind.i64.wrap ((BitVec.ofInt IntKind.i64.bits a^^^BitVec.ofInt IntKind.i64.bits 4129).toNat:Int)=a0u a 4129:=by
 obtain⟨n,rfl⟩:∃n:Nat,a=(n:Int):=⟨a.toNat,by omega⟩;have G:(BitVec.ofInt IntKind.i64.bits (n:Int)^^^BitVec.ofInt IntKind.i64.bits 4129).toNat=n^^^4129:=by rw[BitVec.toNat_xor,Y0 n D,show(BitVec.ofInt IntKind.i64.bits 4129).toNat=4129 from Y0 4129 aX]
 have U:n^^^4129<2^16:=Nat.xor_lt_two_pow D aX;rw[G,Iv D,a0u];rfl
def aKg{n:Nat}(h:n<256):IntKind.u8.wrap (n:Int)=(n:Int):=by exact aBH
def aSu{a:Int}(h:0<=a/\a<256):IntKind.u8.wrap ((BitVec.ofInt IntKind.u8.bits a &&& BitVec.ofInt IntKind.u8.bits 1).toNat:Int)=a%2:=by
 obtain⟨n,rfl⟩:∃n:Nat,a=(n:Int):=⟨a.toNat,by omega⟩;have G:(BitVec.ofInt IntKind.u8.bits (n:Int) &&& BitVec.ofInt IntKind.u8.bits 1).toNat=n%2:=by rw[a3R,show(BitVec.ofInt IntKind.u8.bits (n:Int)).toNat=n from aBm n 8 D,show(BitVec.ofInt IntKind.u8.bits 1).toNat=1 from aBm 1 8 aX];exact a3L n 1
 rw[G,aKg D];omega
def aJb{a b:Int}(bX:0<=a/\a<256)(aT:0<=b/\b<256):IntKind.i64.wrap ((BitVec.ofInt IntKind.i64.bits (a*256)|||BitVec.ofInt IntKind.i64.bits b).toNat:Int)=a*256+b:=by
 obtain⟨n,rfl⟩:∃n:Nat,a=(n:Int):=⟨a.toNat,by omega⟩;obtain⟨m,rfl⟩:∃m:Nat,b=(m:Int):=⟨b.toNat,by omega⟩;have G:(BitVec.ofInt IntKind.i64.bits ((n:Int)*256)|||BitVec.ofInt IntKind.i64.bits (m:Int)).toNat=n*256+m:=by
  rw[BitVec.toNat_or,show((n:Int)*256)=((n*256:Nat):Int) by omega,Y0 (n*256) D,Y0 m D];have U:2^8*n|||m=2^8*n+m:=(Nat.two_pow_add_eq_or_of_lt D n).symm
  rw[a4a n 256];exact U
 rw[G,Iv D];omega
def aH5{a:Int}(bX:0<=a/\a<256):IntKind.i64.wrap (a*2^(min (8:Int).toNat IntKind.i64.bits))=a*256:=by
 obtain⟨n,rfl⟩:∃n:Nat,a=(n:Int):=⟨a.toNat,by omega⟩;have:(n:Int)*2^(min (8:Int).toNat IntKind.i64.bits)=((n*256:Nat):Int):=by show(n:Int)*2^8=_;omega
 rw[this,Iv D];omega
def aGb{a:Int}(bX:0<=a/\a<65536):IntKind.i64.wrap (a*2^(min (1:Int).toNat IntKind.i64.bits))=2*a:=by
 obtain⟨n,rfl⟩:∃n:Nat,a=(n:Int):=⟨a.toNat,by omega⟩;have:(n:Int)*2^(min (1:Int).toNat IntKind.i64.bits)=((2*n:Nat):Int):=by show(n:Int)*2^1=_;omega
 rw[this,Iv D];omega
def aGa{a:Int}:a.fdiv (2^(min (15:Int).toNat IntKind.i64.bits))=a/32768:=by show a.fdiv (2^15)=_;rw[a3S _ aX];rfl
def aXt{a:Int}{j:Nat}(a6:j<=7):a.fdiv (2^(min ((j:Int)).toNat IntKind.u8.bits))=a/2^j:=by
 have:min ((j:Int)).toNat IntKind.u8.bits=j:=by show min j 8=j;omega
 rw[this,a3S _ (by exact Int.le_of_lt (Int.pow_pos aX))]
section
attribute [local irreducible] cO dG dP aM cI dR fA e2 e5 fB eQ e9 J.L
def aDX(h:A->B:=by exact aA rF rfl):=h
def aTZ(h:B:=by exact lP ⟨z-1,by omega⟩ hM (by dsimp only;rw[cW,Is,if_neg (show¬r/32768=a0v x z.toNat from dE)];exact⟨rfl,rfl,trivial⟩) bC eX kM):=h
def aJ4(h:B:=by exact lP ⟨z-1,by omega⟩ hM (by dsimp only;rw[cW,Is,if_pos (show r/32768=a0v x z.toNat from Decidable.not_not.1 dE)];exact⟨rfl,rfl,trivial⟩) bC eX kM):=h
def aD7(h:B:=by exact lP ⟨k+1,by omega⟩ hM (by dsimp only;rw[nU];exact⟨rfl,rfl,trivial⟩) bC eX kM):=h
def aHH{x:Int}(h:0<=x/\x<=255)(j:Nat):0<=x/2^j/\x/2^j<256:=by have U:(0:Int)<2^j:=Int.pow_pos aX;refine⟨Mz h.1 (Int.le_of_lt U),?_⟩;have:=Wm (2^j) h.1;omega
def aHF{r x z:Int}(dI:0<=z/\z<=7):RG r x (7-(z-1)).toNat=Is (RG r x (7-z).toNat) (a0v x z.toNat):=by
 have e:(7-(z-1)).toNat=(7-z).toNat+1:=by omega
 have eH:7-(7-z).toNat=z.toNat:=by omega
 rw[e,RG,eH]
def aEI{x z:Int}(dI:0<=z/\z<=7):x.fdiv (2^(min z.toNat IntKind.u8.bits))=x/2^z.toNat:=by obtain⟨j,rfl⟩:∃j:Nat,z=(j:Int):=⟨z.toNat,by omega⟩;exact aXt D
def aRh(l:bP Int)(L:aW)(R:aP)(aZ:aN (k3 l) R)(aT:uB l.l):
 aM prog 121 [l.val].toArray L R (λv E R'=>v=.int .i64 (pZ l.l)/\L=E/\R=R'):=by
 refine rZ call121 aZ λlL=>?_;refine cX 35 call121 func121 rfl rfl rfl ?_;apply oO∘iG∘kB∘r3;refine e3 [(3,.int _ _),(8,.slice _ _ _),(9,.int _ _),(10,.int _ _)] cB λg9=>?_;refine lF ([3,5,6,7]++dJ 10 24) (λg:{k:Nat//k<=l.l.length}=>[(10,.int .i64 ((g.1:Nat):Int)),(3,.int .i64 (pZ (l.l.take g.1)))]) (λg=>l.l.length-g.1) (⟨0,by omega⟩) ?_;rintro⟨k,Y⟩ c1;try dsimp only
 apply(gU);refine aJ ?_ ?_<;>intro bI;·
  have bE:=bR (l:=l.l) (k:=k) 0 D;have Ac:=aT.at k;have nU:=aDh bE;obtain⟨x,K⟩:∃x,x=l.l.getD k 0:=⟨_,rfl⟩;rw[<-K]at bE Ac nU;apply jK∘aDX∘U3∘pR;refine lF ([3,6,7]++dJ 14 19) (λg:{z:Int// -1<=z/\z<=7}=>[(6,.int .i64 g.1),(3,.int .i64 (RG (pZ (l.l.take k)) x (7-g.1).toNat))]) (λg=>(g.1+1).toNat) (⟨7,by omega⟩) ?_;rintro⟨z,dI⟩ c1;try dsimp only
  apply nR∘IF;refine aJ ?_ ?_<;>intro cK;·
   have bU:=a1i x (a07 (l.l.take k)) (7-z).toNat;have a7:=aHH Ac z.toNat;have cW:=aHF (r:=(pZ (l.l.take k))) (x:=x) (z:=z) D;obtain⟨r,O⟩:∃r,r=RG (pZ (l.l.take k)) x (7-z).toNat:=⟨_,rfl⟩;rw[<-O]at bU cW|-;rw[NU]at bU;apply(nC);refine aA (Hy rfl rfl aX aGa) rfl ?_;apply(q4);refine aA (a04 rfl rfl aX (aGb bU)) rfl ?_;refine aA (Nu rfl rfl (aIA D)) rfl ?_;apply(p5);(iterate 3 apply(cJ));apply(yR);refine aA (Hy rfl rfl D (aEI D)) rfl ?_;apply(yR);refine aA (Nu rfl rfl (aJU D)) rfl ?_;apply(pG);refine aJ ?_ ?_<;>intro dE;·exact aP1
   exact(Lv∘GO) aJ4
  obtain rfl:z= -1:=by omega
  refine oZ (oX (AF (oW (hG (bY (dM ?_))))));exact(m0) aD7
 obtain rfl:k=l.l.length:=by omega
 exact aC7
def aZM(l:bP Int)(L:aW)(R:aP)(aZ:aN (k3 l) R)(aT:uB l.l):
 aM prog 131 [l.val].toArray L R (λv E R'=>v=.int .i64 (pZ l.l)/\L=E/\R=R'):=by
 refine rZ call131 aZ λlL=>?_;refine cX 37 call131 func131 rfl rfl rfl ?_;apply oO∘iG∘kB∘pR;refine e3 [(0,.slice _ _ _),(3,.int _ _),(4,.int _ _)] cB λg9=>?_;refine lF (dJ 3 33) (λg:{k:Nat//k<=l.l.length}=>[(4,.int .i64 ((g.1:Nat):Int)),(3,.int .i64 (pZ (l.l.take g.1)))]) (λg=>l.l.length-g.1) (⟨0,by omega⟩) ?_;rintro⟨k,Y⟩ c1;try dsimp only
 apply nR∘j0∘nD;refine aJ ?_ ?_<;>intro bI;·
  have bE:=bR (l:=l.l) (k:=k) 0 D;have Ac:=aT.at k;have nU:=aDh bE;obtain⟨x,K⟩:∃x,x=l.l.getD k 0:=⟨_,rfl⟩;rw[<-K]at bE Ac nU;apply jK∘pR;refine lF ([3,5,6]++dJ 13 23) (λg:{z:Int// -1<=z/\z<=7}=>[(5,.int .i64 g.1),(3,.int .i64 (RG (pZ (l.l.take k)) x (7-g.1).toNat))]) (λg=>(g.1+1).toNat) (⟨7,by omega⟩) ?_;rintro⟨z,dI⟩ c1;try dsimp only
  apply nR∘IF;refine aJ ?_ ?_<;>intro cK;·
   have bU:=a1i x (a07 (l.l.take k)) (7-z).toNat;have a7:=aHH Ac z.toNat;have cW:=aHF (r:=(pZ (l.l.take k))) (x:=x) (z:=z) D;obtain⟨r,O⟩:∃r,r=RG (pZ (l.l.take k)) x (7-z).toNat:=⟨_,rfl⟩;rw[<-O]at bU cW|-;rw[NU]at bU;apply(nC);refine aA (Hy rfl rfl aX aGa) rfl ?_;refine aA (Nu rfl rfl ((aJU D).trans (show r/32768%2=r/32768 by omega))) rfl ?_;apply(q4);refine aA (a04 rfl rfl aX (aGb bU)) rfl ?_;refine aA (Nu rfl rfl (aIA D)) rfl ?_;apply q4∘k2∘aDX∘kY∘cJ∘yR;refine aA (Hy rfl rfl D (aEI D)) rfl ?_;refine aA (Nu rfl rfl (aSu D)) rfl ?_;apply yR∘pG;refine aJ ?_ ?_<;>intro dE;·exact aP1
   exact(Lv∘GO) aJ4
  obtain rfl:z= -1:=by omega
  refine oZ (oX (AF (oW (hG (bY (dM ?_))))));exact(Cp) aD7
 obtain rfl:k=l.l.length:=by omega
 exact aC7
def a7u(h:A->B:=by exact aA aCH rfl):=h
def a5j(h:A->B:=by exact b7 qX rfl rfl rfl):=h
def a7g(h:A->B:=by exact p4 qX rfl rfl rfl rfl):=h
def aRf(h:A->B:=by exact aA (l7 (hB:=[(0,(Value.slice _ _ _).cells.toList),(1,(Value.int _ _).cells.toList)]) (c9:=[_,_]) M rfl rfl rfl rfl) rfl):=h
def aSr(h:B:=by exact⟨⟨aNr,l.l⟩,c9,by rw[fL.Sq,a2k];rfl,⟨b3q,fL.ok⟩,by rw[fL.Sq,a2k],by rw[fL.Sq,a2k,rV],fL.data,rfl,fL.sub⟩):=h
def aJX(h:A->B:=by exact p4 Xi rfl rfl rfl rfl):=h
def aGc(h:A->B:=by exact p4 a4i rfl rfl rfl rfl):=h
structure nO where
 hW:Int
 kind:Int
 data:bP Int
 deriving Inhabited
def nO.cells(x:nO):List Value:=[.int .i64 x.hW,.int .i64 x.kind,x.data.val]
abbrev nO.val(x:nO):Value:=.agg #[.int .i64 x.hW,.int .i64 x.kind,x.data.val]
abbrev nO.sub(x:nO):eT:=k3 x.data
abbrev aJd(x:bP nO):eT:=x.eJ 3 nO.cells (x.l.map nO.sub)
def nO.n5(x:nO):xE:=⟨x.hW,x.kind,x.data.l⟩
structure Bl(jU:List Int)(d:Int)(R:aP)(l:bP Int)(zL:Int)(c9:J nO)(S:aP):Prop where
 sub:∀r∈R,aN r S
 inl:aN (k3 l) S
 bytes:uB l.l
 ok:c9.ok 3 nO.cells
 data:∀x∈c9.l,aN (k3 x.data) S
 len:c9.l.length+l.l.length<=jU.length
 drop:d<=zL/\zL+l.l.length<=d+jU.length
 Sq:kV jU d=⟨(kV l.l zL).held,(kV l.l zL).fU,c9.l.map nO.n5++(kV l.l zL).c9⟩
def Bl.skip{jU:List Int}{d:Int}{R:aP}{l:bP Int}{zL:Int}{c9:J nO}{S:aP}(h:Bl jU d R l zL c9 S)(aZ:0<l.l.length)(G:z8 l.l\/(¬y0 l.l/\pZ (HZ l.l)≠LY l.l)):Bl jU d R (m1 l 1 1) (zL+1) c9 (k3 (m1 l 1 1)::S):=by have e:(m1 l 1 1).l=l.l.tail:=List.drop_one;have lL:(m1 l 1 1).l.length=l.l.length-1:=F8;have U:=h.len;have aO:=h.drop;have FP:=Bp (d:=zL) (List.length_pos_iff.1 aZ) G;refine⟨λr O=>(h.sub r O).mono λs aF=>aU (.tail _ aF),aU (.head _),λx K=>h.bytes x (by rw[e]at K;exact aB1 K),h.ok,λx K=>(h.data x K).mono λs aF=>aU (.tail _ aF),by omega,by omega,?_⟩;rw[e,<-FP];exact h.Sq
def Bl.b6M{jU:List Int}{d:Int}{R:aP}{l:bP Int}{zL:Int}{c9:J nO}{S:aP}(h:Bl jU d R l zL c9 S)(aZ:0<l.l.length)(G:¬z8 l.l)(U:¬y0 l.l)(aO:pZ (HZ l.l)=LY l.l){n:Nat}(bA:n=lM l.l+6){o:gT}{x:nO}(K:x.n5=Hz l.l)(bM:(⟨o,c9.l++[x]⟩:J nO).ok 3 nO.cells):
 Bl jU d R (m1 l n 1) zL ⟨o,c9.l++[x]⟩ (k3 (m1 l n 1)::k3 x.data::S):=by
 subst bA;have cE:=aG4 h.bytes U;have lL:(m1 l (lM l.l+6) 1).l.length=l.l.length-(lM l.l+6):=F8;have bW:=h.len;have dV:=h.drop;refine⟨λr O=>(h.sub r O).mono λs aF=>aU (.tail _ (.tail _ aF)),aU (.head _),λy bB=>h.bytes y (Gk bB),bM,λy bB=>?_,?_,by omega,?_⟩;·
  rcases List.mem_append.1 bB with bB|bB;·exact(h.data y bB).mono λs aF=>aU (.tail _ (.tail _ aF))
  ·rw[List.mem_singleton.1 bB];exact aU (.tail _ (.head _))
 ·show(c9.l++[x]).length+_<=_;rw[hL,rE];omega
 ·rw[h.Sq,Qu (List.length_pos_iff.1 aZ) G U aO];show _=(⟨_,_,(c9.l++[x]).map nO.n5++_⟩:aI0);rw[CO,List.map_singleton,K,kF];rfl
def aIt{l:List Int}:((l.drop 1).take (3+lM l))=HZ l:=by rw[HZ,List.drop_take];congr 1;omega
def aYJ{l:List Int}:((l.drop 4).take (lM l))=(Hz l).data:=by show _=(l.take (4+lM l)).drop 4;rw[List.drop_take];congr 1;omega
def aYx(h b:bP Int)(d:Int)(L:aW)(R:aP)(bF:aN (k3 h) R)(aT:aN (k3 b) R)(qK:uB (h.l++b.l))(a7:0<=d/\d<=1152921504606846976)(bA:h.l.length+b.l.length<=1000000):
 aM prog 85 [.agg #[h.val,.int .i64 d],b.val].toArray L R (λv E R'=>∃(p:J Int) (c9:J nO),v=.tuple #[.agg #[p.val,.int .i64 (kV (h.l++b.l) d).fU],c9.val]/\(p.ok 1 s8/\c9.ok 3 nO.cells)/\p.l=(kV (h.l++b.l) d).held/\c9.l.map nO.n5=(kV (h.l++b.l) d).c9/\(∀x∈c9.l,aN (k3 x.data) R')/\p.L 5 s8++(c9.L 216 nO.cells++L)=E/\∀r∈R,aN r R'):=by
 refine cX 107 call85 func85 rfl rfl rfl ?_;apply(fC);intro eN;apply(dO);intro dU;apply tH∘gB;refine g2 (rH (f:=s8) (xs:=h) M rfl rfl rfl aX rfl rfl (bF) bH D) rfl ?_;rintro v E R' ⟨b51,rfl,b3s,rfl,rfl⟩;apply(gQ);refine g2 (a7m M (⟨b51,h.l⟩:J Int) b rfl rfl rfl aX rfl rfl b3s aT cL bH kM) rfl ?_;rintro v E R' ⟨sY,rfl,WE,rfl,rfl⟩;apply(OK);refine rY (A:=[]) (aI:=1) [] bH aX WE eW ?_;refine e7 aCm ?_;have WA:(h.l++b.l).length<=1000000:=by rw[hL];exact bA
 apply e1∘tH∘gB∘eA;refine eS (bY (cC (iH ?_)));refine e3 [(4,.pointer _),(6,.slice _ _ _),(7,.slice _ _ _),(8,.int _ _)] cB λg9=>?_;refine oM ([6,7,8,9]++dJ 17 85) ((⟨λg=>[(6,g.1.1.val),(8,.int .i64 g.1.2.1),(7,g.1.2.2.1.val)],λg=>g.1.2.2.1.L 216 nO.cells++(⟨dU,[.slice none 0 0,.int .i64 0],124⟩::⟨eN,[h.val,.int .i64 d],124⟩::L),λg=>g.1.2.2.2,λg=>g.1.1.l.length⟩:e0 {g:bP Int×Int×J nO×aP//Bl (h.l++b.l) d R g.1 g.2.1 g.2.2.1 g.2.2.2})) (⟨((⟨sY,h.l++b.l⟩:J Int).W,d,J.nil,k3 (⟨sY,h.l++b.l⟩:J Int).W::R),⟨λr O=>aU (.tail _ O),aU (.head _),qK,J.iJ,λx K=>(by cases K),Nat.le_of_eq (K7 _),⟨oH _,oH _⟩,rfl⟩⟩) cB Nn eX ?_;rintro⟨⟨l,zL,c9,S⟩,fL⟩ c1;try dsimp only
 dsimp only at fL;have WC:=fL.inl;have b8I:=fL.len;have b8H:=fL.drop;refine Jf WC λaLM=>?_;apply x0∘j0∘y8;refine aJ ?_ ?_<;>intro bI;·
  have KG:=bR (l:=l.l) (k:=0) 0 D;have Kn:=fL.bytes.at 1;refine gG (bY (iH (cC (cC (dM ?_)))));apply gQ∘OJ∘vC;apply dT (aD:=[_,_,_,_,_,_,_,_,_,_]) (j:=4) (b4:=24) rfl rfl aK rfl b2 rfl;·
   intro jP;replace jP:=cP jP;apply j0∘yO∘fD;apply lR (aD:=[_,_,_,_,_]) (j:=8) (b4:=28) rfl rfl aK rfl b2 rfl;·intro h7;replace h7:=cP h7;have mQ:=bR (l:=l.l) (k:=1) 0 D;exact(gQ∘a7u∘kY∘yR∘yO) iA
   intro zV;exact iA
  intro DU;apply(dD);refine aJ ?_ ?_<;>intro cK;·(have A2:z8 l.l:=by rw[z8];omega);refine cC ?_;refine UE (m:=1) WC aX D aX ?_;apply(vE);refine aA (Cz (m:=1) (aI:=1) (u:=l) M rfl rfl rfl rfl rfl aX D rfl) rfl ?_;apply Y4∘kS∘eA;refine eS (bY (oZ (oX (oW ?_))));exact lP ⟨(m1 l 1 1,zL+1,c9,k3 (m1 l 1 1)::S),fL.skip D (.inl A2)⟩ hM cB bC eX aCr
  have A2:¬z8 l.l:=by rw[z8];omega
  apply k5∘j0∘q5;apply dT (aD:=[_,_,_,_,_,_,_,_]) (j:=3) (b4:=43) rfl rfl aK rfl b2 rfl;·intro fV;replace fV:=cP fV;have mQ:=bR (l:=l.l) (k:=1) 0 D;exact(j0∘gQ∘a7u∘kY∘yR∘oE) K9
  intro m2;apply(dD);refine aJ ?_ ?_<;>intro dE;·have a2k:kV l.l zL=⟨l.l,zL,[]⟩:=Yk (List.length_pos_iff.1 D) A2 (by rw[y0];omega);refine oZ (oX ?_);refine aSL rfl ?_;refine AF (oW (bY (cC (dM ?_))));exact(gQ) aQK
  have a90:¬y0 l.l:=by rw[y0];omega
  have cE:=aG4 fL.bytes a90;have mQ:=bR (l:=l.l) (k:=1) 0 D;have b8P:=bR (l:=l.l) (k:=4+lM l.l) 0 D;have b8R:=bR (l:=l.l) (k:=5+lM l.l) 0 D;have b8Q:=fL.bytes.at (4+lM l.l);have b8S:=fL.bytes.at (5+lM l.l);apply OI∘a7u∘kY∘yR∘eA∘yQ;refine a6S (m:=1) (3+lM l.l) WC aX D aX ?_;have b9l:aN (k3 l) (k3 (L8 (m1 l 1 1) (3+lM l.l))::S):=WC.mono λr O=>aU (.tail _ O);refine jR M [0,1,2,3,5,6,7,8,9,10,11,12,13,14,15,16,17,18,4,19] _ mixed aQ iP ?_;apply a5j∘j7∘P1;refine b7 (a7T (m:=1) (q:=3+lM l.l) (aI:=1) (u:=l) M rfl rfl rfl rfl rfl rfl D aX D aLM rfl) rfl rfl rfl ?_;apply a5j∘j7∘P1;refine b7 (by first|exact j9 M rfl rfl rfl rfl i6 (i:=4+lM l.l) c7 D|exact jF M rfl rfl rfl rfl (i:=4+lM l.l) c7 D) rfl rfl rfl ?_;apply s0∘a3u;refine b7 (a04 rfl rfl aX (aH5 D)) rfl rfl rfl ?_;apply a5j∘j7∘P1;refine b7 (by first|exact j9 M rfl rfl rfl rfl i6 (i:=5+lM l.l) c7 D|exact jF M rfl rfl rfl rfl (i:=5+lM l.l) c7 D) rfl rfl rfl ?_;apply s0∘a3u;refine b7 (aFG rfl rfl (aJb D D)) rfl rfl rfl ?_;refine xZ rfl (aRh (L8 (m1 l 1 1) (3+lM l.l)) _ _ mL (λx K=>fL.bytes x (Gk (Wh K)))) ?_;refine b7 X1 rfl rfl rfl ?_;apply(A9);refine aJ ?_ ?_<;>intro gZ;·have b1L:z8 l.l\/(¬y0 l.l/\pZ (HZ l.l)≠LY l.l):=.inr ⟨a90,λh=>gZ (by rw[aIt,h];rfl)⟩;refine cC ?_;refine sN (R':=S) iP (λr O=>aU (.tail _ O)) ?_;refine UE (m:=1) WC aX D aX ?_;apply(vE);refine aA (Cz (m:=1) (aI:=1) (u:=l) M rfl rfl rfl rfl rfl aX D rfl) rfl ?_;apply Y4∘kS∘eA;refine eS (bY (oZ (oX (oW ?_))));exact lP ⟨(m1 l 1 1,zL+1,c9,k3 (m1 l 1 1)::S),fL.skip D b1L⟩ hM cB bC eX aCr
  have b2I:pZ (HZ l.l)=LY l.l:=by have h:=Decidable.not_not.1 gZ;rw[aIt]at h;rw[h];rfl
  have DO:=bR (l:=l.l) (k:=2) 0 D;have aLC:=bR (l:=l.l) (k:=3) 0 D;have b8N:=fL.bytes.at 2;have b8O:=fL.bytes.at 3;have b3R:=fL.ok;apply(CI);refine sN (R':=S) iP (λr O=>aU (.tail _ O)) ?_;refine a6S (m:=4) (lM l.l) WC aX D aX ?_;have b9k:aN (k3 l) (k3 (L8 (m1 l 4 1) (lM l.l))::S):=WC.mono λr O=>aU (.tail _ O);have dC:(L8 (m1 l 4 1) (lM l.l)).l.length=lM l.l:=by show((l.l.drop 4).take _).length=_;rw[HS,F8];omega
  refine jV M [81,82,83,84,85,86,87,88,89] [0,1,2,3,4,5,6,7,8,9,10,11,12] [13,14,15,16,17] (_) _ mixed aQ bC b9 ?_;apply a7g∘a7g;refine p4 aQU rfl rfl rfl rfl ?_;apply aJX∘aGc∘a7g;refine p4 (by first|exact j9 M rfl rfl rfl rfl i6 (i:=3) c7 D|exact jF M rfl rfl rfl rfl (i:=3) c7 D) rfl rfl rfl rfl ?_;apply aJX∘aGc∘RY∘NE;refine fE (a7T (m:=4) (q:=lM l.l) (aI:=1) (u:=l) M rfl rfl rfl rfl rfl rfl D aX D aLM rfl) rfl rfl rfl rfl ?_;apply(zY);refine pP (rH (f:=s8) (xs:=L8 (m1 l 4 1) (lM l.l)) M rfl rfl rfl aX rfl rfl ((aU (.head _))) bH D) rfl rfl rfl ?_;rintro v E R' ⟨a3g,rfl,aAf,rfl,rfl⟩;apply(fI);refine b7 aCQ rfl rfl rfl ?_;refine pP Nf rfl rfl rfl ?_;rintro v E R' ⟨aZ6,rfl,rfl,Ea⟩;replace Ea:=Ea.symm;subst Ea;apply(fI);refine pP (jZ (f:=nO.cells) (p:=c9) (a:=⟨l.l.getD 2 0,l.l.getD 3 0,(⟨a3g,(L8 (m1 l 4 1) (lM l.l)).l⟩:J Int).W⟩) M rfl rfl rfl rfl (b3R) cL j8 rfl kG) rfl rfl rfl ?_;rintro v E R' ⟨aBl,rfl,aAg,rfl,rfl⟩;apply(fI);refine b7 (qG K8) rfl rfl rfl ?_;apply(A9);refine rY (A:=[_]) (aI:=1) [] bH aX aAf eW ?_;refine sN (R':=k3 (⟨a3g,(L8 (m1 l 4 1) (lM l.l)).l⟩:J Int).W::S) iP (λr O=>aU (by
   rcases List.mem_cons.1 O with h|h;·rw[h];exact .head _
   ·exact .tail _ (.tail _ h))) ?_
  refine UE (m:=lM l.l+6) (WC.mono λr O=>aU (.tail _ O)) D D aX ?_;apply y6∘oE;refine aA (Cz (m:=lM l.l+6) (aI:=1) (u:=l) M rfl rfl rfl rfl D D D rfl) rfl ?_;apply(kS);refine eS (hG ?_);exact lP ⟨(m1 l (lM l.l+6) 1,zL,⟨aBl,c9.l++[_]⟩,_),fL.b6M D A2 a90 b2I rfl (by show(⟨_,_,(l.l.drop 4).take _⟩:xE)=_;rw[aYJ];rfl) aAg⟩ hM cB bC eX aCr
 have Ky:l.l=[]:=List.length_eq_zero_iff.1 D;have a2k:kV l.l zL=⟨l.l,zL,[]⟩:=by rw[Ky];exact Rw _
 exact(UX) aQK
def aIR(h:A->B:=by exact fE NP rfl rfl rfl rfl):=h
def hH.set{s s':dY}(h:hH s s')(m:List e6)(t:Int):RJ s m t=RJ s' m t:=by rw[RJ,RJ,GC,GC,JZ,JZ,h.W2,h.Fr,h.TP];have e:∀i:Nat,(s.c2.a8.l.getD i default).hY.l=(s'.c2.a8.l.getD i default).hY.l:=h.tN;simp only[e]
def hH.iC{s s':dY}(h:hH s s')(A:List Bool)(m:List e6)(t:Int):L9 s A m t=L9 s' A m t:=by
 have e:∀q:Pk,VS s.c2 A q=VS s'.c2 A q:=λq=>by rw[VS,VS,(oJ.of (s:=Ag q) (s':=Ag q) h.c2 rfl).a8a A]
 rw[L9,L9,h.set,e,h.TP]
def aHc{m:eC}{u v:Nat}(h:uC (OO m) u v):uC m u v:=by
 induction h with
 |refl=>exact .refl
 |tail _ k cA=>exact .tail cA k
def aG6{m:eC}{u v:Nat}(h:uC m u v):uC (OO m) u v:=by
 induction h with
 |refl=>exact .refl
 |tail _ k cA=>exact .tail cA k
def a0d(m:eC)(A:List Bool):mU (OO m) A↔mU m A:=
 ⟨λh=>⟨h.len,λi aB=>(h.qC i aB).trans ⟨λ⟨j,G,U,aO⟩=>⟨j,G,U,aHc aO⟩,λ⟨j,G,U,aO⟩=>⟨j,G,U,aG6 aO⟩⟩⟩,λh=>⟨h.len,λi aB=>(h.qC i aB).trans ⟨λ⟨j,G,U,aO⟩=>⟨j,G,U,aG6 aO⟩,λ⟨j,G,U,aO⟩=>⟨j,G,U,aHc aO⟩⟩⟩⟩
def hH.MD{s s':dY}(h:hH s s'){A:List Bool}(hD:mU s'.c2.aE A):mU s.c2.aE A:=by have e:OO s.c2.aE=OO s'.c2.aE:=congrArg bT.aE h.c2;rw[<-a0d,e,a0d];exact hD
def aYF{S:List g0}{kind target:Int}{k:Nat}(Y:k<S.length)(h:(S.getD k default).kind=kind/\(S.getD k default).target=target)(jX:∀j:Nat,j<k->¬((S.getD j default).kind=kind/\(S.getD j default).target=target)):Ps S kind target=some k:=by rw[Ps,a3Z];exact⟨by simpa using h,by rw[XO];exact Y,λj a6=>by have:=jX j a6;simp only[Gt,decide_eq_false_iff_not];exact this⟩
def aRx{S:List g0}{kind target:Int}(jX:∀j:Nat,j<S.length->¬((S.getD j default).kind=kind/\(S.getD j default).target=target)):Ps S kind target=none:=by rw[Ps,List.find?_eq_none];intro j a6;rw[XO]at a6;simpa using jX j a6
structure JS(x:dS)(R:aP):Prop where
 bO:BN x.bO R
 fN:aN (hV x.fN) R
 Ah:∀m∈x.fN.l,H4 m
 b5X:x.fN.l.length<=1000
 time:0<=x.time/\x.time<=2147483648
 ok:o0 x.bO=0
def JS.of{g:mZ}{p:c0}{x:dS}{R:aP}(hP:Inv g p)(K:n7 g p x)(G:BN x.bO R)(U:aN (hV x.fN) R):JS x R:=
 ⟨G,U,by rw[K.fN];exact hP.Ah,by rw[K.fN,hP.fN];have:=hP.Gf.len;omega,by rw[K.time];exact hP.time,by rw[K.bO.DI];exact hP.bO⟩
def aGy(x:dS)(kind target n:Int)(L:aW)(R:aP)(h:JS x R):
 aM prog 173 [x.val,.int .i64 kind,.int .i64 target,.int .i64 n].toArray L R (λv E R'=>v=.int .i64 (ES x.bO.e8.l x.fN.l x.time kind target n)/\L=E/\R=R'):=by
 have pK:=h.bO.e8;have lL:=(VB h.ok).len;refine cX 58 call173 func173 rfl rfl rfl ?_;apply(fC);intro dU;apply kB∘gF∘pE;refine e3 [(1,.int _ _),(2,.int _ _),(3,.int _ _),(4,.pointer _),(14,.slice _ _ _),(15,.int _ _),(16,.int _ _)] cB λg9=>?_;refine lF ([8,9,10,11]++dJ 16 42) (λg:{k:Nat//k<=x.bO.e8.l.length/\∀j:Nat,j<k->¬((x.bO.e8.l.getD j default).kind=kind/\(x.bO.e8.l.getD j default).target=target)}=>[(16,.int .i64 ((g.1:Nat):Int))]) (λg=>x.bO.e8.l.length-g.1) (⟨0,by omega,λj a6=>by omega⟩) ?_;rintro⟨k,Y,jX⟩ c1;try dsimp only
 apply(gU);refine aJ ?_ ?_<;>intro bI;·
  have bE:=bR (l:=x.bO.e8.l) (k:=k) default D;apply(nC);refine aA rF rfl ?_;refine aA Np rfl ?_;apply(dO);intro lI;apply eA∘uI∘h1∘vC;apply dT (aD:=[_,_,_,_]) (j:=4) (b4:=25) rfl rfl aK rfl b2 rfl;·intro jP;replace jP:=cP jP;exact(h1) v6
  intro DU;apply(dD);refine aJ ?_ ?_<;>intro cK;·refine oZ (oX (oW (bY (dM ?_))));apply(m0);exact aOK
  have FP:=aYF (S:=x.bO.e8.l) (kind:=kind) (target:=target) (k:=k) D D jX;apply k5∘gF;refine aA EC rfl ?_;apply h1∘gB;refine eD rfl (aGH x.bO x.fN (k:Int) x.time _ _ pK h.fN h.Ah h.time) ?_;apply(dO);intro GY;apply p6∘nZ∘BQ;apply lR (aD:=[_,_,_]) (j:=5) (b4:=44) rfl rfl aK rfl b2 rfl;·intro xS;replace xS:=cP xS;exact(gB) NN
  intro a28;apply(fD);apply lR (aD:=[_,_,_,_]) (j:=10) (b4:=49) rfl rfl aK rfl b2 rfl;·intro HB;replace HB:=cP HB;exact(h1) K9
  intro aNc;apply(dD);refine aJ ?_ ?_<;>intro dE;·apply UY∘eA∘Gb;refine eL L R ?_;exact⟨by rw[ES,FP];dsimp only;rw[if_pos D],rfl,rfl⟩
  apply gI∘eA∘TK;refine eL L R ?_;exact⟨by rw[ES,FP];dsimp only;rw[if_neg D],rfl,rfl⟩
 apply(IG);refine eL L R ?_;exact⟨by rw[ES,aRx λj a6=>jX j D],rfl,rfl⟩
def aWo(x:dS)(L:aW)(R:aP)(h:JS x R):
 aM prog 134 [x.val].toArray L R (λv E R'=>∃j5 oC:bP Int,v=.agg #[j5.val,oC.val]/\j5.l=GC x.bO x.fN.l x.time x.bO.c2.bD.l.length/\oC.l=JZ x.bO x.fN.l x.time x.bO.c2.a8.l.length/\L=E/\dW oC::dW j5::R=R'):=by
 have Kq:=h.bO.c2.bD;have aLY:=h.bO.c2.a8;have aLB:=J9 (VB h.ok).c2;have S0:=aLB.W2;have xT:=aLB.Fr;refine cX 47 call134 func134 rfl rfl rfl ?_;apply(fC);intro fT;apply(dO);intro eN;apply iG∘dO;intro e4;apply(mY);iterate 3 apply(gF)
 apply kZ∘R0;refine e3 [(1,.pointer _),(2,.pointer _),(3,.pointer _),(11,.int _ _),(12,.int _ _)] cB λg9=>?_;refine oM ([4]++dJ 12 12) ((⟨λg=>[(12,.int .i64 ((g.1.1:Nat):Int))],λg=>⟨e4,[g.1.2.val,.slice none 0 0],35⟩::(g.1.2.L 3 aR++(⟨eN,[.slice none 0 0,.slice none 0 0],35⟩::⟨fT,x.cells,132⟩::L)),λ_=>R,λg=>x.bO.c2.bD.l.length-g.1.1⟩:e0 {g:Nat×J Int//g.1<=x.bO.c2.bD.l.length/\g.2.ok 1 aR/\g.2.l=GC x.bO x.fN.l x.time g.1})) (⟨(0,J.nil),by dsimp only;omega,J.iJ,rfl⟩) cB Nn eX ?_;rintro⟨⟨k,j5⟩,Y,V7,iF⟩ c1;try dsimp only
 dsimp only at Y V7 iF;have FN:j5.l.length=k:=by rw[iF,a4S]
 apply(gU);refine aJ ?_ ?_<;>intro bI;·apply nC∘eA∘dD;refine jV M [] [0,1,2,3,4,5] [6,7,8] (_) _ mixed aQ bC b9 ?_;apply lS∘aIR∘DY;refine mW rfl (aGy x 5 (k:Int) 3 _ _ h) rfl rfl ?_;rintro v E R' ⟨rfl,rfl,rfl⟩;refine⟨bC,hC,?_⟩;apply(XC);rintro v E R' ⟨vI,rfl,rfl,G4⟩;replace G4:=G4.symm;subst G4;apply(DA);refine pP (jZ (f:=aR) (p:=j5) (a:=ES x.bO.e8.l x.fN.l x.time 5 (k:Int) 3) M rfl rfl rfl rfl (V7) cL j8 rfl kG) rfl rfl rfl ?_;rintro v E R' ⟨aBa,rfl,a96,rfl,rfl⟩;apply fI∘U0∘m0;exact eG ⟨(k+1,⟨aBa,j5.l++[ES x.bO.e8.l x.fN.l x.time 5 (k:Int) 3]⟩),by dsimp only;omega,a96,by dsimp only;rw[aWp,iF]⟩
 obtain rfl:k=x.bO.c2.bD.l.length:=by omega
 apply(D2);iterate 3 apply(gF)
 apply kZ∘R0;refine e3 [(1,.pointer _),(2,.pointer _),(3,.pointer _),(27,.slice _ _ _),(28,.int _ _),(29,.int _ _)] cB λs4=>?_;refine oM ([5,6]++dJ 29 17) ((⟨λg=>[(29,.int .i64 ((g.1.1:Nat):Int))],λg=>⟨e4,[j5.val,g.1.2.val],35⟩::(g.1.2.L 3 aR++(j5.L 3 aR++(⟨eN,[.slice none 0 0,.slice none 0 0],35⟩::⟨fT,x.cells,132⟩::L))),λ_=>R,λg=>x.bO.c2.a8.l.length-g.1.1⟩:e0 {g:Nat×J Int//g.1<=x.bO.c2.a8.l.length/\g.2.ok 1 aR/\g.2.l=JZ x.bO x.fN.l x.time g.1})) (⟨(0,J.nil),by dsimp only;omega,J.iJ,rfl⟩) cB Nn eX ?_;rintro⟨⟨j,oC⟩,a6,HA,PL⟩ c1;try dsimp only
 dsimp only at a6 HA PL;have ZT:oC.l.length=j:=by rw[PL,a6h]
 apply(gU);refine aJ ?_ ?_<;>intro cK;·have bE:=bR (l:=x.bO.c2.a8.l) (k:=j) default D;apply(nC);refine aA Xl rfl ?_;apply Ar∘dO;intro jN;apply eA∘l5∘dD;refine jV M [] [0,1,2,3,4,5,6,7,8] [9,10,11] (_) _ mixed aQ bC b9 ?_;apply lS∘aIR∘DY∘lS;refine fE CP rfl rfl rfl rfl ?_;refine mW rfl (aGy x 6 (j:Int) _ _ _ h) rfl rfl ?_;rintro v E R' ⟨rfl,rfl,rfl⟩;refine⟨bC,hC,?_⟩;apply(XC);rintro v E R' ⟨aKw,rfl,rfl,PE⟩;replace PE:=PE.symm;subst PE;apply(DA);refine pP (jZ (f:=aR) (p:=oC) (a:=ES x.bO.e8.l x.fN.l x.time 6 (j:Int) ((x.bO.c2.a8.l.getD j default).hY.l.length:Int)) M rfl rfl rfl rfl (HA) cL j8 rfl kG) rfl rfl rfl ?_;rintro v E R' ⟨Vk,rfl,Ui,rfl,rfl⟩;apply fI∘U0∘m0;exact eG ⟨(j+1,⟨Vk,oC.l++[ES x.bO.e8.l x.fN.l x.time 6 (j:Int) ((x.bO.c2.a8.l.getD j default).hY.l.length:Int)]⟩),by dsimp only;omega,Ui,by dsimp only;rw[aU4,PL]⟩
 obtain rfl:j=x.bO.c2.a8.l.length:=by omega
 refine jW (T:=3) (f:=aR) (aI:=1) j5 [] cL bH aX V7 eW ?_;refine e7 h3 ?_;refine jW (T:=3) (f:=aR) (aI:=1) oC [] cL bH aX HA eW ?_;refine e7 h3 ?_;apply oS∘LP;refine cF L (dW oC.W::dW j5.W::R) mM ?_;exact⟨j5.W,oC.W,rfl,iF,PL,rfl,rfl⟩
def aSw(s:dY)(A:List Bool)(m:List e6)(t:Int){j5 oC:bP Int}(G:j5.l=GC s m t s.c2.bD.l.length)(U:oC.l=JZ s m t s.c2.a8.l.length):L9 s A m t=(Q9 (pB s.c2 ⟨j5,oC⟩ A).2 sX 3 s.e8.l m t).c9:=by
 rw[L9,<-aRd s.c2 ⟨j5,oC⟩ A];have e:RA (⟨j5,oC⟩:cG)=RJ s m t:=by show(j5.l,oC.l)=_;rw[G,U,RJ]
 rw[e]
def aFm(x:dS)(A:List Bool)(L:aW)(R:aP)(h:JS x R)(hD:mU x.bO.c2.aE A):
 aM prog 91 [x.val].toArray L R (λv E R'=>∃fl:bP bG,v=fl.val/\fl.l=L9 x.bO A x.fN.l x.time/\L=E/\wG fl::R=R'):=by
 have pK:=h.bO.e8;have HH:=VB h.ok;have lL:=HH.len;have Z8:=(J9 HH.c2).aE.Z;refine cX 27 call91 func91 rfl rfl rfl ?_;apply(fC);intro fT;apply(OK);refine jR M [0,1,2,3,4,5,6,7,8,9,10] _ mixed aQ iP ?_;apply rS∘rS∘An;refine b7 NP rfl rfl rfl ?_;refine zD rfl (aWo x _ _ h) rfl rfl ?_;rintro v E R' ⟨j5,oC,rfl,iF,PL,rfl,rfl⟩;refine⟨bC,hC,?_⟩;refine zD rfl (Qf x.bO.c2 ⟨j5,oC⟩ A _ _ (IC h.bO.c2 λr O=>aU (.tail _ (.tail _ O))) ⟨aU (.tail _ (.head _)),aU (.head _)⟩ (λ_=>hD)) rfl rfl ?_;rintro v E R' ⟨q,rfl,g7,eZ,rfl,rfl⟩;refine⟨bC,hC,?_⟩;refine b7 jE rfl rfl rfl ?_;refine b7 z6 rfl rfl rfl ?_;refine b7 z6 rfl rfl rfl ?_;refine b7 (qG K8) rfl rfl rfl ?_;apply HP∘KU;have o6:mP x.bO.c2 ⟨j5,oC⟩=true:=by rw[aUI x.bO.c2 (s:=⟨j5,oC⟩) (s':=Ag (RJ x.bO x.fN.l x.time)) (by show(j5.l,oC.l)=_;rw[iF,PL];rfl)];exact aEW _ _
 have yK:q.l.length=x.bO.c2.aE.Z.l.length:=by rw[eZ];exact Ow HH.c2 o6 hD
 refine jW (T:=51) (f:=bG.cells) (aI:=2) q [] cL bH aX g7 eW ?_;refine e7 h3 ?_;have bW:∀r∈R,aN r (wG q.W::dW oC::dW j5::R):=λr O=>aU (.tail _ (.tail _ (.tail _ O)));apply vE∘gF∘nZ∘gB;refine dN rfl (aWw q.W x.bO.e8 x.fN x.time _ _ mL (pK.mono bW) (h.fN.mono bW) (by show q.l.length<=1000;omega) D h.b5X h.Ah h.time) rfl ?_;rintro v E R' ⟨dQ,gP,rfl,⟨Un,KK⟩,Lc,zP,rfl,rfl⟩;refine aA jE rfl ?_;apply C8∘j6;refine jW (T:=51) (f:=bG.cells) (aI:=2) dQ [] cL bH aX Un eW ?_;refine e7 h3 ?_;apply vE∘UW;refine kN (E:=L) (R':=wG dQ.W::R) BH ?aG ?b3 ?b8;case aG=>exact⟨dQ.W,rfl,by show dQ.l=_;rw[Lc,aSw x.bO A x.fN.l x.time iF PL,<-eZ],rfl,rfl⟩
 case b3=>exact bC
 case b8=>
  exact λr O=>by
   rcases List.mem_cons.1 O with h|h;·rw[h];exact aU (.head _)
   ·exact aU (.tail _ (.tail _ (.tail _ (.tail _ h))))
def aHk(h:A->B:=by exact aA aQI rfl):=h
def aZl(L:aW)(R:aP):
 aM prog 83 ([]:List Value).toArray L R (λv E R'=>v=(⟨true,-1,0⟩:gW).val/\L=E/\R=R'):=by refine cX 2 call83 func83 rfl rfl rfl ?_;apply(J8);intro a1C;apply(iG);refine aA aPL rfl ?_;apply(y5);refine cF L R (qI rfl XX) ?_;exact BJ
def aU6(c:bP cY)(r:k8)(L:aW)(R:aP)(bU:aN (AQ c) R):
 aM prog 127 [c.val,r.val].toArray L R (λv E R'=>v=(u5 c.l r).val/\L=E/\R=R'):=by
 refine rZ call127 bU λMT=>?_;refine cX 39 call127 func127 rfl rfl rfl ?_;apply(fC);intro e4;apply(dO);intro dU;apply mY∘gB∘BQ;apply dT (aD:=[_,_,_,_,_,_,_,_,_,_,_,_,_,_,_,_,_,_,_,_,_,_,_,_,_,_,_]) (j:=3) (b4:=8) rfl rfl aK rfl b2 rfl;·
  intro fV;replace fV:=cP fV;apply gB∘NC∘fD;apply lR (aD:=[_,_,_,_,_]) (j:=7) (b4:=12) rfl rfl aK rfl b2 rfl;·intro nV;replace nV:=cP nV;exact(gB∘j0) K9
  intro WX;apply(fD);apply lR (aD:=[_,_,_,_,_,_]) (j:=14) (b4:=19) rfl rfl aK rfl b2 rfl;·intro vQ;replace vQ:=cP vQ;have AY:=bR (l:=c.l) (k:=r.eR.toNat) default D;exact(FD∘aHk∘tG) iA
  intro Fi;apply(fD);apply lR (aD:=[_,_,_,_,_,_,_]) (j:=22) (b4:=27) rfl rfl aK rfl b2 rfl;·intro aL5;replace aL5:=cP aL5;have AY:=bR (l:=c.l) (k:=r.eR.toNat) default D;exact(FD∘aHk∘tG) v6
  intro bAt;exact iA
 intro m2;apply(dD);refine aJ ?_ ?_<;>intro bI;·apply(eV);refine aA X0 rfl ?_;apply(RV);refine cF L R (qI rfl Ws) ?_;exact⟨by rw[u5,if_pos (by rw[Hx];simpa[and_assoc]using bI)],rfl,rfl⟩
 apply(gI);refine eD rfl (a77 _ _) ?_;apply(y5);refine cF L R (qI rfl Ws) ?_;exact⟨by
 rw[u5,if_neg];rw[Hx];rintro(h|⟨G,U,aO⟩);·exact bI.1 h
 ·
  rcases bI.2 with(h|h)|h;·omega
  ·rw[h]at U;cases U
  ·exact h aO,rfl,rfl⟩
def aZI{A:aW}{R:aP}{p:J cY}(r:k8)(aG:pA (p.L 141 cY.cells) A)(PV:p.ok 3 cY.cells):
 aM prog 127 [p.val,r.val].toArray A R (λv E R'=>v=(u5 p.l r).val/\A=E/\R=R'):=
 aM.Ve (S:=[AQ p.W]) (λw aD bF s aF=>by
  rw[List.mem_singleton.1 aF]
  exact wD (T:=141) bF aG PV bH aX eW) (aU6 p.W r [] _ mL)
end
end Go.Proofs.YtdiajbdaadlfhaaGreatDoor
