/-
  Merged texts. By an AI agent.
-/
import Derived.Test.YtchfclmokpbldaaGreatTelF
import Derived.Test.YtchfclmokpbldaaGreatSiteS
import Derived.Test.YtchfclmokpbldaaGreatCloneS
import Derived.Test.YtchfclmokpbldaaGreatDone22
import Derived.Test.YtchfclmokpbldaaGreatRefC
import Derived.Test.YtchfclmokpbldaaGreatSiteD
import Derived.Test.YtchfclmokpbldaaGreatFeedT
import Derived.Test.YtchfclmokpbldaaGreatFeedY
set_option linter.all false
set_option maxHeartbeats 4000000
set_option maxRecDepth 20000
variable{A B:Prop}
namespace Go.Proofs.YtchfclmokpbldaaGreat
open Go.Aw Go Go.Proofs.Tryz
section
attribute [local irreducible] cQ dF dV aM cP eC e5 e1 e2 e6 eX e4 J.L
def aJB{a:Int}:a.fdiv (2^(min (8:Int).toNat IntKind.i64.bits))=a/256:=by show a.fdiv (2^8)=_;rw[a3u _ aW];rfl
def aOA{a:Int}(h:0<=a/\a<1048576):IntKind.u8.wrap a=a%256:=by obtain⟨n,rfl⟩:∃n:Nat,a=(n:Int):=⟨a.toNat,by omega⟩;unfold IntKind.wrap;simp[IntKind.bits,IntKind.signed]
def Vv{a:Int}(h:0<=a/\a<=255):IntKind.u8.wrap a=a:=by obtain⟨n,rfl⟩:∃n:Nat,a=(n:Int):=⟨a.toNat,by omega⟩;exact aFu D
def aM.b6k{P:Program}{f:FuncId}{args:Array Value}{A:aR}{R:aO}{p:J Int}{T:TypeId}{u:Value}(kG:xT (p.L T rL) A)(bH:p.ok 1 rL)(O:1<=p.l.length)
 (h:aM P f args [] (gX (m9 p.V 1 1)::R) (λv E G=>v=u/\[]=E/\gX (m9 p.V 1 1)::R=G)):aM P f args A R (λv E G=>v=u/\A=E/\R=G):=by
 refine Go.Proofs.YtchfclmokpbldaaGreat.aM.a2J (S:=[gX (m9 p.V 1 1)]) (λw Z b4 s aH=>?_) h;rw[List.mem_singleton.1 aH];have b2:=VF b4 kG bH bD aW (eU:=[]) e8;have X:=aGL b2 (m:=1) aW O aW;have eV:p.V.l.length-1=(p.V.l.drop 1).length:=by rw[DL]
 have fN:(p.V.l.map rL).drop 1=(p.V.l.drop 1).map rL:=by rw[List.map_drop]
 rw[eV,fN]at X;exact X
def K7(f:z4):Int:=if(f.hX<0\/255<f.hX)\/f.kind<0\/255<f.kind then 1 else if 64<f.data.length then 2 else 0
def aX3(f:kV)(L:aR)(R:aO)(aF:aL (gX f.data) R)(a5:pN f.data.l):
 aM prog 83 [f.val].toArray L R (λv E G=>∃q:J Int,v=.tuple #[q.val,.int .i64 (K7 f.kQ)]/\q.ok 1 rL/\q.l=(if K7 f.kQ=0 then Ko f.kQ else[])/\q.L 5 rL++L=E/\∀r∈R,aL r G):=by
 refine b6 53 call83 func83 rfl rfl rfl ?_;apply(dB);intro gL;apply kA∘hH∘qO;apply cA (Z:=[_,_,_]) (j:=3) (a9:=9) rfl rfl aB rfl aY rfl;·exact DR
 intro h8;apply(dE);apply cA (Z:=[_,_,_]) (j:=8) (a9:=14) rfl rfl aB rfl aY rfl;·exact Ce
 intro uY;apply(dE);apply cA (Z:=[_,_,_]) (j:=13) (a9:=19) rfl rfl aB rfl aY rfl;·exact Ic
 intro Q3;apply(b9);refine U ?_ ?_<;>intro aQ;·
  apply PP∘w7;refine lH (E:=L) (G:=R) yH ?aP ?dI ?bO;case aP=>(have W:K7 f.kQ=1:=by rw[K7,if_pos Xl]);exact aPB
  case dI=>exact bA
  case bO=>exact λr M=>aT M
 apply hN∘JM∘b9;refine U ?_ ?_<;>intro bL;·
  apply PP∘w7;refine bQ L R yH ?_;have W:K7 f.kQ=2:=by rw[K7,if_neg Xl,if_pos Xl]
  exact aPB
 apply e0∘kD∘A5∘fD∘A5∘fD∘A5;refine hT (I5 (iD:=[(0,(Value.int _ _).cells.toList),(1,(Value.int _ _).cells.toList),(2,(Value.int _ _).cells.toList),(3,(Value.int _ _).cells.toList)]) (dD:=[_,_,_,_]) N rfl rfl rfl rfl rfl rfl rfl) rfl ?_;rintro v E G ⟨a7V,rfl,rfl,a8J⟩;replace a8J:=a8J.symm;subst a8J;apply(fD);have eV:IntKind.u8.wrap (f.data.l.length:Int)=f.data.l.length:=Vv D;have fN:IntKind.u8.wrap f.hX=f.hX:=Vv D;have n5:IntKind.u8.wrap f.kind=f.kind:=Vv D;rw[eV,fN,n5];have aAe:(⟨.own a7V 4 [],[126,(f.data.l.length:Int),f.hX,f.kind]⟩:J Int).ok 1 rL:=⟨rfl,iK _,by decide,rfl⟩;refine a5R (show _=(⟨.own a7V 4 [],[126,(f.data.l.length:Int),f.hX,f.kind]⟩:J Int).L 5 rL++(⟨gL,f.cells,118⟩::L) by(simp[J.L,g6.L,rL,kV.cells,a4.val];rfl)) ?_;refine hT (Ir N (⟨.own a7V 4 [],[126,(f.data.l.length:Int),f.hX,f.kind]⟩:J Int) f.data rfl rfl rfl aW rfl rfl aAe aF cF bD a3T) rfl ?_;rintro v E G ⟨Q7,rfl,Lz,rfl,rfl⟩;apply(BK);have tX:(⟨Q7,[126,(f.data.l.length:Int),f.hX,f.kind]++f.data.l⟩:J Int).l=NO f.kQ:=rfl;have W5:pN (NO f.kQ):=λx K=>by
  rw[<-tX]at K;simp only[pK,nN,sW]at K;rcases K with h|h|h|h|h;·omega
  ·omega
  ·omega
  ·omega
  ·exact a5 x h
 have Fs:=a1b (NO f.kQ).tail;rw[O5]at Fs;apply(BL);refine aI (Yi (m:=1) (aN:=1) (u:=(⟨Q7,[126,(f.data.l.length:Int),f.hX,f.kind]++f.data.l⟩:J Int).V) N rfl rfl rfl rfl rfl aW g2 rfl) rfl ?_;refine cD rfl (aM.b6k G2 Lz g2 (aKw (m9 (⟨Q7,[126,(f.data.l.length:Int),f.hX,f.kind]++f.data.l⟩:J Int).V 1 1) _ _ mA (λx K=>W5 x (Cb K)))) ?_;apply(x2);have b1E:(m9 (⟨Q7,[126,(f.data.l.length:Int),f.hX,f.kind]++f.data.l⟩:J Int).V 1 1).l=(NO f.kQ).tail:=List.drop_one;rw[b1E];obtain⟨AL,aMc⟩:∃AL,AL=s3 (NO f.kQ).tail:=⟨_,rfl⟩;rw[<-aMc]at Fs|-;have F7:IntKind.u8.wrap (AL/256)=AL/256:=Vv D;have Ek:IntKind.u8.wrap AL=AL%256:=aOA D;apply(wJ);refine aI (Ju rfl rfl aW aJB) rfl ?_;apply A5∘cE∘A5;refine hT Xe rfl ?_;rintro v E G ⟨a1F,rfl,rfl,a8N⟩;replace a8N:=a8N.symm;subst a8N;rw[F7,Ek];refine FL (aN:=1) (len:=2) (cap:=2) (rows:=[rL (AL/256),rL (AL%256)]) (eU:=[]) rfl aW aW (λr M=>by rcases List.mem_cons.1 M with rfl|M;rfl;rw[List.mem_singleton.1 M];rfl) aW rfl e8 ?_;have b1X:aL (gX (⟨some ⟨a1F,0,none⟩,2,[AL/256,AL%256]⟩:a4 Int)) (gX (⟨some ⟨a1F,0,none⟩,2,[AL/256,AL%256]⟩:a4 Int)::R):=aT (.head _);refine hT (Ir N (⟨Q7,[126,(f.data.l.length:Int),f.hX,f.kind]++f.data.l⟩:J Int) (⟨some ⟨a1F,0,none⟩,2,[AL/256,AL%256]⟩:a4 Int) rfl rfl rfl aW rfl rfl Lz b1X cF bD (by simp only[wD,UH,l9];omega)) rfl ?_;rintro v E G ⟨aNQ,rfl,b4D,rfl,rfl⟩;apply(Y6);refine bQ ((⟨aNQ,([126,(f.data.l.length:Int),f.hX,f.kind]++f.data.l)++[AL/256,AL%256]⟩:J Int).L 5 rL++L) (gX (⟨some ⟨a1F,0,none⟩,2,[AL/256,AL%256]⟩:a4 Int)::R) yH ?_;have W:K7 f.kQ=0:=by rw[K7,if_neg Xl,if_neg Xl]
 exact⟨(⟨aNQ,([126,(f.data.l.length:Int),f.hX,f.kind]++f.data.l)++[AL/256,AL%256]⟩:J Int),by rw[W];rfl,b4D,by rw[W,if_pos rfl,aMc];rfl,rfl,λr M=>aT (.tail _ M)⟩
def Jc(hX p0:Int):z4:=⟨hX,1,[p0/256,p0%256]⟩
def a0n(hX p0:Int):List Int:=Ko (Jc hX p0)
def aI4{hX p0:Int}(bT:0<=hX/\hX<=255):K7 (Jc hX p0)=0:=by rw[K7,if_neg (by simp only[Jc];omega),if_neg (by simp[Jc])]
def aVB{f:z4}(h:K7 f=0)(a5:pN f.data):pN (Ko f):=by
 have Fs:=a1b (NO f).tail;rw[O5]at Fs;rw[K7]at h;split at h;·cases h
 split at h;·cases h
 intro x K;rw[Ko,NO]at K;rw[NO]at Fs;simp only[pK,sW,Hw,vR,or_false]at K;rcases K with h|h|h|h|h|h|h;·omega
 ·omega
 ·omega
 ·omega
 ·exact a5 x h
 ·omega
 ·omega
def aW7{hX p0:Int}(bT:0<=hX/\hX<=255)(M:0<=p0/\p0<=65535):pN (a0n hX p0):=aVB (aI4 bT) (λx K=>by
 simp only[Jc,sW,vR,or_false]at K
 rcases K with h|h<;>omega)
def a6Q(hX p0:Int)(L:aR)(R:aO)(bT:0<=hX/\hX<=255)(M:0<=p0/\p0<=65535):
 aM prog 19 [.int .i64 hX,.int .i64 p0].toArray L R (λv E G=>∃q:a4 Int,v=q.val/\q.l=a0n hX p0/\aL (gX q) G/\(∀r∈R,aL r G)/\L=E):=by
 refine b6 20 call19 func19 rfl rfl rfl ?_;apply dC∘vD∘lD;refine aI (Ju rfl rfl aW aJB) rfl ?_;apply A5∘cE∘A5;refine hT Xe rfl ?_;rintro v E G ⟨rU,rfl,rfl,a8y⟩;replace a8y:=a8y.symm;subst a8y;have F7:IntKind.u8.wrap (p0/256)=p0/256:=Vv D;have Ek:IntKind.u8.wrap p0=p0%256:=aOA D;rw[F7,Ek];refine FL (aN:=1) (len:=2) (cap:=2) (rows:=[rL (p0/256),rL (p0%256)]) (eU:=[]) rfl aW aW (λr M=>by rcases List.mem_cons.1 M with rfl|M;rfl;rw[List.mem_singleton.1 M];rfl) aW rfl e8 ?_;refine aI aRh rfl ?_;refine dT rfl (aX3 (⟨hX,1,⟨some ⟨rU,0,none⟩,2,[p0/256,p0%256]⟩⟩:kV) _ (gX (⟨some ⟨rU,0,none⟩,2,[p0/256,p0%256]⟩:a4 Int)::R) mA (λx K=>by
 simp only[sW,vR,or_false]at K;rcases K with h|h<;>omega)) rfl ?_
 rintro v E G ⟨q,rfl,gR,fT,rfl,kJ⟩;refine aI iL rfl ?_;apply CO∘kA∘x2;have c5:K7 (kV.kQ ⟨hX,1,⟨some ⟨rU,0,none⟩,2,[p0/256,p0%256]⟩⟩)=0:=aI4 (p0:=p0) bT;rw[if_pos c5]at fT;refine hB (T:=5) (f:=rL) (aN:=1) q [] cF bD aW gR e8 ?_;refine eM gD ?_;apply BL∘SH;refine bQ L (gX q.V::G) w2 ?_;exact⟨q.V,rfl,fT,aT (.head _),λr M=>(kJ r (.tail _ M)).mono λr M=>aT (.tail _ M),rfl⟩
def a5s(h:A->B:=by exact aI (oU (iD:=[(4,(Value.slice _ _ _).cells.toList),(3,(Value.int _ _).cells.toList)]) (dD:=[_,_,_,_,_]) N rfl rfl rfl rfl) rfl):=h
def a5y(h:A->B:=by exact hT aCM rfl):=h
def a7g(h:A->B:=by exact hT (I5 (iD:=[(0,(Value.agg _).cells.toList),(1,(Value.agg _).cells.toList)]) (dD:=[_,_,_,_,_,_,_,_,_,_]) N rfl rfl rfl rfl rfl rfl rfl) rfl):=h
def aGj(h:A->B:=by exact aI (oU (iD:=[(0,(Value.int _ _).cells.toList),(1,(Value.int _ _).cells.toList),(3,(Value.int _ _).cells.toList)]) (dD:=[_,_,_,_,_]) N rfl rfl rfl rfl) rfl):=h
def aEr(h:A->B:=by exact aI (oU (iD:=[(0,(Value.int _ _).cells.toList),(3,(Value.int _ _).cells.toList)]) (dD:=[_,_,_,_,_]) N rfl rfl rfl rfl) rfl):=h
def aIV(h:A->B:=by exact aI (oU (iD:=[(0,(Value.int _ _).cells.toList),(1,(Value.int _ _).cells.toList),(2,(Value.int _ _).cells.toList),(3,(Value.int _ _).cells.toList)]) (dD:=[_,_,_,_,_]) N rfl rfl rfl rfl) rfl):=h
abbrev Ru(x:a4 kC):fJ:=x.gN 5 kC.cells (x.l.map λa=>gX a.bytes)
structure G6(a:kC)(R:aO):Prop where
 ok:Ov a.p
 bytes:aL (gX a.bytes) R
structure KY(q:J kC)(R:aO):Prop where
 ok:q.ok 5 kC.cells
 all:∀a∈q.l,G6 a R
def KY.mono{q:J kC}{R G:aO}(h:KY q R)(k:∀r∈R,aL r G):KY q G:=⟨h.ok,λa bT=>⟨(h.all a bT).ok,(h.all a bT).bytes.mono k⟩⟩
def KY.s7{o o':g6}{l m:List kC}{R:aO}(h:KY ⟨o,l⟩ R)(O:(⟨o',l++m⟩:J kC).ok 5 kC.cells)(X:∀a∈m,G6 a R):KY ⟨o',l++m⟩ R:=⟨O,λa bT=>by
 rcases List.mem_append.1 bT with bT|bT
 ·exact h.all a bT
 ·exact X a bT⟩
def G6.Hr{k n m w:Int}{R:aO}(b1:0<=n/\n<=100)(a3:0<=m/\m<=100)(dH:0<=w/\w<=100)(h:aL (gX ⟨none,0,[]⟩) R):G6 ⟨k,n,m,w,⟨none,0,[]⟩⟩ R:=⟨⟨by show _<=n/\n<=_;omega,by show _<=m/\m<=_;omega,by show _<=w/\w<=_;omega,λx K=>(by cases K),EZ _⟩,h⟩
def G6.a8f{w qB p0:Int}{b:a4 Int}{R:aO}(dH:0<=w/\w<=100)(h:aL (gX b) R)(a5:b.l=a0n qB p0)(bT:0<=qB/\qB<=255)(M:0<=p0/\p0<=65535):G6 ⟨0,0,0,w,b⟩ R:=⟨⟨by show _<=(0:Int)/\(0:Int)<=_;omega,by show _<=(0:Int)/\(0:Int)<=_;omega,by show _<=w/\w<=_;omega,by show pN b.l;rw[a5];exact aW7 bT M,by show b.l.length<=_;rw[a5,a0n,aWT];simp[Jc]⟩,h⟩
def aXr(c:Nat)(x:a4 Int)(k:Nat)(f:hJ)(R:aO)(K:wE x R)(aG:k<=x.l.length)(aF:k0 f R)(b1:f.aZ.l.length<=3):
 aM prog 63 [.pointer (some ⟨c,0,none⟩),f.val].toArray [sK c x k] R
  (λv E G=>∃(q:J kC) (g3:Nat),v=q.val/\KY q G/\q.l.length<=22/\g3<=x.l.length/\(∀r∈R,aL r G)/\q.L 144 kC.cells++(sK c x g3::[])=E):=by
 refine b6 85 call63 func63 rfl rfl rfl ?_;apply(dB);intro eS;apply(BK);refine Qu 1 ?_;have AV:aL (gX (⟨none,0,[]⟩:a4 Int)) (gX (⟨none,0,[]⟩:a4 Int)::R):=aT (.head _);have DE:wE x (gX (⟨none,0,[]⟩:a4 Int)::R):=⟨K.1.mono λr M=>aT (.tail _ M),K.2⟩;apply eB∘kD∘mO∘lX;refine dT rfl (V2 KS DE aG D) rfl ?_;rintro v E G ⟨Hn,g9,rfl,LP,aLI,b9d,hE,rfl,rfl⟩;have b9e:=aLI D;apply(k3);refine dT rfl (a6Q 0 (10+Hn) _ _ D D) rfl ?_;rintro v E G ⟨a20,rfl,fT,WW,kJ,rfl⟩;apply a5s∘a5y;rintro v E G ⟨C3,rfl,rfl,H7⟩;replace H7:=H7.symm;subst H7;apply(HR);have b2j:∀r∈gX (⟨none,0,[]⟩:a4 Int)::R,aL r G:=kJ;have Ua:(⟨.own C3 1 [],[⟨0,0,0,1,a20⟩]⟩:J kC).ok 5 kC.cells:=⟨rfl,iK _,by decide,rfl⟩;refine eM (show _=(⟨.own C3 1 [],[⟨0,0,0,1,a20⟩]⟩:J kC).L 144 kC.cells++(⟨eS,f.cells,42⟩::sK c x g9::[]) by(simp[J.L,g6.L,kC.cells,hJ.cells,a4.val];exact⟨rfl,rfl⟩)) ?_;have b48:KY (⟨.own C3 1 [],[⟨0,0,0,1,a20⟩]⟩:J kC) G:=⟨Ua,λa bT=>by rw[List.mem_singleton.1 bT];exact G6.a8f D WW fT D D⟩;apply(NE);refine dS [(0,.pointer _),(5,.int _ _),(6,.slice _ _ _),(7,.int _ _)] bV λfK=>?_;refine k2 ([6,7]++cN 20 12) ((⟨λg=>[(7,.int .i64 ((g.1.1:Nat):Int)),(6,g.1.2.1.val)],λg=>g.1.2.1.L 144 kC.cells++(⟨eS,f.cells,42⟩::sK c x g.1.2.2.1::[]),λg=>g.1.2.2.2,λg=>f.aZ.l.length-g.1.1⟩:fB {g:Nat×J kC×Nat×aO//g.1<=f.aZ.l.length/\KY g.2.1 g.2.2.2/\g.2.1.l.length=1+g.1/\g.2.2.1<=x.l.length/\∀r∈gX (⟨none,0,[]⟩:a4 Int)::R,aL r g.2.2.2})) (⟨(0,(⟨.own C3 1 [],[⟨0,0,0,1,a20⟩]⟩:J kC),g9,G),by dsimp only;omega,b48,rfl,hE,b2j⟩) ?_;rintro⟨⟨i,q,fI,S⟩,aE,cJ,sO,l5,eL⟩ cH;try dsimp only
 dsimp only at aE cJ sO l5 eL;have gR:=cJ.ok;have b5R:wE x S:=⟨DE.1.mono eL,DE.2⟩;have b4h:=eL _ (.head _);apply(VT);refine U ?_ ?_<;>intro aQ;·refine eP (a8 (bK (fR (c2 ?_))));apply h9∘lX;refine dT rfl (V2 KS b5R l5 D) rfl ?_;rintro v E G ⟨A6,o5,rfl,eV,a1L,b87,DA,rfl,rfl⟩;have b88:=a1L D;apply aGj∘a5y;rintro v E G ⟨b1f,rfl,rfl,Fc⟩;replace Fc:=Fc.symm;subst Fc;refine hT (pO (f:=kC.cells) (p:=q) (a:=⟨3,(i:Int),0,A6,(⟨none,0,[]⟩:a4 Int)⟩) N rfl rfl rfl rfl (gR) cF p2 rfl qI) rfl ?_;rintro v E G ⟨aBB,rfl,aAc,rfl,rfl⟩;apply(JQ);exact eO ⟨(i+1,⟨aBB,q.l++[⟨3,(i:Int),0,A6,(⟨none,0,[]⟩:a4 Int)⟩]⟩,o5,S),by dsimp only;omega,cJ.s7 aAc (λa bT=>by rw[List.mem_singleton.1 bT];exact G6.Hr D D D b4h),by dsimp only;rw[l9,sO];simp;omega,DA,eL⟩
 obtain rfl:i=f.aZ.l.length:=by omega
 apply(PZ);refine dS [(0,.pointer _),(5,.int _ _),(6,.slice _ _ _),(8,.int _ _)] bV λoA=>?_;refine k2 ([6,8]++cN 32 12) ((⟨λg=>[(8,.int .i64 ((g.1.1:Nat):Int)),(6,g.1.2.1.val)],λg=>g.1.2.1.L 144 kC.cells++(⟨eS,f.cells,42⟩::sK c x g.1.2.2.1::[]),λg=>g.1.2.2.2,λg=>4-g.1.1⟩:fB {g:Nat×J kC×Nat×aO//g.1<=4/\KY g.2.1 g.2.2.2/\g.2.1.l.length=1+f.aZ.l.length+g.1/\g.2.2.1<=x.l.length/\∀r∈gX (⟨none,0,[]⟩:a4 Int)::R,aL r g.2.2.2})) (⟨(0,q,fI,S),by dsimp only;omega,cJ,by dsimp only;omega,l5,eL⟩) ?_;rintro⟨⟨j,p,fZ,sC⟩,a6,aP,lK,B4,F9⟩ cH;try dsimp only
 dsimp only at a6 aP lK B4 F9;have iF:=aP.ok;have b5S:wE x sC:=⟨DE.1.mono F9,DE.2⟩;have b4i:=F9 _ (.head _);apply FR∘CP;refine U ?_ ?_<;>intro bL;·refine eP (a8 (bK (fR (c2 ?_))));apply gU∘lX;refine dT rfl (V2 KS b5S B4 D) rfl ?_;rintro v E G ⟨UB,aBt,rfl,n5,b1y,b89,aMz,rfl,rfl⟩;have b9a:=b1y D;apply(k3);refine dT rfl (a6Q 0 (10+UB) _ _ D D) rfl ?_;rintro v E G ⟨aOk,rfl,b5g,b5e,S8,rfl⟩;apply a5s∘a5y;rintro v E G ⟨b1i,rfl,rfl,Ff⟩;replace Ff:=Ff.symm;subst Ff;refine hT (pO (f:=kC.cells) (p:=p) (a:=⟨0,0,0,14,aOk⟩) N rfl rfl rfl rfl (iF) cF p2 rfl qI) rfl ?_;rintro v E G ⟨aBC,rfl,aAg,rfl,rfl⟩;apply(JQ);exact eO ⟨(j+1,⟨aBC,p.l++[⟨0,0,0,14,aOk⟩]⟩,aBt,_),by dsimp only;omega,(aP.mono S8).s7 aAg (λa bT=>by rw[List.mem_singleton.1 bT];exact G6.a8f D b5e b5g D D),by dsimp only;rw[l9,lK];simp;omega,aMz,λr M=>(F9 r M).mono S8⟩
 obtain rfl:j=4:=by omega
 apply M9∘aEr∘aGj∘a7g;rintro v E G ⟨Sa,rfl,rfl,a8L⟩;replace a8L:=a8L.symm;subst a8L;refine FL (aN:=5) (len:=2) (cap:=2) (rows:=[kC.cells ⟨4,0,0,1,(⟨none,0,[]⟩:a4 Int)⟩,kC.cells ⟨5,1,0,1,(⟨none,0,[]⟩:a4 Int)⟩]) (eU:=[gX (⟨none,0,[]⟩:a4 Int),gX (⟨none,0,[]⟩:a4 Int)]) rfl aW aW (λr M=>by rcases List.mem_cons.1 M with rfl|M;rfl;rw[List.mem_singleton.1 M];rfl) aW rfl (λs aH=>by simp only[sW,vR,or_false]at aH;rcases aH with rfl|rfl<;>exact b4i) ?_;refine hT (Ir N p (⟨some ⟨Sa,0,none⟩,2,[⟨4,0,0,1,(⟨none,0,[]⟩:a4 Int)⟩,⟨5,1,0,1,(⟨none,0,[]⟩:a4 Int)⟩]⟩:a4 kC) rfl rfl rfl aW rfl rfl iF (eU:=[gX (⟨none,0,[]⟩:a4 Int),gX (⟨none,0,[]⟩:a4 Int)]) mA cF bD a3T) rfl ?_;rintro v E G ⟨aNO,rfl,b4A,rfl,rfl⟩;apply(HR);obtain⟨e3,a85⟩:∃e3,e3=Ru (⟨some ⟨Sa,0,none⟩,2,[⟨4,0,0,1,(⟨none,0,[]⟩:a4 Int)⟩,⟨5,1,0,1,(⟨none,0,[]⟩:a4 Int)⟩]⟩:a4 kC)::sC:=⟨_,rfl⟩;have tA:∀r∈gX (⟨none,0,[]⟩:a4 Int)::R,aL r e3:=λr M=>(F9 r M).mono λr M=>aT (by rw[a85];exact .tail _ M);have aMH:=tA _ (.head _);have zC:KY ⟨aNO,p.l++(⟨some ⟨Sa,0,none⟩,2,[⟨4,0,0,1,(⟨none,0,[]⟩:a4 Int)⟩,⟨5,1,0,1,(⟨none,0,[]⟩:a4 Int)⟩]⟩:a4 kC).l⟩ e3:=(aP.mono λr M=>aT (by rw[a85];exact .tail _ M)).s7 b4A (λa bT=>by
  simp only[sW,vR,or_false]at bT;rcases bT with rfl|rfl;·exact G6.Hr D D D aMH
  ·exact G6.Hr D D D aMH)
 have b4W:(p.l++(⟨some ⟨Sa,0,none⟩,2,[⟨4,0,0,1,(⟨none,0,[]⟩:a4 Int)⟩,⟨5,1,0,1,(⟨none,0,[]⟩:a4 Int)⟩]⟩:a4 kC).l).length=7+f.aZ.l.length:=by rw[l9,lK];simp;omega
 refine wK (show _=e3 by rw[a85];rfl) ?_;apply(NE);refine dS [(0,.pointer _),(5,.int _ _),(6,.slice _ _ _),(9,.int _ _)] bV λUD=>?_;refine k2 ([6,9]++cN 49 11) ((⟨λg=>[(9,.int .i64 ((g.1.1:Nat):Int)),(6,g.1.2.1.val)],λg=>g.1.2.1.L 144 kC.cells++(⟨eS,f.cells,42⟩::sK c x fZ::[]),λg=>g.1.2.2,λg=>f.aZ.l.length-g.1.1⟩:fB {g:Nat×J kC×aO//g.1<=f.aZ.l.length/\KY g.2.1 g.2.2/\g.2.1.l.length=7+f.aZ.l.length+2*g.1/\∀r∈gX (⟨none,0,[]⟩:a4 Int)::R,aL r g.2.2})) (⟨(0,⟨aNO,p.l++(⟨some ⟨Sa,0,none⟩,2,[⟨4,0,0,1,(⟨none,0,[]⟩:a4 Int)⟩,⟨5,1,0,1,(⟨none,0,[]⟩:a4 Int)⟩]⟩:a4 kC).l⟩,e3),by dsimp only;omega,zC,b4W,tA⟩) ?_;rintro⟨⟨l,u,YO⟩,aX,dL,aNk,J1⟩ cH;try dsimp only
 dsimp only at aX dL aNk J1;have a2v:=dL.ok;have b5T:wE x YO:=⟨DE.1.mono J1,DE.2⟩;have a97:=J1 _ (.head _);apply(VT);refine U ?_ ?_<;>intro cC;·
  refine eP (a8 (bK (fR (c2 ?_))));apply gU∘aEr∘cE∘aIV∘a7g;rintro v E G ⟨NU,rfl,rfl,IA⟩;replace IA:=IA.symm;subst IA;refine FL (aN:=5) (len:=2) (cap:=2) (rows:=[kC.cells ⟨6,0,0,1,(⟨none,0,[]⟩:a4 Int)⟩,kC.cells ⟨3,(l:Int),2,1,(⟨none,0,[]⟩:a4 Int)⟩]) (eU:=[gX (⟨none,0,[]⟩:a4 Int),gX (⟨none,0,[]⟩:a4 Int)]) rfl aW aW (λr M=>by rcases List.mem_cons.1 M with rfl|M;rfl;rw[List.mem_singleton.1 M];rfl) aW rfl (λs aH=>by simp only[sW,vR,or_false]at aH;rcases aH with rfl|rfl<;>exact a97) ?_;refine hT (Ir N u (⟨some ⟨NU,0,none⟩,2,[⟨6,0,0,1,(⟨none,0,[]⟩:a4 Int)⟩,⟨3,(l:Int),2,1,(⟨none,0,[]⟩:a4 Int)⟩]⟩:a4 kC) rfl rfl rfl aW rfl rfl a2v (eU:=[gX (⟨none,0,[]⟩:a4 Int),gX (⟨none,0,[]⟩:a4 Int)]) mA cF bD a3T) rfl ?_;rintro v E G ⟨b6E,rfl,b4G,rfl,rfl⟩;apply(JQ);exact hP ⟨(l+1,⟨b6E,u.l++(⟨some ⟨NU,0,none⟩,2,[⟨6,0,0,1,(⟨none,0,[]⟩:a4 Int)⟩,⟨3,(l:Int),2,1,(⟨none,0,[]⟩:a4 Int)⟩]⟩:a4 kC).l⟩,Ru (⟨some ⟨NU,0,none⟩,2,[⟨6,0,0,1,(⟨none,0,[]⟩:a4 Int)⟩,⟨3,(l:Int),2,1,(⟨none,0,[]⟩:a4 Int)⟩]⟩:a4 kC)::YO),by dsimp only;omega,(dL.mono λr M=>aT (.tail _ M)).s7 b4G (λa bT=>by
  simp only[sW,vR,or_false]at bT;rcases bT with rfl|rfl;·exact G6.Hr D D D (a97.mono λr M=>aT (.tail _ M))
  ·exact G6.Hr D D D (a97.mono λr M=>aT (.tail _ M))),by dsimp only;rw[l9,aNk];simp;omega,λr M=>(J1 r M).mono λr M=>aT (.tail _ M)⟩ gW bV bA eN hO
 obtain rfl:l=f.aZ.l.length:=by omega
 apply xN∘lX;refine dT rfl (V2 KS b5T B4 D) rfl ?_;rintro v E G ⟨wQ,aBu,rfl,d1,b1u,b80,b3S,rfl,rfl⟩;have b81:=b1u D;apply(nP);refine dS [(0,.pointer _),(6,.slice _ _ _),(10,.int _ _)] bV λa29=>?_;refine k2 ([6,10]++cN 62 22) ((⟨λg=>[(10,.int .i64 g.1.1),(6,g.1.2.1.val)],λg=>g.1.2.1.L 144 kC.cells++(⟨eS,f.cells,42⟩::sK c x g.1.2.2.1::[]),λg=>g.1.2.2.2,λg=>g.1.1.toNat⟩:fB {g:Int×J kC×Nat×aO//(0<=g.1/\g.1<=wQ)/\KY g.2.1 g.2.2.2/\(g.2.1.l.length:Int)=7+f.aZ.l.length*3+2*(wQ-g.1)/\g.2.2.1<=x.l.length/\∀r∈gX (⟨none,0,[]⟩:a4 Int)::R,aL r g.2.2.2})) (⟨(wQ,u,aBu,YO),by dsimp only;omega,dL,by dsimp only;omega,b3S,J1⟩) ?_;rintro⟨⟨m,v,a2I,Px⟩,a3,cY,b5K,a9P,EK⟩ cH;try dsimp only
 dsimp only at a3 cY b5K a9P EK;have Uu:=cY.ok;have aBd:wE x Px:=⟨DE.1.mono EK,DE.2⟩;apply FR∘HS;refine U ?_ ?_<;>intro dX;·
  refine eP (a8 (bK (fR (c2 ?_))));apply gU∘lX;refine dT rfl (V2 KS aBd a9P D) rfl ?_;rintro v E G ⟨aCm,xJ,rfl,Vt,b7e,bAX,a9M,rfl,rfl⟩;have bAY:=b7e D;refine dT rfl (a6Q 0 aCm _ _ D D) rfl ?_;rintro v E G ⟨Mt,rfl,b5h,aM3,a1Y,rfl⟩;have Ux:wE x G:=⟨aBd.1.mono a1Y,aBd.2⟩;have aMI:=(EK _ (.head _)).mono a1Y;apply(lX);refine dT rfl (V2 KS Ux a9M D) rfl ?_;rintro v E G ⟨DJ,wB,rfl,Vu,b7f,bAZ,LX,rfl,rfl⟩;have bA0:=b7f D;apply a5s∘lX;refine dT rfl (aVO KS Ux LX D) rfl ?_;rintro v E G ⟨MB,DF,rfl,a3a,bA1,b3L,rfl,rfl⟩;apply(lX);refine dT rfl (V2 KS Ux b3L D) rfl ?_;rintro v E G ⟨Bs,As,rfl,bA2,b7g,bA3,b3M,rfl,rfl⟩;have bA4:=b7g D;apply(lX);refine dT rfl (V2 KS Ux b3M D) rfl ?_;rintro v E G ⟨a3k,bAl,rfl,bA5,b7h,bA6,b3N,rfl,rfl⟩;have bA7:=b7h D;apply(lX);refine dT rfl (V2 KS Ux b3N D) rfl ?_;rintro v E G ⟨a3l,b6e,rfl,bA8,b7i,bA9,b3O,rfl,rfl⟩;have bBa:=b7i D;apply aIV∘a7g;rintro v E G ⟨a7W,rfl,rfl,a8X⟩;replace a8X:=a8X.symm;subst a8X;refine FL (aN:=5) (len:=2) (cap:=2) (rows:=[kC.cells ⟨0,0,0,DJ,Mt⟩,kC.cells ⟨MB,Bs,a3k,a3l,(⟨none,0,[]⟩:a4 Int)⟩]) (eU:=[gX Mt,gX (⟨none,0,[]⟩:a4 Int)]) rfl aW aW (λr M=>by rcases List.mem_cons.1 M with rfl|M;rfl;rw[List.mem_singleton.1 M];rfl) aW rfl (λs aH=>by simp only[sW,vR,or_false]at aH;rcases aH with rfl|rfl;exact aM3;exact aMI) ?_;refine hT (Ir N v (⟨some ⟨a7W,0,none⟩,2,[⟨0,0,0,DJ,Mt⟩,⟨MB,Bs,a3k,a3l,(⟨none,0,[]⟩:a4 Int)⟩]⟩:a4 kC) rfl rfl rfl aW rfl rfl Uu (eU:=[gX Mt,gX (⟨none,0,[]⟩:a4 Int)]) mA cF bD a3T) rfl ?_;rintro Hs E u5 ⟨b6G,rfl,b4I,rfl,rfl⟩;apply kA∘RD∘Y4;exact hP ⟨(m-1,⟨b6G,v.l++(⟨some ⟨a7W,0,none⟩,2,[⟨0,0,0,DJ,Mt⟩,⟨MB,Bs,a3k,a3l,(⟨none,0,[]⟩:a4 Int)⟩]⟩:a4 kC).l⟩,b6e,Ru (⟨some ⟨a7W,0,none⟩,2,[⟨0,0,0,DJ,Mt⟩,⟨MB,Bs,a3k,a3l,(⟨none,0,[]⟩:a4 Int)⟩]⟩:a4 kC)::G),by dsimp only;omega,((cY.mono a1Y).mono λr M=>aT (.tail _ M)).s7 b4I (λa bT=>by
  simp only[sW,vR,or_false]at bT;rcases bT with rfl|rfl;·exact G6.a8f D (aM3.mono λr M=>aT (.tail _ M)) b5h D D
  ·exact G6.Hr D D D (aMI.mono λr M=>aT (.tail _ M))),by dsimp only;rw[l9];simp;omega,b3O,λr M=>((EK r M).mono a1Y).mono λr M=>aT (.tail _ M)⟩ gW bV bA eN hO
 apply(SP);refine bQ (v.L 144 kC.cells++(sK c x a2I::[])) Px w2 ?_;exact⟨v,a2I,rfl,cY,by omega,a9P,λr M=>EK r (.tail _ M),rfl⟩
end
end Go.Proofs.YtchfclmokpbldaaGreat
namespace Go.Proofs.YtchfclmokpbldaaGreat
open Go.Aw Go Go.Proofs.Tryz
set_option maxRecDepth 20000
attribute [local irreducible] cQ dF dV aM cP eC e5 e1 e2 e6 eX e4 J.L
def K2(h:A->B:=by exact aI DT rfl):=h
def a0O(h:A->B:=by exact aI q1 rfl):=h
def aWB(s:eA)(c:a4 b8)(aA:a4 bC)(r:jP)(p k t:Int)(L:aR)(R:aO)(h:FJ s c aA R)(gA:∀x∈aA.l,-4611686018427387904<=x.bW):
 aM prog 219 [s.val,c.val,aA.val,r.val,.int .i64 p,.int .i64 k,.int .i64 t].toArray L R (λv E G=>v=.tuple #[(s9 s c.l aA.l r p k t).val,.int .i64 (oZ s c.l aA.l r p k t)]/\L=E/\R=G):=by
 have WS:=h.aK.lM;refine b6 64 call219 func219 rfl rfl rfl ?_;apply(dB);intro o0;apply(iV);intro i0;apply(dZ);intro rU;apply hH∘a0O∘P0;refine cD rfl (a6x s c aA t _ _ h) ?_;apply(j7);refine U ?_ ?_<;>intro aQ;·exact(dC∘K2) aRe
 obtain⟨bH,j1,fH⟩:=Dj (s:=s) (T2:=c.l.length) (KE:=aA.l.length) (t:=t) D;apply D5∘rR;refine U ?_ ?_<;>intro bL;·exact(dC∘K2) aSl
 apply(LC);apply cA (Z:=[_,_,_,_,_]) (j:=2) (a9:=33) rfl rfl aB rfl aY rfl;·exact Cm
 intro mK;apply(dE);apply cA (Z:=[_,_,_,_,_,_,_]) (j:=9) (a9:=40) rfl rfl aB rfl aY rfl;·exact aTh
 intro At;apply(b9);refine U ?_ ?_<;>intro cC;·exact(dC∘K2) aRI
 have W:oZ s c.l aA.l r p k t=qW s c.l aA.l k t:=by rw[oZ,if_neg aQ,if_neg bL,if_neg D]
 apply hN∘a0O∘P0∘cE;refine cD rfl (a6w s c aA k t _ _ h bH j1 fH gA) ?_;apply(j7);refine U ?_ ?_<;>intro dX;·apply dC∘K2∘tQ;refine bQ L R MO ?_;exact⟨by rw[Ox W dX,W],rfl,rfl⟩
 exact aQ1
def aEJ(r:jP)(t:Int)(L:aR)(R:aO)(M:0<=r.time)(fH:0<=t/\t<=2147483648):
 aM prog 271 [r.val,.int .i64 t].toArray L R (λv E G=>v=.bool (!decide (NL r t))/\L=E/\R=G):=by
 refine b6 21 call271 func271 rfl rfl rfl ?_;apply(dB);intro eH;apply nG∘FX∘Y7∘dE;apply iR (Z:=[_,_,_,_,_,_,_,_,_,_]) (j:=4) (a9:=9) rfl rfl aB rfl aY rfl;·
  intro hD;replace hD:=bB hD;apply Y7∘dE;apply iR (Z:=[_,_,_,_,_]) (j:=8) (a9:=13) rfl rfl aB rfl aY rfl;·intro gH;replace gH:=bB gH;exact(NF∘j3) RI
  intro uY;exact g4
 intro wP;apply(uK);refine lG L R ?_;exact⟨by refine congrArg Value.bool ?_;rw[Bv,<-decide_not,decide_eq_true_iff (p:=¬NL r t),NL];simp;omega,rfl,rfl⟩
def b0F(s:eA)(c:a4 b8)(aA:a4 bC)(r:jP)(p t:Int)(L:aR)(R:aO)(h:FJ s c aA R)(gA:∀x∈aA.l,-4611686018427387904<=x.bW)(M:0<=r.time):
 aM prog 221 [s.val,c.val,aA.val,r.val,.int .i64 p,.int .i64 t].toArray L R (λv E G=>v=.tuple #[(tU s c.l aA.l r p t).val,.int .i64 (rV s c.l aA.l r p t)]/\L=E/\R=G):=by
 have WS:=h.aK.lM;refine b6 101 call221 func221 rfl rfl rfl ?_;apply(dB);intro i1;apply(iV);intro jR;apply(dZ);intro n3;apply hH∘a0O∘P0;refine cD rfl (a6x s c aA t _ _ h) ?_;apply(j7);refine U ?_ ?_<;>intro aQ;·exact(dC∘K2) aQ9
 obtain⟨bH,j1,fH⟩:=Dj (s:=s) (T2:=c.l.length) (KE:=aA.l.length) (t:=t) D;apply D5∘sG;apply cA (Z:=[_,_,_]) (j:=3) (a9:=29) rfl rfl aB rfl aY rfl;·exact Cn
 intro h8;apply(b9);refine U ?_ ?_<;>intro bL;·exact(dC∘K2) aSc
 apply e0∘kD∘P1;refine gZ N [0,1,2,3,4,5,6,7,8,9,10,11,12,13,14,15,16,17,18,19,20,21,22,23,24,25,26,27,28,29,30,31,32,33,34,35,36,37,38,39] _ dO bI hA ?_;apply(hK);refine bE E0 rfl rfl rfl ?_;apply(sS);refine lQ (k:=40) aY (λjL=>?_) (λjL=>?_);·
  replace jL:=bB jL;iterate 3 apply(iU)
  apply(k1);iterate 4 apply(iU)
  apply(k1);iterate 3 apply(iU)
  exact(k1) a3S
 replace jL:=bB jL;apply hK∘hK;refine bE G4 rfl rfl rfl ?_;apply(k1);refine lQ (k:=45) aY (λkF=>?_) (λkF=>?_);·
  replace kF:=bB kF;iterate 4 apply(iU)
  apply(k1);iterate 3 apply(iU)
  exact(k1) a3S
 replace kF:=bB kF;apply hK∘g7;refine bE BA rfl rfl rfl ?_;apply(k1);refine lQ (k:=51) aY (λtB=>?_) (λtB=>?_);·
  replace tB:=bB tB;iterate 3 apply(iU)
  exact(k1) a3S
 replace tB:=bB tB;apply(g7);refine bE E0 rfl rfl rfl ?_;apply(k1);refine lQ (k:=56) aY (λQM=>?_) (λQM=>?_);·replace QM:=bB QM;exact a3S
 replace QM:=bB QM;apply(l1);refine bE G4 rfl rfl rfl ?_;apply(k1);refine lQ (k:=62) aY (λQN=>?_) (λQN=>?_);·
  replace QN:=bB QN;iterate 14 apply(iU)
  apply(l2);refine vS rfl ?_;exact(dC∘K2) Nx
 replace QN:=bB QN;have zD:=bJ (l:=s.lM.l) (k:=p.toNat) 0 D;have AW:=bJ (l:=s.lM.l) (k:=r.first.toNat) 0 D;apply(l1);refine bE aC7 rfl rfl rfl ?_;apply z7∘g7∘g7;refine bE aQK rfl rfl rfl ?_;apply(z7);refine bE BA rfl rfl rfl ?_;apply(l2);refine U ?_ ?_<;>intro cC;·exact(dC∘K2) Nx
 have a16:¬P6 s r p:=by rw[P6];omega
 apply hN∘K2∘cE;refine cD rfl (aEJ r t _ _ M fH) ?_;apply(nK);refine U ?_ ?_<;>intro dX;·exact(dC∘K2) aRQ
 have W:rV s c.l aA.l r p t=qW s c.l aA.l r.dN t:=by rw[rV,if_neg aQ,if_neg D,if_neg a16,if_neg Cg]
 apply hN∘a0O∘gU∘gU∘gK;refine cD rfl (a6w s c aA r.dN t _ _ h bH j1 fH gA) ?_;apply(j7);refine U ?_ ?_<;>intro dY;·apply dC∘K2∘tQ;refine bQ L R MO ?_;exact⟨by rw[Qi W dY,W],rfl,rfl⟩
 exact(e0∘lD∘vZ∘vZ∘NB∘K2) aTc
def a1n(h:A->B:=by exact aI mM rfl):=h
def aDN(h:A->B:=by exact aI Il rfl):=h
def aKx(h:B:=by exact⟨.nil,.nil,0,by rw[W];rfl,⟨J.iJ,J.iJ⟩,λh=>by omega,by rw[mE,mE];rfl,rfl⟩):=h
def a6E(h:A->B:=by exact bE O2 rfl rfl rfl):=h
def a5v(h:A->B:=by exact bE oS rfl rfl rfl):=h
def a4L(h:A->B:=by exact bE Ol rfl rfl rfl):=h
def aZT(h:A->B:=by exact bE (FB aY) rfl rfl rfl):=h
def aZ5(h:A->B:=by exact jH (j5 N (p) (⟨x.bG,x.cZ,x.c1,true,x.bY⟩) rfl rfl rfl rfl cF bR bD bR aW aB aB)):=h
def aYD(h:A->B:=by exact jH (j5 N ((⟨p.o,(p.l.set s.toNat ⟨x.bG,x.cZ,x.c1,true,x.bY⟩)⟩:J bS)) (⟨x.bG,t,x.c1,true,x.bY⟩) rfl rfl rfl rfl cF bR bD bR aW aB aB)):=h
def aWD(h:A->B:=by exact jH (j5 N ((⟨p.o,((p.l.set s.toNat ⟨x.bG,x.cZ,x.c1,true,x.bY⟩).set s.toNat ⟨x.bG,t,x.c1,true,x.bY⟩)⟩:J bS)) (⟨x.bG,t,0,true,x.bY⟩) rfl rfl rfl rfl cF bR bD bR aW aB aB)):=h
def aZH(h:A->B:=by exact jH (j5 N ((⟨p.o,(((p.l.set s.toNat ⟨x.bG,x.cZ,x.c1,true,x.bY⟩).set s.toNat ⟨x.bG,t,x.c1,true,x.bY⟩).set s.toNat ⟨x.bG,t,0,true,x.bY⟩)⟩:J bS)) (⟨x.bG,t,0,true,false⟩) rfl rfl rfl rfl cF bR bD bR aW aB aB)):=h
def aU5(h:B:=by exact⟨⟨p.o,(((p.l.set s.toNat ⟨x.bG,x.cZ,x.c1,true,x.bY⟩).set s.toNat ⟨x.bG,t,x.c1,true,x.bY⟩).set s.toNat ⟨x.bG,t,0,true,x.bY⟩).set s.toNat ⟨x.bG,t,0,true,false⟩⟩,q,f.cB,by rw[W];simp only[J.val,q0],⟨B4,gR⟩,λ_=>⟨by rw[Kr,aBe,<-eI];show((((p.l.set _ _).set _ _).set _ _).set _ _)=_;rw[xQ,xQ,xQ],fT,rfl⟩,rfl,rfl⟩):=h
def aEW(h:A->B:=by exact bE (by first|exact j4 N rfl rfl rfl rfl i9 (i:=(q.l.getD i 0).toNat) dA D|exact i5 N rfl rfl rfl rfl (i:=(q.l.getD i 0).toNat) dA D) rfl rfl rfl):=h
def aWj(f:hJ)(s t:Int)(L:aR)(R:aO)(aF:k0 f R):
 aM prog 274 [f.val,.int .i64 s,.int .i64 t].toArray L R (λv E G=>∃(p:J bS) (q:J Int) (r:Int),v=.tuple #[.agg #[p.val,q.val,.int .i64 r],.int .i64 (y3 f.aZ.l f.a2.l f.cB s t)]/\(p.ok 5 bS.cells/\q.ok 1 a1)/\
  (y3 f.aZ.l f.a2.l f.cB s t=0->p.l=Kr f.aZ.l s t/\q.l=f.a2.l/\r=f.cB)/\q.L 3 a1++(p.L 76 bS.cells++L)=E/\R=G):=by
 have jB:=aF.Y;refine b6 64 call274 func274 rfl rfl rfl ?_;apply(dB);intro eS;apply(dZ);intro i1;apply hH∘a1n∘lD;refine cD rfl (aJa f s t _ _ aF) ?_;apply(j7);refine U ?_ ?_<;>intro aQ;·
  apply dC∘aDN∘tQ;refine bQ L R rJ ?_;have W:y3 f.aZ.l f.a2.l f.cB s t=u7 f.aZ.l f.a2.l f.cB s t:=by rw[y3,if_pos aQ]
  exact aKx
 have v8:=a4C (Decidable.not_not.1 aQ);have bH:=xZ v8.1;have GL:=bH.A7;have sP:=bH.w1;have aNc:=v8.2.1;have KA:=bH.up s.toNat D;apply e0∘a1n;refine dT rfl (a1m f _ _ aF D) rfl ?_;rintro v E G ⟨p,q,rfl,⟨iF,gR⟩,eI,fT,rfl,rfl⟩;apply(dZ);intro jR;apply(HT);have lK:p.l.length=f.aZ.l.length:=by rw[eI]
 have b7:=bJ (l:=p.l) (k:=s.toNat) default D;obtain⟨x,K⟩:∃x,x=p.l.getD s.toNat default:=⟨_,rfl⟩;rw[<-K]at b7;rw[<-eI,<-K]at KA;have aBe:f.aZ.l.getD s.toNat default=x:=by rw[K,eI]
 apply eB∘gK;refine aI Ww rfl ?_;apply T8∘CB;refine gZ N [0,1,2,3,4,5,6,7,8,9,10,11,12,13,14,15,16,17,18,19,20,21,22,23] _ dO bI hA ?_;apply PW∘a6E;refine bE KU rfl rfl rfl ?_;apply(sS);refine lQ (k:=30) aY (λhD=>?_) (λhD=>?_);·
  replace hD:=bB hD;iterate 17 apply(iU)
  apply(l2);refine vS rfl ?_;exact aRG
 replace hD:=bB hD;apply PW∘a6E;refine bE KU rfl rfl rfl ?_;apply(sS);refine lQ (k:=36) aY (λpE=>?_) (λpE=>?_);·
  replace pE:=bB pE;have b3F:=bJ (l:=f.aZ.l) (k:=x.bG.toNat) default D;apply g7∘PW∘a6E;refine bE aQM rfl rfl rfl ?_;apply(z7);refine bE KU rfl rfl rfl ?_;apply KJ∘l2;refine U ?_ ?_<;>intro bL;·exact aRG
  exact aSA
 replace pE:=bB pE;iterate 10 apply(iU)
 apply KJ∘l2;refine MX rfl ?_;exact aSA
def a4I{Y:List bS}{l:List Int}{i:Nat}: ∀(m:Nat),i+m<=l.length->(∀j,i<=j->j<l.length->(Y.getD (l.getD j 0).toNat default).c1=1)->PC Y l (i+m)=PC Y l i
 |0,_,_=>rfl
 |m+1,h,k=>by rw[<-We,Yx D,if_neg (by rw[k _ D D];decide),a4I m D k]
def aZv{Y:List bS}{l:List Int}{i:Nat}(h:i<l.length)(k:∀j,i+1<=j->j<l.length->(Y.getD (l.getD j 0).toNat default).c1=1)(aE:(Y.getD (l.getD i 0).toNat default).c1≠1):PG Y l=l.getD i 0:=by
 have e:PG Y l=PC Y l l.length:=by rw[PC,Hv];rfl
 have:=a4I (Y:=Y) (l:=l) (i:=i+1) (l.length-(i+1)) D k;rw[show i+1+(l.length-(i+1))=l.length by omega]at this;rw[e,this,Yx h,if_pos aE]
def aXe{Y:List bS}{l:List Int}(k:∀j,0<=j->j<l.length->(Y.getD (l.getD j 0).toNat default).c1=1):PG Y l=l.getD 0 0:=by
 have e:PG Y l=PC Y l l.length:=by rw[PC,Hv];rfl
 have:=a4I (Y:=Y) (l:=l) (i:=0) l.length D k;rw[MD]at this;rw[e,this];rfl
def aIv(f:hJ)(s:Int)(L:aR)(R:aO)(aF:k0 f R)(i2:jS f.aZ.l f.a2.l f.cB=0)(aH:0<=s/\s<f.aZ.l.length):
 aM prog 222 [f.val,.int .i64 s].toArray L R (λv E G=>v=.int .i64 (PG f.aZ.l (vU f.aZ.l f.a2.l f.cB s))/\L=E/\R=G):=by
 have jB:=aF.Y;have bH:=xZ i2;refine b6 32 call222 func222 rfl rfl rfl ?_;apply(dB);intro eH;apply mO∘a1n∘cE;refine dT rfl (a67 f s _ _ aF) rfl ?_;rintro v E G ⟨q,rfl,gR,fT,rfl,rfl⟩;apply(HR);have sO:=Pa (Y:=f.aZ.l) (cI:=f.a2.l) (bX:=f.cB) (s:=s);rw[<-fT]at sO;have QV:q.l.getD 0 0=s:=by rw[fT,vU,if_neg D,Jq bH.up D D];rfl
 have WX:∀x∈q.l,0<=x/\x<f.aZ.l.length:=λx K=>by have:=Rj (Y:=f.aZ.l) (cI:=f.a2.l) (bX:=f.cB) (s:=s) (x:=x) (by rw[<-fT];exact K);omega
 refine E7 (A:=[]) (aN:=1) [] bD aW gR e8 ?_;refine eM Oc ?_;have WW:aL (dU q.V) (dU q.V::R):=aT (.head _);have Un:=jB.mono λr M=>aT (R:=dU q.V::R) (.tail _ M);apply eB∘VV∘nP;refine dS [(1,.int _ _),(2,.pointer _),(5,.slice _ _ _),(6,.int _ _)] bV λfK=>?_;refine gY ([4,6]++cN 13 18) (λg:{k:Nat//k<=q.l.length/\∀j:Nat,k<=j->j<q.l.length->(f.aZ.l.getD (q.l.getD j 0).toNat default).c1=1}=>[(6,.int .i64 (((g.1:Nat):Int)-1))]) (λg=>g.1) (⟨q.l.length,iK _,λj O X=>by omega⟩) ?_;rintro⟨k,aG,hC⟩ cH;try dsimp only
 apply(VX);refine U ?_ ?_<;>intro aQ;·
  obtain⟨i,rfl⟩:∃i,k=i+1:=⟨k-1,by omega⟩;have b3J:((i+1:Nat):Int)-1=(i:Int):=by omega
  rw[b3J];have AW:=bJ (l:=q.l) (k:=i) 0 D;have Uk:=WX _ (hV AW);have wN:=bJ (l:=f.aZ.l) (k:=(q.l.getD i 0).toNat) default D;refine eP (a8 (bK (fR (bK ?_))));refine gZ N [0,1,2,3,4,5,6,7,8,9] _ dO bI hA ?_;apply g7∘a5v∘hK∘a4L∘k4∘aEW∘z7;refine bE KU rfl rfl rfl ?_;apply(wV);refine U ?_ ?_<;>intro bL;·
   apply(SN);refine aI Ol rfl ?_;apply jG∘dM∘ON;refine lH (E:=L) (G:=R) OZ ?aP ?dI ?bO;case aP=>exact⟨by rw[<-fT,aZv D hC bL],rfl,rfl⟩
   case dI=>exact bA
   case bO=>exact λr M=>aT (.tail _ M)
  apply(Kg);exact hP ⟨i,by omega,λj O X=>by
  rcases hF i j with h|h;·exact hC j h X
  ·(obtain rfl:j=i:=by omega);omega⟩ gW bV bA eN hO
 apply(PO);refine lH (E:=L) (G:=R) OZ ?aP ?dI ?bO;case aP=>
  obtain rfl:k=0:=by omega
  exact⟨by rw[<-fT,aXe hC,QV],rfl,rfl⟩
 case dI=>exact bA
 case bO=>exact λr M=>aT (.tail _ M)
def aUR(c:a4 b8)(f:hJ)(dN a:Int)(L:aR)(R:aO)(AN:aL (sE c) R)(aF:k0 f R)(i2:jS f.aZ.l f.a2.l f.cB=0)(kK:c.l.length=f.a2.l.length):
 aM prog 273 [c.val,f.val,.int .i64 dN,.int .i64 a].toArray L R (λv E G=>v=.bool (decide (VK c.l f.aZ.l f.a2.l f.cB dN a))/\L=E/\R=G):=by
 have jB:=aF.Y;have o4:=aF.cI;have bH:=xZ i2;have sP:=bH.w1;refine b6 71 call273 func273 rfl rfl rfl ?_;apply(dB);intro gQ;apply F1∘nP;refine dS [(0,.slice _ _ _),(2,.int _ _),(3,.int _ _),(5,.pointer _),(9,.int _ _)] bV λfK=>?_;refine gY (cN 8 63) (λg:{k:Nat//k<=c.l.length/\∀j:Nat,j<k->¬Iu c.l f.aZ.l f.a2.l f.cB dN a j}=>[(9,.int .i64 ((g.1:Nat):Int))]) (λg=>c.l.length-g.1) (⟨0,by omega,λj a6=>by omega⟩) ?_;rintro⟨k,aG,hC⟩ cH;try dsimp only
 apply(uM);refine U ?_ ?_<;>intro aQ;·
  have qD:=bJ (l:=c.l) (k:=k) default D;have qG:=bJ (l:=f.a2.l) (k:=k) 0 D;refine eP (a8 (bK (fR (bK (bK (c2 ?_))))));apply lD∘sG;apply cA (Z:=[_,_,_,_,_,_]) (j:=3) (a9:=22) rfl rfl aB rfl aY rfl;·intro eR;replace eR:=bB eR;apply(h9);refine aI pL rfl ?_;exact(sH) I0
  intro h8;apply(b9);refine U ?_ ?_<;>intro bL;·
   refine mD (mF (mB (a8 (c2 ?_))));apply(M8);exact hP ⟨k+1,by omega,λj a6=>by
   rcases hF j k with h|h;·exact hC j h
   ·
    (obtain rfl:j=k:=by omega);rintro⟨⟨O,X⟩,_⟩;rcases bL with aU|aU;·exact O aU
    ·rw[X]at aU;cases aU⟩ gW bV bA eN hO
  apply(wW);refine gZ N [0,1,2,3,4,5,6,7] _ dO bI hA ?_;refine bE mM rfl rfl rfl ?_;apply HQ∘k4;refine tP rfl (a67 f (f.a2.l.getD k 0) _ _ aF) rfl rfl ?_;rintro v E G ⟨q,rfl,gR,fT,rfl,rfl⟩;refine⟨bA,iQ,?_⟩;refine bE zT rfl rfl rfl ?_;apply(IP);have sO:=Pa (Y:=f.aZ.l) (cI:=f.a2.l) (bX:=f.cB) (s:=f.a2.l.getD k 0);rw[<-fT]at sO;have WX:∀x∈q.l,0<=x/\x<f.aZ.l.length:=λx K=>by have:=Rj (Y:=f.aZ.l) (cI:=f.a2.l) (bX:=f.cB) (s:=f.a2.l.getD k 0) (x:=x) (by rw[<-fT];exact K);omega
  refine E7 (A:=[]) (aN:=1) [] bD aW gR e8 ?_;refine eM Oc ?_;have WW:aL (dU q.V) (dU q.V::R):=aT (.head _);have kY:∀r∈R,aL r (dU q.V::R):=λr M=>aT (.tail _ M);have Un:=jB.mono kY;apply eB∘F1∘nP;refine FP (cN 8 63) G1 [(9,.int _ _),(10,.slice _ _ _),(11,.bool _),(12,.int _ _)] bV λoA=>?_;refine gY ([11,12]++cN 37 27) (λg:{i:Nat×Bool//i.1<=q.l.length/\i.2=(q.l.take i.1).any (NR f.aZ.l a)}=>[(12,.int .i64 ((g.1.1:Nat):Int)),(11,.bool g.1.2)]) (λg=>q.l.length-g.1.1) (⟨(0,false),by dsimp only;omega,rfl⟩) ?_;rintro⟨⟨i,h⟩,aE,b4⟩ cH;try dsimp only
  dsimp only at aE b4;apply(uM);refine U ?_ ?_<;>intro cC;·
   have AW:=bJ (l:=q.l) (k:=i) 0 D;have Uk:=WX _ (hV AW);have wN:=bJ (l:=f.aZ.l) (k:=(q.l.getD i 0).toNat) default D;(have cT:(q.l.take (i+1)).any (NR f.aZ.l a)=(h||NR f.aZ.l a (q.l.getD i 0)):=by rw[ME,AW,aCt,List.any_append,<-b4];simp);refine eP (a8 (bK (fR ?_)));refine gZ N [0,1,2,3,4,5,6,7,8,9,10,11,12,13,14,15,16,17,18,19,20,21] _ dO bI hA ?_;apply sS∘sS;refine lQ (k:=44) aY (λB3=>?_) (λB3=>?_);·replace B3:=bB B3;(have cY:true=(q.l.take (i+1)).any (NR f.aZ.l a):=by rw[cT,B3];rfl);(iterate 18 apply(iU));exact aCY
   replace B3:=bB B3;apply a5v∘hK∘a4L∘k4∘hK;refine bE KU rfl rfl rfl ?_;apply(sS);refine lQ (k:=51) aY (λhM=>?_) (λhM=>?_);·replace hM:=bB hM;(have cY:decide ((f.aZ.l.getD (q.l.getD i 0).toNat default).c1= -1)=(q.l.take (i+1)).any (NR f.aZ.l a):=by rw[cT,B3,NR,Bool.false_or];exact decide_eq_decide.2 ⟨λe=>⟨hM,e⟩,λe=>e.2⟩);apply g7∘a5v∘hK∘a4L∘k4∘aEW∘z7;refine bE BA rfl rfl rfl ?_;exact(KJ) aCY
   replace hM:=bB hM;(have cY:false=(q.l.take (i+1)).any (NR f.aZ.l a):=by rw[cT,B3,NR,Bool.false_or,decide_eq_false λe=>hM e.1]);(iterate 10 apply(iU));exact(KJ) aCY
  obtain rfl:i=q.l.length:=by omega
  rw[Hv]at b4;apply n9∘h9;refine cD rfl (aZE q.V a _ _ WW) ?_;apply(dE);apply iR (Z:=[_,_]) (j:=3) (a9:=67) rfl rfl aB rfl aY rfl;·intro eR;replace eR:=bB eR;exact(dE) I0
  intro h8;apply(b9);refine U ?_ ?_<;>intro dX;·
   apply(FV);refine lH (E:=L) (G:=R) (sD rfl RJ) ?aP ?dI ?bO;case aP=>rw[fT]at dX;exact⟨by rw[decide_eq_true (p:=VK c.l f.aZ.l f.a2.l f.cB dN a) ⟨k,by omega,bL,dX.1,λ⟨y,aS,a5⟩=>by rw[<-fT]at aS;rw[dX.2]at b4;rw[List.any_eq_true.2 ⟨y,aS,a5⟩]at b4;cases b4⟩],rfl,rfl⟩
   case dI=>exact bA
   case bO=>exact kY
  apply(mT);exact hP ⟨k+1,by omega,λj a6=>by
  rcases hF j k with X|X;·exact hC j X
  ·
   (obtain rfl:j=k:=by omega);rintro⟨aU,cK,fY⟩;rw[<-fT]at cK fY;rcases dX with i7|i7;·exact i7 cK
   ·rw[b4]at i7;exact fY (List.any_eq_true.1 i7)⟩ gW bV bA kY hO
 apply(SJ);refine lG L R ?_;exact⟨by rw[decide_eq_false (p:=VK c.l f.aZ.l f.a2.l f.cB dN a)];rintro⟨j,a6,WT⟩;exact hC j D WT,rfl,rfl⟩
end Go.Proofs.YtchfclmokpbldaaGreat
