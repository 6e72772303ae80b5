/-
  Statements about the whole: air. By an AI agent; no person has read it.
-/
import Derived.Test.YtchfclmokpbldaaGreatTrueP
import Derived.Test.YtchfclmokpbldaaGreatWriteW
import Derived.Test.YtchfclmokpbldaaGreatCircA
import Derived.Test.YtchfclmokpbldaaGreatAwakeP
import Derived.Test.YtchfclmokpbldaaGreatDraws
set_option linter.all false
set_option maxHeartbeats 4000000
namespace Go.Proofs.YtchfclmokpbldaaGreat
open Go.Aw Go
section
variable {A B:Prop}
def Jtb(h:A→B:=by exact Jy zK rfl):=h
def Kgb(h:A→B:=by exact K8 zK rfl rfl):=h
def Voe(h:A→B:=by exact K8 zrd rfl rfl):=h
def Zfe(h:A→B:=by exact Jy zR rfl):=h
def Jsf(h:A→B:=by exact K8 zIb rfl rfl):=h
def Jbf(h:A→B:=by exact K8 zOb rfl rfl):=h
def Zoe(h:A→B:=by exact Kwa rfl (Kic a.mine x.flows i _ _ hA9.mineR hxf9 (Jqa hMA.err) za) rfl rfl):=h
def Z6f(h:A→B:=by exact Jy zAb rfl):=h
end
structure AirS (fl:List Int) (j:Nat) (s:XSens) (r:Int):Prop where
 ad:s.address=(j:Int)
 tg:0≤s.target∧s.target < fl.length
 kd:s.kind=3
 err:Uv s=0
 rng:0≤r∧r≤65535
 hit:Kze s (fl.getD s.target.toNat 0) r
structure AirTo (fl:List Int) (n:Nat) (R0:LS) (i k:Nat) (sn:OwL XSens) (bs:OwL Int) (rs:List Int) (S:LS):Prop where
 il:i≤fl.length
 kl:k≤n
 sok:sn.ok 8 XSens.cells
 bok:bs.ok 1 Yb
 len:rs.length=sn.l.length
 le:sn.l.length≤i
 at_:∀(j:Nat) (s:XSens),sn.l[j]?=some s→AirS fl j s (rs.getD j 0)
 byt:bs.l=V9 rs rs.length
 sub:∀r∈R0,InR r S
def AirTo.zero {fl:List Int} {n:Nat} {R0:LS} {k:Nat} (hk:k≤n):AirTo fl n R0 0 k OwL.nil OwL.nil [] R0:=
 ⟨yea _,hk,OwL.nil_ok,OwL.nil_ok,rfl,ym _,(fun j s h=>by cases h),rfl,fun r hr=>Ja hr⟩
def AirTo.skip {fl:List Int} {n:Nat} {R0:LS} {i k k':Nat} {sn:OwL XSens} {bs:OwL Int} {rs:List Int} {S:LS} (h:AirTo fl n R0 i k sn bs rs S) (hi:i < fl.length) (hk:k'≤n):AirTo fl n R0 (i + 1) k' sn bs rs S:=
 ⟨hi,hk,h.sok,h.bok,h.len,Nat.le_succ_of_le h.le,h.at_,h.byt,h.sub⟩
def AirTo.more {fl : List Int} {n : Nat} {R0 : LS} {i k k' : Nat} {sn : OwL XSens} {bs : OwL Int} {rs : List Int} {S : LS} (h : AirTo fl n R0 i k sn bs rs S) (hi : i < fl.length) (hk : k' ≤ n) {s : XSens} {r : Int} (hs : AirS fl sn.l.length s r) {o1 o2 : Ow} {b : List Int} (hb : b = V0 (V5 sn.l.length r)) {S' : LS}
 (h1:(⟨o1,sn.l ++ [s]⟩:OwL XSens).ok 8 XSens.cells) (h2:(⟨o2,bs.l ++ b⟩:OwL Int).ok 1 Yb) (hS:∀r∈S,InR r S'):AirTo fl n R0 (i + 1) k' ⟨o1,sn.l ++ [s]⟩ ⟨o2,bs.l ++ b⟩ (rs ++ [r]) S':=by
 have hl:=h.len;have hle:=h.le;refine ⟨hi,hk,h1,h2,by simp [hl],by simp only [yl,yA,yfa];omega,?_,?_,fun r hr=>(h.sub r hr).mono hS⟩;·
  refine Zmd (P:=fun j s=>AirS fl j s ((rs ++ [r]).getD j 0)) (fun j t ht=>?_) ?_;·have hj := (List.getElem?_eq_some_iff.1 ht).1;rw [yh,yG za,← yh];exact h.at_ j t ht
  ·rw [← hl, yh, yJ (ym _), yub];rw [hl];exact hs
 ·show bs.l ++ b = _;rw [yl,yx,Y3c,h.byt,hb,hl]
def AirTo.rngs {fl:List Int} {n:Nat} {R0:LS} {i k:Nat} {sn:OwL XSens} {bs:OwL Int} {rs:List Int} {S:LS} (h:AirTo fl n R0 i k sn bs rs S):∀j:Nat,j < rs.length→0≤rs.getD j 0∧rs.getD j 0≤65535:=fun j hj=>by
 have hg:=Jn (l:=sn.l) (k:=j) default (by have:=h.len;omega)
 exact (h.at_ j _ hg).rng
def Vyg {fl:List Int} {S:List XSens} {rs:List Int} (hS:∀(j:Nat) (s:XSens),S[j]?=some s→AirS fl j s (rs.getD j 0)) {j:Nat} (hj:j < S.length):Jla S (j:Int)=(j:Int):=by
 refine Jxd (.inr ⟨by omega,?_,fun i h1 h2=>?_⟩);·have hg := Jn (l := S) (k := j) default hj;show (S.getD j default).address=_;exact (hS j _ hg).ad
 ·have hg := Jn (l := S) (k := i) default za;rw [(hS i _ hg).ad];omega
def Uig {fl:List Int} {S:List XSens} {rs:List Int} (hS:∀(j:Nat) (s:XSens),S[j]?=some s→AirS fl j s (rs.getD j 0)) {j:Nat} (hj:j < S.length):
 Vm S (V5 j (rs.getD j 0)) 10=0∧J1b S (V5 j (rs.getD j 0)) 10=⟨(j:Int),10,Yk (S.getD j default) (rs.getD j 0)⟩:=by
 have h1:=Vyg hS hj;have hA:=hS j _ (Jn (l:=S) (k:=j) default hj);have hr:=hA.rng;constructor;·
  rw [Vm, if_neg ze];simp only [V5,h1];rw [if_neg (by
   intro h;rcases h with h | h;·omega
   ·exact h hA.err),if_neg ze,if_neg zo]
 ·rw [J1b];simp only [V5,h1];rw [if_pos trivial];show (⟨(j:Int),10,Yk (S.getD j default) (rs.getD j 0 / 256 * 256 + rs.getD j 0 % 256)⟩:XMeas)=_;rw [show rs.getD j 0 / 256 * 256 + rs.getD j 0 % 256=rs.getD j 0 by omega]
structure MeasA (fl:List Int) (S:List XSens) (m:List XMeas):Prop where
 w:Vsg fl S m
 ok:∀z∈m,K9a z
def MeasA.next {fl:List Int} {S:List XSens} {rs:List Int} {m:List XMeas} (h:MeasA fl S m) (hS:∀(j:Nat) (s:XSens),S[j]?=some s→AirS fl j s (rs.getD j 0)) {j:Nat} (hj:j < S.length) {x:XMeas} (hx:x=⟨(j:Int),10,Yk (S.getD j default) (rs.getD j 0)⟩):MeasA fl S (m ++ [x]):=by
 have hA:=hS j _ (Jn (l:=S) (k:=j) default hj);obtain ⟨_,h1,h2⟩:=hA.hit;subst hx;refine ⟨Zmd (P:=fun _ (x:XMeas)=>(0≤x.sensor∧x.sensor < S.length)∧x.span.low≤fl.getD (S.getD x.sensor.toNat default).target.toNat 0∧fl.getD (S.getD x.sensor.toNat default).target.toNat 0≤x.span.high) h.w ⟨by dsimp only;omega,h1,h2⟩,fun z hz=>?_⟩;rcases List.mem_append.1 hz with hz | hz;·exact h.ok z hz
 ·rw [List.mem_singleton.1 hz];have:=Urb (S.getD j default) (rs.getD j 0);exact ⟨⟨by show (0:Int)≤10;decide,by show (10:Int)≤2147483648;decide⟩,this.1,this.2⟩
def Jre {o:List XFrame} {rs:List Int} (h:o.map XFrame.tele=Kya rs) {j:Nat} (hj:j < rs.length) {f:XFrame} (hf:o[j]?=some f):f.tele=V5 j (rs.getD j 0):=by have h1:=congrArg (fun l:List XTele=>l[j]?) h;simp only [yr,hf,Jvd hj,yEa,yUa] at h1;exact h1
def Y8e {x:XSpan} {q:Int} (h:x.low≤q∧q≤x.high):(Kpd x=1→0 < q)∧(Kpd x= -1→q < 0):=by
 rw [Kpd];repeat' split
 all_goals omega
def Z1a {m:XMine} {fl:List Int} {p:List XSpan} {C D:List Int} (h:∀j:Nat,j < fl.length→(p.getD j default).low≤fl.getD j 0∧fl.getD j 0≤(p.getD j default).high) (hn:fl.length=m.roads.l.length) (hD:CircIs m (Jbd fl) D) (hC:CircIs m p C) {x:Int} (hx:x∈D):x∈C:=
 Uye (fun i hi=>by rw [Jle za];exact h i za) hD hC hx
set_option maxRecDepth 20000
attribute [local irreducible] CJ LJ DJ Tri YV Gives U5 J2 Kn U6 RV J4 OwL.L
def Kle (y:Arr Int) (R:LS) (hy:CodesR y R):
 Tri Tryz.prog 5 [y.val].toArray [] R (fun v U J=>v=.bool true∧[]=U∧R=J):=by
 refine Je 219 Tryz.call5 Tryz.func5 rfl rfl rfl ?_;apply Xdz∘qbm;refine Jw rfl (Uze y _ _ hy) rfl ?_;rintro v U J ⟨c,rfl,hx,rfl,rfl⟩;apply qc1∘qam∘qa6;refine Jw rfl (V8g (.consL .nil) hx (yea _)) rfl ?_;rintro v U J ⟨m,k1,S,rfl,hm,hMA,hif,hid,hk1,rfl,rfl⟩;simp only [yn,yq,yv];refine Jy zSb rfl ?_;iterate 3 apply (qbs)
 apply (qaq);intro b4;apply (qaq);intro b5;apply (qaq);intro b6;iterate 3 apply (qak)
 apply (qa4);refine Zhf (A:=[]) hm hMA (fun f hf=>(hif f hf).mono fun r hr=>Ja zF) (fun f hf=>(hid f hf).mono fun r hr=>Ja zF) fun a s x R1 hMA hA hT hX hR1=>?_;apply (qb1);obtain ⟨_,hae,hF,hri,hfo⟩:=hMA.b;have hx1:CodesR (Kta y) R1:=hx.mono fun r hr=>hR1 r zF;have hR0:∀r∈R,InR r R1:=fun r hr=>hR1 r zF;have hnp:=hMA.nplaces;have hnr:=hMA.nroads;have hfn:=hF.flen;obtain ⟨A,hAA⟩:=Ype a.mine;have hxf:=hX.flows;apply qay∘Xcg;refine Jw rfl (Zqb a s A _ _ hA hT (fun _=>hAA)) rfl ?_;rintro v U J ⟨l,rfl,hlk,hll,rfl,rfl⟩;have han:=(Uwe hMA.err hMA.fit hAA).1;have hln:l.l.length=x.flows.l.length:=by rw [hll,hfn];exact Vnd hMA.err hMA.fit hAA
 have hlh:Ved x.flows.l l.l:=by rw [hll];exact ana_holds hMA.err hMA.fit hAA hF
 rw [han];refine Jy zSb rfl ?_;apply Xdf∘Xar∘Xcg∘qbe;refine q_l rfl (Koc a s x _ _ hA hT hX) ?_;rw [show V8b a s x=0 from hMA.fits];apply (Xb7);apply J6 (G:=[_,_]) (j:=5) (cj:=50) rfl rfl zb rfl zsb rfl;·intro hg6;replace hg6:=qb hg6;exact (qaa) zNd
 intro junk6;apply (qaf);refine q_c ?_ ?_<;>intro hc0;·(exfalso;simp at hc0)
 apply (qcl);refine U9 (A:=[]) (wd:=2) [] yf ze hlk yg ?_;refine U4 zQ ?_;obtain ⟨R2,hR2e⟩:∃R2,R2=Yob l.arr :: R1:=⟨_,rfl⟩;have hR2:∀r∈R1,InR r R2:=fun r hr=>Ja (by rw [hR2e];exact .tail _ hr);have hlR:InR (Yob l.arr) R2:=Ja zia;have hxf2:=hxf.mono hR2;have hx2:=hx1.mono hR2;refine J9c zfd ?_;apply qay∘Xcb∘Xbr∘Xay;refine Jm [(3,.pointer _),(4,.pointer _),(6,.pointer _),(7,.slice _ _ _),(9,.slice _ _ _),(10,.slice _ _ _),(55,.slice _ _ _),(56,.int _ _),(57,.int _ _)] zh fun tq0=>?_;refine Uh ([2]++rg 9 9++rg 57 46) ((⟨fun g=>[(57,.int .i64 ((g.1.1:Nat):Int)),(9,g.1.2.2.1.val),(10,g.1.2.2.2.1.val)],fun g=>g.1.2.2.2.1.L 5 Yb ++ (g.1.2.2.1.L 88 XSens.cells ++ (⟨b6,x.cells,82⟩ :: ⟨b5,s.cells,80⟩ :: ⟨b4,a.cells,32⟩ :: cblk c (Kta y) g.1.2.1 :: [])),fun g=>g.1.2.2.2.2.2,fun g=>x.flows.l.length - g.1.1⟩:Head {g:Nat×Nat×OwL XSens×OwL Int×List Int×LS // AirTo x.flows.l (Kta y).l.length R2 g.1 g.2.1 g.2.2.1 g.2.2.2.1 g.2.2.2.2.1 g.2.2.2.2.2})) (⟨(0,k1,OwL.nil,OwL.nil,[],R2),AirTo.zero hk1⟩) zh (by dsimp only;rw [Km,Km,yv,yv];exact yt _) zLb ?_;rintro ⟨⟨i,k,sn,bs,rs,S3⟩,hT0⟩ junk;try dsimp only
 dsimp only at hT0;have hi:=hT0.il;have hk:=hT0.kl;have hsk:=hT0.sok;have hbk:=hT0.bok;have hle:=hT0.le;have hx3:=hx2.mono hT0.sub;have hxf3:=hxf2.mono hT0.sub;apply (Xam);refine q_c ?_ ?_<;>intro hc1;·
  have hfg:=Jn (l:=x.flows.l) (k:=i) 0 za;apply Xa1∘Zfe∘Xdn∘Xar∘qa6;refine Jw rfl (Uof zA hx3 hk za) rfl ?_;rintro v U J ⟨bb,k3,rfl,hk3,rfl,rfl⟩;apply (qaf);refine q_c ?_ ?_<;>intro hc2;·refine K5 (Kj (J3 (Jb (Jh ?_))));apply (Xad);exact q_k ⟨(i + 1,k3,sn,bs,rs,S3),hT0.skip za hk3⟩
  apply qbv∘Xaq∘qaa∘qa6;refine Jw rfl (Yha zA hx3 hk3 za) rfl ?_;rintro v U J ⟨r1,k4,rfl,g1,g1',g1'',hk4,rfl,rfl⟩;have g1q:=g1' za;apply (qa6);refine Jw rfl (Yha zA hx3 hk4 za) rfl ?_;rintro v U J ⟨r2,k5,rfl,g2,g2',g2'',hk5,rfl,rfl⟩;have g2q:=g2' za;refine Jy (Ka (qs:=[(1,(Value.int _ _).cells.toList),(0,(Value.int _ _).cells.toList),(2,(Value.int _ _).cells.toList),(3,(Value.int _ _).cells.toList),(4,(Value.int _ _).cells.toList),(5,(Value.int _ _).cells.toList),(6,(Value.int _ _).cells.toList),(7,(Value.int _ _).cells.toList)]) (out:=[_,_,_,_,_,_,_,_]) tb rfl rfl rfl rfl) rfl ?_;apply (qaq);intro b13;apply Xaz∘Z6f∘qaa;refine Jw rfl (Vxd (⟨(sn.l.length:Int),3,(i:Int),-500,700,r1,r2,50⟩:XSens) (x.flows.l.getD i 0) _ _) rfl ?_;rintro v U J ⟨raw,ok,rfl,hraw,rfl,rfl⟩;refine Jy zSb rfl ?_;apply Xa7∘Xb6∘qaw∘qah∘Xbl;refine q_c ?_ ?_<;>intro hc3;·(have hok3:ok=false:=by simpa using hc3);refine K5 (Kj (J3 (Jb (Jh ?_))));apply (Xad);exact q_k ⟨(i + 1,k5,sn,bs,rs,S3),hT0.skip za hk5⟩
  have hok3:ok=true:=by simpa using hc3
  subst hok3;have hrr:=hraw.rng;have hsE:Uv (⟨(sn.l.length:Int),3,(i:Int),-500,700,r1,r2,50⟩:XSens)=0:=hraw.err rfl;have hAS:AirS x.flows.l sn.l.length (⟨(sn.l.length:Int),3,(i:Int),-500,700,r1,r2,50⟩:XSens) raw:=⟨rfl,by dsimp only;omega,rfl,hsE,hrr,by dsimp only;exact hraw.hit rfl⟩;apply qbv∘Xaq∘qaa;refine Jy (Zpa rfl rfl ze V2c) rfl ?_;apply qdg∘qaa∘qdg;refine Yv zCb rfl ?_;rintro v U J ⟨b88,rfl,rfl,hR88⟩;replace hR88:=hR88.symm;subst hR88;have e1:IntKind.u8.wrap (raw / 256)=raw / 256:=u8w za;have e2:IntKind.u8.wrap raw=raw % 256:=u8m za;rw [e1,e2];refine Uga (wd:=1) (len:=2) (cap:=2) (rows:=[Yb (raw / 256),Yb (raw % 256)]) (subs:=[]) rfl ze ze (fun r hr=>by rcases List.mem_cons.1 hr with rfl | hr;rfl;rw [List.mem_singleton.1 hr];rfl) ze rfl yg ?_;have h88:InR (bsl (⟨some ⟨b88,0,none⟩,2,[raw / 256,raw % 256]⟩:Arr Int)) (bsl (⟨some ⟨b88,0,none⟩,2,[raw / 256,raw % 256]⟩:Arr Int) :: S3):=Ja (.head _);refine Jy zGb rfl ?_;refine Jw rfl (Jod (⟨(sn.l.length:Int),1,(⟨some ⟨b88,0,none⟩,2,[raw / 256,raw % 256]⟩:Arr Int)⟩:XFrame) _ _ h88 (fun z hz=>by simp only [yR,yM,or_false] at hz;rcases hz with rfl | rfl <;> omega)) rfl ?_;rintro v U J ⟨q,rfl,hqk,hql,rfl,hqR⟩;have hw0:Zf (XFrame.tele (⟨(sn.l.length:Int),1,(⟨some ⟨b88,0,none⟩,2,[raw / 256,raw % 256]⟩:Arr Int)⟩:XFrame))=0:=by rw [Zf,if_neg zL,if_neg (by simp [XFrame.tele])]
  rw [hw0] at hql ⊢;rw [if_pos rfl] at hql;have hqR':∀r∈S3,InR r (bsl q.arr :: J):=fun r hr=>((Ja (yW (bsl (⟨some ⟨b88,0,none⟩,2,[raw / 256,raw % 256]⟩:Arr Int)) hr)).mono hqR).mono fun r hr=>Ja (.tail _ hr);have hqT:q.l=V0 (V5 sn.l.length raw):=hql;refine Jy zSb rfl ?_;apply Xdf∘Xck∘Xat;refine q_c ?_ ?_<;>intro hc4;·exact absurd trivial hc4
  refine J5 (Jb ?_);refine U9 (A:=[]) (wd:=1) [] yf ze hqk yg ?_;refine U4 zQ ?_;have hqlen:q.l.length=8:=by rw [hqT,U7a];rfl
  have hbl:bs.l.length≤1000000:=by rw [hT0.byt,Zta,hT0.len];omega
  apply Xcs∘Z6f;refine Yv zyc rfl ?_;rintro v U J ⟨b97,rfl,rfl,hR97⟩;replace hR97:=hR97.symm;subst hR97;refine Yv (Jx (f:=XSens.cells) (p:=sn) (a:=(⟨(sn.l.length:Int),3,(i:Int),-500,700,r1,r2,50⟩:XSens)) tb rfl rfl rfl rfl (hsk) zj zDb rfl zy) rfl ?_;rintro v U J ⟨o98,rfl,hok98,rfl,rfl⟩;apply qbm∘qbm;refine Yv (Zj tb bs q.arr rfl rfl rfl ze rfl rfl hbk zJb zj yf (by dsimp only [OwL.arr];omega)) rfl ?_;rintro v U J ⟨o101,rfl,hok101,rfl,rfl⟩;apply Xb2∘Xa8;exact q_k ⟨(i + 1,k5,⟨o98,_⟩,⟨o101,_⟩,rs ++ [raw],_),hT0.more za hk5 hAS hqT hok98 hok101 (fun r hr=>hqR' r hr)⟩
 obtain rfl:i=x.flows.l.length:=by omega
 apply (qc3);have hBb:BytesOk bs.l:=by rw [hT0.byt];exact Y3b hT0.rngs _ (ym _) (by have:=hT0.len;omega)
 have hbl:bs.l.length≤1000000:=by rw [hT0.byt,Zta,hT0.len];omega
 have hfd:(U2 ([] ++ bs.l) 0).out=Kya rs:=by rw [hT0.byt];exact Kyg rs 0
 refine U9 (A:=[]) (wd:=1) [] yf ze hbk yg ?_;refine U4 zQ ?_;refine U9 (A:=[]) (wd:=8) [] yf ze hsk yg ?_;refine U4 zQ ?_;refine Zcd 1 ?_;obtain ⟨R4,hR4e⟩:∃R4,R4=bsl ⟨none,0,[]⟩ :: Zbd sn.arr :: bsl bs.arr :: S3:=⟨_,rfl⟩;have hR4:∀r∈S3,InR r R4:=fun r hr=>Ja (by rw [hR4e];exact .tail _ (.tail _ (.tail _ hr)));have hnR:InR (bsl ⟨none,0,[]⟩) R4:=Ja (by rw [hR4e];exact .head _);have hsR:InR (Zbd sn.arr) R4:=Ja (by rw [hR4e];exact .tail _ (.head _));have hbR:InR (bsl bs.arr) R4:=Ja (by rw [hR4e];exact .tail _ (.tail _ (.head _)));refine J9c (show _=R4 by rw [hR4e];rfl) ?_;apply qay∘qck∘qbm;refine Jw rfl (Zlb ⟨none,0,[]⟩ bs.arr 0 _ _ hnR hbR hBb ⟨by decide,by decide⟩ (by show 0 + bs.l.length≤1000000;omega)) rfl ?_;rintro v U J ⟨pH,out,rfl,⟨hpHk,houk⟩,hpHl,houl,houd,rfl,hR5⟩;have hot:out.l.map XFrame.tele=Kya rs:=houl.trans hfd;have hol:out.l.length=sn.l.length:=by have:=congrArg List.length hot;rw [yE,Zsc] at this;rw [this];exact hT0.len
 refine Jy zSb rfl ?_;apply (Xeb);intro b18;apply qak∘Xbr∘Xaq∘Xaq∘Xat;refine q_c ?_ ?_<;>intro hc5;·(exfalso;omega)
 apply (qcl);obtain ⟨R5,hR5e⟩:∃R5,R5=J:=⟨_,rfl⟩;rw [← hR5e] at hR5 houd ⊢;have hlen:=hT0.len;have hle:=hT0.le;have hat0:=hT0.at_;have hs5:=hsR.mono hR5;apply qay∘Xbr∘Xbz;refine Jm [(3,.pointer _),(4,.pointer _),(6,.pointer _),(7,.slice _ _ _),(9,.slice _ _ _),(20,.slice _ _ _),(114,.slice _ _ _),(115,.int _ _),(116,.int _ _)] zh fun tq1=>?_;refine Uh ([2,20,22,23,24]++rg 116 17) ((⟨fun g=>[(116,.int .i64 ((g.1.1:Nat):Int)),(20,g.1.2.val)],fun g=>g.1.2.L 93 XMeas.cells ++ (out.L 118 XFrame.cells ++ (⟨b6,x.cells,82⟩ :: ⟨b5,s.cells,80⟩ :: ⟨b4,a.cells,32⟩ :: cblk c (Kta y) k :: [])),fun _=>R5,fun g=>out.l.length - g.1.1⟩:Head {g:Nat×OwL XMeas // g.1≤out.l.length∧g.2.ok 4 XMeas.cells∧g.2.l.length=g.1∧MeasA x.flows.l sn.l g.2.l})) (⟨(0,OwL.nil),yea _,OwL.nil_ok,rfl,⟨(fun i z h=>by cases h),fun z h=>by cases h⟩⟩) zh zV zLb ?_;rintro ⟨⟨j,q⟩,hj,hqk,hql,hqM⟩ junk;try dsimp only
 dsimp only at hj hqk hql hqM;apply (Xam);refine q_c ?_ ?_<;>intro hc6;·
  have hog:=Jn (l:=out.l) (k:=j) default za;have hft:=Jre hot (j:=j) za hog;have hfd5:=houd _ (yi hog);have hdc:=Uig hat0 (j:=j) za;rw [← hft] at hdc;have hdat:(out.l.getD j default).data.l=[rs.getD j 0 / 256,rs.getD j 0 % 256]:=congrArg XTele.data hft;have hrj:=hT0.rngs j za;obtain ⟨f,hfe⟩:∃f,f=out.l.getD j default:=⟨_,rfl⟩;rw [← hfe] at hog hfd5 hdc hdat;apply (qbb);refine Jy (Js tb (out) _ rfl rfl rfl rfl zg (i:=j) zk zt) rfl ?_;refine Jy (Uka (row:=[_,_,_]) tb (out) rfl rfl rfl zj zg yf zg zb zb) rfl ?_;apply (qaq);intro b22;apply Xaz∘qbm;refine Jy zxb rfl ?_;refine Jw rfl (Jlb sn.arr f 10 _ _ hs5 hfd5 (fun z hz=>by rw [hdat] at hz;simp only [yR,yM,or_false] at hz;rcases hz with rfl | rfl <;> omega) (show sn.l.length≤64 by omega)) rfl ?_;rintro v U J ⟨mm,rfl,hmm,rfl,rfl⟩;rw [hdc.1];have hme:=hmm hdc.1;have hme:=hme.trans hdc.2;refine Jy zSb rfl ?_;apply (Xeb);intro b23;apply qak∘Xck∘Xat;refine q_c ?_ ?_<;>intro hc7;·exact absurd trivial hc7
  refine J5 (Jb (Jh ?_));apply qbm∘qa8;refine Yv zFb rfl ?_;rintro v U J ⟨b130,rfl,rfl,hR130⟩;replace hR130:=hR130.symm;subst hR130;refine Yv (Jx (f:=XMeas.cells) (p:=q) (a:=mm) tb rfl rfl rfl rfl (hqk) zj zDb rfl zy) rfl ?_;rintro v U J ⟨o131,rfl,hok131,rfl,rfl⟩;apply (Xdh);exact q_k ⟨(j + 1,⟨o131,_⟩),by dsimp only;omega,hok131,by dsimp only;rw [yl,hql];rfl,hqM.next hat0 za hme⟩
 obtain rfl:j=out.l.length:=by omega
 apply (qc3);refine U9 (A:=[]) (wd:=4) [] yf ze hqk yg ?_;refine U4 zQ ?_;obtain ⟨R6,hR6e⟩:∃R6,R6=Yy q.arr :: R5:=⟨_,rfl⟩;have hR6:∀r∈R5,InR r R6:=fun r hr=>Ja (by rw [hR6e];exact .tail _ hr);have hmR:InR (Yy q.arr) R6:=Ja (by rw [hR6e];exact .head _);have hs6:=hs5.mono hR6;have h26:∀r∈R2,InR r R6:=fun r hr=>(((hT0.sub r hr).mono hR4).mono hR5).mono hR6;have hl6:=hlR.mono h26;have hx6:=hx2.mono h26;have hxf6:=hxf2.mono h26;have hmn:q.l.length≤1000:=by rw [hql];omega
 refine J9c (show _=R6 by rw [hR6e]) ?_;apply (qay);iterate 3 apply (qbm)
 apply (qa6);refine Jw rfl (Yha zA hx6 hk za) rfl ?_;rintro v U J ⟨t,k6,rfl,g6,g6',g6'',hk6,rfl,rfl⟩;have g6q:=g6' za;apply (qar);refine Jw rfl (Yxb l.arr sn.arr q.arr (10 + t) _ _ hl6 hs6 hmR (show l.l.length≤1000 by omega) (show sn.l.length≤1000 by omega) (show q.l.length≤1000 by omega) hqM.ok za) rfl ?_;rintro v U J ⟨p,wr,rfl,⟨hpk,hwk⟩,hpl,hwl,rfl,rfl⟩;have hSW:Zlf x.flows.l.length sn.l:=fun i s hs=>⟨(hat0 i s hs).tg,(hat0 i s hs).kd⟩;have hTr:=Jzd (t:=10 + t) hlh hln hSW hqM.w hF.flow q.l.length (ym _);have hw0:wr.l.length=0:=by
  have:wr.l=[]:=by rw [hwl];show Yua (Klb l.l nothingS 3 sn.l q.l (10 + t) q.l.length).bad _=[];rw [hTr.bad];exact Kvc _
  rw [this];rfl
 have hpl':p.l=(Klb l.l nothingS 3 sn.l q.l (10 + t) q.l.length).out:=hpl;have hpn:p.l.length=l.l.length:=by rw [hpl'];exact hTr.len
 have hat:=hTr.at_;rw [← hpl'] at hat;refine Jy zSb rfl ?_;apply Xdf∘Xbr∘Xaq∘qa5∘qah;apply J6 (G:=[_,_,_,_,_,_]) (j:=3) (cj:=146) rfl rfl zb rfl zsb rfl;·intro hg4;replace hg4:=qb hg4;exact (Xaq∘Xab) zNd
 intro junk4;apply (qaf);refine q_c ?_ ?_<;>intro hc8;·(exfalso;omega)
 apply (qcl);refine U9 (A:=wr.L 3 Jk) (wd:=2) [] yf ze hpk yg ?_;obtain ⟨R7,hR7e⟩:∃R7,R7=Yob p.arr :: R6:=⟨_,rfl⟩;have hR7:∀r∈R6,InR r R7:=fun r hr=>Ja (by rw [hR7e];exact .tail _ hr);have hpR:InR (Yob p.arr) R7:=Ja (by rw [hR7e];exact .head _);have h17:∀r∈R1,InR r R7:=fun r hr=>((hR2 r hr).mono h26).mono hR7;have hA7:=Zp hA h17;refine Vp (J:=R7) (yaa _ _) (fun r hr=>Ja (by rw [hR7e] at hr;exact hr)) ?_;apply qay∘Xc6∘qbm;refine Jw rfl (Jpf a.mine p.arr _ _ hA7.mineR hpR (Jqa hMA.err) (show p.l.length=_ by omega)) rfl ?_;rintro v U J ⟨C,S8,rfl,hCk,hC,rfl,rfl⟩;apply (Xd5);refine U9 (A:=[]) (wd:=1) [] yf ze hCk yg ?_;refine U4 zQ ?_;obtain ⟨R9,hR9e⟩:∃R9,R9=isl C.arr :: (S8 ++ R7):=⟨_,rfl⟩;have hR9:∀r∈R7,InR r R9:=fun r hr=>Ja (by rw [hR9e];exact .tail _ (yj _ hr));have hCR:InR (isl C.arr) R9:=Ja (by rw [hR9e];exact .head _);have hp9:=hpR.mono hR9;have h19:∀r∈R1,InR r R9:=fun r hr=>(h17 r hr).mono hR9;have hA9:=Zp hA h19;have hxf9:=hxf.mono h19;refine J9c (show _=R9 by rw [hR9e]) ?_;apply qay∘Xay;refine Jm [(4,.pointer _),(6,.pointer _),(25,.slice _ _ _),(27,.slice _ _ _),(159,.slice _ _ _),(160,.int _ _),(161,.int _ _)] zh fun tq2=>?_;refine q_s ([2,28,29,30]++rg 161 57) (fun g:{i:Nat // i≤x.flows.l.length}=>[(161,.int .i64 ((g.1:Nat):Int))]) (fun g=>x.flows.l.length - g.1) (⟨0,by omega⟩) ?_;rintro ⟨i,hi⟩ junk;try dsimp only
 apply (Xam);refine q_c ?_ ?_<;>intro hc9;·
  have hfg:=Jn (l:=x.flows.l) (k:=i) 0 za;have hpg:=Jn (l:=p.l) (k:=i) default za;have hi1:=hat i za;have hds:=Y8e hi1.1;apply Xa1∘Zfe∘Xdn∘Xag∘Xap∘Zfe∘qdl;refine q_l rfl (Kcb _ _ _) ?_;apply Xas∘Xap∘Zfe∘Xa9∘Xav;refine Yl (k:=178) zsb (fun hg8=>?_) (fun hg8=>?_);·replace hg8:=qb hg8;(exfalso;omega)
  replace hg8:=qb hg8;refine K8 zqd rfl rfl ?_;apply (Voe);refine K8 zqd rfl rfl ?_;refine K8 zR rfl rfl ?_;refine K8 (Vxa tb rfl rfl rfl) rfl rfl ?_;refine K8 zfa rfl rfl ?_;refine K8 (Unc rfl rfl) rfl rfl ?_;apply Jtb∘qah;refine Yl (k:=187) zsb (fun hg17=>?_) (fun hg17=>?_);·replace hg17:=qb hg17;(exfalso;omega)
  replace hg17:=qb hg17;refine K8 zqd rfl rfl ?_;refine K8 zsc rfl rfl ?_;refine K8 (Jr zsb) rfl rfl ?_;refine Yl (k:=190) zsb (fun hg20=>?_) (fun hg20=>?_);·
   replace hg20:=qb hg20;refine K8 zqd rfl rfl ?_;refine K8 (Uac rfl rfl) rfl rfl ?_;·
    skip
    apply Kgb∘Jtb∘qah;refine Yl (k:=195) zsb (fun hg25=>?_) (fun hg25=>?_);·replace hg25:=qb hg25;(exfalso;omega)
    replace hg25:=qb hg25;exact uaq
  replace hg20:=qb hg20;refine Jma rfl rfl ?_;refine Jma rfl rfl ?_;·
   skip
   apply Kgb∘Jtb∘qah;·
    skip
    exact uaq
 apply (qbk);refine q_l rfl (Zlc _ _) ?_;apply (Xbb);refine Kx (U:=[]) (J:=R) (Vu rfl zjd) ?hp ?hL ?hR;case hp=>exact ⟨rfl,rfl,rfl⟩
 case hL=>exact yJb _
 case hR=>exact fun r hr=>(hR0 r hr).mono h19
end Go.Proofs.YtchfclmokpbldaaGreat
