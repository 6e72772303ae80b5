/-
  Merged texts. By an AI agent.
-/
import Derived.Test.YtchfclmokpbldaaGreatSolveR
import Derived.Test.YtchfclmokpbldaaGreatComp
set_option linter.all false
set_option maxHeartbeats 4000000
set_option maxRecDepth 20000
namespace Go.Proofs.YtchfclmokpbldaaGreat
open Go.Aw Go
section
attribute [local irreducible] CJ LJ DJ Tri YV Gives U7 Kb Kp U8 RV Ke OwL.L
section
variable {A B:Prop}
def Ywf(h:A→B:=by exact J0 zja rfl):=h
def Zdf(h:A→B:=by exact J0 zGb rfl):=h
def Kmg(h:B:=by exact ⟨OwL.nil,Zga n.pipes :: V6a n.at_ :: (S ++ S0),by rw [hrn];rfl,OwL.nil_ok,by rw [hrn],by rw [Kr,yv],by rw [hR4];simp⟩):=h
def Zmf(h:A→B:=by exact J0 (Jo tb ((⟨o34,m⟩:OwL Int)) _ rfl rfl ((show _=Value.slice _ _ _ from rfl).trans zma) rfl zi (i:=i) zo zw) rfl):=h
end
def Yzc (a:XAir) (s:XSetting) (ps:Arr Int) (A:List Bool) (L:LB) (R:LS) (hm:AirR a R) (hs:SetR s R) (hps:InR (isl ps) R) (hA:Ko a=0→AiryIs a.mine A):
 Tri Tryz.prog 277 [a.val,s.val,ps.val].toArray L R (fun v M U=>∃S:LS,v=.int .i64 (Us a s ps.l A)∧L=M∧S ++ R=U):=by
 have hmp:=hm.places;refine Ua Tryz.call277 hps fun hpn=>?_;refine Ua Tryz.call277 hmp fun hmpn=>?_;refine Jd 70 Tryz.call277 Tryz.func277 rfl rfl rfl ?_;apply (Xag);intro b3;apply (qax);intro b4;apply Xau∘qa8;refine q_l rfl (Jka a _ _ hm) ?_;apply (Xbj);refine q_c ?_ ?_<;>intro hc0;·apply (Xcx);refine q_i L R ?_;exact ⟨[],by rw [Us,if_pos hc0],rfl,rfl⟩
 have h0:Ko a=0:=by omega
 have hok:=Ve h0;have hAA:=hA h0;have hmn:=hok.mine.places;apply qbo∘Xbp;refine q_l rfl (Jkb a s _ _ hm hs) ?_;apply (Xbg);refine q_c ?_ ?_<;>intro hc1;·apply (Xa1);refine q_i L R ?_;exact ⟨[],by rw [Us,if_neg hc0,if_pos zN],rfl,rfl⟩
 have hf0:J8a a s=true:=by simpa using hc1
 have hff:¬ J8a a s=false:=by rw [hf0];decide
 apply qbo∘Xaq∘Xcg∘Xaw;refine q_c ?_ ?_<;>intro hc2;·apply (Xa1);refine q_i L R ?_;exact ⟨[],by rw [Us,if_neg hc0,if_neg hff,if_pos zc],rfl,rfl⟩
 have hln:ps.l.length=a.mine.places.l.length:=by omega
 apply qbo∘Xdn;refine Jh [(2,.slice _ _ _),(3,.pointer _),(29,.slice _ _ _),(30,.int _ _),(31,.int _ _)] zg fun tq0=>?_;refine q_s ([6,9]++rg 31 11) (fun g:FS (Um) (ps.l)=>[(31,.int .i64 ((g.1:Nat):Int))]) (fun g=>(ps.l).length - g.1) ⟨0,Yk _ _⟩ ?_;rintro ⟨k0,hk0,hp0⟩ junk;try dsimp only
 apply (Xay);refine q_c ?_ ?_<;>intro hc3;·
  obtain ⟨y,hy⟩:=Ki (l:=ps.l) (k:=k0) zc;apply (qbb);refine J0 zP rfl ?_;apply qa7∘Xa2∘Xas;apply J3 (G:=[_,_]) (j:=2) (cj:=37) rfl rfl ze rfl ztb rfl;·exact zPd
  intro junk3;apply (qaf);refine q_c ?_ ?_<;>intro hc4;·apply (Xbr);refine q_i L R ?_;have hpb:=Vi hp0 hy (show Um y=some 1 from if_pos zc);exact ⟨[],by rw [Us,if_neg hc0,if_neg hff,if_neg zc,if_pos (by rw [hpb];rfl)],rfl,rfl⟩
  apply (Xbk);exact q_k ⟨k0 + 1,Ya hp0 hy (if_neg zc)⟩
 have hn0:=V9 hp0 zc;apply qbk∘Xc4;refine Ju rfl (Veb a.mine _ _ hm.mineR hok.mine (Uza h0)) rfl ?_;rintro v M U ⟨p,A2,S,rfl,hpk,hA2,hpl,rfl,rfl⟩;obtain rfl:A=A2:=hAA.unique hA2;have hfx:p.l.length=a.mine.places.l.length:=by rw [hpl,yK];exact hAA.length
 have hps2:InR (isl ps) (S ++ R):=hps.mono fun r h=>Jb (by simp [h]);have hmp2:InR (psl a.mine.places) (S ++ R):=hmp.mono fun r h=>Jb (by simp [h]);have hck:Us a s ps.l A=((List.range a.mine.places.l.length).findSome? (V3 a ps.l A)).getD 0:=by rw [Us,if_neg hc0,if_neg hff,if_neg zc,if_neg (by rw [hn0];simp)]
 apply Xbz∘qab∘Xbh;refine Jh [(2,.slice _ _ _),(10,.slice _ _ _),(47,.slice _ _ _),(48,.int _ _),(49,.int _ _)] zg fun tq1=>?_;refine q_s ([6,11,12]++rg 49 21) (fun g:FSR (V3 a ps.l A) (a.mine.places.l.length)=>[(49,.int .i64 ((g.1:Nat):Int))]) (fun g=>(a.mine.places.l.length) - g.1) ⟨0,Yh _ _⟩ ?_;rintro ⟨k1,hk1,hp1⟩ junk;try dsimp only
 apply (Xay);refine q_c ?_ ?_<;>intro hc5;·
  have hmg:=Js (l:=a.mine.places.l) (k:=k1) default zc;have hpg:p.l[k1]?=some (!(A.getD k1 false)):=by have:=hAA.length;rw [hpl,yt,Js (l:=A) (k:=k1) false zc];rfl
  have hsg:=Js (l:=ps.l) (k:=k1) 0 zc;apply Xbv∘Ywf∘Xei;intro b12;apply qad∘Xcv∘qah;apply J3 (G:=[_,_,_,_]) (j:=2) (cj:=56) rfl rfl ze rfl ztb rfl;·intro hg3;replace hg3:=qb hg3;apply (Xaj);refine J0 (Jo tb (p) _ rfl rfl rfl rfl zi (i:=k1) zo zw) rfl ?_;exact (Zdf) qai
  intro junk3;apply (qah);apply Ue (G:=[_,_,_,_,_]) (j:=8) (cj:=62) rfl rfl ze rfl ztb rfl;·intro hg9;replace hg9:=qb hg9;exact (Xaj∘Ywf∘qa7) zUd
  intro junk9;apply (qaf);refine q_c ?_ ?_<;>intro hc6;·have hnb:V3 a ps.l A k1=some 12:=if_pos ⟨by obtain ⟨h1 | h1,_⟩:=hc6;rw [K2b,h1,ycc];rw [K2b,h1];rfl,hc6.2⟩;apply (Xbr);refine q_i L (S ++ R) ?_;exact ⟨S,by rw [hck,Ul hp1 zc hnb];rfl,rfl,rfl⟩
  have hnb:V3 a ps.l A k1=none:=if_neg (fun ⟨h1,h2⟩=>by
  rcases hc6 with ⟨h3,h4⟩ | h3;·rw [K2b,h3,h4] at h1;cases h1
  ·exact h3 h2)
  apply (Xbk);exact q_k ⟨k1 + 1,Va hp1 zc (hnb)⟩
 have hn1:=V2 hp1 zc;apply (Xca);refine q_i L (S ++ R) ?_;exact ⟨S,by rw [hck,hn1];rfl,rfl,rfl⟩
def V4f {n:XNet} {a:XAir} {s:XSetting} {o:Ow} {l:List Int} {k:Nat} {A:LB} {R:LS} {vl:Value} (hvl:vl=(⟨o,l⟩:OwL Int).val) (h:HypsN n a s l k R) (hin:InB ((⟨o,l⟩:OwL Int).L 3 Jj) A) (hok:(⟨o,l⟩:OwL Int).ok 1 Jj):
 Tri Tryz.prog 240 [n.val,vl,.int .i64 (k:Int)].toArray A R (fun w M U=>w=Jme (Z4 a s true l k)∧A=M∧R=U):=by subst hvl;refine Tri.lend1 hin hok ((Zmc n a s (⟨o,l⟩:OwL Int).arr k [] _ ⟨h.pp.mono fun r hr=>Jb (.tail _ hr),h.aa.mono fun r hr=>Jb (.tail _ hr),h.is,h.ok,h.len,h.pres,h.v⟩ zRb).mono ?_);exact zZf
def Zzd {n:XNet} {a:XAir} {s:XSetting} {o:Ow} {l:List Int} {k:Nat} {A:LB} {R:LS} {vl:Value} (hvl:vl=(⟨o,l⟩:OwL Int).val) (h:HypsN n a s l k R) (hin:InB ((⟨o,l⟩:OwL Int).L 3 Jj) A) (hok:(⟨o,l⟩:OwL Int).ok 1 Jj):
 Tri Tryz.prog 239 [n.val,vl,.int .i64 (k:Int)].toArray A R (fun w M U=>w=Jme (Z4 a s false l k)∧A=M∧R=U):=by subst hvl;refine Tri.lend1 hin hok ((V4b n a s (⟨o,l⟩:OwL Int).arr k [] _ ⟨h.pp.mono fun r hr=>Jb (.tail _ hr),h.aa.mono fun r hr=>Jb (.tail _ hr),h.is,h.ok,h.len,h.pres,h.v⟩ zRb).mono ?_);exact zYf
def Z3d : Bool → FuncId
 | true=>240
 | false=>239
def Uof (up:Bool) {n:XNet} {a:XAir} {s:XSetting} {o:Ow} {l:List Int} {k:Nat} {A:LB} {R:LS} {vl:Value} (hvl:vl=(⟨o,l⟩:OwL Int).val) (h:HypsN n a s l k R) (hin:InB ((⟨o,l⟩:OwL Int).L 3 Jj) A) (hok:(⟨o,l⟩:OwL Int).ok 1 Jj):
 Tri Tryz.prog (Z3d up) [n.val,vl,.int .i64 (k:Int)].toArray A R (fun w M U=>w=Jme (Z4 a s up l k)∧A=M∧R=U):=by
 cases up with
 | true=>exact V4f hvl h hin hok
 | false=>exact Zzd hvl h hin hok
def Kjb (a:XAir) (s:XSetting) (ps:Arr Int) (up:Bool) (A:List Bool) (L:LB) (R:LS) (hm:AirR a R) (hs:SetR s R) (hps:InR (isl ps) R) (hA:Ko a=0→AiryIs a.mine A):
 Tri Tryz.prog 238 [a.val,s.val,ps.val,.func (.func (Z3d up)) #[] #[]].toArray L R (fun w M U=>∃(p:OwL Int) (S:LS),w=.tuple #[p.val,.int .i64 (Kx a s A up ps.l).1]∧p.ok 1 Jj∧p.l=(Kx a s A up ps.l).2∧p.L 3 Jj ++ L=M∧S ++ R=U):=by
 refine Jd 80 Tryz.call238 Tryz.func238 rfl rfl rfl ?_;apply (Xag);intro b4;apply (qax);intro b5;apply qc4∘Xau∘Xes;refine Ju rfl (Yzc a s ps A _ _ hm hs hps hA) rfl ?_;rintro v M U ⟨S0,rfl,rfl,rfl⟩;apply (Xbj);refine q_c ?_ ?_<;>intro hc0;·apply Xbn∘qc4∘Xav;refine q_r L (S0 ++ R) zyd ?_;exact ⟨OwL.nil,S0,by rw [Kx,if_pos hc0];rfl,OwL.nil_ok,by rw [Kx,if_pos hc0],by rw [Kr,yv],rfl⟩
 have hso:=K5a.1 (show Us a s ps.l A=0 by omega);have hok:=Ve hso.h0;have hfo:=Zea hso.hf;have hAA:=hA hso.h0;have hln:=hso.hl;have hnp:=hok.mine.places;have hrx:Kx a s A up ps.l=match Vj a s A up 200 ps.l with
  | none=>(2,[])
  | some l=>(0,l):=by rw [Kx,if_neg hc0] <;> rfl
 have hR1:∀r∈R,InR r (S0 ++ R):=fun r h=>Jb (by simp [h]);have hm1:=Vs hm hR1;have hs1:=Y3 hs hR1;apply qbv∘Xc4;refine Ju rfl (Veb a.mine _ _ hm1.mineR hok.mine (Uza hso.h0)) rfl ?_;rintro v M U ⟨p,A2,S,rfl,hpk,hA2,hpl,rfl,rfl⟩;obtain rfl:A=A2:=hAA.unique hA2;have hfx:p.l.length=a.mine.places.l.length:=by rw [hpl,yK];exact hAA.length
 have hAl:=hAA.length;have hR2:∀r∈S0 ++ R,InR r (S ++ (S0 ++ R)):=fun r h=>Jb (by simp only [yOa] at h ⊢;exact .inr h);apply qc4∘qam∘Xbp;refine Ju rfl (Ugc a s _ _ (Vs hm1 hR2) (Y3 hs1 hR2) hok hfo) rfl ?_;rintro v M U ⟨n,rfl,hn,rfl,rfl⟩;have hR3:∀r∈S ++ (S0 ++ R),InR r (Zga n.pipes :: V6a n.at_ :: (S ++ (S0 ++ R))):=fun r h=>Jb (by simp only [yT];exact .inr (.inr h));have hps3:InR (isl ps) (Zga n.pipes :: V6a n.at_ :: (S ++ (S0 ++ R))):=((hps.mono hR1).mono hR2).mono hR3;have hmp3:InR (psl a.mine.places) (Zga n.pipes :: V6a n.at_ :: (S ++ (S0 ++ R))):=((hm1.places).mono hR2).mono hR3;have hpp:InR (Zga n.pipes) (Zga n.pipes :: V6a n.at_ :: (S ++ (S0 ++ R))):=Jb (.head _);have haa:InR (V6a n.at_) (Zga n.pipes :: V6a n.at_ :: (S ++ (S0 ++ R))):=Jb (.tail _ (.head _));obtain ⟨R4,hR4⟩:∃R4,R4=Zga n.pipes :: V6a n.at_ :: (S ++ (S0 ++ R)):=⟨_,rfl⟩;rw [← hR4] at hps3 hmp3 hpp haa ⊢;apply (qaq);intro b12;apply Xbe∘qbm;refine Y6 (K6 (f:=Jj) (xs:=ps) tb rfl rfl rfl zj rfl rfl (hps3) yf zc) rfl ?_;rintro v M U ⟨o34,rfl,hok34,rfl,rfl⟩;apply Xbz∘Xat;refine Jh [(3,_),(4,.pointer _),(11,.slice _ _ _),(12,.pointer _),(13,.slice _ _ _),(14,.int _ _)] zg fun tq0=>?_;refine q_p ([8,9]++rg 14 6++rg 35 45) ((⟨fun q=>[(14,.int .i64 ((q.1.1:Nat):Int))],fun q=>(⟨o34,q.1.2⟩:OwL Int).L 3 Jj ++ (⟨b12,n.cells,221⟩ :: (p.L 4 blc ++ (⟨b5,s.cells,80⟩ :: ⟨b4,a.cells,32⟩ :: L))),fun _=>R4,fun q=>200 - q.1.1⟩:Head {q:Nat×List Int // q.1≤200∧Vj a s A up 200 ps.l=Vj a s A up (200 - q.1) q.2∧q.2.length=ps.l.length∧PresOk q.2∧(⟨o34,q.2⟩:OwL Int).ok 1 Jj})) (⟨(0,ps.l),by dsimp only;omega,rfl,rfl,hso.hp,hok34⟩) ?_;rintro ⟨⟨n1,l⟩,w1,w2,w3,w4,w5⟩ junk;try dsimp only
 dsimp only at w1 w2 w3 w4 w5;apply Xap∘Xao;refine q_c ?_ ?_<;>intro hc1;·
  have e200:200 - n1=(200 - (n1 + 1)) + 1:=by omega
  rw [e200] at w2;apply qbb∘Xdm∘qab∘Xbh;refine Uh ([8,9]++rg 14 6++rg 35 45) zG [(14,.int _ _),(15,.bool _),(41,.slice _ _ _),(42,.int _ _),(43,.int _ _)] zg fun tq1=>?_;refine K8 ([8,9,15,16,17,18,19]++rg 43 34) ((⟨fun q=>[(43,.int .i64 ((q.1.1:Nat):Int)),(15,.bool (decide (q.1.2≠l)))],fun q=>(⟨o34,q.1.2⟩:OwL Int).L 3 Jj ++ (⟨b12,n.cells,221⟩ :: (p.L 4 blc ++ (⟨b5,s.cells,80⟩ :: ⟨b4,a.cells,32⟩ :: L))),fun _=>R4,fun q=>a.mine.places.l.length - q.1.1⟩:Head {q:Nat×List Int // q.1≤a.mine.places.l.length∧Swept a s A up l q.1 q.2∧(⟨o34,q.2⟩:OwL Int).ok 1 Jj})) (⟨(0,l),by dsimp only;omega,.zero w4,w5⟩) ⟨rfl,by simp;rfl,trivial⟩ zk zJb ?_;rintro ⟨⟨i,m⟩,q1,q2,q3⟩ junk;try dsimp only
  dsimp only at q1 q2 q3;have hml:=q2.len;apply (Xay);refine q_c ?_ ?_<;>intro hc2;·
   have hgg:=Js (l:=a.mine.places.l) (k:=i) default zc;obtain ⟨fb,hfb⟩:∃fb,fb=A.getD i false:=⟨_,rfl⟩;(have hpg:p.l[i]?=some (!fb):=by rw [hpl,yt,Js (l:=A) (k:=i) false zc,hfb];rfl);have hmg:=Js (l:=m) (k:=i) 0 zc;apply (Xbv);refine J0 zVa rfl ?_;apply (Xei);intro b17;apply qad∘Xdz∘qah;apply J3 (G:=[_,_,_,_]) (j:=2) (cj:=50) rfl rfl ze rfl ztb rfl;·intro hg3;replace hg3:=qb hg3;apply (Xaj);refine J0 (Jo tb (p) _ rfl rfl rfl rfl zi (i:=i) zo zw) rfl ?_;exact (Zdf) qai
   intro junk3;apply (qaf);refine q_c ?_ ?_<;>intro hc3;·(have hfi:K2b a A i=true:=by rw [K2b,← hfb];rcases hc3 with h | h;rw [h,ycc];rw [h];rfl);refine K5 (Kk (J8 (Ja (Je ?_))));apply (Xan);exact q_k ⟨(i + 1,m),by dsimp only;omega,q2.skip hfi,q3⟩
   (have hfi:¬ K2b a A i=true:=by rw [K2b,← hfb,hc3.1,hc3.2];decide);have hH:HypsN n a s m i R4:=⟨hpp,haa,hn,hok,by omega,q2.pres,by omega⟩;apply (qbv);refine J0 zcc rfl ?_;apply qbe∘Xaj;refine Y4c (Kna rfl rfl (Uof up (o:=o34) (l:=m) ((show _=Value.slice _ _ _ from rfl).trans zma) hH zE q3)) rfl rfl ?_;rintro v M U ⟨rfl,rfl,rfl⟩;refine J0 zcc rfl ?_;apply Xbq∘Xb2∘qaw∘Xec;refine q_c ?_ ?_<;>intro hc4;·(have hv:Z4 a s up m i=none:=by simpa using hc4);(have hrn:Kx a s A up ps.l=(2,[]):=by rw [hrx,w2,Jyb (q2.fail hfi hv _ zc)]);apply Xdi∘qad;refine J6 (Ja (Ud (J1 (Jv (J1 (K9 (Jv (J1 (Jv (J1 (K9 (Jv (J1 ?_)))))))))))));refine q_r L R4 zyd ?_;exact Kmg
   obtain ⟨u,hv⟩:=Option.isSome_iff_exists.1 hc4;have hfl:=q2.flag (k:=i) zc u;apply (qcl);rw [hv];apply Xb0∘Xaj∘Zmf;refine J0 (Kc tb ((⟨o34,m⟩:OwL Int)) rfl rfl rfl zm zi yf zi ze) rfl ?_;apply (Xaw);refine q_c ?_ ?_<;>intro hc5;·apply Xcl∘qaa∘Zmf;refine V5 (Jp tb ((⟨o34,m⟩:OwL Int)) (u) rfl rfl rfl rfl zm zi yf zi zj ze ze) ?_;rintro v M U ⟨rfl,rfl⟩;apply qaz∘Xb1;exact Ka ⟨(i + 1,m.set i u),by dsimp only;omega,q2.next hfi hv,OwL.len_ok Uw q3 zq⟩ zp ⟨rfl,by dsimp only;rw [hfl,decide_eq_true (show u≠m.getD i 0 from hc5),ycc];rfl,trivial⟩ zk zJb zt
   apply (Xbk);(have hse:m.set i u=m:=by rw [show u=m.getD i 0 by simpa using hc5,Kxa]);exact q_k ⟨(i + 1,m),by dsimp only;omega,hse ▸ q2.next hfi hv,q3⟩
  obtain rfl:i=a.mine.places.l.length:=by omega
  have hsw:=q2.to;apply qbk∘Xec;refine q_c ?_ ?_<;>intro hc6;·(have hme:m=l:=by simpa using hc6);(have hrn:Kx a s A up ps.l=(0,m):=by rw [hrx,w2,hme,Vub (by rw [← hme] at hsw ⊢;exact hsw)]);apply qae∘Xc5∘Xet;refine q_r ((⟨o34,m⟩:OwL Int).L 3 Jj ++ L) R4 zyd ?_;exact ⟨⟨o34,m⟩,Zga n.pipes :: V6a n.at_ :: (S ++ S0),by rw [hrn];simp only [OwL.val,hml,w3],q3,by rw [hrn],rfl,by rw [hR4];simp⟩
  have hme:m≠l:=by simpa using hc6
  apply (Xa4);exact q_k ⟨(n1 + 1,m),by dsimp only;omega,w2.trans (Zkb hsw hme),hml.trans w3,q2.pres,q3⟩
 obtain rfl:n1=200:=by omega
 have hrn:Kx a s A up ps.l=(2,[]):=by rw [hrx,w2];rfl
 apply qbk∘qc4∘Xam;refine q_r L R4 zyd ?_;exact Kmg
def Kod (a:XAir) (s:XSetting) (ps:Arr Int) (A:List Bool) (L:LB) (R:LS) (hm:AirR a R) (hs:SetR s R) (hps:InR (isl ps) R) (hA:Ko a=0→AiryIs a.mine A):
 Tri Tryz.prog 187 [a.val,s.val,ps.val].toArray L R (fun w M U=>∃(p:OwL Int) (S:LS),w=.tuple #[p.val,.int .i64 (Kx a s A true ps.l).1]∧p.ok 1 Jj∧p.l=(Kx a s A true ps.l).2∧p.L 3 Jj ++ L=M∧S ++ R=U):=by refine Jd 14 Tryz.call187 Tryz.func187 rfl rfl rfl ?_;apply (Xag);intro b3;apply (qax);intro b4;apply qc4∘Xar∘Xes;refine Ju rfl (Kjb a s ps true A _ _ hm hs hps hA) rfl ?_;exact zFe
def J2d (a:XAir) (s:XSetting) (ps:Arr Int) (A:List Bool) (L:LB) (R:LS) (hm:AirR a R) (hs:SetR s R) (hps:InR (isl ps) R) (hA:Ko a=0→AiryIs a.mine A):
 Tri Tryz.prog 186 [a.val,s.val,ps.val].toArray L R (fun w M U=>∃(p:OwL Int) (S:LS),w=.tuple #[p.val,.int .i64 (Kx a s A false ps.l).1]∧p.ok 1 Jj∧p.l=(Kx a s A false ps.l).2∧p.L 3 Jj ++ L=M∧S ++ R=U):=by refine Jd 14 Tryz.call186 Tryz.func186 rfl rfl rfl ?_;apply (Xag);intro b3;apply (qax);intro b4;apply qc4∘Xar∘Xes;refine Ju rfl (Kjb a s ps false A _ _ hm hs hps hA) rfl ?_;exact zFe
end
section
attribute [local irreducible] CJ LJ DJ Tri YV Gives U7 Kb Kp U8 RV Ke OwL.L
section
variable {A B:Prop}
def Kaf(h:B:=by exact ⟨OwL.nil,OwL.nil,by rw [hsv];rfl,OwL.nil_ok,OwL.nil_ok,by rw [hsv],by rw [hsv],by rw [Kr,yv,yv],rfl⟩):=h
end
def Ure (a:XAir) (s:XSetting) (ps:Arr Int) (A:List Bool) (L:LB) (R:LS) (hm:AirR a R) (hs:SetR s R) (hps:InR (isl ps) R) (hA:Ko a=0→AiryIs a.mine A):
 Tri Tryz.prog 187 [a.val,s.val,ps.val].toArray L R (fun w M U=>∃p:OwL Int,w=.tuple #[p.val,.int .i64 (Kx a s A true ps.l).1]∧p.ok 1 Jj∧p.l=(Kx a s A true ps.l).2∧p.L 3 Jj ++ L=M∧R=U):=
 Tri.turn (Kod a s ps A L R hm hs hps hA) fun v M U ⟨p,S,a1,a2,a3,a4,a5⟩=>⟨M,R,yLa _,fun r h=>Jb (by rw [← a5];simp [h]),p,a1,a2,a3,a4,rfl⟩
def Zce (a:XAir) (s:XSetting) (ps:Arr Int) (A:List Bool) (L:LB) (R:LS) (hm:AirR a R) (hs:SetR s R) (hps:InR (isl ps) R) (hA:Ko a=0→AiryIs a.mine A):
 Tri Tryz.prog 186 [a.val,s.val,ps.val].toArray L R (fun w M U=>∃p:OwL Int,w=.tuple #[p.val,.int .i64 (Kx a s A false ps.l).1]∧p.ok 1 Jj∧p.l=(Kx a s A false ps.l).2∧p.L 3 Jj ++ L=M∧R=U):=
 Tri.turn (J2d a s ps A L R hm hs hps hA) fun v M U ⟨p,S,a1,a2,a3,a4,a5⟩=>⟨M,R,yLa _,fun r h=>Jb (by rw [← a5];simp [h]),p,a1,a2,a3,a4,rfl⟩
def Vid {a:XAir} {s:XSetting} {q:OwL Int} {A:List Bool} {L:LB} {R:LS} {vl:Value} (hvl:vl=q.val) (hm:AirR a R) (hs:SetR s R) (hA:Ko a=0→AiryIs a.mine A) (hin:InB (q.L 3 Jj) L) (hok:q.ok 1 Jj):
 Tri Tryz.prog 186 [a.val,s.val,vl].toArray L R (fun w M U=>∃p:OwL Int,w=.tuple #[p.val,.int .i64 (Kx a s A false q.l).1]∧p.ok 1 Jj∧p.l=(Kx a s A false q.l).2∧p.L 3 Jj ++ L=M∧R=U):=by subst hvl;have h2:=Tri.lend (S:=[isl q.arr]) (Post:=fun v M=>∃p:OwL Int,v=.tuple #[p.val,.int .i64 (Kx a s A false q.l).1]∧p.ok 1 Jj∧p.l=(Kx a s A false q.l).2∧p.L 3 Jj ++ []=M) (Spl.rest (L:=L)) (fun w G hh s hs=>by rw [List.mem_singleton.1 hs];exact Y2 hh hin hok yf zj yg) ((Zce a s q.arr A [] _ (Vs hm fun r h=>Jb (.tail _ h)) (Y3 hs fun r h=>Jb (.tail _ h)) zRb hA).mono fun v M U ⟨p,a1,a2,a3,a4,a5⟩=>⟨⟨p,a1,a2,a3,a4⟩,a5⟩);exact zwe
def Jgd (a:XAir) (s:XSetting) (A:List Bool) (L:LB) (R:LS) (hm:AirR a R) (hs:SetR s R) (hA:Ko a=0→AiryIs a.mine A) (hnp:a.mine.places.l.length≤64):
 Tri Tryz.prog 111 [a.val,s.val].toArray L R (fun w M U=>∃lo hi:OwL Int,w=.tuple #[.agg #[lo.val,hi.val],.int .i64 (Vp a s A).1]∧lo.ok 1 Jj∧hi.ok 1 Jj∧lo.l=(Vp a s A).2.1∧hi.l=(Vp a s A).2.2∧lo.L 3 Jj ++ (hi.L 3 Jj ++ L)=M∧R=U):=by
 have hmp:=hm.places;have hzok:∀b,(⟨.own b a.mine.places.l.length [],List.replicate a.mine.places.l.length 0⟩:OwL Int).ok 1 Jj:=fun b=>Yj yf zF;refine Jd 49 Tryz.call111 Tryz.func111 rfl rfl rfl ?_;apply (Xag);intro b2;apply (qax);intro b3;apply (qaq);intro b4;apply (Xdf);refine Kg tb [0,1,2,3,4,5,6,7,8,9,10,11,12] ([Blk.mk b3 _ _,Blk.mk b2 _ _]) Kn zf zk ?_;apply qbc∘qbd∘Xdy;refine Kq zHb rfl rfl rfl ?_;refine V7a zoc rfl rfl rfl ?_;rintro v M U ⟨b16,rfl,rfl,hR16⟩;replace hR16:=hR16.symm;subst hR16;apply (qa1);refine Vn rfl (Vid (q:=⟨.own b16 a.mine.places.l.length [],List.replicate a.mine.places.l.length 0⟩) (Jjd (α:=Int)).symm hm hs hA (Vcd (f:=Jj) (x:=0) rfl) (hzok b16)) rfl rfl ?_;rintro v M U ⟨p,rfl,hpk,hpl,rfl,rfl⟩;refine ⟨zk,zu,?_⟩;replace hpl:p.l=(Kx a s A false (List.replicate a.mine.places.l.length 0)).2:=hpl;refine Kq zcc rfl rfl rfl ?_;refine Kq zkc rfl rfl rfl ?_;refine Kq zkc rfl rfl rfl ?_;refine Kq (Ux zvb) rfl rfl rfl ?_;apply (qcg);refine J9 (Ja (Ji (Ji ?_)));refine Yq (A:=[]) (wd:=1) [] yf zj hpk yg ?_;refine V4 zla ?_;have hm1:AirR a (isl p.arr :: R):=Vs hm fun r h=>Jb (.tail _ h);have hs1:SetR s (isl p.arr :: R):=Y3 hs fun r h=>Jb (.tail _ h);obtain ⟨x,hx⟩:∃x,x=Kx a s A false (List.replicate a.mine.places.l.length 0):=⟨_,rfl⟩;rw [← hx] at hpl ⊢;apply Xb0∘Xaw;refine q_c ?_ ?_<;>intro hc0;·
  apply Xe4∘Xc6;refine Ku (M:=L) (U:=R) zFd ?hp ?hL ?hR;case hp=>(have hsv:Vp a s A=(x.1,[],[]):=by rw [Vp];dsimp only;rw [← hx,if_pos hc0]);exact Kaf
  case hL=>exact zk
  case hR=>exact fun r h=>Jb (by simp [h])
 apply qbv∘Xes;refine Ju rfl (Ure a s p.arr A _ _ hm1 hs1 zRb hA) rfl ?_;rintro v M U ⟨q,rfl,hqk,hql,rfl,rfl⟩;replace hql:q.l=(Kx a s A true p.l).2:=hql;obtain ⟨y,hy⟩:∃y,y=Kx a s A true p.l:=⟨_,rfl⟩;rw [← hy] at hql ⊢;have hxy:y=Kx a s A true x.2:=by rw [hy,hpl]
 refine J0 zcc rfl ?_;apply Xe3∘Xau∘qaa∘Xaw;refine q_c ?_ ?_<;>intro hc1;·
  apply Xe4∘Xc6;refine Ku (M:=L) (U:=R) zFd ?hp ?hL ?hR;case hp=>(have hsv:Vp a s A=(y.1,[],[]):=by rw [Vp];dsimp only;rw [← hx,if_neg hc0,← hxy,if_pos hc1]);exact Kaf
  case hL=>exact zk
  case hR=>exact fun r h=>Jb (by simp [h])
 apply qbv∘Xes;refine Ju rfl (Vid (q:=q) rfl hm1 hs1 hA zE hqk) rfl ?_;rintro v M U ⟨u,rfl,huk,hul,rfl,rfl⟩;obtain ⟨z,hz⟩:∃z,z=Kx a s A false q.l:=⟨_,rfl⟩;rw [← hz] at hul ⊢;have hyz:z=Kx a s A false y.2:=by rw [hz,hql]
 refine J0 zcc rfl ?_;apply Xe3∘Xau∘qaa∘Xaw;refine q_c ?_ ?_<;>intro hc2;·
  apply Xe4∘Xc6;refine Ku (M:=L) (U:=R) zFd ?hp ?hL ?hR;case hp=>(have hsv:Vp a s A=(z.1,[],[]):=by rw [Vp];dsimp only;rw [← hx,if_neg hc0,← hxy,if_neg hc1,← hyz,if_pos hc2]);exact Kaf
  case hL=>exact zk
  case hR=>exact fun r h=>Jb (by simp [h])
 apply Xdx∘qbm;refine J0 zMb rfl ?_;apply (Xc7);refine Ku (M:=u.L 3 Jj ++ (q.L 3 Jj ++ L)) (U:=R) zFd ?hp ?hL ?hR;case hp=>exact zqe
 case hL=>exact zk
 case hR=>exact fun r h=>Jb (by simp [h])
end
section
structure FlowTo (a:XAir) (s:XSetting) (b:XBounds) (A:List Bool) (n:XNet) (k:Nat) (l:List XSpan):Prop where
 len:l.length=a.mine.roads.l.length
 don:∀(j:Nat) (p:XPipe),j < k→n.pipes.l[j]?=some p→l[p.num.toNat]?=some (Uo a s b A p.num.toNat)
 non:∀i:Nat,i < a.mine.roads.l.length→(∀(j:Nat) (p:XPipe),j < k→n.pipes.l[j]?=some p→p.num.toNat≠i)→l[i]?=some ⟨0,0⟩
def FlowTo.zero (a:XAir) (s:XSetting) (b:XBounds) (A:List Bool) (n:XNet):FlowTo a s b A n 0 (List.replicate a.mine.roads.l.length ⟨0,0⟩):=
 ⟨by simp,fun j p hj=>by omega,fun i hi _=>by rw [yL,if_pos hi]⟩
def FlowTo.next {a:XAir} {s:XSetting} {b:XBounds} {A:List Bool} {n:XNet} {k:Nat} {l:List XSpan} (h:FlowTo a s b A n k l) {p:XPipe} (hp:n.pipes.l[k]?=some p) (hr:p.num.toNat < a.mine.roads.l.length) {x:XSpan} (hx:x=Uo a s b A p.num.toNat):FlowTo a s b A n (k + 1) (l.set p.num.toNat x):=by
 have hl:=h.len;subst hx;refine ⟨by simp [hl],fun j q hj hq=>?_,fun i hi hn=>?_⟩;·
  rw [yE];split;·rename_i e;rw [if_pos zc,e]
  ·
   rename_i e;rcases yk j k with h1 | h1;·exact h.don j q h1 hq
   ·(obtain rfl : j = k := by omega);rw [hp] at hq;cases hq;exact absurd rfl e
 ·rw [yW (hn k p zc hp)];exact h.non i hi fun j q hj hq=>hn j q zc hq
def FlowTo.done {a:XAir} {s:XSetting} {b:XBounds} {A:List Bool} {n:XNet} {l:List XSpan} (h:FlowTo a s b A n n.pipes.l.length l) (hn:NetIs a s n):l=(List.range a.mine.roads.l.length).map (Uo a s b A):=by
 have hl:=h.len;refine yfa fun i=>?_;rcases yk i a.mine.roads.l.length with hi | hi;·
  rw [yt, yZ hi];show _=some (Uo a s b A i);cases hc:(a.mine.roads.l.getD i default).closed with
  | true=>rw [Uo,if_pos hc];refine h.non i hi fun j p hj hp e=>?_;have:=(hn.open (yi hp)).2;rw [e,hc] at this;cases this
  | false=>obtain ⟨j,p,hj,hp⟩:=hn.find (r:=(i:Int)) zc (by rw [yz];exact hc);have:=h.don j p (List.getElem?_eq_some_iff.1 hj).1 hj;rw [hp,yz] at this;exact this
 ·rw [yq zc,yq zH]
end
end Go.Proofs.YtchfclmokpbldaaGreat
