/-
  Merged texts. By an AI agent.
-/
import Derived.Test.YtchfclmokpbldaaGreatSolveR
import Derived.Test.YtchfclmokpbldaaGreatCflowR
set_option linter.all false
set_option maxHeartbeats 4000000
set_option maxRecDepth 20000
namespace Go.Proofs.YtchfclmokpbldaaGreat
open Go.Aw Go
section
attribute [local irreducible] CJ LJ DJ Tri YV Gives Uq J2 Kj Ut RV J3 OwL.L
section
variable {A B:Prop}
def Zlf(h:A→B:=by exact Jw zOa rfl):=h
def Ksg(h:A→B:=by exact Jw zJb rfl):=h
def Kwg(h:B:=by exact ⟨OwL.nil,Zja n.pipes :: Yma n.at_ :: (S ++ S0),by rw [hrn];rfl,OwL.nil_ok,by rw [hrn],by rw [Kk,yv],by rw [hR4];simp⟩):=h
def Ufg(h:A→B:=by exact Jw (Jo tb ((⟨o34,m⟩:OwL Int)) _ rfl rfl ((show _=Value.slice _ _ _ from rfl).trans (by simp only [OwL.val,hml,w3])) rfl zg (i:=i) zk zp) rfl):=h
end
def Zyc (a:XAir) (s:XSetting) (ps:Arr Int) (A:List Bool) (L:LB) (R:LS) (hm:AirR a R) (hs:SetR s R) (hps:InR (isl ps) R) (hA:Kx a=0→AiryIs a.mine A):
 Tri Tryz.prog 277 [a.val,s.val,ps.val].toArray L R (fun v U J=>∃S:LS,v=.int .i64 (Vy a s ps.l A)∧L=U∧S ++ R=J):=by
 have hmp:=hm.places;refine Vm Tryz.call277 hps fun hpn=>?_;refine Vm Tryz.call277 hmp fun hmpn=>?_;refine Je 70 Tryz.call277 Tryz.func277 rfl rfl rfl ?_;apply (Xaf);intro b3;apply (qax);intro b4;apply Xar∘qa8;refine q_l rfl (Z1 a _ _ hm) ?_;apply (Xbb);refine q_c ?_ ?_<;>intro hc0;·apply (Xdx);refine q_i L R ?_;exact ⟨[],by rw [Vy,if_pos hc0],rfl,rfl⟩
 have h0:Kx a=0:=by omega
 have hok:=V3 h0;have hAA:=hA h0;have hmn:=hok.mine.places;apply qbo∘Xct;refine q_l rfl (Jcb a s _ _ hm hs) ?_;apply (Xbj);refine q_c ?_ ?_<;>intro hc1;·apply (Xa8);refine q_i L R ?_;exact ⟨[],by rw [Vy,if_neg hc0,if_pos zL],rfl,rfl⟩
 have hf0:Uka a s=true:=by simpa using hc1
 have hff:¬ Uka a s=false:=by rw [hf0];decide
 apply qbo∘Xap∘Xce∘Xat;refine q_c ?_ ?_<;>intro hc2;·apply (Xa8);refine q_i L R ?_;exact ⟨[],by rw [Vy,if_neg hc0,if_neg hff,if_pos za],rfl,rfl⟩
 have hln:ps.l.length=a.mine.places.l.length:=by omega
 apply qbo∘Xbr;refine Jm [(2,.slice _ _ _),(3,.pointer _),(29,.slice _ _ _),(30,.int _ _),(31,.int _ _)] zh fun tq0=>?_;refine q_s ([6,9]++rg 31 11) (fun g:FS (Uv) (ps.l)=>[(31,.int .i64 ((g.1:Nat):Int))]) (fun g=>(ps.l).length - g.1) ⟨0,Kva _ _⟩ ?_;rintro ⟨k0,hk0,hp0⟩ junk;try dsimp only
 apply (Xaj);refine q_c ?_ ?_<;>intro hc3;·
  obtain ⟨y,hy⟩:=Kn (l:=ps.l) (k:=k0) za;apply (qbb);refine Jw zea rfl ?_;apply qa7∘Xau∘Xav;apply Kf (G:=[_,_]) (j:=2) (cj:=37) rfl rfl zb rfl zmb rfl;·exact zsd
  intro junk3;apply (qaf);refine q_c ?_ ?_<;>intro hc4;·apply (Xcf);refine q_i L R ?_;have hpb:=Zq hp0 hy (show Uv y=some 1 from if_pos za);exact ⟨[],by rw [Vy,if_neg hc0,if_neg hff,if_neg za,if_pos (by rw [hpb];rfl)],rfl,rfl⟩
  apply (Xaw);exact q_k ⟨k0 + 1,J7a hp0 hy (if_neg za)⟩
 have hn0:=J8a hp0 za;apply qbk∘Xd0;refine Jv rfl (V2b a.mine _ _ hm.mineR hok.mine (Kxa h0)) rfl ?_;rintro v U J ⟨p,A2,S,rfl,hpk,hA2,hpl,rfl,rfl⟩;obtain rfl:A=A2:=hAA.unique hA2;have hfx:p.l.length=a.mine.places.l.length:=by rw [hpl,yD];exact hAA.length
 have hps2:InR (isl ps) (S ++ R):=hps.mono fun r h=>Ja (by simp [h]);have hmp2:InR (psl a.mine.places) (S ++ R):=hmp.mono fun r h=>Ja (by simp [h]);have hck:Vy a s ps.l A=((List.range a.mine.places.l.length).findSome? (Yx a ps.l A)).getD 0:=by rw [Vy,if_neg hc0,if_neg hff,if_neg za,if_neg (by rw [hn0];simp)]
 apply Xb5∘qab∘Xay;refine Jm [(2,.slice _ _ _),(10,.slice _ _ _),(47,.slice _ _ _),(48,.int _ _),(49,.int _ _)] zh fun tq1=>?_;refine q_s ([6,11,12]++rg 49 21) (fun g:FSR (Yx a ps.l A) (a.mine.places.l.length)=>[(49,.int .i64 ((g.1:Nat):Int))]) (fun g=>(a.mine.places.l.length) - g.1) ⟨0,Kga _ _⟩ ?_;rintro ⟨k1,hk1,hp1⟩ junk;try dsimp only
 apply (Xaj);refine q_c ?_ ?_<;>intro hc5;·
  have hmg:=Jp (l:=a.mine.places.l) (k:=k1) default za;have hpg:p.l[k1]?=some (!(A.getD k1 false)):=by have:=hAA.length;rw [hpl,yq,Jp (l:=A) (k:=k1) false za];rfl
  have hsg:=Jp (l:=ps.l) (k:=k1) 0 za;apply Xa1∘Zlf∘Xdn;intro b12;apply qad∘Xb9∘qah;apply Kf (G:=[_,_,_,_]) (j:=2) (cj:=56) rfl rfl zb rfl zmb rfl;·intro hg3;replace hg3:=qb hg3;apply (Xaq);refine Jw (Jo tb (p) _ rfl rfl rfl rfl zg (i:=k1) zk zp) rfl ?_;exact (Ksg) qai
  intro junk3;apply (qah);apply Ui (G:=[_,_,_,_,_]) (j:=8) (cj:=62) rfl rfl zb rfl zmb rfl;·intro hg9;replace hg9:=qb hg9;exact (Xaq∘Zlf∘qa7) zvd
  intro junk9;apply (qaf);refine q_c ?_ ?_<;>intro hc6;·have hnb:Yx a ps.l A k1=some 12:=if_pos ⟨by obtain ⟨h1 | h1,_⟩:=hc6;rw [V3b,h1,yoc];rw [V3b,h1];rfl,hc6.2⟩;apply (Xcf);refine q_i L (S ++ R) ?_;exact ⟨S,by rw [hck,Yi hp1 za hnb];rfl,rfl,rfl⟩
  have hnb:Yx a ps.l A k1=none:=if_neg (fun ⟨h1,h2⟩=>by
  rcases hc6 with ⟨h3,h4⟩ | h3;·rw [V3b,h3,h4] at h1;cases h1
  ·exact h3 h2)
  apply (Xaw);exact q_k ⟨k1 + 1,Zk hp1 za (hnb)⟩
 have hn1:=Jta hp1 za;apply (Xcq);refine q_i L (S ++ R) ?_;exact ⟨S,by rw [hck,hn1];rfl,rfl,rfl⟩
def Kog {n:XNet} {a:XAir} {s:XSetting} {o:Ow} {l:List Int} {k:Nat} {A:LB} {R:LS} {vl:Value} (hvl:vl=(⟨o,l⟩:OwL Int).val) (h:HypsN n a s l k R) (hin:InB ((⟨o,l⟩:OwL Int).L 3 Jj) A) (hok:(⟨o,l⟩:OwL Int).ok 1 Jj):
 Tri Tryz.prog 240 [n.val,vl,.int .i64 (k:Int)].toArray A R (fun w U J=>w=Yjf (Kza a s true l k)∧A=U∧R=J):=by subst hvl;refine Tri.lend1 hin hok ((Yjc n a s (⟨o,l⟩:OwL Int).arr k [] _ ⟨h.pp.mono fun r hr=>Ja (.tail _ hr),h.aa.mono fun r hr=>Ja (.tail _ hr),h.is,h.ok,h.len,h.pres,h.v⟩ zFb).mono ?_);rintro v U J ⟨z,ok,rfl,hF,rfl,rfl⟩;obtain ⟨rfl,rfl⟩:=K4c (Ude h.pres true (Int.toNat k)) hF;exact zDd
def Vae {n:XNet} {a:XAir} {s:XSetting} {o:Ow} {l:List Int} {k:Nat} {A:LB} {R:LS} {vl:Value} (hvl:vl=(⟨o,l⟩:OwL Int).val) (h:HypsN n a s l k R) (hin:InB ((⟨o,l⟩:OwL Int).L 3 Jj) A) (hok:(⟨o,l⟩:OwL Int).ok 1 Jj):
 Tri Tryz.prog 239 [n.val,vl,.int .i64 (k:Int)].toArray A R (fun w U J=>w=Yjf (Kza a s false l k)∧A=U∧R=J):=by subst hvl;refine Tri.lend1 hin hok ((Z6b n a s (⟨o,l⟩:OwL Int).arr k [] _ ⟨h.pp.mono fun r hr=>Ja (.tail _ hr),h.aa.mono fun r hr=>Ja (.tail _ hr),h.is,h.ok,h.len,h.pres,h.v⟩ zFb).mono ?_);rintro v U J ⟨z,ok,rfl,hF,rfl,rfl⟩;obtain ⟨rfl,rfl⟩:=K4c (Ude h.pres false (Int.toNat k)) hF;exact zDd
def Kre : Bool → FuncId
 | true=>240
 | false=>239
def Vqf (up:Bool) {n:XNet} {a:XAir} {s:XSetting} {o:Ow} {l:List Int} {k:Nat} {A:LB} {R:LS} {vl:Value} (hvl:vl=(⟨o,l⟩:OwL Int).val) (h:HypsN n a s l k R) (hin:InB ((⟨o,l⟩:OwL Int).L 3 Jj) A) (hok:(⟨o,l⟩:OwL Int).ok 1 Jj):
 Tri Tryz.prog (Kre up) [n.val,vl,.int .i64 (k:Int)].toArray A R (fun w U J=>w=Yjf (Kza a s up l k)∧A=U∧R=J):=by
 cases up with
 | true=>exact Kog hvl h hin hok
 | false=>exact Vae hvl h hin hok
def Kxb (a:XAir) (s:XSetting) (ps:Arr Int) (up:Bool) (A:List Bool) (L:LB) (R:LS) (hm:AirR a R) (hs:SetR s R) (hps:InR (isl ps) R) (hA:Kx a=0→AiryIs a.mine A):
 Tri Tryz.prog 238 [a.val,s.val,ps.val,.func (.func (Kre up)) #[] #[]].toArray L R (fun w U J=>∃(p:OwL Int) (S:LS),w=.tuple #[p.val,.int .i64 (Ug a s A up ps.l).1]∧p.ok 1 Jj∧p.l=(Ug a s A up ps.l).2∧p.L 3 Jj ++ L=U∧S ++ R=J):=by
 refine Je 80 Tryz.call238 Tryz.func238 rfl rfl rfl ?_;apply (Xaf);intro b4;apply (qax);intro b5;apply qc4∘Xar∘Xct∘qbm;refine Jv rfl (Zyc a s ps A _ _ hm hs hps hA) rfl ?_;rintro v U J ⟨S0,rfl,rfl,rfl⟩;apply (Xbb);refine q_c ?_ ?_<;>intro hc0;·apply Xbi∘qc4∘Xao;refine q_r L (S0 ++ R) zed ?_;exact ⟨OwL.nil,S0,by rw [Ug,if_pos hc0];rfl,OwL.nil_ok,by rw [Ug,if_pos hc0],by rw [Kk,yv],rfl⟩
 have hso:=Uia.1 (show Vy a s ps.l A=0 by omega);have hok:=V3 hso.h0;have hfo:=V7b hso.hf;have hAA:=hA hso.h0;have hln:=hso.hl;have hnp:=hok.mine.places;have hrx:Ug a s A up ps.l=match Vi a s A up 200 ps.l with
  | none=>(2,[])
  | some l=>(0,l):=by rw [Ug,if_neg hc0] <;> rfl
 have hR1:∀r∈R,InR r (S0 ++ R):=fun r h=>Ja (by simp [h]);have hm1:=Zw hm hR1;have hs1:=Yoa hs hR1;apply qbv∘Xd0;refine Jv rfl (V2b a.mine _ _ hm1.mineR hok.mine (Kxa hso.h0)) rfl ?_;rintro v U J ⟨p,A2,S,rfl,hpk,hA2,hpl,rfl,rfl⟩;obtain rfl:A=A2:=hAA.unique hA2;have hfx:p.l.length=a.mine.places.l.length:=by rw [hpl,yD];exact hAA.length
 have hAl:=hAA.length;have hR2:∀r∈S0 ++ R,InR r (S ++ (S0 ++ R)):=fun r h=>Ja (by simp only [yna] at h ⊢;exact .inr h);apply Xb8∘Xct;refine Jv rfl (Vmc a s _ _ (Zw hm1 hR2) (Yoa hs1 hR2) hok hfo) rfl ?_;rintro v U J ⟨n,rfl,hn,rfl,rfl⟩;have hR3:∀r∈S ++ (S0 ++ R),InR r (Zja n.pipes :: Yma n.at_ :: (S ++ (S0 ++ R))):=fun r h=>Ja (by simp only [yca];exact .inr (.inr h));have hps3:InR (isl ps) (Zja n.pipes :: Yma n.at_ :: (S ++ (S0 ++ R))):=((hps.mono hR1).mono hR2).mono hR3;have hmp3:InR (psl a.mine.places) (Zja n.pipes :: Yma n.at_ :: (S ++ (S0 ++ R))):=((hm1.places).mono hR2).mono hR3;have hpp:InR (Zja n.pipes) (Zja n.pipes :: Yma n.at_ :: (S ++ (S0 ++ R))):=Ja (.head _);have haa:InR (Yma n.at_) (Zja n.pipes :: Yma n.at_ :: (S ++ (S0 ++ R))):=Ja (.tail _ (.head _));obtain ⟨R4,hR4⟩:∃R4,R4=Zja n.pipes :: Yma n.at_ :: (S ++ (S0 ++ R)):=⟨_,rfl⟩;rw [← hR4] at hps3 hmp3 hpp haa ⊢;apply (qaq);intro b12;apply Xaz∘qbm;refine Za (Kt (f:=Jj) (xs:=ps) tb rfl rfl rfl ze rfl rfl (hps3) yf za) rfl ?_;rintro v U J ⟨o34,rfl,hok34,rfl,rfl⟩;apply Xb5∘Xbq;refine Jm [(3,_),(4,.pointer _),(11,.slice _ _ _),(12,.pointer _),(13,.slice _ _ _),(14,.int _ _)] zh fun tq0=>?_;refine q_p ([8,9]++rg 14 6++rg 35 45) ((⟨fun q=>[(14,.int .i64 ((q.1.1:Nat):Int))],fun q=>(⟨o34,q.1.2⟩:OwL Int).L 3 Jj ++ (⟨b12,n.cells,221⟩ :: (p.L 4 blc ++ (⟨b5,s.cells,80⟩ :: ⟨b4,a.cells,32⟩ :: L))),fun _=>R4,fun q=>200 - q.1.1⟩:Head {q:Nat×List Int // q.1≤200∧Vi a s A up 200 ps.l=Vi a s A up (200 - q.1) q.2∧q.2.length=ps.l.length∧PresOk q.2∧(⟨o34,q.2⟩:OwL Int).ok 1 Jj})) (⟨(0,ps.l),by dsimp only;omega,rfl,rfl,hso.hp,hok34⟩) ?_;rintro ⟨⟨n1,l⟩,w1,w2,w3,w4,w5⟩ junk;try dsimp only
 dsimp only at w1 w2 w3 w4 w5;apply Xa6∘Xbd;refine q_c ?_ ?_<;>intro hc1;·
  have e200:200 - n1=(200 - (n1 + 1)) + 1:=by omega
  rw [e200] at w2;apply qbb∘qaz∘qaw∘qab∘Xay;refine Vw ([8,9]++rg 14 6++rg 35 45) zJ [(14,.int _ _),(15,.bool _),(41,.slice _ _ _),(42,.int _ _),(43,.int _ _)] zh fun tq1=>?_;refine Up ([8,9,15,16,17,18,19]++rg 43 34) ((⟨fun q=>[(43,.int .i64 ((q.1.1:Nat):Int)),(15,.bool (decide (q.1.2≠l)))],fun q=>(⟨o34,q.1.2⟩:OwL Int).L 3 Jj ++ (⟨b12,n.cells,221⟩ :: (p.L 4 blc ++ (⟨b5,s.cells,80⟩ :: ⟨b4,a.cells,32⟩ :: L))),fun _=>R4,fun q=>a.mine.places.l.length - q.1.1⟩:Head {q:Nat×List Int // q.1≤a.mine.places.l.length∧Swept a s A up l q.1 q.2∧(⟨o34,q.2⟩:OwL Int).ok 1 Jj})) (⟨(0,l),by dsimp only;omega,.zero w4,w5⟩) ⟨rfl,by simp;rfl,trivial⟩ zi zAb ?_;rintro ⟨⟨i,m⟩,q1,q2,q3⟩ junk;try dsimp only
  dsimp only at q1 q2 q3;have hml:=q2.len;apply (Xaj);refine q_c ?_ ?_<;>intro hc2;·
   have hgg:=Jp (l:=a.mine.places.l) (k:=i) default za;obtain ⟨fb,hfb⟩:∃fb,fb=A.getD i false:=⟨_,rfl⟩;(have hpg:p.l[i]?=some (!fb):=by rw [hpl,yq,Jp (l:=A) (k:=i) false za,hfb];rfl);have hmg:=Jp (l:=m) (k:=i) 0 za;apply (Xa1);refine Jw zV rfl ?_;apply (Xdn);intro b17;apply qad∘Xa9∘Xaa∘qah;apply Kf (G:=[_,_,_,_]) (j:=2) (cj:=50) rfl rfl zb rfl zmb rfl;·intro hg3;replace hg3:=qb hg3;apply (Xaq);refine Jw (Jo tb (p) _ rfl rfl rfl rfl zg (i:=i) zk zp) rfl ?_;exact (Ksg) qai
   intro junk3;apply (qaf);refine q_c ?_ ?_<;>intro hc3;·(have hfi:V3b a A i=true:=by rw [V3b,← hfb];rcases hc3 with h | h;rw [h,yoc];rw [h];rfl);refine K9 (Km (J6 (Jb (Jg ?_))));apply (Xad);exact q_k ⟨(i + 1,m),by dsimp only;omega,q2.skip hfi,q3⟩
   (have hfi:¬ V3b a A i=true:=by rw [V3b,← hfb,hc3.1,hc3.2];decide);have hH:HypsN n a s m i R4:=⟨hpp,haa,hn,hok,by omega,q2.pres,by omega⟩;apply (qbv);refine Jw zRb rfl ?_;apply qbe∘Xaq;refine Uic (Jha rfl rfl (Vqf up (o:=o34) (l:=m) ((show _=Value.slice _ _ _ from rfl).trans (by simp only [OwL.val,hml,w3])) hH zG q3)) rfl rfl ?_;rintro v U J ⟨rfl,rfl,rfl⟩;refine Jw zRb rfl ?_;apply Xba∘Xa7∘qaw∘qah∘Xbj;refine q_c ?_ ?_<;>intro hc4;·(have hv:Kza a s up m i=none:=by simpa using hc4);(have hrn:Ug a s A up ps.l=(2,[]):=by rw [hrx,w2,Uad (q2.fail hfi hv _ za)]);apply qae∘qc4∘qad;refine J9 (Jb (Uk (Kh (Kd (Kh (Ym (Kd (Kh (Kd (Kh (Ym (Kd (Kh ?_)))))))))))));refine q_r L R4 zed ?_;exact Kwg
   obtain ⟨u,hv⟩:=Option.isSome_iff_exists.1 hc4;have hfl:=q2.flag (k:=i) za u;apply (qcl);rw [hv];apply Xa5∘Xaq∘Ufg;refine Jw (J4 tb ((⟨o34,m⟩:OwL Int)) rfl rfl rfl zj zg yf zg zb) rfl ?_;apply (Xat);refine q_c ?_ ?_<;>intro hc5;·apply Xb3∘qaa∘Ufg;refine Vk (Jn tb ((⟨o34,m⟩:OwL Int)) (u) rfl rfl rfl rfl zj zg yf zg ze zb zb) ?_;rintro v U J ⟨rfl,rfl⟩;apply qaz∘Xa4;exact Ka ⟨(i + 1,m.set i u),by dsimp only;omega,q2.next hfi hv,OwL.len_ok K0 q3 zo⟩ zm ⟨rfl,by dsimp only;rw [hfl,decide_eq_true (show u≠m.getD i 0 from hc5),yoc];rfl,trivial⟩ zi zAb zx
   apply (Xaw);(have hse:m.set i u=m:=by rw [show u=m.getD i 0 by simpa using hc5,Zia]);exact q_k ⟨(i + 1,m),by dsimp only;omega,hse ▸ q2.next hfi hv,q3⟩
  obtain rfl:i=a.mine.places.l.length:=by omega
  have hsw:=q2.to;apply qbk∘qah∘Xbj;refine q_c ?_ ?_<;>intro hc6;·(have hme:m=l:=by simpa using hc6);(have hrn:Ug a s A up ps.l=(0,m):=by rw [hrx,w2,hme,Zkb (by rw [← hme] at hsw ⊢;exact hsw)]);apply qae∘qbm∘qc4∘qad∘qbt;refine q_r ((⟨o34,m⟩:OwL Int).L 3 Jj ++ L) R4 zed ?_;exact ⟨⟨o34,m⟩,Zja n.pipes :: Yma n.at_ :: (S ++ S0),by rw [hrn];simp only [OwL.val,hml,w3],q3,by rw [hrn],rfl,by rw [hR4];simp⟩
  have hme:m≠l:=by simpa using hc6
  apply qbj∘Xbw;exact q_k ⟨(n1 + 1,m),by dsimp only;omega,w2.trans (Vbd hsw hme),hml.trans w3,q2.pres,q3⟩
 obtain rfl:n1=200:=by omega
 have hrn:Ug a s A up ps.l=(2,[]):=by rw [hrx,w2];rfl
 apply qbk∘qc4∘Xam;refine q_r L R4 zed ?_;exact Kwg
def Uid (a:XAir) (s:XSetting) (ps:Arr Int) (A:List Bool) (L:LB) (R:LS) (hm:AirR a R) (hs:SetR s R) (hps:InR (isl ps) R) (hA:Kx a=0→AiryIs a.mine A):
 Tri Tryz.prog 187 [a.val,s.val,ps.val].toArray L R (fun w U J=>∃(p:OwL Int) (S:LS),w=.tuple #[p.val,.int .i64 (Ug a s A true ps.l).1]∧p.ok 1 Jj∧p.l=(Ug a s A true ps.l).2∧p.L 3 Jj ++ L=U∧S ++ R=J):=by refine Je 14 Tryz.call187 Tryz.func187 rfl rfl rfl ?_;apply (Xaf);intro b3;apply (qax);intro b4;apply qc4∘Xag∘Xct∘qbm;refine Jv rfl (Kxb a s ps true A _ _ hm hs hps hA) rfl ?_;exact zSd
def U9d (a:XAir) (s:XSetting) (ps:Arr Int) (A:List Bool) (L:LB) (R:LS) (hm:AirR a R) (hs:SetR s R) (hps:InR (isl ps) R) (hA:Kx a=0→AiryIs a.mine A):
 Tri Tryz.prog 186 [a.val,s.val,ps.val].toArray L R (fun w U J=>∃(p:OwL Int) (S:LS),w=.tuple #[p.val,.int .i64 (Ug a s A false ps.l).1]∧p.ok 1 Jj∧p.l=(Ug a s A false ps.l).2∧p.L 3 Jj ++ L=U∧S ++ R=J):=by refine Je 14 Tryz.call186 Tryz.func186 rfl rfl rfl ?_;apply (Xaf);intro b3;apply (qax);intro b4;apply qc4∘Xag∘Xct∘qbm;refine Jv rfl (Kxb a s ps false A _ _ hm hs hps hA) rfl ?_;exact zSd
end
section
attribute [local irreducible] CJ LJ DJ Tri YV Gives Uq J2 Kj Ut RV J3 OwL.L
section
variable {A B:Prop}
def U8f(h:B:=by exact ⟨OwL.nil,OwL.nil,by rw [hsv];rfl,OwL.nil_ok,OwL.nil_ok,by rw [hsv],by rw [hsv],by rw [Kk,yv,yv],rfl⟩):=h
end
def Zue (a:XAir) (s:XSetting) (ps:Arr Int) (A:List Bool) (L:LB) (R:LS) (hm:AirR a R) (hs:SetR s R) (hps:InR (isl ps) R) (hA:Kx a=0→AiryIs a.mine A):
 Tri Tryz.prog 187 [a.val,s.val,ps.val].toArray L R (fun w U J=>∃p:OwL Int,w=.tuple #[p.val,.int .i64 (Ug a s A true ps.l).1]∧p.ok 1 Jj∧p.l=(Ug a s A true ps.l).2∧p.L 3 Jj ++ L=U∧R=J):=
 Tri.turn (Uid a s ps A L R hm hs hps hA) fun v U J ⟨p,S,a1,a2,a3,a4,a5⟩=>⟨U,R,yua _,fun r h=>Ja (by rw [← a5];simp [h]),p,a1,a2,a3,a4,rfl⟩
def Kjf (a:XAir) (s:XSetting) (ps:Arr Int) (A:List Bool) (L:LB) (R:LS) (hm:AirR a R) (hs:SetR s R) (hps:InR (isl ps) R) (hA:Kx a=0→AiryIs a.mine A):
 Tri Tryz.prog 186 [a.val,s.val,ps.val].toArray L R (fun w U J=>∃p:OwL Int,w=.tuple #[p.val,.int .i64 (Ug a s A false ps.l).1]∧p.ok 1 Jj∧p.l=(Ug a s A false ps.l).2∧p.L 3 Jj ++ L=U∧R=J):=
 Tri.turn (U9d a s ps A L R hm hs hps hA) fun v U J ⟨p,S,a1,a2,a3,a4,a5⟩=>⟨U,R,yua _,fun r h=>Ja (by rw [← a5];simp [h]),p,a1,a2,a3,a4,rfl⟩
def Vzd {a:XAir} {s:XSetting} {q:OwL Int} {A:List Bool} {L:LB} {R:LS} {vl:Value} (hvl:vl=q.val) (hm:AirR a R) (hs:SetR s R) (hA:Kx a=0→AiryIs a.mine A) (hin:InB (q.L 3 Jj) L) (hok:q.ok 1 Jj):
 Tri Tryz.prog 186 [a.val,s.val,vl].toArray L R (fun w U J=>∃p:OwL Int,w=.tuple #[p.val,.int .i64 (Ug a s A false q.l).1]∧p.ok 1 Jj∧p.l=(Ug a s A false q.l).2∧p.L 3 Jj ++ L=U∧R=J):=by subst hvl;have h2:=Tri.lend (S:=[isl q.arr]) (Post:=fun v U=>∃p:OwL Int,v=.tuple #[p.val,.int .i64 (Ug a s A false q.l).1]∧p.ok 1 Jj∧p.l=(Ug a s A false q.l).2∧p.L 3 Jj ++ []=U) (Spl.rest (L:=L)) (fun w G hh s hs=>by rw [List.mem_singleton.1 hs];exact Yw hh hin hok yf ze yg) ((Kjf a s q.arr A [] _ (Zw hm fun r h=>Ja (.tail _ h)) (Yoa hs fun r h=>Ja (.tail _ h)) zFb hA).mono fun v U J ⟨p,a1,a2,a3,a4,a5⟩=>⟨⟨p,a1,a2,a3,a4⟩,a5⟩);exact Tri.turn h2 fun v L'' J ⟨U,e,⟨p,a1,a2,a3,a4⟩,a5⟩=>⟨_,J,by rw [← e,← a4,yaa];exact yEa,fun r hr=>Ja hr,p,a1,a2,a3,rfl,a5⟩
def Ztc (a:XAir) (s:XSetting) (A:List Bool) (L:LB) (R:LS) (hm:AirR a R) (hs:SetR s R) (hA:Kx a=0→AiryIs a.mine A) (hnp:a.mine.places.l.length≤64):
 Tri Tryz.prog 111 [a.val,s.val].toArray L R (fun w U J=>∃lo hi:OwL Int,w=.tuple #[.agg #[lo.val,hi.val],.int .i64 (Yl a s A).1]∧lo.ok 1 Jj∧hi.ok 1 Jj∧lo.l=(Yl a s A).2.1∧hi.l=(Yl a s A).2.2∧lo.L 3 Jj ++ (hi.L 3 Jj ++ L)=U∧R=J):=by
 have hmp:=hm.places;have hzok:∀b,(⟨.own b a.mine.places.l.length [],List.replicate a.mine.places.l.length 0⟩:OwL Int).ok 1 Jj:=fun b=>U0 yf zB;refine Je 49 Tryz.call111 Tryz.func111 rfl rfl rfl ?_;apply (Xaf);intro b2;apply (qax);intro b3;apply (qaq);intro b4;apply (Xca);refine Ke tb [0,1,2,3,4,5,6,7,8,9,10,11,12] ([Blk.mk b3 _ _,Blk.mk b2 _ _]) Ko zc zi ?_;apply qbc∘qbd∘Xdt;refine Ks zPb rfl rfl rfl ?_;refine Jzb zZb rfl rfl rfl ?_;rintro v U J ⟨b16,rfl,rfl,hR16⟩;replace hR16:=hR16.symm;subst hR16;apply (qa1);refine Vo rfl (Vzd (q:=⟨.own b16 a.mine.places.l.length [],List.replicate a.mine.places.l.length 0⟩) (V9e (α:=Int)).symm hm hs hA (Zte (f:=Jj) (x:=0) rfl) (hzok b16)) rfl rfl ?_;rintro v U J ⟨p,rfl,hpk,hpl,rfl,rfl⟩;refine ⟨zi,zt,?_⟩;replace hpl:p.l=(Ug a s A false (List.replicate a.mine.places.l.length 0)).2:=hpl;refine Ks zRb rfl rfl rfl ?_;refine Ks zXb rfl rfl rfl ?_;refine Ks zXb rfl rfl rfl ?_;refine Ks (K8 zob) rfl rfl rfl ?_;apply (qcg);refine J1 (Jb (Jq (Jq ?_)));refine Vg (A:=[]) (wd:=1) [] yf ze hpk yg ?_;refine U2 zFa ?_;have hm1:AirR a (isl p.arr :: R):=Zw hm fun r h=>Ja (.tail _ h);have hs1:SetR s (isl p.arr :: R):=Yoa hs fun r h=>Ja (.tail _ h);obtain ⟨x,hx⟩:∃x,x=Ug a s A false (List.replicate a.mine.places.l.length 0):=⟨_,rfl⟩;rw [← hx] at hpl ⊢;apply Xa5∘Xat;refine q_c ?_ ?_<;>intro hc0;·
  apply qae∘qck∘Xcg;refine K2 (U:=L) (J:=R) (U3 rfl zpb zPc) ?hp ?hL ?hR;case hp=>(have hsv:Yl a s A=(x.1,[],[]):=by rw [Yl];dsimp only;rw [← hx,if_pos hc0]);exact U8f
  case hL=>exact zi
  case hR=>exact fun r h=>Ja (by simp [h])
 apply qbv∘Xct∘qbm;refine Jv rfl (Zue a s p.arr A _ _ hm1 hs1 zFb hA) rfl ?_;rintro v U J ⟨q,rfl,hqk,hql,rfl,rfl⟩;replace hql:q.l=(Ug a s A true p.l).2:=hql;obtain ⟨y,hy⟩:∃y,y=Ug a s A true p.l:=⟨_,rfl⟩;rw [← hy] at hql ⊢;have hxy:y=Ug a s A true x.2:=by rw [hy,hpl]
 refine Jw zRb rfl ?_;apply Xd3∘Xc5∘Xat;refine q_c ?_ ?_<;>intro hc1;·
  apply qae∘qck∘Xcg;refine K2 (U:=L) (J:=R) (U3 rfl zpb zPc) ?hp ?hL ?hR;case hp=>(have hsv:Yl a s A=(y.1,[],[]):=by rw [Yl];dsimp only;rw [← hx,if_neg hc0,← hxy,if_pos hc1]);exact U8f
  case hL=>exact zi
  case hR=>exact fun r h=>Ja (by simp [h])
 apply qbv∘Xct∘qbm;refine Jv rfl (Vzd (q:=q) rfl hm1 hs1 hA zG hqk) rfl ?_;rintro v U J ⟨u,rfl,huk,hul,rfl,rfl⟩;obtain ⟨z,hz⟩:∃z,z=Ug a s A false q.l:=⟨_,rfl⟩;rw [← hz] at hul ⊢;have hyz:z=Ug a s A false y.2:=by rw [hz,hql]
 refine Jw zRb rfl ?_;apply Xd3∘Xc5∘Xat;refine q_c ?_ ?_<;>intro hc2;·
  apply qae∘qck∘Xcg;refine K2 (U:=L) (J:=R) (U3 rfl zpb zPc) ?hp ?hL ?hR;case hp=>(have hsv:Yl a s A=(z.1,[],[]):=by rw [Yl];dsimp only;rw [← hx,if_neg hc0,← hxy,if_neg hc1,← hyz,if_pos hc2]);exact U8f
  case hL=>exact zi
  case hR=>exact fun r h=>Ja (by simp [h])
 apply qbv∘qbm∘qbm;refine Jw zOb rfl ?_;apply (Xb2);refine K2 (U:=u.L 3 Jj ++ (q.L 3 Jj ++ L)) (J:=R) (U3 rfl zpb zPc) ?hp ?hL ?hR;case hp=>
  have hsv:Yl a s A=(0,z.2,y.2):=by rw [Yl];dsimp only;rw [← hx,if_neg hc0,← hxy,if_neg hc1,← hyz,if_neg hc2]
  exact ⟨u,q,by rw [hsv];rfl,huk,hqk,by rw [hsv];exact hul,by rw [hsv];exact hql,rfl,rfl⟩
 case hL=>exact zi
 case hR=>exact fun r h=>Ja (by simp [h])
end
section
structure FlowTo (a:XAir) (s:XSetting) (b:XBounds) (A:List Bool) (n:XNet) (k:Nat) (l:List XSpan):Prop where
 len:l.length=a.mine.roads.l.length
 don:∀(j:Nat) (p:XPipe),j < k→n.pipes.l[j]?=some p→l[p.num.toNat]?=some (Ua a s b A p.num.toNat)
 non:∀i:Nat,i < a.mine.roads.l.length→(∀(j:Nat) (p:XPipe),j < k→n.pipes.l[j]?=some p→p.num.toNat≠i)→l[i]?=some ⟨0,0⟩
def FlowTo.zero (a:XAir) (s:XSetting) (b:XBounds) (A:List Bool) (n:XNet):FlowTo a s b A n 0 (List.replicate a.mine.roads.l.length ⟨0,0⟩):=
 ⟨by simp,fun j p hj=>by omega,fun i hi _=>by rw [yC,if_pos hi]⟩
def FlowTo.next {a:XAir} {s:XSetting} {b:XBounds} {A:List Bool} {n:XNet} {k:Nat} {l:List XSpan} (h:FlowTo a s b A n k l) {p:XPipe} (hp:n.pipes.l[k]?=some p) (hr:p.num.toNat < a.mine.roads.l.length) {x:XSpan} (hx:x=Ua a s b A p.num.toNat):FlowTo a s b A n (k + 1) (l.set p.num.toNat x):=by
 have hl:=h.len;subst hx;refine ⟨by simp [hl],fun j q hj hq=>?_,fun i hi hn=>?_⟩;·
  rw [yM];split;·rename_i e;rw [if_pos za,e]
  ·
   rename_i e;rcases yk j k with h1 | h1;·exact h.don j q h1 hq
   ·(obtain rfl : j = k := by omega);rw [hp] at hq;cases hq;exact absurd rfl e
 ·rw [yba (hn k p za hp)];exact h.non i hi fun j q hj hq=>hn j q za hq
def FlowTo.done {a:XAir} {s:XSetting} {b:XBounds} {A:List Bool} {n:XNet} {l:List XSpan} (h:FlowTo a s b A n n.pipes.l.length l) (hn:NetIs a s n):l=(List.range a.mine.roads.l.length).map (Ua a s b A):=by
 have hl:=h.len;refine yBa fun i=>?_;rcases yk i a.mine.roads.l.length with hi | hi;·
  rw [yq, yL hi];show _=some (Ua a s b A i);cases hc:(a.mine.roads.l.getD i default).closed with
  | true=>rw [Ua,if_pos hc];refine h.non i hi fun j p hj hp e=>?_;have:=(hn.open (yh hp)).2;rw [e,hc] at this;cases this
  | false=>obtain ⟨j,p,hj,hp⟩:=hn.find (r:=(i:Int)) za (by rw [yw];exact hc);have:=h.don j p (List.getElem?_eq_some_iff.1 hj).1 hj;rw [hp,yw] at this;exact this
 ·rw [yu za,yu zE]
end
end Go.Proofs.YtchfclmokpbldaaGreat
