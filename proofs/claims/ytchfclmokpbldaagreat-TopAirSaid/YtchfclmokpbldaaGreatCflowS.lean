/-
  Merged texts. By an AI agent.
-/
import Derived.Test.YtchfclmokpbldaaGreatSolveR
import Derived.Test.YtchfclmokpbldaaGreatCflowR
set_option linter.all false
set_option maxHeartbeats 4000000
set_option maxRecDepth 20000
namespace Go.Proofs.YtchfclmokpbldaaGreat
open Go.Aw Go
section
attribute [local irreducible] CJ LJ DJ Tri YV Gives U5 J2 Kn U6 RV J4 OwL.L
section
variable {A B:Prop}
def Kjg(h:A→B:=by exact Jy zza rfl):=h
def Z1f(h:A→B:=by exact Jy zPb rfl):=h
def Uqg(h:B:=by exact ⟨OwL.nil,Yxa n.pipes :: Yja n.at_ :: (S ++ S0),by rw [hrn];rfl,OwL.nil_ok,by rw [hrn],by rw [Km,yv],by rw [hR4];simp⟩):=h
def Vbg(h:A→B:=by exact Jy (Js tb ((⟨o34,m⟩:OwL Int)) _ rfl rfl ((show _=Value.slice _ _ _ from rfl).trans (by simp only [OwL.val,hml,w3])) rfl zg (i:=i) zk zt) rfl):=h
end
def Z4c (a:XAir) (s:XSetting) (ps:Arr Int) (A:List Bool) (L:LB) (R:LS) (hm:AirR a R) (hs:SetR s R) (hps:InR (isl ps) R) (hA:Ky a=0→AiryIs a.mine A):
 Tri Tryz.prog 277 [a.val,s.val,ps.val].toArray L R (fun v U J=>∃S:LS,v=.int .i64 (V2 a s ps.l A)∧L=U∧S ++ R=J):=by
 have hmp:=hm.places;refine U3 Tryz.call277 hps fun hpn=>?_;refine U3 Tryz.call277 hmp fun hmpn=>?_;refine Je 70 Tryz.call277 Tryz.func277 rfl rfl rfl ?_;apply (Xaf);intro b3;apply (qax);intro b4;apply Xar∘qa8;refine q_l rfl (Zc a _ _ hm) ?_;apply (Xbh);refine q_c ?_ ?_<;>intro hc0;·apply (Xdm);refine q_i L R ?_;exact ⟨[],by rw [V2,if_pos hc0],rfl,rfl⟩
 have h0:Ky a=0:=by omega
 have hok:=V1 h0;have hAA:=hA h0;have hmn:=hok.mine.places;apply qbo∘Xcg;refine q_l rfl (Yba a s _ _ hm hs) ?_;apply (Xbl);refine q_c ?_ ?_<;>intro hc1;·apply (Xba);refine q_i L R ?_;exact ⟨[],by rw [V2,if_neg hc0,if_pos zM],rfl,rfl⟩
 have hf0:Una a s=true:=by simpa using hc1
 have hff:¬ Una a s=false:=by rw [hf0];decide
 apply qbo∘Xaq∘Xb9∘Xat;refine q_c ?_ ?_<;>intro hc2;·apply (Xba);refine q_i L R ?_;exact ⟨[],by rw [V2,if_neg hc0,if_neg hff,if_pos za],rfl,rfl⟩
 have hln:ps.l.length=a.mine.places.l.length:=by omega
 apply qbo∘Xbz;refine Jm [(2,.slice _ _ _),(3,.pointer _),(29,.slice _ _ _),(30,.int _ _),(31,.int _ _)] zh fun tq0=>?_;refine q_s ([6,9]++rg 31 11) (fun g:FS (Ul) (ps.l)=>[(31,.int .i64 ((g.1:Nat):Int))]) (fun g=>(ps.l).length - g.1) ⟨0,Zx _ _⟩ ?_;rintro ⟨k0,hk0,hp0⟩ junk;try dsimp only
 apply (Xam);refine q_c ?_ ?_<;>intro hc3;·
  obtain ⟨y,hy⟩:=Kh (l:=ps.l) (k:=k0) za;apply (qbb);refine Jy zX rfl ?_;apply qa7∘Xas∘Xav;apply J6 (G:=[_,_]) (j:=2) (cj:=37) rfl rfl zb rfl zsb rfl;·exact zKd
  intro junk3;apply (qaf);refine q_c ?_ ?_<;>intro hc4;·apply (Xby);refine q_i L R ?_;have hpb:=Yh hp0 hy (show Ul y=some 1 from if_pos za);exact ⟨[],by rw [V2,if_neg hc0,if_neg hff,if_neg za,if_pos (by rw [hpb];rfl)],rfl,rfl⟩
  apply (Xaw);exact q_k ⟨k0 + 1,Zl hp0 hy (if_neg za)⟩
 have hn0:=Zo hp0 za;apply qbk∘Xc6;refine Jw rfl (Yfb a.mine _ _ hm.mineR hok.mine (Jqa h0)) rfl ?_;rintro v U J ⟨p,A2,S,rfl,hpk,hA2,hpl,rfl,rfl⟩;obtain rfl:A=A2:=hAA.unique hA2;have hfx:p.l.length=a.mine.places.l.length:=by rw [hpl,yE];exact hAA.length
 have hps2:InR (isl ps) (S ++ R):=hps.mono fun r h=>Ja (by simp [h]);have hmp2:InR (psl a.mine.places) (S ++ R):=hmp.mono fun r h=>Ja (by simp [h]);have hck:V2 a s ps.l A=((List.range a.mine.places.l.length).findSome? (Y6 a ps.l A)).getD 0:=by rw [V2,if_neg hc0,if_neg hff,if_neg za,if_neg (by rw [hn0];simp)]
 apply Xbr∘qab∘Xay;refine Jm [(2,.slice _ _ _),(10,.slice _ _ _),(47,.slice _ _ _),(48,.int _ _),(49,.int _ _)] zh fun tq1=>?_;refine q_s ([6,11,12]++rg 49 21) (fun g:FSR (Y6 a ps.l A) (a.mine.places.l.length)=>[(49,.int .i64 ((g.1:Nat):Int))]) (fun g=>(a.mine.places.l.length) - g.1) ⟨0,Kra _ _⟩ ?_;rintro ⟨k1,hk1,hp1⟩ junk;try dsimp only
 apply (Xam);refine q_c ?_ ?_<;>intro hc5;·
  have hmg:=Jn (l:=a.mine.places.l) (k:=k1) default za;have hpg:p.l[k1]?=some (!(A.getD k1 false)):=by have:=hAA.length;rw [hpl,yr,Jn (l:=A) (k:=k1) false za];rfl
  have hsg:=Jn (l:=ps.l) (k:=k1) 0 za;apply Xa1∘Kjg∘Xds;intro b12;apply qad∘Xcd∘qah;apply J6 (G:=[_,_,_,_]) (j:=2) (cj:=56) rfl rfl zb rfl zsb rfl;·intro hg3;replace hg3:=qb hg3;apply (Xap);refine Jy (Js tb (p) _ rfl rfl rfl rfl zg (i:=k1) zk zt) rfl ?_;exact (Z1f) qai
  intro junk3;apply (qah);apply K9 (G:=[_,_,_,_,_]) (j:=8) (cj:=62) rfl rfl zb rfl zsb rfl;·intro hg9;replace hg9:=qb hg9;exact (Xap∘Kjg∘qa7) zNd
  intro junk9;apply (qaf);refine q_c ?_ ?_<;>intro hc6;·have hnb:Y6 a ps.l A k1=some 12:=if_pos ⟨by obtain ⟨h1 | h1,_⟩:=hc6;rw [Yhb,h1,yjc];rw [Yhb,h1];rfl,hc6.2⟩;apply (Xby);refine q_i L (S ++ R) ?_;exact ⟨S,by rw [hck,Yn hp1 za hnb];rfl,rfl,rfl⟩
  have hnb:Y6 a ps.l A k1=none:=if_neg (fun ⟨h1,h2⟩=>by
  rcases hc6 with ⟨h3,h4⟩ | h3;·rw [Yhb,h3,h4] at h1;cases h1
  ·exact h3 h2)
  apply (Xaw);exact q_k ⟨k1 + 1,Zu hp1 za (hnb)⟩
 have hn1:=J9a hp1 za;apply (Xco);refine q_i L (S ++ R) ?_;exact ⟨S,by rw [hck,hn1];rfl,rfl,rfl⟩
def Vhg {n:XNet} {a:XAir} {s:XSetting} {o:Ow} {l:List Int} {k:Nat} {A:LB} {R:LS} {vl:Value} (hvl:vl=(⟨o,l⟩:OwL Int).val) (h:HypsN n a s l k R) (hin:InB ((⟨o,l⟩:OwL Int).L 3 Jk) A) (hok:(⟨o,l⟩:OwL Int).ok 1 Jk):
 Tri Tryz.prog 240 [n.val,vl,.int .i64 (k:Int)].toArray A R (fun w U J=>w=V8f (Uaa a s true l k)∧A=U∧R=J):=by subst hvl;refine Tri.lend1 hin hok ((Jnd n a s (⟨o,l⟩:OwL Int).arr k [] _ ⟨h.pp.mono fun r hr=>Ja (.tail _ hr),h.aa.mono fun r hr=>Ja (.tail _ hr),h.is,h.ok,h.len,h.pres,h.v⟩ zJb).mono ?_);rintro v U J ⟨z,ok,rfl,hF,rfl,rfl⟩;obtain ⟨rfl,rfl⟩:=Uwc (Uie h.pres true (Int.toNat k)) hF;exact zbe
def Kqe {n:XNet} {a:XAir} {s:XSetting} {o:Ow} {l:List Int} {k:Nat} {A:LB} {R:LS} {vl:Value} (hvl:vl=(⟨o,l⟩:OwL Int).val) (h:HypsN n a s l k R) (hin:InB ((⟨o,l⟩:OwL Int).L 3 Jk) A) (hok:(⟨o,l⟩:OwL Int).ok 1 Jk):
 Tri Tryz.prog 239 [n.val,vl,.int .i64 (k:Int)].toArray A R (fun w U J=>w=V8f (Uaa a s false l k)∧A=U∧R=J):=by subst hvl;refine Tri.lend1 hin hok ((Jfc n a s (⟨o,l⟩:OwL Int).arr k [] _ ⟨h.pp.mono fun r hr=>Ja (.tail _ hr),h.aa.mono fun r hr=>Ja (.tail _ hr),h.is,h.ok,h.len,h.pres,h.v⟩ zJb).mono ?_);rintro v U J ⟨z,ok,rfl,hF,rfl,rfl⟩;obtain ⟨rfl,rfl⟩:=Uwc (Uie h.pres false (Int.toNat k)) hF;exact zbe
def Ute : Bool → FuncId
 | true=>240
 | false=>239
def Yaf (up:Bool) {n:XNet} {a:XAir} {s:XSetting} {o:Ow} {l:List Int} {k:Nat} {A:LB} {R:LS} {vl:Value} (hvl:vl=(⟨o,l⟩:OwL Int).val) (h:HypsN n a s l k R) (hin:InB ((⟨o,l⟩:OwL Int).L 3 Jk) A) (hok:(⟨o,l⟩:OwL Int).ok 1 Jk):
 Tri Tryz.prog (Ute up) [n.val,vl,.int .i64 (k:Int)].toArray A R (fun w U J=>w=V8f (Uaa a s up l k)∧A=U∧R=J):=by
 cases up with
 | true=>exact Vhg hvl h hin hok
 | false=>exact Kqe hvl h hin hok
def Udb (a:XAir) (s:XSetting) (ps:Arr Int) (up:Bool) (A:List Bool) (L:LB) (R:LS) (hm:AirR a R) (hs:SetR s R) (hps:InR (isl ps) R) (hA:Ky a=0→AiryIs a.mine A):
 Tri Tryz.prog 238 [a.val,s.val,ps.val,.func (.func (Ute up)) #[] #[]].toArray L R (fun w U J=>∃(p:OwL Int) (S:LS),w=.tuple #[p.val,.int .i64 (Ug a s A up ps.l).1]∧p.ok 1 Jk∧p.l=(Ug a s A up ps.l).2∧p.L 3 Jk ++ L=U∧S ++ R=J):=by
 refine Je 80 Tryz.call238 Tryz.func238 rfl rfl rfl ?_;apply (Xaf);intro b4;apply (qax);intro b5;apply qc4∘Xar∘Xcg∘qbm;refine Jw rfl (Z4c a s ps A _ _ hm hs hps hA) rfl ?_;rintro v U J ⟨S0,rfl,rfl,rfl⟩;apply (Xbh);refine q_c ?_ ?_<;>intro hc0;·apply Xbk∘qc4∘Xao;refine q_r L (S0 ++ R) zvd ?_;exact ⟨OwL.nil,S0,by rw [Ug,if_pos hc0];rfl,OwL.nil_ok,by rw [Ug,if_pos hc0],by rw [Km,yv],rfl⟩
 have hso:=Ura.1 (show V2 a s ps.l A=0 by omega);have hok:=V1 hso.h0;have hfo:=Kdb hso.hf;have hAA:=hA hso.h0;have hln:=hso.hl;have hnp:=hok.mine.places;have hrx:Ug a s A up ps.l=match Vn a s A up 200 ps.l with
  | none=>(2,[])
  | some l=>(0,l):=by rw [Ug,if_neg hc0] <;> rfl
 have hR1:∀r∈R,InR r (S0 ++ R):=fun r h=>Ja (by simp [h]);have hm1:=Zp hm hR1;have hs1:=Zua hs hR1;apply qbv∘Xc6;refine Jw rfl (Yfb a.mine _ _ hm1.mineR hok.mine (Jqa hso.h0)) rfl ?_;rintro v U J ⟨p,A2,S,rfl,hpk,hA2,hpl,rfl,rfl⟩;obtain rfl:A=A2:=hAA.unique hA2;have hfx:p.l.length=a.mine.places.l.length:=by rw [hpl,yE];exact hAA.length
 have hAl:=hAA.length;have hR2:∀r∈S0 ++ R,InR r (S ++ (S0 ++ R)):=fun r h=>Ja (by simp only [yba] at h ⊢;exact .inr h);apply Xcb∘Xcg;refine Jw rfl (Ydb a s _ _ (Zp hm1 hR2) (Zua hs1 hR2) hok hfo) rfl ?_;rintro v U J ⟨n,rfl,hn,rfl,rfl⟩;have hR3:∀r∈S ++ (S0 ++ R),InR r (Yxa n.pipes :: Yja n.at_ :: (S ++ (S0 ++ R))):=fun r h=>Ja (by simp only [yR];exact .inr (.inr h));have hps3:InR (isl ps) (Yxa n.pipes :: Yja n.at_ :: (S ++ (S0 ++ R))):=((hps.mono hR1).mono hR2).mono hR3;have hmp3:InR (psl a.mine.places) (Yxa n.pipes :: Yja n.at_ :: (S ++ (S0 ++ R))):=((hm1.places).mono hR2).mono hR3;have hpp:InR (Yxa n.pipes) (Yxa n.pipes :: Yja n.at_ :: (S ++ (S0 ++ R))):=Ja (.head _);have haa:InR (Yja n.at_) (Yxa n.pipes :: Yja n.at_ :: (S ++ (S0 ++ R))):=Ja (.tail _ (.head _));obtain ⟨R4,hR4⟩:∃R4,R4=Yxa n.pipes :: Yja n.at_ :: (S ++ (S0 ++ R)):=⟨_,rfl⟩;rw [← hR4] at hps3 hmp3 hpp haa ⊢;apply (qaq);intro b12;apply Xaz∘qbm;refine Yv (Kp (f:=Jk) (xs:=ps) tb rfl rfl rfl ze rfl rfl (hps3) yf za) rfl ?_;rintro v U J ⟨o34,rfl,hok34,rfl,rfl⟩;apply Xbr∘Xbf;refine Jm [(3,_),(4,.pointer _),(11,.slice _ _ _),(12,.pointer _),(13,.slice _ _ _),(14,.int _ _)] zh fun tq0=>?_;refine q_p ([8,9]++rg 14 6++rg 35 45) ((⟨fun q=>[(14,.int .i64 ((q.1.1:Nat):Int))],fun q=>(⟨o34,q.1.2⟩:OwL Int).L 3 Jk ++ (⟨b12,n.cells,221⟩ :: (p.L 4 blc ++ (⟨b5,s.cells,80⟩ :: ⟨b4,a.cells,32⟩ :: L))),fun _=>R4,fun q=>200 - q.1.1⟩:Head {q:Nat×List Int // q.1≤200∧Vn a s A up 200 ps.l=Vn a s A up (200 - q.1) q.2∧q.2.length=ps.l.length∧PresOk q.2∧(⟨o34,q.2⟩:OwL Int).ok 1 Jk})) (⟨(0,ps.l),by dsimp only;omega,rfl,rfl,hso.hp,hok34⟩) ?_;rintro ⟨⟨n1,l⟩,w1,w2,w3,w4,w5⟩ junk;try dsimp only
 dsimp only at w1 w2 w3 w4 w5;apply Xa3∘Xa5;refine q_c ?_ ?_<;>intro hc1;·
  have e200:200 - n1=(200 - (n1 + 1)) + 1:=by omega
  rw [e200] at w2;apply qbb∘Xdv∘qab∘Xay;refine Ve ([8,9]++rg 14 6++rg 35 45) zJ [(14,.int _ _),(15,.bool _),(41,.slice _ _ _),(42,.int _ _),(43,.int _ _)] zh fun tq1=>?_;refine Uh ([8,9,15,16,17,18,19]++rg 43 34) ((⟨fun q=>[(43,.int .i64 ((q.1.1:Nat):Int)),(15,.bool (decide (q.1.2≠l)))],fun q=>(⟨o34,q.1.2⟩:OwL Int).L 3 Jk ++ (⟨b12,n.cells,221⟩ :: (p.L 4 blc ++ (⟨b5,s.cells,80⟩ :: ⟨b4,a.cells,32⟩ :: L))),fun _=>R4,fun q=>a.mine.places.l.length - q.1.1⟩:Head {q:Nat×List Int // q.1≤a.mine.places.l.length∧Swept a s A up l q.1 q.2∧(⟨o34,q.2⟩:OwL Int).ok 1 Jk})) (⟨(0,l),by dsimp only;omega,.zero w4,w5⟩) ⟨rfl,by simp;rfl,trivial⟩ zi zLb ?_;rintro ⟨⟨i,m⟩,q1,q2,q3⟩ junk;try dsimp only
  dsimp only at q1 q2 q3;have hml:=q2.len;apply (Xam);refine q_c ?_ ?_<;>intro hc2;·
   have hgg:=Jn (l:=a.mine.places.l) (k:=i) default za;obtain ⟨fb,hfb⟩:∃fb,fb=A.getD i false:=⟨_,rfl⟩;(have hpg:p.l[i]?=some (!fb):=by rw [hpl,yr,Jn (l:=A) (k:=i) false za,hfb];rfl);have hmg:=Jn (l:=m) (k:=i) 0 za;apply (Xa1);refine Jy zR rfl ?_;apply (Xds);intro b17;apply Xd0∘Xaa∘qah;apply J6 (G:=[_,_,_,_]) (j:=2) (cj:=50) rfl rfl zb rfl zsb rfl;·intro hg3;replace hg3:=qb hg3;apply (Xap);refine Jy (Js tb (p) _ rfl rfl rfl rfl zg (i:=i) zk zt) rfl ?_;exact (Z1f) qai
   intro junk3;apply (qaf);refine q_c ?_ ?_<;>intro hc3;·(have hfi:Yhb a A i=true:=by rw [Yhb,← hfb];rcases hc3 with h | h;rw [h,yjc];rw [h];rfl);refine K5 (Kj (J3 (Jb (Jh ?_))));apply (Xad);exact q_k ⟨(i + 1,m),by dsimp only;omega,q2.skip hfi,q3⟩
   (have hfi:¬ Yhb a A i=true:=by rw [Yhb,← hfb,hc3.1,hc3.2];decide);have hH:HypsN n a s m i R4:=⟨hpp,haa,hn,hok,by omega,q2.pres,by omega⟩;apply (qbv);refine Jy zSb rfl ?_;apply qbe∘Xap;refine Vwc (J0a rfl rfl (Yaf up (o:=o34) (l:=m) ((show _=Value.slice _ _ _ from rfl).trans (by simp only [OwL.val,hml,w3])) hH zG q3)) rfl rfl ?_;rintro v U J ⟨rfl,rfl,rfl⟩;refine Jy zSb rfl ?_;apply Xa7∘Xb6∘qaw∘qah∘Xbl;refine q_c ?_ ?_<;>intro hc4;·(have hv:Uaa a s up m i=none:=by simpa using hc4);(have hrn:Ug a s A up ps.l=(2,[]):=by rw [hrx,w2,Vid (q2.fail hfi hv _ za)]);apply Xea∘qad;refine Kc (Jb (Uq (Kg (Kf (Kg (Yt (Kf (Kg (Kf (Kg (Yt (Kf (Kg ?_)))))))))))));refine q_r L R4 zvd ?_;exact Uqg
   obtain ⟨u,hv⟩:=Option.isSome_iff_exists.1 hc4;have hfl:=q2.flag (k:=i) za u;apply (qcl);rw [hv];apply Xbc∘Xap∘Vbg;refine Jy (J9 tb ((⟨o34,m⟩:OwL Int)) rfl rfl rfl zj zg yf zg zb) rfl ?_;apply (Xat);refine q_c ?_ ?_<;>intro hc5;·apply Xb5∘qaa∘Vbg;refine V6 (Ju tb ((⟨o34,m⟩:OwL Int)) (u) rfl rfl rfl rfl zj zg yf zg ze zb zb) ?_;rintro v U J ⟨rfl,rfl⟩;apply qaz∘Xa8;exact Kd ⟨(i + 1,m.set i u),by dsimp only;omega,q2.next hfi hv,OwL.len_ok Vh q3 zo⟩ zm ⟨rfl,by dsimp only;rw [hfl,decide_eq_true (show u≠m.getD i 0 from hc5),yjc];rfl,trivial⟩ zi zLb zx
   apply (Xaw);(have hse:m.set i u=m:=by rw [show u=m.getD i 0 by simpa using hc5,Zza]);exact q_k ⟨(i + 1,m),by dsimp only;omega,hse ▸ q2.next hfi hv,q3⟩
  obtain rfl:i=a.mine.places.l.length:=by omega
  have hsw:=q2.to;apply qbk∘qah∘Xbl;refine q_c ?_ ?_<;>intro hc6;·(have hme:m=l:=by simpa using hc6);(have hrn:Ug a s A up ps.l=(0,m):=by rw [hrx,w2,hme,Jnc (by rw [← hme] at hsw ⊢;exact hsw)]);apply qae∘qbm∘qc4∘qad∘qbt;refine q_r ((⟨o34,m⟩:OwL Int).L 3 Jk ++ L) R4 zvd ?_;exact ⟨⟨o34,m⟩,Yxa n.pipes :: Yja n.at_ :: (S ++ S0),by rw [hrn];simp only [OwL.val,hml,w3],q3,by rw [hrn],rfl,by rw [hR4];simp⟩
  have hme:m≠l:=by simpa using hc6
  apply (Xcz);exact q_k ⟨(n1 + 1,m),by dsimp only;omega,w2.trans (U4d hsw hme),hml.trans w3,q2.pres,q3⟩
 obtain rfl:n1=200:=by omega
 have hrn:Ug a s A up ps.l=(2,[]):=by rw [hrx,w2];rfl
 apply qbk∘qc4∘Xak;refine q_r L R4 zvd ?_;exact Uqg
def U7d (a:XAir) (s:XSetting) (ps:Arr Int) (A:List Bool) (L:LB) (R:LS) (hm:AirR a R) (hs:SetR s R) (hps:InR (isl ps) R) (hA:Ky a=0→AiryIs a.mine A):
 Tri Tryz.prog 187 [a.val,s.val,ps.val].toArray L R (fun w U J=>∃(p:OwL Int) (S:LS),w=.tuple #[p.val,.int .i64 (Ug a s A true ps.l).1]∧p.ok 1 Jk∧p.l=(Ug a s A true ps.l).2∧p.L 3 Jk ++ L=U∧S ++ R=J):=by refine Je 14 Tryz.call187 Tryz.func187 rfl rfl rfl ?_;apply (Xaf);intro b3;apply (qax);intro b4;apply qc4∘Xag∘Xcg∘qbm;refine Jw rfl (Udb a s ps true A _ _ hm hs hps hA) rfl ?_;exact zpe
def K1d (a:XAir) (s:XSetting) (ps:Arr Int) (A:List Bool) (L:LB) (R:LS) (hm:AirR a R) (hs:SetR s R) (hps:InR (isl ps) R) (hA:Ky a=0→AiryIs a.mine A):
 Tri Tryz.prog 186 [a.val,s.val,ps.val].toArray L R (fun w U J=>∃(p:OwL Int) (S:LS),w=.tuple #[p.val,.int .i64 (Ug a s A false ps.l).1]∧p.ok 1 Jk∧p.l=(Ug a s A false ps.l).2∧p.L 3 Jk ++ L=U∧S ++ R=J):=by refine Je 14 Tryz.call186 Tryz.func186 rfl rfl rfl ?_;apply (Xaf);intro b3;apply (qax);intro b4;apply qc4∘Xag∘Xcg∘qbm;refine Jw rfl (Udb a s ps false A _ _ hm hs hps hA) rfl ?_;exact zpe
end
section
attribute [local irreducible] CJ LJ DJ Tri YV Gives U5 J2 Kn U6 RV J4 OwL.L
section
variable {A B:Prop}
def Yvf(h:B:=by exact ⟨OwL.nil,OwL.nil,by rw [hsv];rfl,OwL.nil_ok,OwL.nil_ok,by rw [hsv],by rw [hsv],by rw [Km,yv,yv],rfl⟩):=h
end
def K9f (a:XAir) (s:XSetting) (ps:Arr Int) (A:List Bool) (L:LB) (R:LS) (hm:AirR a R) (hs:SetR s R) (hps:InR (isl ps) R) (hA:Ky a=0→AiryIs a.mine A):
 Tri Tryz.prog 187 [a.val,s.val,ps.val].toArray L R (fun w U J=>∃p:OwL Int,w=.tuple #[p.val,.int .i64 (Ug a s A true ps.l).1]∧p.ok 1 Jk∧p.l=(Ug a s A true ps.l).2∧p.L 3 Jk ++ L=U∧R=J):=
 Tri.turn (U7d a s ps A L R hm hs hps hA) fun v U J ⟨p,S,a1,a2,a3,a4,a5⟩=>⟨U,R,yOa _,fun r h=>Ja (by rw [← a5];simp [h]),p,a1,a2,a3,a4,rfl⟩
def K8f (a:XAir) (s:XSetting) (ps:Arr Int) (A:List Bool) (L:LB) (R:LS) (hm:AirR a R) (hs:SetR s R) (hps:InR (isl ps) R) (hA:Ky a=0→AiryIs a.mine A):
 Tri Tryz.prog 186 [a.val,s.val,ps.val].toArray L R (fun w U J=>∃p:OwL Int,w=.tuple #[p.val,.int .i64 (Ug a s A false ps.l).1]∧p.ok 1 Jk∧p.l=(Ug a s A false ps.l).2∧p.L 3 Jk ++ L=U∧R=J):=
 Tri.turn (K1d a s ps A L R hm hs hps hA) fun v U J ⟨p,S,a1,a2,a3,a4,a5⟩=>⟨U,R,yOa _,fun r h=>Ja (by rw [← a5];simp [h]),p,a1,a2,a3,a4,rfl⟩
def Ykd {a:XAir} {s:XSetting} {q:OwL Int} {A:List Bool} {L:LB} {R:LS} {vl:Value} (hvl:vl=q.val) (hm:AirR a R) (hs:SetR s R) (hA:Ky a=0→AiryIs a.mine A) (hin:InB (q.L 3 Jk) L) (hok:q.ok 1 Jk):
 Tri Tryz.prog 186 [a.val,s.val,vl].toArray L R (fun w U J=>∃p:OwL Int,w=.tuple #[p.val,.int .i64 (Ug a s A false q.l).1]∧p.ok 1 Jk∧p.l=(Ug a s A false q.l).2∧p.L 3 Jk ++ L=U∧R=J):=by subst hvl;have h2:=Tri.lend (S:=[isl q.arr]) (Post:=fun v U=>∃p:OwL Int,v=.tuple #[p.val,.int .i64 (Ug a s A false q.l).1]∧p.ok 1 Jk∧p.l=(Ug a s A false q.l).2∧p.L 3 Jk ++ []=U) (Spl.rest (L:=L)) (fun w G hh s hs=>by rw [List.mem_singleton.1 hs];exact Ya hh hin hok yf ze yg) ((K8f a s q.arr A [] _ (Zp hm fun r h=>Ja (.tail _ h)) (Zua hs fun r h=>Ja (.tail _ h)) zJb hA).mono fun v U J ⟨p,a1,a2,a3,a4,a5⟩=>⟨⟨p,a1,a2,a3,a4⟩,a5⟩);exact Tri.turn h2 fun v L'' J ⟨U,e,⟨p,a1,a2,a3,a4⟩,a5⟩=>⟨_,J,by rw [← e,← a4,yX];exact yva,fun r hr=>Ja hr,p,a1,a2,a3,rfl,a5⟩
def Zkc (a:XAir) (s:XSetting) (A:List Bool) (L:LB) (R:LS) (hm:AirR a R) (hs:SetR s R) (hA:Ky a=0→AiryIs a.mine A) (hnp:a.mine.places.l.length≤64):
 Tri Tryz.prog 111 [a.val,s.val].toArray L R (fun w U J=>∃lo hi:OwL Int,w=.tuple #[.agg #[lo.val,hi.val],.int .i64 (Yu a s A).1]∧lo.ok 1 Jk∧hi.ok 1 Jk∧lo.l=(Yu a s A).2.1∧hi.l=(Yu a s A).2.2∧lo.L 3 Jk ++ (hi.L 3 Jk ++ L)=U∧R=J):=by
 have hmp:=hm.places;have hzok:∀b,(⟨.own b a.mine.places.l.length [],List.replicate a.mine.places.l.length 0⟩:OwL Int).ok 1 Jk:=fun b=>Yc yf zD;refine Je 49 Tryz.call111 Tryz.func111 rfl rfl rfl ?_;apply (Xaf);intro b2;apply (qax);intro b3;apply (qaq);intro b4;apply (Xce);refine Ki tb [0,1,2,3,4,5,6,7,8,9,10,11,12] ([Blk.mk b3 _ _,Blk.mk b2 _ _]) Kq zc zi ?_;apply qbc∘qbd∘Xdc;refine K0 zVb rfl rfl rfl ?_;refine K5b zrc rfl rfl rfl ?_;rintro v U J ⟨b16,rfl,rfl,hR16⟩;replace hR16:=hR16.symm;subst hR16;apply (qa1);refine Yp rfl (Ykd (q:=⟨.own b16 a.mine.places.l.length [],List.replicate a.mine.places.l.length 0⟩) (Kse (α:=Int)).symm hm hs hA (Jjf (f:=Jk) (x:=0) rfl) (hzok b16)) rfl rfl ?_;rintro v U J ⟨p,rfl,hpk,hpl,rfl,rfl⟩;refine ⟨zi,zq,?_⟩;replace hpl:p.l=(Ug a s A false (List.replicate a.mine.places.l.length 0)).2:=hpl;refine K0 zSb rfl rfl rfl ?_;refine K0 zhc rfl rfl rfl ?_;refine K0 zhc rfl rfl rfl ?_;refine K0 (Uo zub) rfl rfl rfl ?_;apply (qcg);refine J1 (Jb (Jq (Jq ?_)));refine U9 (A:=[]) (wd:=1) [] yf ze hpk yg ?_;refine U4 zQ ?_;have hm1:AirR a (isl p.arr :: R):=Zp hm fun r h=>Ja (.tail _ h);have hs1:SetR s (isl p.arr :: R):=Zua hs fun r h=>Ja (.tail _ h);obtain ⟨x,hx⟩:∃x,x=Ug a s A false (List.replicate a.mine.places.l.length 0):=⟨_,rfl⟩;rw [← hx] at hpl ⊢;apply Xbc∘Xat;refine q_c ?_ ?_<;>intro hc0;·
  apply qae∘qck∘Xcl;refine Kx (U:=L) (J:=R) (U1 rfl zvb zgd) ?hp ?hL ?hR;case hp=>(have hsv:Yu a s A=(x.1,[],[]):=by rw [Yu];dsimp only;rw [← hx,if_pos hc0]);exact Yvf
  case hL=>exact zi
  case hR=>exact fun r h=>Ja (by simp [h])
 apply qbv∘Xcg∘qbm;refine Jw rfl (K9f a s p.arr A _ _ hm1 hs1 zJb hA) rfl ?_;rintro v U J ⟨q,rfl,hqk,hql,rfl,rfl⟩;replace hql:q.l=(Ug a s A true p.l).2:=hql;obtain ⟨y,hy⟩:∃y,y=Ug a s A true p.l:=⟨_,rfl⟩;rw [← hy] at hql ⊢;have hxy:y=Ug a s A true x.2:=by rw [hy,hpl]
 refine Jy zSb rfl ?_;apply Xdf∘Xck∘Xat;refine q_c ?_ ?_<;>intro hc1;·
  apply qae∘qck∘Xcl;refine Kx (U:=L) (J:=R) (U1 rfl zvb zgd) ?hp ?hL ?hR;case hp=>(have hsv:Yu a s A=(y.1,[],[]):=by rw [Yu];dsimp only;rw [← hx,if_neg hc0,← hxy,if_pos hc1]);exact Yvf
  case hL=>exact zi
  case hR=>exact fun r h=>Ja (by simp [h])
 apply qbv∘Xcg∘qbm;refine Jw rfl (Ykd (q:=q) rfl hm1 hs1 hA zG hqk) rfl ?_;rintro v U J ⟨u,rfl,huk,hul,rfl,rfl⟩;obtain ⟨z,hz⟩:∃z,z=Ug a s A false q.l:=⟨_,rfl⟩;rw [← hz] at hul ⊢;have hyz:z=Ug a s A false y.2:=by rw [hz,hql]
 refine Jy zSb rfl ?_;apply Xdf∘Xck∘Xat;refine q_c ?_ ?_<;>intro hc2;·
  apply qae∘qck∘Xcl;refine Kx (U:=L) (J:=R) (U1 rfl zvb zgd) ?hp ?hL ?hR;case hp=>(have hsv:Yu a s A=(z.1,[],[]):=by rw [Yu];dsimp only;rw [← hx,if_neg hc0,← hxy,if_neg hc1,← hyz,if_pos hc2]);exact Yvf
  case hL=>exact zi
  case hR=>exact fun r h=>Ja (by simp [h])
 apply qbv∘qbm∘qbm;refine Jy zUb rfl ?_;apply (Xb3);refine Kx (U:=u.L 3 Jk ++ (q.L 3 Jk ++ L)) (J:=R) (U1 rfl zvb zgd) ?hp ?hL ?hR;case hp=>
  have hsv:Yu a s A=(0,z.2,y.2):=by rw [Yu];dsimp only;rw [← hx,if_neg hc0,← hxy,if_neg hc1,← hyz,if_neg hc2]
  exact ⟨u,q,by rw [hsv];rfl,huk,hqk,by rw [hsv];exact hul,by rw [hsv];exact hql,rfl,rfl⟩
 case hL=>exact zi
 case hR=>exact fun r h=>Ja (by simp [h])
end
section
structure FlowTo (a:XAir) (s:XSetting) (b:XBounds) (A:List Bool) (n:XNet) (k:Nat) (l:List XSpan):Prop where
 len:l.length=a.mine.roads.l.length
 don:∀(j:Nat) (p:XPipe),j < k→n.pipes.l[j]?=some p→l[p.num.toNat]?=some (Ui a s b A p.num.toNat)
 non:∀i:Nat,i < a.mine.roads.l.length→(∀(j:Nat) (p:XPipe),j < k→n.pipes.l[j]?=some p→p.num.toNat≠i)→l[i]?=some ⟨0,0⟩
def FlowTo.zero (a:XAir) (s:XSetting) (b:XBounds) (A:List Bool) (n:XNet):FlowTo a s b A n 0 (List.replicate a.mine.roads.l.length ⟨0,0⟩):=
 ⟨by simp,fun j p hj=>by omega,fun i hi _=>by rw [yB,if_pos hi]⟩
def FlowTo.next {a:XAir} {s:XSetting} {b:XBounds} {A:List Bool} {n:XNet} {k:Nat} {l:List XSpan} (h:FlowTo a s b A n k l) {p:XPipe} (hp:n.pipes.l[k]?=some p) (hr:p.num.toNat < a.mine.roads.l.length) {x:XSpan} (hx:x=Ui a s b A p.num.toNat):FlowTo a s b A n (k + 1) (l.set p.num.toNat x):=by
 have hl:=h.len;subst hx;refine ⟨by simp [hl],fun j q hj hq=>?_,fun i hi hn=>?_⟩;·
  rw [yO];split;·rename_i e;rw [if_pos za,e]
  ·
   rename_i e;rcases yk j k with h1 | h1;·exact h.don j q h1 hq
   ·(obtain rfl : j = k := by omega);rw [hp] at hq;cases hq;exact absurd rfl e
 ·rw [yZ (hn k p za hp)];exact h.non i hi fun j q hj hq=>hn j q za hq
def FlowTo.done {a:XAir} {s:XSetting} {b:XBounds} {A:List Bool} {n:XNet} {l:List XSpan} (h:FlowTo a s b A n n.pipes.l.length l) (hn:NetIs a s n):l=(List.range a.mine.roads.l.length).map (Ui a s b A):=by
 have hl:=h.len;refine yDa fun i=>?_;rcases yk i a.mine.roads.l.length with hi | hi;·
  rw [yr, yV hi];show _=some (Ui a s b A i);cases hc:(a.mine.roads.l.getD i default).closed with
  | true=>rw [Ui,if_pos hc];refine h.non i hi fun j p hj hp e=>?_;have:=(hn.open (yi hp)).2;rw [e,hc] at this;cases this
  | false=>obtain ⟨j,p,hj,hp⟩:=hn.find (r:=(i:Int)) za (by rw [yy];exact hc);have:=h.don j p (List.getElem?_eq_some_iff.1 hj).1 hj;rw [hp,yy] at this;exact this
 ·rw [yu za,yu zH]
end
end Go.Proofs.YtchfclmokpbldaaGreat
