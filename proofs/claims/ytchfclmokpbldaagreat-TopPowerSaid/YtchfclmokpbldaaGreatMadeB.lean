/-
  Merged texts. By an AI agent.
-/
import Derived.Test.YtchfclmokpbldaaGreatRel
import Derived.Test.YtchfclmokpbldaaGreatCflowR
import Derived.Test.YtchfclmokpbldaaGreatNets
import Derived.Test.YtchfclmokpbldaaGreatFits
set_option linter.all false
set_option maxHeartbeats 4000000
set_option maxRecDepth 20000
namespace Go.Proofs.YtchfclmokpbldaaGreat
open Go.Aw Go
section
attribute [local irreducible] CJ LJ DJ Tri YV Gives U0 J3 Kj Uz RV J5 OwL.L
section
variable {A B:Prop}
def Kzf(h:B:=by exact ⟨OwL.nil,OwL.nil,by rw [hsv];rfl,OwL.nil_ok,OwL.nil_ok,by rw [hsv],by rw [hsv],by rw [Ki,yv,yv],rfl⟩):=h
end
def Yae (a:XAir) (s:XSetting) (ps:Arr Int) (A:List Bool) (L:LB) (R:LS) (hm:AirR a R) (hs:SetR s R) (hps:InR (isl ps) R) (hA:K1 a=0→AiryIs a.mine A):
 Tri Tryz.prog 187 [a.val,s.val,ps.val].toArray L R (fun w M U=>∃p:OwL Int,w=.tuple #[p.val,.int .i64 (K9 a s A true ps.l).1]∧p.ok 1 Jo∧p.l=(K9 a s A true ps.l).2∧p.L 3 Jo ++ L=M∧R=U):=
 Tri.turn (J4d a s ps A L R hm hs hps hA) fun v M U ⟨p,S,a1,a2,a3,a4,a5⟩=>⟨M,R,yHa _,fun r h=>Ja (by rw [← a5];simp [h]),p,a1,a2,a3,a4,rfl⟩
def Zke (a:XAir) (s:XSetting) (ps:Arr Int) (A:List Bool) (L:LB) (R:LS) (hm:AirR a R) (hs:SetR s R) (hps:InR (isl ps) R) (hA:K1 a=0→AiryIs a.mine A):
 Tri Tryz.prog 186 [a.val,s.val,ps.val].toArray L R (fun w M U=>∃p:OwL Int,w=.tuple #[p.val,.int .i64 (K9 a s A false ps.l).1]∧p.ok 1 Jo∧p.l=(K9 a s A false ps.l).2∧p.L 3 Jo ++ L=M∧R=U):=
 Tri.turn (J2d a s ps A L R hm hs hps hA) fun v M U ⟨p,S,a1,a2,a3,a4,a5⟩=>⟨M,R,yHa _,fun r h=>Ja (by rw [← a5];simp [h]),p,a1,a2,a3,a4,rfl⟩
def Vtd {a:XAir} {s:XSetting} {q:OwL Int} {A:List Bool} {L:LB} {R:LS} {vl:Value} (hvl:vl=q.val) (hm:AirR a R) (hs:SetR s R) (hA:K1 a=0→AiryIs a.mine A) (hin:InB (q.L 3 Jo) L) (hok:q.ok 1 Jo):
 Tri Tryz.prog 186 [a.val,s.val,vl].toArray L R (fun w M U=>∃p:OwL Int,w=.tuple #[p.val,.int .i64 (K9 a s A false q.l).1]∧p.ok 1 Jo∧p.l=(K9 a s A false q.l).2∧p.L 3 Jo ++ L=M∧R=U):=by subst hvl;have h2:=Tri.lend (S:=[isl q.arr]) (Post:=fun v M=>∃p:OwL Int,v=.tuple #[p.val,.int .i64 (K9 a s A false q.l).1]∧p.ok 1 Jo∧p.l=(K9 a s A false q.l).2∧p.L 3 Jo ++ []=M) (Spl.rest (L:=L)) (fun w G hh s hs=>by rw [List.mem_singleton.1 hs];exact Jtb hh hin hok yf ze yg) ((Zke a s q.arr A [] _ (J2a hm fun r h=>Ja (.tail _ h)) (Yla hs fun r h=>Ja (.tail _ h)) zsb hA).mono fun v M U ⟨p,a1,a2,a3,a4,a5⟩=>⟨⟨p,a1,a2,a3,a4⟩,a5⟩);exact Tri.turn h2 fun v L'' U ⟨M,e,⟨p,a1,a2,a3,a4⟩,a5⟩=>⟨_,U,by rw [← e,← a4,yZ];exact yAa,fun r hr=>Ja hr,p,a1,a2,a3,rfl,a5⟩
def Zqc (a:XAir) (s:XSetting) (A:List Bool) (L:LB) (R:LS) (hm:AirR a R) (hs:SetR s R) (hA:K1 a=0→AiryIs a.mine A) (hnp:a.mine.places.l.length≤64):
 Tri Tryz.prog 111 [a.val,s.val].toArray L R (fun w M U=>∃lo hi:OwL Int,w=.tuple #[.agg #[lo.val,hi.val],.int .i64 (Yf a s A).1]∧lo.ok 1 Jo∧hi.ok 1 Jo∧lo.l=(Yf a s A).2.1∧hi.l=(Yf a s A).2.2∧lo.L 3 Jo ++ (hi.L 3 Jo ++ L)=M∧R=U):=by
 have hmp:=hm.places;have hzok:∀b,(⟨.own b a.mine.places.l.length [],List.replicate a.mine.places.l.length 0⟩:OwL Int).ok 1 Jo:=fun b=>Yr yf zE;refine Jj 49 Tryz.call111 Tryz.func111 rfl rfl rfl ?_;apply (Xaf);intro b2;apply (qax);intro b3;apply (qaq);intro b4;apply (Xb5);refine Kp tb [0,1,2,3,4,5,6,7,8,9,10,11,12] ([Blk.mk b3 _ _,Blk.mk b2 _ _]) K3 zc zi ?_;apply qbc∘qbd∘Xc4;refine K2 zBb rfl rfl rfl ?_;refine Z4b zNb rfl rfl rfl ?_;rintro v M U ⟨b16,rfl,rfl,hR16⟩;replace hR16:=hR16.symm;subst hR16;apply (qa1);refine Yj rfl (Vtd (q:=⟨.own b16 a.mine.places.l.length [],List.replicate a.mine.places.l.length 0⟩) (Vlf (α:=Int)).symm hm hs hA (V8e (f:=Jo) (x:=0) rfl) (hzok b16)) rfl rfl ?_;rintro v M U ⟨p,rfl,hpk,hpl,rfl,rfl⟩;refine ⟨zi,zw,?_⟩;replace hpl:p.l=(K9 a s A false (List.replicate a.mine.places.l.length 0)).2:=hpl;refine K2 zCb rfl rfl rfl ?_;refine K2 zJb rfl rfl rfl ?_;refine K2 zJb rfl rfl rfl ?_;refine K2 (Uc zhb) rfl rfl rfl ?_;apply (qcg);refine Jz (Jc (Jr (Jr ?_)));refine Vla (A:=[]) (wd:=1) [] yf ze hpk yg ?_;refine Vf (by simp only [yv];rfl) ?_;have hm1:AirR a (isl p.arr :: R):=J2a hm fun r h=>Ja (.tail _ h);have hs1:SetR s (isl p.arr :: R):=Yla hs fun r h=>Ja (.tail _ h);obtain ⟨x,hx⟩:∃x,x=K9 a s A false (List.replicate a.mine.places.l.length 0):=⟨_,rfl⟩;rw [← hx] at hpl ⊢;apply Xa1∘Xao;refine q_c ?_ ?_<;>intro hc0;·
  apply qae∘qck∘Xbz;refine Kq (M:=L) (U:=R) (U1 rfl zjb zBc) ?hp ?hL ?hR;case hp=>(have hsv:Yf a s A=(x.1,[],[]):=by rw [Yf];dsimp only;rw [← hx,if_pos hc0]);exact Kzf
  case hL=>exact zi
  case hR=>exact fun r h=>Ja (by simp [h])
 apply qbv∘Xcd∘qbm;refine Jy rfl (Yae a s p.arr A _ _ hm1 hs1 zsb hA) rfl ?_;rintro v M U ⟨q,rfl,hqk,hql,rfl,rfl⟩;replace hql:q.l=(K9 a s A true p.l).2:=hql;obtain ⟨y,hy⟩:∃y,y=K9 a s A true p.l:=⟨_,rfl⟩;rw [← hy] at hql ⊢;have hxy:y=K9 a s A true x.2:=by rw [hy,hpl]
 refine Jx zCb rfl ?_;apply Xa3∘qc4∘Xb2∘Xao;refine q_c ?_ ?_<;>intro hc1;·
  apply qae∘qck∘Xbz;refine Kq (M:=L) (U:=R) (U1 rfl zjb zBc) ?hp ?hL ?hR;case hp=>(have hsv:Yf a s A=(y.1,[],[]):=by rw [Yf];dsimp only;rw [← hx,if_neg hc0,← hxy,if_pos hc1]);exact Kzf
  case hL=>exact zi
  case hR=>exact fun r h=>Ja (by simp [h])
 apply qbv∘Xcd∘qbm;refine Jy rfl (Vtd (q:=q) rfl hm1 hs1 hA zQ hqk) rfl ?_;rintro v M U ⟨u,rfl,huk,hul,rfl,rfl⟩;obtain ⟨z,hz⟩:∃z,z=K9 a s A false q.l:=⟨_,rfl⟩;rw [← hz] at hul ⊢;have hyz:z=K9 a s A false y.2:=by rw [hz,hql]
 refine Jx zCb rfl ?_;apply Xa3∘qc4∘Xb2∘Xao;refine q_c ?_ ?_<;>intro hc2;·
  apply qae∘qck∘Xbz;refine Kq (M:=L) (U:=R) (U1 rfl zjb zBc) ?hp ?hL ?hR;case hp=>(have hsv:Yf a s A=(z.1,[],[]):=by rw [Yf];dsimp only;rw [← hx,if_neg hc0,← hxy,if_neg hc1,← hyz,if_pos hc2]);exact Kzf
  case hL=>exact zi
  case hR=>exact fun r h=>Ja (by simp [h])
 apply qbv∘qbm∘qbm;refine Jx zrb rfl ?_;apply (Xbl);refine Kq (M:=u.L 3 Jo ++ (q.L 3 Jo ++ L)) (U:=R) (U1 rfl zjb zBc) ?hp ?hL ?hR;case hp=>
  have hsv:Yf a s A=(0,z.2,y.2):=by rw [Yf];dsimp only;rw [← hx,if_neg hc0,← hxy,if_neg hc1,← hyz,if_neg hc2]
  exact ⟨u,q,by rw [hsv];rfl,huk,hqk,by rw [hsv];exact hul,by rw [hsv];exact hql,rfl,rfl⟩
 case hL=>exact zi
 case hR=>exact fun r h=>Ja (by simp [h])
end
section
structure FlowTo (a:XAir) (s:XSetting) (b:XBounds) (A:List Bool) (n:XNet) (k:Nat) (l:List XSpan):Prop where
 len:l.length=a.mine.roads.l.length
 don:∀(j:Nat) (p:XPipe),j < k→n.pipes.l[j]?=some p→l[p.num.toNat]?=some (Ut a s b A p.num.toNat)
 non:∀i:Nat,i < a.mine.roads.l.length→(∀(j:Nat) (p:XPipe),j < k→n.pipes.l[j]?=some p→p.num.toNat≠i)→l[i]?=some ⟨0,0⟩
def FlowTo.zero (a:XAir) (s:XSetting) (b:XBounds) (A:List Bool) (n:XNet):FlowTo a s b A n 0 (List.replicate a.mine.roads.l.length ⟨0,0⟩):=
 ⟨by simp,fun j p hj=>by omega,fun i hi _=>by rw [yB,if_pos hi]⟩
def FlowTo.next {a:XAir} {s:XSetting} {b:XBounds} {A:List Bool} {n:XNet} {k:Nat} {l:List XSpan} (h:FlowTo a s b A n k l) {p:XPipe} (hp:n.pipes.l[k]?=some p) (hr:p.num.toNat < a.mine.roads.l.length) {x:XSpan} (hx:x=Ut a s b A p.num.toNat):FlowTo a s b A n (k + 1) (l.set p.num.toNat x):=by
 have hl:=h.len;subst hx;refine ⟨by simp [hl],fun j q hj hq=>?_,fun i hi hn=>?_⟩;·
  rw [yK];split;·rename_i e;rw [if_pos za,e]
  ·
   rename_i e;rcases yk j k with h1 | h1;·exact h.don j q h1 hq
   ·(obtain rfl : j = k := by omega);rw [hp] at hq;cases hq;exact absurd rfl e
 ·rw [yda (hn k p za hp)];exact h.non i hi fun j q hj hq=>hn j q za hq
def FlowTo.done {a:XAir} {s:XSetting} {b:XBounds} {A:List Bool} {n:XNet} {l:List XSpan} (h:FlowTo a s b A n n.pipes.l.length l) (hn:NetIs a s n):l=(List.range a.mine.roads.l.length).map (Ut a s b A):=by
 have hl:=h.len;refine yxa fun i=>?_;rcases yk i a.mine.roads.l.length with hi | hi;·
  rw [yt, yN hi];show _=some (Ut a s b A i);cases hc:(a.mine.roads.l.getD i default).closed with
  | true=>rw [Ut,if_pos hc];refine h.non i hi fun j p hj hp e=>?_;have:=(hn.open (yj hp)).2;rw [e,hc] at this;cases this
  | false=>obtain ⟨j,p,hj,hp⟩:=hn.find (r:=(i:Int)) za (by rw [yu];exact hc);have:=h.don j p (List.getElem?_eq_some_iff.1 hj).1 hj;rw [hp,yu] at this;exact this
 ·rw [yr za,yr zD]
end
section
attribute [local irreducible] CJ LJ DJ Tri YV Gives U0 J3 Kj Uz RV J5 OwL.L
section
variable {A B:Prop}
def Jvg(h:A→B:=by exact Ku (Jm (row:=[_,_,_,_,_,_,_,_,_,_,_,_]) tb rfl rfl rfl zf zb zb) rfl rfl rfl rfl):=h
def Jlg(h:A→B:=by exact Ku (by first | exact Jf tb rfl rfl rfl rfl zt (i:=P.road.fr.toNat) zk za | exact Jl tb rfl rfl rfl rfl (i:=P.road.fr.toNat) zk za) rfl rfl rfl rfl):=h
def Jwg(h:A→B:=by exact Ku (by first | exact Jf tb rfl rfl rfl rfl zt (i:=P.road.to.toNat) zk za | exact Jl tb rfl rfl rfl rfl (i:=P.road.to.toNat) zk za) rfl rfl rfl rfl):=h
end
def Uie (a:XAir) (s:XSetting) (b:XBounds) (A:List Bool) (L:LB) (R:LS) (hm:AirR a R) (hs:SetR s R) (hb:BoundsR b R) (hA:K1 a=0→AiryIs a.mine A):
 Tri Tryz.prog 112 [a.val,s.val,b.val].toArray L R (fun v M U=>∃(p:OwL XSpan) (S:LS),v=p.val∧p.ok 2 XSpan.cells∧p.l=Uw a s b A∧p.L 90 XSpan.cells ++ L=M∧S ++ R=U):=by
 have hmr:=hm.roads;have hbl:=hb.low;have hbh:=hb.high;refine Jj 85 Tryz.call112 Tryz.func112 rfl rfl rfl ?_;apply (Xaf);intro b3;apply (qax);intro b4;apply (qax);intro b5;apply Xb0∘Xcd∘qbe;refine Jy rfl (Jqf a s b A _ _ hm hs hb hA) rfl ?_;rintro v M U ⟨S1,rfl,rfl,rfl⟩;have hm1:AirR a (S1 ++ R):=⟨hm.places.mono fun r h=>Ja (by simp [h]),hm.roads.mono fun r h=>Ja (by simp [h]),hm.fans.mono fun r h=>Ja (by simp [h]),hm.doors.mono fun r h=>Ja (by simp [h])⟩;have hmr1:=hm1.roads;apply (Xao);refine q_c ?_ ?_<;>intro hc0;·apply Xck∘qbh;refine q_r L (S1 ++ R) zUc ?_;exact ⟨OwL.nil,S1,rfl,OwL.nil_ok,by rw [Uw,if_neg hc0],by rw [Ki,yv],rfl⟩
 have hck:Yz a s b A=0:=by omega
 have hC:=Yzc hck;have hok:=Zj hC.h0;have hfo:=Vsb hC.hf;have hAA:=hA hC.h0;have hnr:=hok.mine.roads;have hln:=hC.hl;have hhn:=hC.hh;apply qbv∘Xb6∘qc7;rintro v M U ⟨b20,rfl,rfl,hR20⟩;replace hR20:=hR20.symm;subst hR20;apply (Xcx);refine Vf (Y1 (f:=XSpan.cells) (x:=⟨0,0⟩) rfl _) ?_;apply qay∘Xdp;refine Jy rfl (Vvb a.mine _ _ hm1.mineR hok.mine (Voa hC.h0)) rfl ?_;rintro v M U ⟨p,A2,S2,rfl,hpk,hA2,hpl,rfl,rfl⟩;obtain rfl:A=A2:=hAA.unique hA2;have hplen:p.l.length=a.mine.places.l.length:=by rw [hpl,yz];exact hAA.length
 have hm2:AirR a (S2 ++ (S1 ++ R)):=⟨hm1.places.mono fun r h=>Ja zma,hm1.roads.mono fun r h=>Ja zma,hm1.fans.mono fun r h=>Ja zma,hm1.doors.mono fun r h=>Ja zma⟩;have hs2:SetR s (S2 ++ (S1 ++ R)):=⟨hs.fans.mono fun r h=>Ja (by simp [h]),hs.doors.mono fun r h=>Ja (by simp [h])⟩;apply Xb0∘Xcd;refine Jy rfl (Vgc a s _ _ hm2 hs2 hok hfo) rfl ?_;rintro v M U ⟨n,rfl,hn,rfl,rfl⟩;have hpp:InR (Zma n.pipes) (Zma n.pipes :: Yga n.at_ :: (S2 ++ (S1 ++ R))):=Ja (.head _);have hbl3:InR (isl b.low) (Zma n.pipes :: Yga n.at_ :: (S2 ++ (S1 ++ R))):=hbl.mono fun r h=>Ja (by simp [h]);have hbh3:InR (isl b.high) (Zma n.pipes :: Yga n.at_ :: (S2 ++ (S1 ++ R))):=hbh.mono fun r h=>Ja (by simp [h]);have hnl:=hn.length;refine Jx (Zsc (e:=218) tb rfl zc rfl rfl rfl rfl rfl) rfl ?_;apply qag∘Xal;refine Jp [(5,.pointer _),(7,.slice _ _ _),(8,.slice _ _ _),(27,.slice _ _ _),(28,.int _ _),(29,.int _ _)] zh fun tq0=>?_;refine q_p ([10]++rg 29 55) ((⟨fun q=>[(29,.int .i64 ((q.1.1:Nat):Int))],fun q=>p.L 4 blc ++ ((⟨.own b20 a.mine.roads.l.length [],q.1.2⟩:OwL XSpan).L 90 XSpan.cells ++ (⟨b5,b.cells,214⟩ :: ⟨b4,s.cells,80⟩ :: ⟨b3,a.cells,32⟩ :: L)),fun _=>Zma n.pipes :: Yga n.at_ :: (S2 ++ (S1 ++ R)),fun q=>n.pipes.l.length - q.1.1⟩:Head {q:Nat×List XSpan // q.1≤n.pipes.l.length∧FlowTo a s b A n q.1 q.2})) (⟨(0,List.replicate a.mine.roads.l.length ⟨0,0⟩),by dsimp only;omega,FlowTo.zero a s b A n⟩) ?_;rintro ⟨⟨k,l⟩,w1,w2⟩ junk;try dsimp only
 dsimp only at w1 w2;have hll:=w2.len;have hkq:(⟨.own b20 a.mine.roads.l.length [],l⟩:OwL XSpan).ok 2 XSpan.cells:=by have:=Yr (f:=XSpan.cells) (wd:=2) (b:=b20) (n:=a.mine.roads.l.length) (x:=⟨0,0⟩) yf zE;exact OwL.len_ok yf this (by simp;exact hll)
 apply (Xak);refine q_c ?_ ?_<;>intro hc1;·
  obtain ⟨P,hP⟩:=Ky (l:=n.pipes.l) (k:=k) za;have hPI:=InR.pipe hpp hP;obtain ⟨hPn,hPo⟩:=hn.open (yj hP);have hPs:=hn.pipe P (yj hP);have hPk:=Zfc hok hPn hPs;have hdr:Jdb P=K5 a s ((P.num.toNat:Nat):Int):=funext fun q=>by rw [U0d hPs q,yka hPn.1]
  have hro:=hok.mine.road P.num.toNat _ ztc;have hr1:=hro.fr;have hr2:=hro.to;have hef:P.road.fr=(a.mine.roads.l.getD P.num.toNat default).fr:=by rw [hPs.road]
  have het:P.road.to=(a.mine.roads.l.getD P.num.toNat default).to:=by rw [hPs.road]
  have hAl:=hAA.length;have hpg:p.l[P.road.fr.toNat]?=some (!(A.getD P.road.fr.toNat false)):=by rw [hpl,yt,Jw (l:=A) (k:=P.road.fr.toNat) false za];rfl
  have g1:=Jw (l:=b.low.l) (k:=P.road.fr.toNat) 0 za;have g2:=Jw (l:=b.low.l) (k:=P.road.to.toNat) 0 za;have g3:=Jw (l:=b.high.l) (k:=P.road.fr.toNat) 0 za;have g4:=Jw (l:=b.high.l) (k:=P.road.to.toNat) 0 za;have e1:=hC.pl.get P.road.fr.toNat;have e2:=hC.pl.get P.road.to.toNat;have e3:=hC.ph.get P.road.fr.toNat;have e4:=hC.ph.get P.road.to.toNat;have hlg:=Jw (l:=l) (k:=P.num.toNat) default za;apply (qbb);refine Jx zB rfl ?_;apply qdx∘qaq;intro b10;apply Xa8∘qbm∘Xdm;refine Jx (Jv tb (p) _ rfl rfl rfl rfl zg (i:=P.road.fr.toNat) zk zu) rfl ?_;refine Jx zyb rfl ?_;apply (qaf);refine q_c ?_ ?_<;>intro hc2;·(have hrf:nothingS=Ut a s b A P.num.toNat:=by rw [Ut,if_neg (by rw [hPo];decide),← hef,if_neg zK]);apply qae∘Xci∘qcd;refine Jx zGc rfl ?_;refine Ym (U2 tb ((⟨.own b20 a.mine.roads.l.length [],l⟩:OwL XSpan)) (nothingS) rfl rfl rfl rfl zj zg yf zg (yQ rfl) zb zb) ?_;rintro v M U ⟨rfl,rfl⟩;refine J6 (Jc (Ug (Kw (Kd (Jc (Jh ?_))))));apply (Xae);exact ubm
  have hrf:(⟨Vd (Jdb P) (b.low.l.getD P.road.fr.toNat 0 - b.high.l.getD P.road.to.toNat 0),Uj (Jdb P) (b.high.l.getD P.road.fr.toNat 0 - b.low.l.getD P.road.to.toNat 0)⟩:XSpan)=Ut a s b A P.num.toNat:=by rw [Ut,if_neg (by rw [hPo];decide),← hef,← het,if_pos zK,hdr]
  refine Ka (Jc ?_);refine Kh tb [] [0,1,2,3,4,5,6,7,8,9,10,11,12,13,14,15,16,17,18,20,21,22,23,24,25,26,27,28,29,30,31,32,33,34,35,19,36,37,38] [39] ([Blk.mk b10 _ _,Blk.mk b5 _ _]) _ K3 zc zi ye ?_;apply Xcw∘Jvg∘Xar∘qan∘Xar∘Jlg∘qci∘Xar∘qan∘Xar∘Jwg∘qci∘qcc∘Jvg∘Xar∘qan∘Xar∘Jlg∘qci∘Xar∘qan∘Xar∘Jwg∘qci∘qcc;refine Up rfl (Jcb P (b.low.l.getD P.road.fr.toNat 0 - b.high.l.getD P.road.to.toNat 0) _ _ hPI hPk) rfl rfl ?_;rintro v M U ⟨rfl,rfl,rfl⟩;refine ⟨zi,zw,?_⟩;refine Up rfl (Yoa P (b.high.l.getD P.road.fr.toNat 0 - b.low.l.getD P.road.to.toNat 0) _ _ hPI hPk) rfl rfl ?_;rintro v M U ⟨rfl,rfl,rfl⟩;refine ⟨zi,zw,?_⟩;apply (qcw);refine Ku zGc rfl rfl rfl rfl ?_;apply (qba);refine Kvb (U2 tb ((⟨.own b20 a.mine.roads.l.length [],l⟩:OwL XSpan)) (⟨Vd (Jdb P) (b.low.l.getD P.road.fr.toNat 0 - b.high.l.getD P.road.to.toNat 0),Uj (Jdb P) (b.high.l.getD P.road.fr.toNat 0 - b.low.l.getD P.road.to.toNat 0)⟩) rfl rfl rfl rfl zj zg yf zg (yQ rfl) zb zb) rfl rfl ?_;rintro v M U ⟨rfl,rfl⟩;apply qa1∘Xda;exact ubm
 obtain rfl:k=n.pipes.l.length:=by omega
 apply Xcs∘Xcl;refine q_r ((⟨.own b20 a.mine.roads.l.length [],l⟩:OwL XSpan).L 90 XSpan.cells ++ L) (Zma n.pipes :: Yga n.at_ :: (S2 ++ (S1 ++ R))) zUc ?_;exact ⟨(⟨.own b20 a.mine.roads.l.length [],l⟩:OwL XSpan),Zma n.pipes :: Yga n.at_ :: (S2 ++ S1),Uq hll,hkq,by rw [Uw,if_pos hck];exact w2.done hn,rfl,by simp [yq]⟩
end
section
attribute [local irreducible] CJ LJ DJ Tri YV Gives U0 J3 Kj Uz RV J5 OwL.L
abbrev Jke (x:Arr XSpan):Sl:=x.sl 2 XSpan.cells []
abbrev Uv:XSetting:=⟨⟨none,0,[]⟩,⟨none,0,[]⟩⟩
end
section
def Tri.lendU {P : Program} {f : FuncId} {args : Array Value} {A : LB} {R S : LS} {u : Value}
 (hS:∀w,∀G:Nat→Prop,Holds (A ++ []) G R w→∀s∈S,Rep w (fun b=>G b∨∃e∈A,e.b=b) s)
 (h:Tri P f args [] (S ++ R) (fun v M U=>v=u∧[]=M∧S ++ R=U)):Tri P f args A R (fun v M U=>v=u∧A=M∧R=U):=by have h2:=Tri.lend (S:=S) (Post:=fun v M=>v=u∧[]=M) (Spl.rest (L:=A)) hS (h.mono fun v M U ⟨a1,a2,a3⟩=>⟨⟨a1,a2⟩,a3⟩);exact zKd
attribute [local irreducible] CJ LJ DJ Tri YV Gives U0 J3 Kj Uz RV J5 OwL.L
def Vxe (x:Arr Int) (a:Int) (L:LB) (R:LS) (hx:InR (isl x) R):
 Tri Tryz.prog 235 [x.val,.int .i64 a].toArray L R (fun v M U=>∃r:Int,v=.int .i64 r∧(0≤r↔a∈x.l)∧L=M∧R=U):=by
 refine Zba Tryz.call235 hx fun hcap=>?_;refine Jj 19 Tryz.call235 Tryz.func235 rfl rfl rfl ?_;apply Xac∘qaw∘Xbt;refine Jp [(0,.slice _ _ _),(1,.int _ _),(7,.int _ _),(8,.int _ _)] zh fun tq0=>?_;refine q_s ([4,5]++rg 8 11) (fun g:{k:Nat // k≤x.l.length∧∀j:Nat,j < k→x.l.getD j 0≠a}=>[(8,.int .i64 ((g.1:Nat):Int))]) (fun g=>x.l.length - g.1) (⟨0,by omega,fun j hj=>by omega⟩) ?_;rintro ⟨k,hk,hal⟩ junk;try dsimp only
 apply (Xak);refine q_c ?_ ?_<;>intro hc0;·
  have hg:=Jw (l:=x.l) (k:=k) 0 za;apply Xa0∘Xau∘Xat;refine Jx zB rfl ?_;apply qa7∘Xcm;refine q_c ?_ ?_<;>intro hc1;·apply Xdj∘qbt;refine q_i L R ?_;exact ⟨k,rfl,⟨fun _=>by rw [hc1];exact yj hg,fun _=>by omega⟩,rfl,rfl⟩
  apply (Xax);exact Kr (⟨k + 1,by omega,fun j hj=>by
  rcases yk j k with h | h;·exact hal j h
  ·(obtain rfl : j = k := by omega);exact fun h=>hc1 h.symm⟩) zm zh zi ztb zx
 apply (Xca);refine q_i L R ?_;refine ⟨-1,rfl,⟨fun h=>by omega,fun h=>?_⟩,rfl,rfl⟩;obtain ⟨j,hj,rfl⟩:=yMa h;have:=hal j za;rw [yh,yC hj] at this;exact absurd rfl this
def V9c (x:Arr Int) (a:Int) (L:LB) (R:LS) (hx:InR (isl x) R):
 Tri Tryz.prog 169 [x.val,.int .i64 a].toArray L R (fun v M U=>v=.bool (decide (a∈x.l))∧L=M∧R=U):=by refine Jj 9 Tryz.call169 Tryz.func169 rfl rfl rfl ?_;apply Xbe∘qam∘Xat;refine Jy rfl (Vxe x a _ _ hx) rfl ?_;exact zBd
end
section
attribute [local irreducible] CJ LJ DJ Tri YV Gives U0 J3 Kj Uz RV J5 OwL.L
def Uue (m:XMine):∃A,AiryIs m A:=by refine ⟨(List.range (V7e m).length).map fun i=>@decide (∃j:Nat,j < (V7e m).length∧(V7e m).getD j false=true∧Conn m j i) (Classical.propDecidable _),by simp,fun i hi=>?_⟩;rw [yh,yt,yN hi];exact ⟨fun h=>@of_decide_eq_true _ (Classical.propDecidable _) h,fun h=>@decide_eq_true _ (Classical.propDecidable _) h⟩
end
section
section
variable {a:XAir} {s:XSetting} {A:List Bool} {l m:List Int} {k:Nat} {v:Int}
def Vte (h0:PresOk l) (h:Kza a s true l k=some v):l.getD k 0≤v∧0≤Vuc a s (l.set k v) (k:Int)∧∀w,l.getD k 0≤w→w < v→Vuc a s (l.set k w) (k:Int) < 0:=by
 obtain ⟨d,d0,d1,dv,dg,dj⟩:=(Z9a (Y4b (h0.get k)).1 h).yes rfl;have e:∀x,Uhc a s true l (k:Int) x=Uaf a s l (k:Int) x:=fun x=>by rw [Uhc,if_pos rfl]
 rw [e,decide_eq_true_eq,yu] at dg;have es:sgn true=1:=rfl;rw [es] at dv dj;refine ⟨by omega,dg,fun w w1 w2=>?_⟩;have:=dj (w - l.getD k 0) za za;rw [show l.getD k 0 + 1 * (w - l.getD k 0)=w by omega,e,decide_eq_false_iff_not,yu] at this;omega
def Ypc (h0:PresOk l) (h:Kza a s false l k=some v):v≤l.getD k 0∧Yba a s (l.set k v) (k:Int)≤0∧∀w,w≤l.getD k 0→v < w→0 < Yba a s (l.set k w) (k:Int):=by
 obtain ⟨d,d0,d1,dv,dg,dj⟩:=(Z9a (Y4b (h0.get k)).1 h).yes rfl;have e:∀x,Uhc a s false l (k:Int) x=Khd a s l (k:Int) x:=fun x=>by rw [Uhc,if_neg ze]
 rw [e,decide_eq_true_eq,yu] at dg;have es:sgn false= -1:=rfl;rw [es] at dv dj;refine ⟨by omega,dg,fun w w1 w2=>?_⟩;have:=dj (l.getD k 0 - w) za za;rw [show l.getD k 0 + -1 * (l.getD k 0 - w)=w by omega,e,decide_eq_false_iff_not,yu] at this;omega
end
def Jlb {a : XAir} {s : XSetting} {A : List Bool} {up : Bool} {l : List Int} : ∀ {n : Nat} {m : List Int}, Uf a s A up l n = some m → ∀ k, k ≤ n → ∃ mk, Uf a s A up l k = some mk ∧ ∀ j : Nat, j < k → m[j]? = mk[j]?
 | 0,m,h,k,hk=>by
  obtain rfl:k=0:=by omega
  exact ⟨m,h,fun j hj=>by omega⟩
 | n + 1,m,h,k,hk=>by
  rcases yk n k with h1 | h1
  ·obtain rfl : k = n + 1 := by omega
   exact ⟨m,h,fun _ _=>rfl⟩
  ·have h' := h
   rw [Uf,yGa] at h'
   obtain ⟨m1,e1,e2⟩:=h'
   obtain ⟨mk,f1,f2⟩:=Jlb e1 k h1
   refine ⟨mk,f1,fun j hj=>?_⟩
   rw [← f2 j hj]
   split at e2
   ·cases e2;rfl
   ·obtain ⟨v, _, rfl⟩ := Option.map_eq_some_iff.1 e2
    rw [yda za]
def Jne {a:XAir} {s:XSetting} {A:List Bool} {up:Bool} {l:List Int} (hl:PresOk l) (hn:l.length=a.mine.places.l.length) (h:Uf a s A up l a.mine.places.l.length=some l) {k:Nat} (hk:k < a.mine.places.l.length) (hf:¬ Vub a A k=true):Kza a s up l k=some (l.getD k 0):=by
 obtain ⟨m1,e1,e2⟩:=Jlb h (k + 1) za;have e1':=e1;rw [Uf,yGa] at e1';obtain ⟨m0,f1,f2⟩:=e1';obtain ⟨m0',g1,g2⟩:=Jlb h k za;rw [f1] at g1;cases g1;have hS:=Z5 hl f1;have em:m0=l:=yxa fun j=>by
  rcases yk j k with h1 | h1;·exact (g2 j h1).symm
  ·exact hS.rest j h1
 subst em;rw [if_neg hf] at f2;obtain ⟨v,hv,rfl⟩:=Option.map_eq_some_iff.1 f2;have:=e2 k za;rw [yH za,Jw (l:=m0) (k:=k) 0 za] at this;rw [hv,yL this]
structure Moved (a:XAir) (A:List Bool) (up:Bool) (l m:List Int):Prop where
 len:m.length=l.length
 le:∀j:Nat,if up=true then l.getD j 0≤m.getD j 0 else m.getD j 0≤l.getD j 0
 fix:∀j:Nat,Vub a A j=true→m.getD j 0=l.getD j 0
def Moved.refl {a:XAir} {A:List Bool} {up:Bool} {l:List Int}:Moved a A up l l:=⟨rfl,fun j=>by split <;> exact yD _,fun _ _=>rfl⟩
def Moved.trans {a:XAir} {A:List Bool} {up:Bool} {l m n:List Int} (h:Moved a A up l m) (k:Moved a A up m n):Moved a A up l n:=by
 refine ⟨k.len.trans h.len,fun j=>?_,fun j hj=>(k.fix j hj).trans (h.fix j hj)⟩;have h1:=h.le j;have h2:=k.le j;split at h1;·rename_i e;rw [if_pos e] at h2;rw [if_pos e];omega
 ·rename_i e;rw [if_neg e] at h2;rw [if_neg e];omega
def Y0b {a : XAir} {s : XSetting} {A : List Bool} {up : Bool} {l : List Int} (hl : PresOk l) : ∀ {n : Nat} {m : List Int}, n ≤ l.length → Uf a s A up l n = some m → Moved a A up l m
 | 0,m,_,h=>by cases h;exact .refl
 | n + 1,m,hn,h=>by
  have h':=h
  rw [Uf,yGa] at h'
  obtain ⟨m0,e1,e2⟩:=h'
  have ih:=Y0b hl za e1
  have hS:=Z5 hl e1
  have hlen:=hS.len
  split at e2
  ·cases e2;exact ih
  ·rename_i hf
   obtain ⟨v,hv,rfl⟩:=Option.map_eq_some_iff.1 e2
   refine ih.trans ⟨by simp,fun j=>?_,fun j hj=>?_⟩
   ·rw [U8a za]
    cases up with
    | true=>
     have:=(Vte hS.pres hv).1
     simp only [if_true]
     split
     ·rename_i e;subst e;exact this
     ·exact yD _
    | false=>
     have:=(Ypc hS.pres hv).1
     simp only [Bool.false_eq_true,if_false]
     split
     ·rename_i e;subst e;exact this
     ·exact yD _
   ·rw [U8a za,if_neg (fun e=>hf (by rw [← e];exact hj))]
def Y6a {a : XAir} {s : XSetting} {A : List Bool} {up : Bool} : ∀ {n : Nat} {l m : List Int}, PresOk l → l.length = a.mine.places.l.length → Va a s A up n l = some m → Moved a A up l m
 | 0,l,m,_,_,h=>by cases h
 | n + 1,l,m,hl,hn,h=>by
  rw [Va] at h
  split at h
  ·cases h
  ·rename_i m1 h1
   have hs:=Z5 hl h1
   have hm:=Y0b hl za h1
   split at h
   ·cases h;exact hm
   ·exact hm.trans (Y6a hs.pres (hs.len.trans hn) h)
def Jtc {a:XAir} {s:XSetting} {A:List Bool} {n:Nat} {l m:List Int} {up:Bool} (hl:PresOk l) (hn:l.length=a.mine.places.l.length) (h:Va a s A up n l=some m) {k:Nat} (hk:k < a.mine.places.l.length) (hf:¬ Vub a A k=true):
 if up=true then 0≤Vuc a s m (k:Int) else Yba a s m (k:Int)≤0:=by
 obtain ⟨h1,h2,h3⟩:=Y7a hl h;have hx:=Jne h2 (h1.trans hn) h3 hk hf;cases up with
 | true=>have:=(Vte h2 hx).2.1;rw [Zka] at this;simpa using this
 | false=>have:=(Ypc h2 hx).2.1;rw [Zka] at this;simpa using this
def Ypa {a:XAir} {s:XSetting} {A:List Bool} {up:Bool} {ps:List Int} (h:StartOk a s ps A):(K9 a s A up ps).1=0∨(K9 a s A up ps).1=2:=by
 rw [K9,if_neg (by rw [Uga.2 h];decide)];split;·exact .inr rfl
 ·exact .inl rfl
def StartOk.moved {a:XAir} {s:XSetting} {A:List Bool} {up:Bool} {l:List Int} (h:StartOk a s l A) {n:Nat} {m:List Int} (hm:Va a s A up n l=some m):StartOk a s m A:=by obtain ⟨h1,h2,_⟩:=Y7a h.hp hm;have h3:=Y6a h.hp h.hl hm;exact ⟨h.h0,h.hf,h1.trans h.hl,h2,fun i hi hf=>(h3.fix i hf).trans (h.fix i hi hf)⟩
def Zxd {a:XAir} {s:XSetting} {A:List Bool} (h0:K1 a=0) (hf:Yfa a s=true):StartOk a s (List.replicate a.mine.places.l.length 0) A:=by
 refine ⟨h0,hf,by simp,fun p hp=>?_,fun i hi _=>?_⟩;·rw [(List.mem_replicate.1 hp).2];decide
 ·rw [yh, yB];split <;> rfl
structure Solved (a:XAir) (s:XSetting) (A:List Bool) (lo hi:List Int):Prop where
 lok:StartOk a s lo A
 hok:StartOk a s hi A
 le:∀i:Nat,lo.getD i 0≤hi.getD i 0
 low:∀i:Nat,i < a.mine.places.l.length→¬ Vub a A i=true→Yba a s lo (i:Int)≤0
 high:∀i:Nat,i < a.mine.places.l.length→¬ Vub a A i=true→0≤Vuc a s hi (i:Int)
def Jyd {a:XAir} {s:XSetting} {A:List Bool} (h0:K1 a=0) (hf:Yfa a s=true):((Yf a s A).1=0∧Solved a s A (Yf a s A).2.1 (Yf a s A).2.2)∨(Yf a s A).1=2:=by
 have s0:=Zxd (A:=A) h0 hf;rw [Yf];dsimp only;rcases Ypa (up:=false) s0 with e1 | e1;·
  rw [if_neg za];obtain ⟨_,r1⟩:=Zjb e1;have s1:=s0.moved r1;rcases Ypa (up:=true) s1 with e2 | e2;·
   rw [if_neg za];obtain ⟨_,r2⟩:=Zjb e2;have s2:=s1.moved r2;rcases Ypa (up:=false) s2 with e3 | e3;·
    rw [if_neg za];obtain ⟨_,r3⟩:=Zjb e3;have s3:=s2.moved r3;left;refine ⟨rfl,s3,s2,fun i=>?_,fun i hi hn=>?_,fun i hi hn=>?_⟩;·have := (Y6a s2.hp s2.hl r3).le i;simpa using this
    ·have := Jtc s2.hp s2.hl r3 hi hn;simpa using this
    ·have := Jtc s1.hp s1.hl r2 hi hn;simpa using this
   ·rw [if_pos za];exact .inr e3
  ·rw [if_pos za];exact .inr e2
 ·rw [if_pos za];exact .inr e1
def Solved.accept {a:XAir} {s:XSetting} {A:List Bool} {lo hi:List Int} (h:Solved a s A lo hi) {b:XBounds} (e1:b.low.l=lo) (e2:b.high.l=hi):Accept a s b A:=by
 refine ⟨⟨h.lok.h0,h.lok.hf,by rw [e1];exact h.lok.hl,by rw [e2];exact h.hok.hl,by rw [e1];exact h.lok.hp,by rw [e2];exact h.hok.hp⟩,fun i hi2 hf=>?_,fun i hi2 hf=>?_⟩;·rw [e1,e2];exact ⟨h.lok.fix i hi2 hf,h.hok.fix i hi2 hf⟩
 ·rw [e1,e2];exact ⟨h.high i hi2 hf,h.low i hi2 hf⟩
end
section
section
variable {a:XAir} {s:XSetting} {x:XState} (h:MadeA a s x)
include h
end
section
variable {a:XAir} {s:XSetting} {x:XState} (h:MadeA a s x)
include h
end
end
end Go.Proofs.YtchfclmokpbldaaGreat
