/-
  Merged texts. By an AI agent.
-/
import Derived.Test.YtchfclmokpbldaaGreatRel
import Derived.Test.YtchfclmokpbldaaGreatCflowR
set_option linter.all false
set_option maxHeartbeats 4000000
set_option maxRecDepth 20000
namespace Go.Proofs.YtchfclmokpbldaaGreat
open Go.Aw Go
section
attribute [local irreducible] CJ LJ DJ Tri YV Gives Uo J0 Kj Un RV J2 OwL.L
section
variable {A B:Prop}
def K4f(h:B:=by exact ⟨OwL.nil,OwL.nil,by rw [hsv];rfl,OwL.nil_ok,OwL.nil_ok,by rw [hsv],by rw [hsv],by rw [Ku,yw,yw],rfl⟩):=h
end
def U8e (a:XAir) (s:XSetting) (ps:Arr Int) (A:List Bool) (L:LB) (R:LS) (hm:AirR a R) (hs:SetR s R) (hps:InR (isl ps) R) (hA:Kv a=0→AiryIs a.mine A):
 Tri Tryz.prog 187 [a.val,s.val,ps.val].toArray L R (fun w M U=>∃p:OwL Int,w=.tuple #[p.val,.int .i64 (K9 a s A true ps.l).1]∧p.ok 1 Ji∧p.l=(K9 a s A true ps.l).2∧p.L 3 Ji ++ L=M∧R=U):=
 Tri.turn (Y8c a s ps A L R hm hs hps hA) fun v M U ⟨p,S,a1,a2,a3,a4,a5⟩=>⟨M,R,yTa _,fun r h=>Ja (by rw [← a5];simp [h]),p,a1,a2,a3,a4,rfl⟩
def U0e (a:XAir) (s:XSetting) (ps:Arr Int) (A:List Bool) (L:LB) (R:LS) (hm:AirR a R) (hs:SetR s R) (hps:InR (isl ps) R) (hA:Kv a=0→AiryIs a.mine A):
 Tri Tryz.prog 186 [a.val,s.val,ps.val].toArray L R (fun w M U=>∃p:OwL Int,w=.tuple #[p.val,.int .i64 (K9 a s A false ps.l).1]∧p.ok 1 Ji∧p.l=(K9 a s A false ps.l).2∧p.L 3 Ji ++ L=M∧R=U):=
 Tri.turn (Jsd a s ps A L R hm hs hps hA) fun v M U ⟨p,S,a1,a2,a3,a4,a5⟩=>⟨M,R,yTa _,fun r h=>Ja (by rw [← a5];simp [h]),p,a1,a2,a3,a4,rfl⟩
def U8d {a:XAir} {s:XSetting} {q:OwL Int} {A:List Bool} {L:LB} {R:LS} {vl:Value} (hvl:vl=q.val) (hm:AirR a R) (hs:SetR s R) (hA:Kv a=0→AiryIs a.mine A) (hin:InB (q.L 3 Ji) L) (hok:q.ok 1 Ji):
 Tri Tryz.prog 186 [a.val,s.val,vl].toArray L R (fun w M U=>∃p:OwL Int,w=.tuple #[p.val,.int .i64 (K9 a s A false q.l).1]∧p.ok 1 Ji∧p.l=(K9 a s A false q.l).2∧p.L 3 Ji ++ L=M∧R=U):=by subst hvl;have h2:=Tri.lend (S:=[isl q.arr]) (Post:=fun v M=>∃p:OwL Int,v=.tuple #[p.val,.int .i64 (K9 a s A false q.l).1]∧p.ok 1 Ji∧p.l=(K9 a s A false q.l).2∧p.L 3 Ji ++ []=M) (Spl.rest (L:=L)) (fun w G hh s hs=>by rw [List.mem_singleton.1 hs];exact Yu hh hin hok yf ze yg) ((U0e a s q.arr A [] _ (Jla hm fun r h=>Ja (.tail _ h)) (Yfa hs fun r h=>Ja (.tail _ h)) zCb hA).mono fun v M U ⟨p,a1,a2,a3,a4,a5⟩=>⟨⟨p,a1,a2,a3,a4⟩,a5⟩);exact Tri.turn h2 fun v L'' U ⟨M,e,⟨p,a1,a2,a3,a4⟩,a5⟩=>⟨_,U,by rw [← e,← a4,yfa];exact yEa,fun r hr=>Ja hr,p,a1,a2,a3,rfl,a5⟩
def Yzc (a:XAir) (s:XSetting) (A:List Bool) (L:LB) (R:LS) (hm:AirR a R) (hs:SetR s R) (hA:Kv a=0→AiryIs a.mine A) (hnp:a.mine.places.l.length≤64):
 Tri Tryz.prog 111 [a.val,s.val].toArray L R (fun w M U=>∃lo hi:OwL Int,w=.tuple #[.agg #[lo.val,hi.val],.int .i64 (Yq a s A).1]∧lo.ok 1 Ji∧hi.ok 1 Ji∧lo.l=(Yq a s A).2.1∧hi.l=(Yq a s A).2.2∧lo.L 3 Ji ++ (hi.L 3 Ji ++ L)=M∧R=U):=by
 have hmp:=hm.places;have hzok:∀b,(⟨.own b a.mine.places.l.length [],List.replicate a.mine.places.l.length 0⟩:OwL Int).ok 1 Ji:=fun b=>Yg yf zE;refine Je 49 Tryz.call111 Tryz.func111 rfl rfl rfl ?_;apply (Xag);intro b2;apply (qax);intro b3;apply (qaq);intro b4;apply (Xb4);refine Kk tb [0,1,2,3,4,5,6,7,8,9,10,11,12] ([Blk.mk b3 _ _,Blk.mk b2 _ _]) Kr zc zi ?_;apply qbc∘qbd∘Xdp;refine K3 zzb rfl rfl rfl ?_;refine Yqa zac rfl rfl rfl ?_;rintro v M U ⟨b16,rfl,rfl,hR16⟩;replace hR16:=hR16.symm;subst hR16;apply (qa1);refine Yp rfl (U8d (q:=⟨.own b16 a.mine.places.l.length [],List.replicate a.mine.places.l.length 0⟩) (Zgd (α:=Int)).symm hm hs hA (Vqe (f:=Ji) (x:=0) rfl) (hzok b16)) rfl rfl ?_;rintro v M U ⟨p,rfl,hpk,hpl,rfl,rfl⟩;refine ⟨zi,zq,?_⟩;replace hpl:p.l=(K9 a s A false (List.replicate a.mine.places.l.length 0)).2:=hpl;refine K3 zSb rfl rfl rfl ?_;refine K3 zZb rfl rfl rfl ?_;refine K3 zZb rfl rfl rfl ?_;refine K3 (Uz zhb) rfl rfl rfl ?_;apply (qcg);refine J3 (Jb (Jl (Jl ?_)));refine V5 (A:=[]) (wd:=1) [] yf ze hpk yg ?_;refine V0 zna ?_;have hm1:AirR a (isl p.arr :: R):=Jla hm fun r h=>Ja (.tail _ h);have hs1:SetR s (isl p.arr :: R):=Yfa hs fun r h=>Ja (.tail _ h);obtain ⟨x,hx⟩:∃x,x=K9 a s A false (List.replicate a.mine.places.l.length 0):=⟨_,rfl⟩;rw [← hx] at hpl ⊢;apply Xbi∘Xax;refine q_c ?_ ?_<;>intro hc0;·
  apply qae∘qck∘Xdm;refine K0 (M:=L) (U:=R) (Yz rfl zib zEc) ?hp ?hL ?hR;case hp=>(have hsv:Yq a s A=(x.1,[],[]):=by rw [Yq];dsimp only;rw [← hx,if_pos hc0]);exact K4f
  case hL=>exact zi
  case hR=>exact fun r h=>Ja (by simp [h])
 apply qbv∘Xcm∘qbm;refine Jq rfl (U8e a s p.arr A _ _ hm1 hs1 zCb hA) rfl ?_;rintro v M U ⟨q,rfl,hqk,hql,rfl,rfl⟩;replace hql:q.l=(K9 a s A true p.l).2:=hql;obtain ⟨y,hy⟩:∃y,y=K9 a s A true p.l:=⟨_,rfl⟩;rw [← hy] at hql ⊢;have hxy:y=K9 a s A true x.2:=by rw [hy,hpl]
 refine Jx zSb rfl ?_;apply Xbt∘qc4∘Xaq∘qaa∘Xax;refine q_c ?_ ?_<;>intro hc1;·
  apply qae∘qck∘Xdm;refine K0 (M:=L) (U:=R) (Yz rfl zib zEc) ?hp ?hL ?hR;case hp=>(have hsv:Yq a s A=(y.1,[],[]):=by rw [Yq];dsimp only;rw [← hx,if_neg hc0,← hxy,if_pos hc1]);exact K4f
  case hL=>exact zi
  case hR=>exact fun r h=>Ja (by simp [h])
 apply qbv∘Xcm∘qbm;refine Jq rfl (U8d (q:=q) rfl hm1 hs1 hA zG hqk) rfl ?_;rintro v M U ⟨u,rfl,huk,hul,rfl,rfl⟩;obtain ⟨z,hz⟩:∃z,z=K9 a s A false q.l:=⟨_,rfl⟩;rw [← hz] at hul ⊢;have hyz:z=K9 a s A false y.2:=by rw [hz,hql]
 refine Jx zSb rfl ?_;apply Xbt∘qc4∘Xaq∘qaa∘Xax;refine q_c ?_ ?_<;>intro hc2;·
  apply qae∘qck∘Xdm;refine K0 (M:=L) (U:=R) (Yz rfl zib zEc) ?hp ?hL ?hR;case hp=>(have hsv:Yq a s A=(z.1,[],[]):=by rw [Yq];dsimp only;rw [← hx,if_neg hc0,← hxy,if_neg hc1,← hyz,if_pos hc2]);exact K4f
  case hL=>exact zi
  case hR=>exact fun r h=>Ja (by simp [h])
 apply qbv∘qbm∘qbm;refine Jx zGb rfl ?_;apply (Xcf);refine K0 (M:=u.L 3 Ji ++ (q.L 3 Ji ++ L)) (U:=R) (Yz rfl zib zEc) ?hp ?hL ?hR;case hp=>
  have hsv:Yq a s A=(0,z.2,y.2):=by rw [Yq];dsimp only;rw [← hx,if_neg hc0,← hxy,if_neg hc1,← hyz,if_neg hc2]
  exact ⟨u,q,by rw [hsv];rfl,huk,hqk,by rw [hsv];exact hul,by rw [hsv];exact hql,rfl,rfl⟩
 case hL=>exact zi
 case hR=>exact fun r h=>Ja (by simp [h])
end
section
structure FlowTo (a:XAir) (s:XSetting) (b:XBounds) (A:List Bool) (n:XNet) (k:Nat) (l:List XSpan):Prop where
 len:l.length=a.mine.roads.l.length
 don:∀(j:Nat) (p:XPipe),j < k→n.pipes.l[j]?=some p→l[p.num.toNat]?=some (U6 a s b A p.num.toNat)
 non:∀i:Nat,i < a.mine.roads.l.length→(∀(j:Nat) (p:XPipe),j < k→n.pipes.l[j]?=some p→p.num.toNat≠i)→l[i]?=some ⟨0,0⟩
def FlowTo.zero (a:XAir) (s:XSetting) (b:XBounds) (A:List Bool) (n:XNet):FlowTo a s b A n 0 (List.replicate a.mine.roads.l.length ⟨0,0⟩):=
 ⟨by simp,fun j p hj=>by omega,fun i hi _=>by rw [yK,if_pos hi]⟩
def FlowTo.next {a:XAir} {s:XSetting} {b:XBounds} {A:List Bool} {n:XNet} {k:Nat} {l:List XSpan} (h:FlowTo a s b A n k l) {p:XPipe} (hp:n.pipes.l[k]?=some p) (hr:p.num.toNat < a.mine.roads.l.length) {x:XSpan} (hx:x=U6 a s b A p.num.toNat):FlowTo a s b A n (k + 1) (l.set p.num.toNat x):=by
 have hl:=h.len;subst hx;refine ⟨by simp [hl],fun j q hj hq=>?_,fun i hi hn=>?_⟩;·
  rw [yJ];split;·rename_i e;rw [if_pos za,e]
  ·
   rename_i e;rcases yl j k with h1 | h1;·exact h.don j q h1 hq
   ·(obtain rfl : j = k := by omega);rw [hp] at hq;cases hq;exact absurd rfl e
 ·rw [yaa (hn k p za hp)];exact h.non i hi fun j q hj hq=>hn j q za hq
def FlowTo.done {a:XAir} {s:XSetting} {b:XBounds} {A:List Bool} {n:XNet} {l:List XSpan} (h:FlowTo a s b A n n.pipes.l.length l) (hn:NetIs a s n):l=(List.range a.mine.roads.l.length).map (U6 a s b A):=by
 have hl:=h.len;refine yoa fun i=>?_;rcases yl i a.mine.roads.l.length with hi | hi;·
  rw [yt, yda hi];show _=some (U6 a s b A i);cases hc:(a.mine.roads.l.getD i default).closed with
  | true=>rw [U6,if_pos hc];refine h.non i hi fun j p hj hp e=>?_;have:=(hn.open (yi hp)).2;rw [e,hc] at this;cases this
  | false=>obtain ⟨j,p,hj,hp⟩:=hn.find (r:=(i:Int)) za (by rw [yB];exact hc);have:=h.don j p (List.getElem?_eq_some_iff.1 hj).1 hj;rw [hp,yB] at this;exact this
 ·rw [yr za,yr zC]
end
section
attribute [local irreducible] CJ LJ DJ Tri YV Gives Uo J0 Kj Un RV J2 OwL.L
section
variable {A B:Prop}
def Ygf(h:A→B:=by exact Kn (Jo (row:=[_,_,_,_,_,_,_,_,_,_,_,_]) tb rfl rfl rfl zf zb zb) rfl rfl rfl rfl):=h
def Yjf(h:A→B:=by exact Kn (by first | exact Jh tb rfl rfl rfl rfl zx (i:=P.road.fr.toNat) zk za | exact Jn tb rfl rfl rfl rfl (i:=P.road.fr.toNat) zk za) rfl rfl rfl rfl):=h
def Zsf(h:A→B:=by exact Kn (by first | exact Jh tb rfl rfl rfl rfl zx (i:=P.road.to.toNat) zk za | exact Jn tb rfl rfl rfl rfl (i:=P.road.to.toNat) zk za) rfl rfl rfl rfl):=h
end
def Jpe (a:XAir) (s:XSetting) (b:XBounds) (A:List Bool) (L:LB) (R:LS) (hm:AirR a R) (hs:SetR s R) (hb:BoundsR b R) (hA:Kv a=0→AiryIs a.mine A):
 Tri Tryz.prog 112 [a.val,s.val,b.val].toArray L R (fun v M U=>∃(p:OwL XSpan) (S:LS),v=p.val∧p.ok 2 XSpan.cells∧p.l=U3 a s b A∧p.L 90 XSpan.cells ++ L=M∧S ++ R=U):=by
 have hmr:=hm.roads;have hbl:=hb.low;have hbh:=hb.high;refine Je 85 Tryz.call112 Tryz.func112 rfl rfl rfl ?_;apply (Xag);intro b3;apply (qax);intro b4;apply (qax);intro b5;apply Xbv∘Xcm∘qbe;refine Jq rfl (Vae a s b A _ _ hm hs hb hA) rfl ?_;rintro v M U ⟨S1,rfl,rfl,rfl⟩;have hm1:AirR a (S1 ++ R):=⟨hm.places.mono fun r h=>Ja (by simp [h]),hm.roads.mono fun r h=>Ja (by simp [h]),hm.fans.mono fun r h=>Ja (by simp [h]),hm.doors.mono fun r h=>Ja (by simp [h])⟩;have hmr1:=hm1.roads;apply (Xax);refine q_c ?_ ?_<;>intro hc0;·apply Xcz∘qbh;refine q_r L (S1 ++ R) zTc ?_;exact ⟨OwL.nil,S1,rfl,OwL.nil_ok,by rw [U3,if_neg hc0],by rw [Ku,yw],rfl⟩
 have hck:Y1 a s b A=0:=by omega
 have hC:=Ycc hck;have hok:=Yy hC.h0;have hfo:=K1c hC.hf;have hAA:=hA hC.h0;have hnr:=hok.mine.roads;have hln:=hC.hl;have hhn:=hC.hh;apply qbv∘Xb6∘qc7;rintro v M U ⟨b20,rfl,rfl,hR20⟩;replace hR20:=hR20.symm;subst hR20;apply (Xda);refine V0 (Yi (f:=XSpan.cells) (x:=⟨0,0⟩) rfl _) ?_;apply qay∘Xdv;refine Jq rfl (Uqb a.mine _ _ hm1.mineR hok.mine (U5a hC.h0)) rfl ?_;rintro v M U ⟨p,A2,S2,rfl,hpk,hA2,hpl,rfl,rfl⟩;obtain rfl:A=A2:=hAA.unique hA2;have hplen:p.l.length=a.mine.places.l.length:=by rw [hpl,yC];exact hAA.length
 have hm2:AirR a (S2 ++ (S1 ++ R)):=⟨hm1.places.mono fun r h=>Ja zja,hm1.roads.mono fun r h=>Ja zja,hm1.fans.mono fun r h=>Ja zja,hm1.doors.mono fun r h=>Ja zja⟩;have hs2:SetR s (S2 ++ (S1 ++ R)):=⟨hs.fans.mono fun r h=>Ja (by simp [h]),hs.doors.mono fun r h=>Ja (by simp [h])⟩;apply Xbv∘Xcm;refine Jq rfl (Jwc a s _ _ hm2 hs2 hok hfo) rfl ?_;rintro v M U ⟨n,rfl,hn,rfl,rfl⟩;have hpp:InR (Yna n.pipes) (Yna n.pipes :: Vva n.at_ :: (S2 ++ (S1 ++ R))):=Ja (.head _);have hbl3:InR (isl b.low) (Yna n.pipes :: Vva n.at_ :: (S2 ++ (S1 ++ R))):=hbl.mono fun r h=>Ja (by simp [h]);have hbh3:InR (isl b.high) (Yna n.pipes :: Vva n.at_ :: (S2 ++ (S1 ++ R))):=hbh.mono fun r h=>Ja (by simp [h]);have hnl:=hn.length;refine Jx (Jnb (e:=218) tb rfl zc rfl rfl rfl rfl rfl) rfl ?_;apply qag∘Xao;refine Jk [(5,.pointer _),(7,.slice _ _ _),(8,.slice _ _ _),(27,.slice _ _ _),(28,.int _ _),(29,.int _ _)] zh fun tq0=>?_;refine q_p ([10]++rg 29 55) ((⟨fun q=>[(29,.int .i64 ((q.1.1:Nat):Int))],fun q=>p.L 4 blc ++ ((⟨.own b20 a.mine.roads.l.length [],q.1.2⟩:OwL XSpan).L 90 XSpan.cells ++ (⟨b5,b.cells,214⟩ :: ⟨b4,s.cells,80⟩ :: ⟨b3,a.cells,32⟩ :: L)),fun _=>Yna n.pipes :: Vva n.at_ :: (S2 ++ (S1 ++ R)),fun q=>n.pipes.l.length - q.1.1⟩:Head {q:Nat×List XSpan // q.1≤n.pipes.l.length∧FlowTo a s b A n q.1 q.2})) (⟨(0,List.replicate a.mine.roads.l.length ⟨0,0⟩),by dsimp only;omega,FlowTo.zero a s b A n⟩) ?_;rintro ⟨⟨k,l⟩,w1,w2⟩ junk;try dsimp only
 dsimp only at w1 w2;have hll:=w2.len;have hkq:(⟨.own b20 a.mine.roads.l.length [],l⟩:OwL XSpan).ok 2 XSpan.cells:=by have:=Yg (f:=XSpan.cells) (wd:=2) (b:=b20) (n:=a.mine.roads.l.length) (x:=⟨0,0⟩) yf zE;exact OwL.len_ok yf this (by simp;exact hll)
 apply (Xan);refine q_c ?_ ?_<;>intro hc1;·
  obtain ⟨P,hP⟩:=Kh (l:=n.pipes.l) (k:=k) za;have hPI:=InR.pipe hpp hP;obtain ⟨hPn,hPo⟩:=hn.open (yi hP);have hPs:=hn.pipe P (yi hP);have hPk:=Ysc hok hPn hPs;have hdr:Zna P=K8 a s ((P.num.toNat:Nat):Int):=funext fun q=>by rw [Upd hPs q,yma hPn.1]
  have hro:=hok.mine.road P.num.toNat _ zqc;have hr1:=hro.fr;have hr2:=hro.to;have hef:P.road.fr=(a.mine.roads.l.getD P.num.toNat default).fr:=by rw [hPs.road]
  have het:P.road.to=(a.mine.roads.l.getD P.num.toNat default).to:=by rw [hPs.road]
  have hAl:=hAA.length;have hpg:p.l[P.road.fr.toNat]?=some (!(A.getD P.road.fr.toNat false)):=by rw [hpl,yt,Ju (l:=A) (k:=P.road.fr.toNat) false za];rfl
  have g1:=Ju (l:=b.low.l) (k:=P.road.fr.toNat) 0 za;have g2:=Ju (l:=b.low.l) (k:=P.road.to.toNat) 0 za;have g3:=Ju (l:=b.high.l) (k:=P.road.fr.toNat) 0 za;have g4:=Ju (l:=b.high.l) (k:=P.road.to.toNat) 0 za;have e1:=hC.pl.get P.road.fr.toNat;have e2:=hC.pl.get P.road.to.toNat;have e3:=hC.ph.get P.road.fr.toNat;have e4:=hC.ph.get P.road.to.toNat;have hlg:=Ju (l:=l) (k:=P.num.toNat) default za;apply (qbb);refine Jx zD rfl ?_;apply qdx∘qaq;intro b10;apply Xbh∘qbm∘Xds;refine Jx (Jv tb (p) _ rfl rfl rfl rfl zg (i:=P.road.fr.toNat) zk zu) rfl ?_;refine Jx zAb rfl ?_;apply (qaf);refine q_c ?_ ?_<;>intro hc2;·(have hrf:nothingS=U6 a s b A P.num.toNat:=by rw [U6,if_neg (by rw [hPo];decide),← hef,if_neg zP]);apply qae∘Xcl∘qcd;refine Jx zHc rfl ?_;refine Yc (U0 tb ((⟨.own b20 a.mine.roads.l.length [],l⟩:OwL XSpan)) (nothingS) rfl rfl rfl rfl zj zg yf zg (yX rfl) zb zb) ?_;rintro v M U ⟨rfl,rfl⟩;refine J5 (Jb (K4 (Km (J8 (Jb (Jf ?_))))));apply (Xae);exact ubm
  have hrf:(⟨Vs (Zna P) (b.low.l.getD P.road.fr.toNat 0 - b.high.l.getD P.road.to.toNat 0),U2 (Zna P) (b.high.l.getD P.road.fr.toNat 0 - b.low.l.getD P.road.to.toNat 0)⟩:XSpan)=U6 a s b A P.num.toNat:=by rw [U6,if_neg (by rw [hPo];decide),← hef,← het,if_pos zP,hdr]
  refine J1 (Jb ?_);refine J6 tb [] [0,1,2,3,4,5,6,7,8,9,10,11,12,13,14,15,16,17,18,20,21,22,23,24,25,26,27,28,29,30,31,32,33,34,35,19,36,37,38] [39] ([Blk.mk b10 _ _,Blk.mk b5 _ _]) _ Kr zc zi ye ?_;apply Xc9∘Ygf∘Xaf∘qan∘Xaf∘Yjf∘qci∘Xaf∘qan∘Xaf∘Zsf∘qci∘qcc∘Ygf∘Xaf∘qan∘Xaf∘Yjf∘qci∘Xaf∘qan∘Xaf∘Zsf∘qci∘qcc;refine Kp rfl (Zha P (b.low.l.getD P.road.fr.toNat 0 - b.high.l.getD P.road.to.toNat 0) _ _ hPI hPk) rfl rfl ?_;rintro v M U ⟨rfl,rfl,rfl⟩;refine ⟨zi,zq,?_⟩;refine Kp rfl (Yea P (b.high.l.getD P.road.fr.toNat 0 - b.low.l.getD P.road.to.toNat 0) _ _ hPI hPk) rfl rfl ?_;rintro v M U ⟨rfl,rfl,rfl⟩;refine ⟨zi,zq,?_⟩;apply (qcw);refine Kn zHc rfl rfl rfl rfl ?_;apply (qba);refine Jab (U0 tb ((⟨.own b20 a.mine.roads.l.length [],l⟩:OwL XSpan)) (⟨Vs (Zna P) (b.low.l.getD P.road.fr.toNat 0 - b.high.l.getD P.road.to.toNat 0),U2 (Zna P) (b.high.l.getD P.road.fr.toNat 0 - b.low.l.getD P.road.to.toNat 0)⟩) rfl rfl rfl rfl zj zg yf zg (yX rfl) zb zb) rfl rfl ?_;rintro v M U ⟨rfl,rfl⟩;apply qa1∘qby∘Xae;exact ubm
 obtain rfl:k=n.pipes.l.length:=by omega
 apply Xdd∘Xct;refine q_r ((⟨.own b20 a.mine.roads.l.length [],l⟩:OwL XSpan).L 90 XSpan.cells ++ L) (Yna n.pipes :: Vva n.at_ :: (S2 ++ (S1 ++ R))) zTc ?_;exact ⟨(⟨.own b20 a.mine.roads.l.length [],l⟩:OwL XSpan),Yna n.pipes :: Vva n.at_ :: (S2 ++ S1),Uj hll,hkq,by rw [U3,if_pos hck];exact w2.done hn,rfl,by simp [yo]⟩
end
section
attribute [local irreducible] CJ LJ DJ Tri YV Gives Uo J0 Kj Un RV J2 OwL.L
def Ugb {a:XAir} {s:XSetting} {b b':XBounds} {A:List Bool} (h1:b.low.l=b'.low.l) (h2:b.high.l=b'.high.l):U3 a s b A=U3 a s b' A:=by
 have e1:Vc a s b A=Vc a s b' A:=funext fun i=>by rw [Vc,Vc,h1,h2]
 have e2:Y1 a s b A=Y1 a s b' A:=by rw [Y1,Y1,h1,h2,e1]
 have e3:U6 a s b A=U6 a s b' A:=funext fun i=>by rw [U6,U6,h1,h2]
 rw [U3,U3,e2,e3]
def Jub (a:XAir) (s:XSetting) (A:List Bool):XBounds:=⟨⟨none,0,(Yq a s A).2.1⟩,⟨none,0,(Yq a s A).2.2⟩⟩
def Ksa (a:XAir) (k:Nat):XSpan:=if (a.mine.roads.l.getD k default).closed=true then ⟨0,0⟩ else nothingS
def Ujb (a:XAir) (s:XSetting) (A:List Bool):Int×List XSpan:=
 if Kv a≠0 then (Kv a,[]) else if K6a a s=false then (21,[]) else if (Yq a s A).1=0 then (0,U3 a s (Jub a s A) A)
 else (0,(List.range a.mine.roads.l.length).map (Ksa a))
def Ua (L:LB) (R:LS):
 Tri Tryz.prog 96 [].toArray L R (fun v M U=>v=nothingS.val∧L=M∧R=U):=by refine Je 2 Tryz.call96 Tryz.func96 rfl rfl rfl ?_;apply (Xcg);intro b0;apply qam∘qcd∘Xa8;refine q_r L R zFc ?_;exact zkd
structure BlindTo (a:XAir) (i:Nat) (l:List XSpan):Prop where
 len:l.length=a.mine.roads.l.length
 don:∀j:Nat,j < i→l[j]?=some (Ksa a j)
 non:∀j:Nat,i≤j→j < a.mine.roads.l.length→l[j]?=some ⟨0,0⟩
def BlindTo.next {a:XAir} {i:Nat} {l:List XSpan} (h:BlindTo a i l) (hi:i < a.mine.roads.l.length) {x:XSpan} (hx:x=Ksa a i):BlindTo a (i + 1) (l.set i x):=by exact uaG
def BlindTo.stay {a:XAir} {i:Nat} {l:List XSpan} (h:BlindTo a i l) (hi:i < a.mine.roads.l.length) (hx:(⟨0,0⟩:XSpan)=Ksa a i):BlindTo a (i + 1) l:=by exact uaL
def BlindTo.done {a:XAir} {l:List XSpan} (h:BlindTo a a.mine.roads.l.length l):l=(List.range a.mine.roads.l.length).map (Ksa a):=by
 have hl:=h.len;refine yoa fun j=>?_;rcases yl j a.mine.roads.l.length with hj | hj;·rw [h.don j hj,yt,yda hj];rfl
 ·rw [yr za,yr zC]
def Z5c (a:XAir) (s:XSetting) (A:List Bool) (L:LB) (R:LS) (hm:AirR a R) (hs:SetR s R) (hA:Kv a=0→AiryIs a.mine A):
 Tri Tryz.prog 40 [a.val,s.val].toArray L R (fun w M U=>∃p:OwL XSpan,w=.tuple #[p.val,.int .i64 (Ujb a s A).1]∧p.ok 2 XSpan.cells∧p.l=(Ujb a s A).2∧p.L 90 XSpan.cells ++ L=M∧R=U):=by
 have hmr:=hm.roads;refine Je 56 Tryz.call40 Tryz.func40 rfl rfl rfl ?_;apply (Xag);intro b2;apply (qax);intro b3;apply qc4∘Xaq∘qa8;refine q_l rfl (Zt a _ _ hm) ?_;apply (Xbp);refine q_c ?_ ?_<;>intro hc0;·apply Xbr∘qc4∘Xav;refine q_r L R zQc ?_;exact ⟨OwL.nil,by rw [Ujb,if_pos hc0];rfl,OwL.nil_ok,by rw [Ujb,if_pos hc0],by rw [Ku,yw],rfl⟩
 have h0:Kv a=0:=by omega
 have hok:=Yy h0;have hnp:=hok.mine.places;have hnr:=hok.mine.roads;apply qbo∘Xcm;refine q_l rfl (Zta a s _ _ hm hs) ?_;apply (Xbg);refine q_c ?_ ?_<;>intro hc1;·apply Xcz∘Xav;refine q_r L R zQc ?_;exact ⟨OwL.nil,by rw [Ujb,if_neg hc0,if_pos zJ];rfl,OwL.nil_ok,by rw [Ujb,if_neg hc0,if_pos zJ],by rw [Ku,yw],rfl⟩
 have hf0:K6a a s=true:=by simpa using hc1
 have hff:¬ K6a a s=false:=by rw [hf0];decide
 apply qbo∘Xcm;refine Jq rfl (Yzc a s A _ _ hm hs hA za) rfl ?_;rintro v M U ⟨lo,hi,rfl,h1,h2,h3,h4,rfl,rfl⟩;refine Jx zSb rfl ?_;apply Xbt∘qaq;intro b7;apply qak∘Xb4;refine V5 (A:=[_]) (wd:=1) [] yf ze h1 yg ?_;apply (qb1);refine V5 (A:=[_]) (wd:=1) [] yf ze h2 yg ?_;apply (qb1);have hR2:∀r∈R,InR r (isl hi.arr :: isl lo.arr :: R):=fun r hr=>Ja zF;have hB2:BoundsR ⟨lo.arr,hi.arr⟩ (isl hi.arr :: isl lo.arr :: R):=⟨Ja (.tail _ (.head _)),Ja (.head _)⟩;have hmr2:=hmr.mono hR2;apply Xbi∘Xbf;refine q_c ?_ ?_<;>intro hc2;·
  apply qae∘Xcm∘qbe;refine Jq rfl (Jpe a s ⟨lo.arr,hi.arr⟩ A _ _ (Jla hm hR2) (Yfa hs hR2) hB2 hA) rfl ?_;rintro v M U ⟨p,S,rfl,hpk,hpl,rfl,rfl⟩;apply qc4∘Xav;refine K0 (M:=p.L 90 XSpan.cells ++ L) (U:=R) zQc ?hp ?hL ?hR;case hp=>(have ha:Ujb a s A=(0,U3 a s (Jub a s A) A):=by rw [Ujb,if_neg hc0,if_neg hff,if_pos hc2]);exact ⟨p,by rw [ha];rfl,hpk,by rw [ha,hpl];exact Ugb h3 h4,rfl,rfl⟩
  case hL=>exact zi
  case hR=>exact fun r h=>Ja (by simp [h])
 apply qbv∘Xb6∘qc7;rintro v M U ⟨b37,rfl,rfl,hR37⟩;replace hR37:=hR37.symm;subst hR37;apply qc4∘qco;refine V0 (Yi (f:=XSpan.cells) (x:=⟨0,0⟩) rfl _) ?_;apply qay∘qab∘Xaz;refine Jk [(9,.slice _ _ _),(40,.slice _ _ _),(41,.int _ _),(42,.int _ _)] zh fun tq0=>?_;refine q_p ([10,11]++rg 42 13) ((⟨fun g=>[(42,.int .i64 ((g.1.1:Nat):Int))],fun g=>(⟨.own b37 a.mine.roads.l.length [],g.1.2⟩:OwL XSpan).L 90 XSpan.cells ++ (⟨b7,[lo.val,hi.val],214⟩ :: ⟨b3,s.cells,80⟩ :: ⟨b2,a.cells,32⟩ :: L),fun _=>isl hi.arr :: isl lo.arr :: R,fun g=>a.mine.roads.l.length - g.1.1⟩:Head {g:Nat×List XSpan // g.1≤a.mine.roads.l.length∧BlindTo a g.1 g.2})) (⟨(0,List.replicate a.mine.roads.l.length ⟨0,0⟩),by dsimp only;omega,⟨by simp,fun j hj=>by omega,fun j _ hj=>by rw [yK,if_pos hj]⟩⟩) ?_;rintro ⟨⟨k,l⟩,w1,w2⟩ junk;try dsimp only
 dsimp only at w1 w2;have hll:=w2.len;have hkq:(⟨.own b37 a.mine.roads.l.length [],l⟩:OwL XSpan).ok 2 XSpan.cells:=by have:=Yg (f:=XSpan.cells) (wd:=2) (b:=b37) (n:=a.mine.roads.l.length) (x:=⟨0,0⟩) yf zE;exact OwL.len_ok yf this (by simp;exact hll)
 apply (Xan);refine q_c ?_ ?_<;>intro hc3;·
  have hrg:=Ju (l:=a.mine.roads.l) (k:=k) default za;have hlg:=w2.non k (yn _) za;apply (Xbb);refine Jx zD rfl ?_;apply qc8∘qaq;intro b11;apply qad∘Xb2∘Xbg;refine q_c ?_ ?_<;>intro hc4;·(have hbf:nothingS=Ksa a k:=by rw [Ksa,if_neg zW]);apply (Xcd);refine q_l rfl (Ua _ _) ?_;refine Jx (Jv tb ((⟨.own b37 a.mine.roads.l.length [],l⟩:OwL XSpan)) _ rfl rfl ((show _=Value.slice _ _ _ from rfl).trans (Uj hll)) rfl zg (i:=k) zk zu) rfl ?_;refine Yc (U0 tb ((⟨.own b37 a.mine.roads.l.length [],l⟩:OwL XSpan)) (nothingS) rfl rfl rfl rfl zj zg yf zg (yX rfl) zb zb) ?_;rintro v M U ⟨rfl,rfl⟩;apply (Xbj);exact q_k ⟨(k + 1,l.set k nothingS),by dsimp only;omega,w2.next za hbf⟩
  have hbf:(⟨0,0⟩:XSpan)=Ksa a k:=by rw [Ksa,if_pos zW]
  apply (Xa3);exact q_k ⟨(k + 1,l),by dsimp only;omega,w2.stay za hbf⟩
 obtain rfl:k=a.mine.roads.l.length:=by omega
 apply Xdd∘qc4∘Xai;refine K0 (M:=(⟨.own b37 a.mine.roads.l.length [],l⟩:OwL XSpan).L 90 XSpan.cells ++ L) (U:=R) zQc ?hp ?hL ?hR;case hp=>
  have ha:Ujb a s A=(0,(List.range a.mine.roads.l.length).map (Ksa a)):=by rw [Ujb,if_neg hc0,if_neg hff,if_neg hc2]
  exact ⟨(⟨.own b37 a.mine.roads.l.length [],l⟩:OwL XSpan),by rw [ha];simp only [OwL.val,Ow.addr,Ow.cap,hll],hkq,by rw [ha];exact w2.done,rfl,rfl⟩
 case hL=>exact zi
 case hR=>exact fun r h=>Ja (by simp [h])
def Vsd (x:XSpan):Int:=if x.high < x.low then 0 else if 0 < x.low then 1 else if x.high < 0 then -1 else 0
def Kdc (x:XSpan) (L:LB) (R:LS):
 Tri Tryz.prog 48 [x.val].toArray L R (fun v M U=>v=.int .i64 (Vsd x)∧L=M∧R=U):=by
 refine Je 17 Tryz.call48 Tryz.func48 rfl rfl rfl ?_;apply (Xag);intro b1;apply (qad);refine J5 (Jb (Jl (Kb (Jl (Jf ?_)))));apply Xaa∘Xa5∘Xap;refine q_c ?_ ?_<;>intro hc0;·apply (Xbc);refine q_i L R ?_;exact ⟨by rw [Vsd,if_pos hc0],rfl,rfl⟩
 apply qae∘Xa5∘Xap;refine q_c ?_ ?_<;>intro hc1;·apply (Xbc);refine q_i L R ?_;exact ⟨by rw [Vsd,if_neg za,if_pos hc1],rfl,rfl⟩
 apply Xcb∘qaj∘Xap;refine q_c ?_ ?_<;>intro hc2;·apply (Xbc);refine q_i L R ?_;exact ⟨by rw [Vsd,if_neg za,if_neg za,if_pos hc2],rfl,rfl⟩
 refine J1 (Jd (Jb (Jl (Jf ?_))));apply (Xai);refine q_i L R ?_;exact ⟨by rw [Vsd,if_neg za,if_neg za,if_neg za],rfl,rfl⟩
end
end Go.Proofs.YtchfclmokpbldaaGreat
