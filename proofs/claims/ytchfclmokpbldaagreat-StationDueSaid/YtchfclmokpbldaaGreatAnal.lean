/-
  Merged texts. By an AI agent.
-/
import Derived.Test.YtchfclmokpbldaaGreatRel
import Derived.Test.YtchfclmokpbldaaGreatCflowR
set_option linter.all false
set_option maxHeartbeats 4000000
set_option maxRecDepth 20000
namespace Go.Proofs.YtchfclmokpbldaaGreat
open Go.Aw Go
section
attribute [local irreducible] CJ LJ DJ Tri YV Gives Ur J3 Ko Uq RV J5 OwL.L
section
variable {A B:Prop}
def Urf(h:B:=by exact ⟨OwL.nil,OwL.nil,by rw [hsv];rfl,OwL.nil_ok,OwL.nil_ok,by rw [hsv],by rw [hsv],by rw [Kj,yx,yx],rfl⟩):=h
end
def Zle (a:XAir) (s:XSetting) (ps:Arr Int) (A:List Bool) (L:LB) (R:LS) (hm:AirR a R) (hs:SetR s R) (hps:InR (isl ps) R) (hA:Kz a=0→AiryIs a.mine A):
 Tri Tryz.prog 187 [a.val,s.val,ps.val].toArray L R (fun w M U=>∃p:OwL Int,w=.tuple #[p.val,.int .i64 (Ud a s A true ps.l).1]∧p.ok 1 Jk∧p.l=(Ud a s A true ps.l).2∧p.L 3 Jk ++ L=M∧R=U):=
 Tri.turn (Kfd a s ps A L R hm hs hps hA) fun v M U ⟨p,S,a1,a2,a3,a4,a5⟩=>⟨M,R,yxa _,fun r h=>Ja (by rw [← a5];simp [h]),p,a1,a2,a3,a4,rfl⟩
def Z2e (a:XAir) (s:XSetting) (ps:Arr Int) (A:List Bool) (L:LB) (R:LS) (hm:AirR a R) (hs:SetR s R) (hps:InR (isl ps) R) (hA:Kz a=0→AiryIs a.mine A):
 Tri Tryz.prog 186 [a.val,s.val,ps.val].toArray L R (fun w M U=>∃p:OwL Int,w=.tuple #[p.val,.int .i64 (Ud a s A false ps.l).1]∧p.ok 1 Jk∧p.l=(Ud a s A false ps.l).2∧p.L 3 Jk ++ L=M∧R=U):=
 Tri.turn (Kqd a s ps A L R hm hs hps hA) fun v M U ⟨p,S,a1,a2,a3,a4,a5⟩=>⟨M,R,yxa _,fun r h=>Ja (by rw [← a5];simp [h]),p,a1,a2,a3,a4,rfl⟩
def Y5d {a:XAir} {s:XSetting} {q:OwL Int} {A:List Bool} {L:LB} {R:LS} {vl:Value} (hvl:vl=q.val) (hm:AirR a R) (hs:SetR s R) (hA:Kz a=0→AiryIs a.mine A) (hin:InB (q.L 3 Jk) L) (hok:q.ok 1 Jk):
 Tri Tryz.prog 186 [a.val,s.val,vl].toArray L R (fun w M U=>∃p:OwL Int,w=.tuple #[p.val,.int .i64 (Ud a s A false q.l).1]∧p.ok 1 Jk∧p.l=(Ud a s A false q.l).2∧p.L 3 Jk ++ L=M∧R=U):=by subst hvl;have h2:=Tri.lend (S:=[isl q.arr]) (Post:=fun v M=>∃p:OwL Int,v=.tuple #[p.val,.int .i64 (Ud a s A false q.l).1]∧p.ok 1 Jk∧p.l=(Ud a s A false q.l).2∧p.L 3 Jk ++ []=M) (Spl.rest (L:=L)) (fun w G hh s hs=>by rw [List.mem_singleton.1 hs];exact Ze hh hin hok yf ze yg) ((Z2e a s q.arr A [] _ (Kea hm fun r h=>Ja (.tail _ h)) (Y5a hs fun r h=>Ja (.tail _ h)) zEb hA).mono fun v M U ⟨p,a1,a2,a3,a4,a5⟩=>⟨⟨p,a1,a2,a3,a4⟩,a5⟩);exact Tri.turn h2 fun v L'' U ⟨M,e,⟨p,a1,a2,a3,a4⟩,a5⟩=>⟨_,U,by rw [← e,← a4,yea];exact yHa,fun r hr=>Ja hr,p,a1,a2,a3,rfl,a5⟩
def Zzc (a:XAir) (s:XSetting) (A:List Bool) (L:LB) (R:LS) (hm:AirR a R) (hs:SetR s R) (hA:Kz a=0→AiryIs a.mine A) (hnp:a.mine.places.l.length≤64):
 Tri Tryz.prog 111 [a.val,s.val].toArray L R (fun w M U=>∃lo hi:OwL Int,w=.tuple #[.agg #[lo.val,hi.val],.int .i64 (Y2 a s A).1]∧lo.ok 1 Jk∧hi.ok 1 Jk∧lo.l=(Y2 a s A).2.1∧hi.l=(Y2 a s A).2.2∧lo.L 3 Jk ++ (hi.L 3 Jk ++ L)=M∧R=U):=by
 have hmp:=hm.places;have hzok:∀b,(⟨.own b a.mine.places.l.length [],List.replicate a.mine.places.l.length 0⟩:OwL Int).ok 1 Jk:=fun b=>Yw yf zE;refine Jd 49 Tryz.call111 Tryz.func111 rfl rfl rfl ?_;apply (Xaf);intro b2;apply (qax);intro b3;apply (qaq);intro b4;apply (Xcd);refine Kh tb [0,1,2,3,4,5,6,7,8,9,10,11,12] ([Blk.mk b3 _ _,Blk.mk b2 _ _]) Kq zc zg ?_;apply qbc∘qbd∘Xdz;refine K1 zIb rfl rfl rfl ?_;refine Zfa zjc rfl rfl rfl ?_;rintro v M U ⟨b16,rfl,rfl,hR16⟩;replace hR16:=hR16.symm;subst hR16;apply (qa1);refine Ym rfl (Y5d (q:=⟨.own b16 a.mine.places.l.length [],List.replicate a.mine.places.l.length 0⟩) (V5e (α:=Int)).symm hm hs hA (Yve (f:=Jk) (x:=0) rfl) (hzok b16)) rfl rfl ?_;rintro v M U ⟨p,rfl,hpk,hpl,rfl,rfl⟩;refine ⟨zg,zq,?_⟩;replace hpl:p.l=(Ud a s A false (List.replicate a.mine.places.l.length 0)).2:=hpl;refine K1 zXb rfl rfl rfl ?_;refine K1 zdc rfl rfl rfl ?_;refine K1 zdc rfl rfl rfl ?_;refine K1 (Uh zob) rfl rfl rfl ?_;apply (qcg);refine J2 (Jb (Jp (Jp ?_)));refine V2 (A:=[]) (wd:=1) [] yf ze hpk yg ?_;refine Uu zra ?_;have hm1:AirR a (isl p.arr :: R):=Kea hm fun r h=>Ja (.tail _ h);have hs1:SetR s (isl p.arr :: R):=Y5a hs fun r h=>Ja (.tail _ h);obtain ⟨x,hx⟩:∃x,x=Ud a s A false (List.replicate a.mine.places.l.length 0):=⟨_,rfl⟩;rw [← hx] at hpl ⊢;apply Xa7∘Xat;refine q_c ?_ ?_<;>intro hc0;·
  apply qae∘qck∘Xcg;refine Kw (M:=L) (U:=R) (Ut rfl zqb zTc) ?hp ?hL ?hR;case hp=>(have hsv:Y2 a s A=(x.1,[],[]):=by rw [Y2];dsimp only;rw [← hx,if_pos hc0]);exact Urf
  case hL=>exact zg
  case hR=>exact fun r h=>Ja (by simp [h])
 apply qbv∘Xcu∘qbm;refine Jm rfl (Zle a s p.arr A _ _ hm1 hs1 zEb hA) rfl ?_;rintro v M U ⟨q,rfl,hqk,hql,rfl,rfl⟩;replace hql:q.l=(Ud a s A true p.l).2:=hql;obtain ⟨y,hy⟩:∃y,y=Ud a s A true p.l:=⟨_,rfl⟩;rw [← hy] at hql ⊢;have hxy:y=Ud a s A true x.2:=by rw [hy,hpl]
 refine Jx zXb rfl ?_;apply Xbb∘qc4∘Xdf∘Xat;refine q_c ?_ ?_<;>intro hc1;·
  apply qae∘qck∘Xcg;refine Kw (M:=L) (U:=R) (Ut rfl zqb zTc) ?hp ?hL ?hR;case hp=>(have hsv:Y2 a s A=(y.1,[],[]):=by rw [Y2];dsimp only;rw [← hx,if_neg hc0,← hxy,if_pos hc1]);exact Urf
  case hL=>exact zg
  case hR=>exact fun r h=>Ja (by simp [h])
 apply qbv∘Xcu∘qbm;refine Jm rfl (Y5d (q:=q) rfl hm1 hs1 hA zH hqk) rfl ?_;rintro v M U ⟨u,rfl,huk,hul,rfl,rfl⟩;obtain ⟨z,hz⟩:∃z,z=Ud a s A false q.l:=⟨_,rfl⟩;rw [← hz] at hul ⊢;have hyz:z=Ud a s A false y.2:=by rw [hz,hql]
 refine Jx zXb rfl ?_;apply Xbb∘qc4∘Xdf∘Xat;refine q_c ?_ ?_<;>intro hc2;·
  apply qae∘qck∘Xcg;refine Kw (M:=L) (U:=R) (Ut rfl zqb zTc) ?hp ?hL ?hR;case hp=>(have hsv:Y2 a s A=(z.1,[],[]):=by rw [Y2];dsimp only;rw [← hx,if_neg hc0,← hxy,if_neg hc1,← hyz,if_pos hc2]);exact Urf
  case hL=>exact zg
  case hR=>exact fun r h=>Ja (by simp [h])
 apply qbv∘qbm∘qbm;refine Jx zQb rfl ?_;apply (Xbw);refine Kw (M:=u.L 3 Jk ++ (q.L 3 Jk ++ L)) (U:=R) (Ut rfl zqb zTc) ?hp ?hL ?hR;case hp=>
  have hsv:Y2 a s A=(0,z.2,y.2):=by rw [Y2];dsimp only;rw [← hx,if_neg hc0,← hxy,if_neg hc1,← hyz,if_neg hc2]
  exact ⟨u,q,by rw [hsv];rfl,huk,hqk,by rw [hsv];exact hul,by rw [hsv];exact hql,rfl,rfl⟩
 case hL=>exact zg
 case hR=>exact fun r h=>Ja (by simp [h])
end
section
structure FlowTo (a:XAir) (s:XSetting) (b:XBounds) (A:List Bool) (n:XNet) (k:Nat) (l:List XSpan):Prop where
 len:l.length=a.mine.roads.l.length
 don:∀(j:Nat) (p:XPipe),j < k→n.pipes.l[j]?=some p→l[p.num.toNat]?=some (Vc a s b A p.num.toNat)
 non:∀i:Nat,i < a.mine.roads.l.length→(∀(j:Nat) (p:XPipe),j < k→n.pipes.l[j]?=some p→p.num.toNat≠i)→l[i]?=some ⟨0,0⟩
def FlowTo.zero (a:XAir) (s:XSetting) (b:XBounds) (A:List Bool) (n:XNet):FlowTo a s b A n 0 (List.replicate a.mine.roads.l.length ⟨0,0⟩):=
 ⟨by simp,fun j p hj=>by omega,fun i hi _=>by rw [yO,if_pos hi]⟩
def FlowTo.next {a:XAir} {s:XSetting} {b:XBounds} {A:List Bool} {n:XNet} {k:Nat} {l:List XSpan} (h:FlowTo a s b A n k l) {p:XPipe} (hp:n.pipes.l[k]?=some p) (hr:p.num.toNat < a.mine.roads.l.length) {x:XSpan} (hx:x=Vc a s b A p.num.toNat):FlowTo a s b A n (k + 1) (l.set p.num.toNat x):=by
 have hl:=h.len;subst hx;refine ⟨by simp [hl],fun j q hj hq=>?_,fun i hi hn=>?_⟩;·
  rw [yD];split;·rename_i e;rw [if_pos za,e]
  ·
   rename_i e;rcases yl j k with h1 | h1;·exact h.don j q h1 hq
   ·(obtain rfl : j = k := by omega);rw [hp] at hq;cases hq;exact absurd rfl e
 ·rw [yda (hn k p za hp)];exact h.non i hi fun j q hj hq=>hn j q za hq
def FlowTo.done {a:XAir} {s:XSetting} {b:XBounds} {A:List Bool} {n:XNet} {l:List XSpan} (h:FlowTo a s b A n n.pipes.l.length l) (hn:NetIs a s n):l=(List.range a.mine.roads.l.length).map (Vc a s b A):=by
 have hl:=h.len;refine yka fun i=>?_;rcases yl i a.mine.roads.l.length with hi | hi;·
  rw [yu, yX hi];show _=some (Vc a s b A i);cases hc:(a.mine.roads.l.getD i default).closed with
  | true=>rw [Vc,if_pos hc];refine h.non i hi fun j p hj hp e=>?_;have:=(hn.open (yi hp)).2;rw [e,hc] at this;cases this
  | false=>obtain ⟨j,p,hj,hp⟩:=hn.find (r:=(i:Int)) za (by rw [yy];exact hc);have:=h.don j p (List.getElem?_eq_some_iff.1 hj).1 hj;rw [hp,yy] at this;exact this
 ·rw [yq za,yq zD]
end
section
attribute [local irreducible] CJ LJ DJ Tri YV Gives Ur J3 Ko Uq RV J5 OwL.L
section
variable {A B:Prop}
def Ulg(h:A→B:=by exact Kr (Jn (row:=[_,_,_,_,_,_,_,_,_,_,_,_]) tb rfl rfl rfl zf zb zb) rfl rfl rfl rfl):=h
def Jkg(h:A→B:=by exact Kr (by first | exact Jf tb rfl rfl rfl rfl zy (i:=P.road.fr.toNat) zk za | exact Jq tb rfl rfl rfl rfl (i:=P.road.fr.toNat) zk za) rfl rfl rfl rfl):=h
def Uqg(h:A→B:=by exact Kr (by first | exact Jf tb rfl rfl rfl rfl zy (i:=P.road.to.toNat) zk za | exact Jq tb rfl rfl rfl rfl (i:=P.road.to.toNat) zk za) rfl rfl rfl rfl):=h
end
def Uhe (a:XAir) (s:XSetting) (b:XBounds) (A:List Bool) (L:LB) (R:LS) (hm:AirR a R) (hs:SetR s R) (hb:BoundsR b R) (hA:Kz a=0→AiryIs a.mine A):
 Tri Tryz.prog 112 [a.val,s.val,b.val].toArray L R (fun v M U=>∃(p:OwL XSpan) (S:LS),v=p.val∧p.ok 2 XSpan.cells∧p.l=U6 a s b A∧p.L 90 XSpan.cells ++ L=M∧S ++ R=U):=by
 have hmr:=hm.roads;have hbl:=hb.low;have hbh:=hb.high;refine Jd 85 Tryz.call112 Tryz.func112 rfl rfl rfl ?_;apply (Xaf);intro b3;apply (qax);intro b4;apply (qax);intro b5;apply Xb0∘Xcu∘qbe;refine Jm rfl (Jpf a s b A _ _ hm hs hb hA) rfl ?_;rintro v M U ⟨S1,rfl,rfl,rfl⟩;have hm1:AirR a (S1 ++ R):=⟨hm.places.mono fun r h=>Ja (by simp [h]),hm.roads.mono fun r h=>Ja (by simp [h]),hm.fans.mono fun r h=>Ja (by simp [h]),hm.doors.mono fun r h=>Ja (by simp [h])⟩;have hmr1:=hm1.roads;apply (Xat);refine q_c ?_ ?_<;>intro hc0;·apply qae∘qc4∘qbh;refine q_r L (S1 ++ R) zkd ?_;exact ⟨OwL.nil,S1,rfl,OwL.nil_ok,by rw [U6,if_neg hc0],by rw [Kj,yx],rfl⟩
 have hck:Zh a s b A=0:=by omega
 have hC:=Zrc hck;have hok:=Zd hC.h0;have hfo:=Vbc hC.hf;have hAA:=hA hC.h0;have hnr:=hok.mine.roads;have hln:=hC.hl;have hhn:=hC.hh;apply qbv∘Xce∘qc7;rintro v M U ⟨b20,rfl,rfl,hR20⟩;replace hR20:=hR20.symm;subst hR20;apply (Xde);refine Uu (Yt (f:=XSpan.cells) (x:=⟨0,0⟩) rfl _) ?_;apply qay∘Xea;refine Jm rfl (V0b a.mine _ _ hm1.mineR hok.mine (Voa hC.h0)) rfl ?_;rintro v M U ⟨p,A2,S2,rfl,hpk,hA2,hpl,rfl,rfl⟩;obtain rfl:A=A2:=hAA.unique hA2;have hplen:p.l.length=a.mine.places.l.length:=by rw [hpl,yG];exact hAA.length
 have hm2:AirR a (S2 ++ (S1 ++ R)):=⟨hm1.places.mono fun r h=>Ja zoa,hm1.roads.mono fun r h=>Ja zoa,hm1.fans.mono fun r h=>Ja zoa,hm1.doors.mono fun r h=>Ja zoa⟩;have hs2:SetR s (S2 ++ (S1 ++ R)):=⟨hs.fans.mono fun r h=>Ja (by simp [h]),hs.doors.mono fun r h=>Ja (by simp [h])⟩;apply Xb0∘Xcu;refine Jm rfl (Uuc a s _ _ hm2 hs2 hok hfo) rfl ?_;rintro v M U ⟨n,rfl,hn,rfl,rfl⟩;have hpp:InR (Zca n.pipes) (Zca n.pipes :: Yla n.at_ :: (S2 ++ (S1 ++ R))):=Ja (.head _);have hbl3:InR (isl b.low) (Zca n.pipes :: Yla n.at_ :: (S2 ++ (S1 ++ R))):=hbl.mono fun r h=>Ja (by simp [h]);have hbh3:InR (isl b.high) (Zca n.pipes :: Yla n.at_ :: (S2 ++ (S1 ++ R))):=hbh.mono fun r h=>Ja (by simp [h]);have hnl:=hn.length;refine Jx (Kib (e:=218) tb rfl zc rfl rfl rfl rfl rfl) rfl ?_;apply qag∘Xap;refine Jl [(5,.pointer _),(7,.slice _ _ _),(8,.slice _ _ _),(27,.slice _ _ _),(28,.int _ _),(29,.int _ _)] zh fun tq0=>?_;refine q_p ([10]++rg 29 55) ((⟨fun q=>[(29,.int .i64 ((q.1.1:Nat):Int))],fun q=>p.L 4 blc ++ ((⟨.own b20 a.mine.roads.l.length [],q.1.2⟩:OwL XSpan).L 90 XSpan.cells ++ (⟨b5,b.cells,214⟩ :: ⟨b4,s.cells,80⟩ :: ⟨b3,a.cells,32⟩ :: L)),fun _=>Zca n.pipes :: Yla n.at_ :: (S2 ++ (S1 ++ R)),fun q=>n.pipes.l.length - q.1.1⟩:Head {q:Nat×List XSpan // q.1≤n.pipes.l.length∧FlowTo a s b A n q.1 q.2})) (⟨(0,List.replicate a.mine.roads.l.length ⟨0,0⟩),by dsimp only;omega,FlowTo.zero a s b A n⟩) ?_;rintro ⟨⟨k,l⟩,w1,w2⟩ junk;try dsimp only
 dsimp only at w1 w2;have hll:=w2.len;have hkq:(⟨.own b20 a.mine.roads.l.length [],l⟩:OwL XSpan).ok 2 XSpan.cells:=by have:=Yw (f:=XSpan.cells) (wd:=2) (b:=b20) (n:=a.mine.roads.l.length) (x:=⟨0,0⟩) yf zE;exact OwL.len_ok yf this (by simp;exact hll)
 apply (Xan);refine q_c ?_ ?_<;>intro hc1;·
  obtain ⟨P,hP⟩:=Kn (l:=n.pipes.l) (k:=k) za;have hPI:=InR.pipe hpp hP;obtain ⟨hPn,hPo⟩:=hn.open (yi hP);have hPs:=hn.pipe P (yi hP);have hPk:=Yrc hok hPn hPs;have hdr:Z6a P=Uc a s ((P.num.toNat:Nat):Int):=funext fun q=>by rw [Yrd hPs q,ypa hPn.1]
  have hro:=hok.mine.road P.num.toNat _ zBc;have hr1:=hro.fr;have hr2:=hro.to;have hef:P.road.fr=(a.mine.roads.l.getD P.num.toNat default).fr:=by rw [hPs.road]
  have het:P.road.to=(a.mine.roads.l.getD P.num.toNat default).to:=by rw [hPs.road]
  have hAl:=hAA.length;have hpg:p.l[P.road.fr.toNat]?=some (!(A.getD P.road.fr.toNat false)):=by rw [hpl,yu,Ju (l:=A) (k:=P.road.fr.toNat) false za];rfl
  have g1:=Ju (l:=b.low.l) (k:=P.road.fr.toNat) 0 za;have g2:=Ju (l:=b.low.l) (k:=P.road.to.toNat) 0 za;have g3:=Ju (l:=b.high.l) (k:=P.road.fr.toNat) 0 za;have g4:=Ju (l:=b.high.l) (k:=P.road.to.toNat) 0 za;have e1:=hC.pl.get P.road.fr.toNat;have e2:=hC.pl.get P.road.to.toNat;have e3:=hC.ph.get P.road.fr.toNat;have e4:=hC.ph.get P.road.to.toNat;have hlg:=Ju (l:=l) (k:=P.num.toNat) default za;apply (qbb);refine Jx zC rfl ?_;apply qdx∘qaq;intro b10;apply Xbg∘qbm∘Xd6;refine Jx (Jw tb (p) _ rfl rfl rfl rfl zi (i:=P.road.fr.toNat) zk zw) rfl ?_;refine Jx zKb rfl ?_;apply (qaf);refine q_c ?_ ?_<;>intro hc2;·(have hrf:nothingS=Vc a s b A P.num.toNat:=by rw [Vc,if_neg (by rw [hPo];decide),← hef,if_neg zO]);apply qae∘Xct∘qcd;refine Jx zXc rfl ?_;refine V8 (Uo tb ((⟨.own b20 a.mine.roads.l.length [],l⟩:OwL XSpan)) (nothingS) rfl rfl rfl rfl zj zi yf zi (yV rfl) zb zb) ?_;rintro v M U ⟨rfl,rfl⟩;refine J7 (Jb (K4 (Kp (J8 (Jb (Jg ?_))))));apply (Xae);exact ubs
  have hrf:(⟨V9 (Z6a P) (b.low.l.getD P.road.fr.toNat 0 - b.high.l.getD P.road.to.toNat 0),U5 (Z6a P) (b.high.l.getD P.road.fr.toNat 0 - b.low.l.getD P.road.to.toNat 0)⟩:XSpan)=Vc a s b A P.num.toNat:=by rw [Vc,if_neg (by rw [hPo];decide),← hef,← het,if_pos zO,hdr]
  refine J1 (Jb ?_);refine J6 tb [] [0,1,2,3,4,5,6,7,8,9,10,11,12,13,14,15,16,17,18,20,21,22,23,24,25,26,27,28,29,30,31,32,33,34,35,19,36,37,38] [39] ([Blk.mk b10 _ _,Blk.mk b5 _ _]) _ Kq zc zg ye ?_;apply Xdd∘Ulg∘Xah∘qan∘Xah∘Jkg∘qci∘Xah∘qan∘Xah∘Uqg∘qci∘qcc∘Ulg∘Xah∘qan∘Xah∘Jkg∘qci∘Xah∘qan∘Xah∘Uqg∘qci∘qcc;refine Ku rfl (Jmb P (b.low.l.getD P.road.fr.toNat 0 - b.high.l.getD P.road.to.toNat 0) _ _ hPI hPk) rfl rfl ?_;rintro v M U ⟨rfl,rfl,rfl⟩;refine ⟨zg,zq,?_⟩;refine Ku rfl (Yua P (b.high.l.getD P.road.fr.toNat 0 - b.low.l.getD P.road.to.toNat 0) _ _ hPI hPk) rfl rfl ?_;rintro v M U ⟨rfl,rfl,rfl⟩;refine ⟨zg,zq,?_⟩;apply (qcw);refine Kr zXc rfl rfl rfl rfl ?_;apply (qba);refine Jlb (Uo tb ((⟨.own b20 a.mine.roads.l.length [],l⟩:OwL XSpan)) (⟨V9 (Z6a P) (b.low.l.getD P.road.fr.toNat 0 - b.high.l.getD P.road.to.toNat 0),U5 (Z6a P) (b.high.l.getD P.road.fr.toNat 0 - b.low.l.getD P.road.to.toNat 0)⟩) rfl rfl rfl rfl zj zi yf zi (yV rfl) zb zb) rfl rfl ?_;rintro v M U ⟨rfl,rfl⟩;apply qa1∘qby∘Xae;exact ubs
 obtain rfl:k=n.pipes.l.length:=by omega
 apply Xc7∘Xcw;refine q_r ((⟨.own b20 a.mine.roads.l.length [],l⟩:OwL XSpan).L 90 XSpan.cells ++ L) (Zca n.pipes :: Yla n.at_ :: (S2 ++ (S1 ++ R))) zkd ?_;exact ⟨(⟨.own b20 a.mine.roads.l.length [],l⟩:OwL XSpan),Zca n.pipes :: Yla n.at_ :: (S2 ++ S1),Ul hll,hkq,by rw [U6,if_pos hck];exact w2.done hn,rfl,by simp [yo]⟩
end
section
attribute [local irreducible] CJ LJ DJ Tri YV Gives Ur J3 Ko Uq RV J5 OwL.L
def Vmb {a:XAir} {s:XSetting} {b b':XBounds} {A:List Bool} (h1:b.low.l=b'.low.l) (h2:b.high.l=b'.high.l):U6 a s b A=U6 a s b' A:=by
 have e1:Vk a s b A=Vk a s b' A:=funext fun i=>by rw [Vk,Vk,h1,h2]
 have e2:Zh a s b A=Zh a s b' A:=by rw [Zh,Zh,h1,h2,e1]
 have e3:Vc a s b A=Vc a s b' A:=funext fun i=>by rw [Vc,Vc,h1,h2]
 rw [U6,U6,e2,e3]
def Kwb (a:XAir) (s:XSetting) (A:List Bool):XBounds:=⟨⟨none,0,(Y2 a s A).2.1⟩,⟨none,0,(Y2 a s A).2.2⟩⟩
def Uba (a:XAir) (k:Nat):XSpan:=if (a.mine.roads.l.getD k default).closed=true then ⟨0,0⟩ else nothingS
def Vqb (a:XAir) (s:XSetting) (A:List Bool):Int×List XSpan:=
 if Kz a≠0 then (Kz a,[]) else if Vba a s=false then (21,[]) else if (Y2 a s A).1=0 then (0,U6 a s (Kwb a s A) A)
 else (0,(List.range a.mine.roads.l.length).map (Uba a))
def K8 (L:LB) (R:LS):
 Tri Tryz.prog 96 [].toArray L R (fun v M U=>v=nothingS.val∧L=M∧R=U):=by refine Jd 2 Tryz.call96 Tryz.func96 rfl rfl rfl ?_;apply (Xcp);intro b0;apply qam∘qcd∘Xbe;refine q_r L R zUc ?_;exact zFd
structure BlindTo (a:XAir) (i:Nat) (l:List XSpan):Prop where
 len:l.length=a.mine.roads.l.length
 don:∀j:Nat,j < i→l[j]?=some (Uba a j)
 non:∀j:Nat,i≤j→j < a.mine.roads.l.length→l[j]?=some ⟨0,0⟩
def BlindTo.next {a:XAir} {i:Nat} {l:List XSpan} (h:BlindTo a i l) (hi:i < a.mine.roads.l.length) {x:XSpan} (hx:x=Uba a i):BlindTo a (i + 1) (l.set i x):=by exact uaH
def BlindTo.stay {a:XAir} {i:Nat} {l:List XSpan} (h:BlindTo a i l) (hi:i < a.mine.roads.l.length) (hx:(⟨0,0⟩:XSpan)=Uba a i):BlindTo a (i + 1) l:=by exact uaO
def BlindTo.done {a:XAir} {l:List XSpan} (h:BlindTo a a.mine.roads.l.length l):l=(List.range a.mine.roads.l.length).map (Uba a):=by
 have hl:=h.len;refine yka fun j=>?_;rcases yl j a.mine.roads.l.length with hj | hj;·rw [h.don j hj,yu,yX hj];rfl
 ·rw [yq za,yq zD]
def K2d (a:XAir) (s:XSetting) (A:List Bool) (L:LB) (R:LS) (hm:AirR a R) (hs:SetR s R) (hA:Kz a=0→AiryIs a.mine A):
 Tri Tryz.prog 40 [a.val,s.val].toArray L R (fun w M U=>∃p:OwL XSpan,w=.tuple #[p.val,.int .i64 (Vqb a s A).1]∧p.ok 2 XSpan.cells∧p.l=(Vqb a s A).2∧p.L 90 XSpan.cells ++ L=M∧R=U):=by
 have hmr:=hm.roads;refine Jd 56 Tryz.call40 Tryz.func40 rfl rfl rfl ?_;apply (Xaf);intro b2;apply (qax);intro b3;apply qc4∘Xar∘qa8;refine q_l rfl (Jfa a _ _ hm) ?_;apply (Xbm);refine q_c ?_ ?_<;>intro hc0;·apply Xbq∘qc4∘Xal;refine q_r L R zjd ?_;exact ⟨OwL.nil,by rw [Vqb,if_pos hc0];rfl,OwL.nil_ok,by rw [Vqb,if_pos hc0],by rw [Kj,yx],rfl⟩
 have h0:Kz a=0:=by omega
 have hok:=Zd h0;have hnp:=hok.mine.places;have hnr:=hok.mine.roads;apply qbo∘Xcu;refine q_l rfl (Jnb a s _ _ hm hs) ?_;apply (Xbr);refine q_c ?_ ?_<;>intro hc1;·apply qae∘qc4∘Xal;refine q_r L R zjd ?_;exact ⟨OwL.nil,by rw [Vqb,if_neg hc0,if_pos zL];rfl,OwL.nil_ok,by rw [Vqb,if_neg hc0,if_pos zL],by rw [Kj,yx],rfl⟩
 have hf0:Vba a s=true:=by simpa using hc1
 have hff:¬ Vba a s=false:=by rw [hf0];decide
 apply qbo∘Xcu;refine Jm rfl (Zzc a s A _ _ hm hs hA za) rfl ?_;rintro v M U ⟨lo,hi,rfl,h1,h2,h3,h4,rfl,rfl⟩;refine Jx zXb rfl ?_;apply (Xdv);intro b7;apply qak∘Xcd;refine V2 (A:=[_]) (wd:=1) [] yf ze h1 yg ?_;apply (qb1);refine V2 (A:=[_]) (wd:=1) [] yf ze h2 yg ?_;apply (qb1);have hR2:∀r∈R,InR r (isl hi.arr :: isl lo.arr :: R):=fun r hr=>Ja zG;have hB2:BoundsR ⟨lo.arr,hi.arr⟩ (isl hi.arr :: isl lo.arr :: R):=⟨Ja (.tail _ (.head _)),Ja (.head _)⟩;have hmr2:=hmr.mono hR2;apply Xa7∘Xbo;refine q_c ?_ ?_<;>intro hc2;·
  apply qae∘Xcu∘qbe;refine Jm rfl (Uhe a s ⟨lo.arr,hi.arr⟩ A _ _ (Kea hm hR2) (Y5a hs hR2) hB2 hA) rfl ?_;rintro v M U ⟨p,S,rfl,hpk,hpl,rfl,rfl⟩;apply qc4∘Xal;refine Kw (M:=p.L 90 XSpan.cells ++ L) (U:=R) zjd ?hp ?hL ?hR;case hp=>(have ha:Vqb a s A=(0,U6 a s (Kwb a s A) A):=by rw [Vqb,if_neg hc0,if_neg hff,if_pos hc2]);exact ⟨p,by rw [ha];rfl,hpk,by rw [ha,hpl];exact Vmb h3 h4,rfl,rfl⟩
  case hL=>exact zg
  case hR=>exact fun r h=>Ja (by simp [h])
 apply qbv∘Xce∘qc7;rintro v M U ⟨b37,rfl,rfl,hR37⟩;replace hR37:=hR37.symm;subst hR37;apply qc4∘qco;refine Uu (Yt (f:=XSpan.cells) (x:=⟨0,0⟩) rfl _) ?_;apply qay∘qab∘Xaz;refine Jl [(9,.slice _ _ _),(40,.slice _ _ _),(41,.int _ _),(42,.int _ _)] zh fun tq0=>?_;refine q_p ([10,11]++rg 42 13) ((⟨fun g=>[(42,.int .i64 ((g.1.1:Nat):Int))],fun g=>(⟨.own b37 a.mine.roads.l.length [],g.1.2⟩:OwL XSpan).L 90 XSpan.cells ++ (⟨b7,[lo.val,hi.val],214⟩ :: ⟨b3,s.cells,80⟩ :: ⟨b2,a.cells,32⟩ :: L),fun _=>isl hi.arr :: isl lo.arr :: R,fun g=>a.mine.roads.l.length - g.1.1⟩:Head {g:Nat×List XSpan // g.1≤a.mine.roads.l.length∧BlindTo a g.1 g.2})) (⟨(0,List.replicate a.mine.roads.l.length ⟨0,0⟩),by dsimp only;omega,⟨by simp,fun j hj=>by omega,fun j _ hj=>by rw [yO,if_pos hj]⟩⟩) ?_;rintro ⟨⟨k,l⟩,w1,w2⟩ junk;try dsimp only
 dsimp only at w1 w2;have hll:=w2.len;have hkq:(⟨.own b37 a.mine.roads.l.length [],l⟩:OwL XSpan).ok 2 XSpan.cells:=by have:=Yw (f:=XSpan.cells) (wd:=2) (b:=b37) (n:=a.mine.roads.l.length) (x:=⟨0,0⟩) yf zE;exact OwL.len_ok yf this (by simp;exact hll)
 apply (Xan);refine q_c ?_ ?_<;>intro hc3;·
  have hrg:=Ju (l:=a.mine.roads.l) (k:=k) default za;have hlg:=w2.non k (ym _) za;apply (Xa9);refine Jx zC rfl ?_;apply qc8∘qaq;intro b11;apply qad∘Xb9∘Xbr;refine q_c ?_ ?_<;>intro hc4;·(have hbf:nothingS=Uba a k:=by rw [Uba,if_neg zX]);apply (Xcl);refine q_l rfl (K8 _ _) ?_;refine Jx (Jw tb ((⟨.own b37 a.mine.roads.l.length [],l⟩:OwL XSpan)) _ rfl rfl ((show _=Value.slice _ _ _ from rfl).trans (Ul hll)) rfl zi (i:=k) zk zw) rfl ?_;refine V8 (Uo tb ((⟨.own b37 a.mine.roads.l.length [],l⟩:OwL XSpan)) (nothingS) rfl rfl rfl rfl zj zi yf zi (yV rfl) zb zb) ?_;rintro v M U ⟨rfl,rfl⟩;apply (Xbl);exact q_k ⟨(k + 1,l.set k nothingS),by dsimp only;omega,w2.next za hbf⟩
  have hbf:(⟨0,0⟩:XSpan)=Uba a k:=by rw [Uba,if_pos zX]
  apply (Xa0);exact q_k ⟨(k + 1,l),by dsimp only;omega,w2.stay za hbf⟩
 obtain rfl:k=a.mine.roads.l.length:=by omega
 apply Xc7∘qc4∘Xaj;refine Kw (M:=(⟨.own b37 a.mine.roads.l.length [],l⟩:OwL XSpan).L 90 XSpan.cells ++ L) (U:=R) zjd ?hp ?hL ?hR;case hp=>
  have ha:Vqb a s A=(0,(List.range a.mine.roads.l.length).map (Uba a)):=by rw [Vqb,if_neg hc0,if_neg hff,if_neg hc2]
  exact ⟨(⟨.own b37 a.mine.roads.l.length [],l⟩:OwL XSpan),by rw [ha];simp only [OwL.val,Ow.addr,Ow.cap,hll],hkq,by rw [ha];exact w2.done,rfl,rfl⟩
 case hL=>exact zg
 case hR=>exact fun r h=>Ja (by simp [h])
def Jxe (x:XSpan):Int:=if x.high < x.low then 0 else if 0 < x.low then 1 else if x.high < 0 then -1 else 0
def Uhc (x:XSpan) (L:LB) (R:LS):
 Tri Tryz.prog 48 [x.val].toArray L R (fun v M U=>v=.int .i64 (Jxe x)∧L=M∧R=U):=by
 refine Jd 17 Tryz.call48 Tryz.func48 rfl rfl rfl ?_;apply (Xaf);intro b1;apply (qad);refine J7 (Jb (Jp (Ka (Jp (Jg ?_)))));apply Xa6∘qa5∘Xaq;refine q_c ?_ ?_<;>intro hc0;·apply (Xbk);refine q_i L R ?_;exact ⟨by rw [Jxe,if_pos hc0],rfl,rfl⟩
 apply qae∘Xbs∘Xaq;refine q_c ?_ ?_<;>intro hc1;·apply (Xbk);refine q_i L R ?_;exact ⟨by rw [Jxe,if_neg za,if_pos hc1],rfl,rfl⟩
 apply Xck∘qaj∘Xaq;refine q_c ?_ ?_<;>intro hc2;·apply (Xbk);refine q_i L R ?_;exact ⟨by rw [Jxe,if_neg za,if_neg za,if_pos hc2],rfl,rfl⟩
 refine J1 (Je (Jb (Jp (Jg ?_))));apply (Xaj);refine q_i L R ?_;exact ⟨by rw [Jxe,if_neg za,if_neg za,if_neg za],rfl,rfl⟩
end
end Go.Proofs.YtchfclmokpbldaaGreat
