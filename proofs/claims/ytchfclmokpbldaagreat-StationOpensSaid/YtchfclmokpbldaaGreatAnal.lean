/-
  Merged texts. By an AI agent.
-/
import Derived.Test.YtchfclmokpbldaaGreatCflowS
set_option linter.all false
set_option maxHeartbeats 4000000
set_option maxRecDepth 20000
namespace Go.Proofs.YtchfclmokpbldaaGreat
open Go.Aw Go
section
attribute [local irreducible] CJ LJ DJ Tri YV Gives U7 Kb Kp U8 RV Ke OwL.L
section
variable {A B:Prop}
def Kdg(h:A→B:=by exact Kz (Jn (row:=[_,_,_,_,_,_,_,_,_,_,_,_]) tb rfl rfl rfl zh ze ze) rfl rfl rfl rfl):=h
def Zuf(h:A→B:=by exact Kz (by first | exact Jf tb rfl rfl rfl rfl zB (i:=P.road.fr.toNat) zo zc | exact Jm tb rfl rfl rfl rfl (i:=P.road.fr.toNat) zo zc) rfl rfl rfl rfl):=h
def V1f(h:A→B:=by exact Kz (by first | exact Jf tb rfl rfl rfl rfl zB (i:=P.road.to.toNat) zo zc | exact Jm tb rfl rfl rfl rfl (i:=P.road.to.toNat) zo zc) rfl rfl rfl rfl):=h
end
def K8e (a:XAir) (s:XSetting) (b:XBounds) (A:List Bool) (L:LB) (R:LS) (hm:AirR a R) (hs:SetR s R) (hb:BoundsR b R) (hA:Ko a=0→AiryIs a.mine A):
 Tri Tryz.prog 112 [a.val,s.val,b.val].toArray L R (fun v M U=>∃(p:OwL XSpan) (S:LS),v=p.val∧p.ok 2 XSpan.cells∧p.l=Up a s b A∧p.L 90 XSpan.cells ++ L=M∧S ++ R=U):=by
 have hmr:=hm.roads;have hbl:=hb.low;have hbh:=hb.high;refine Jd 85 Tryz.call112 Tryz.func112 rfl rfl rfl ?_;apply (Xag);intro b3;apply (qax);intro b4;apply (qax);intro b5;apply Xbz∘Xbp∘qbe;refine Ju rfl (V3e a s b A _ _ hm hs hb hA) rfl ?_;rintro v M U ⟨S1,rfl,rfl,rfl⟩;have hm1:AirR a (S1 ++ R):=⟨hm.places.mono fun r h=>Jb (by simp [h]),hm.roads.mono fun r h=>Jb (by simp [h]),hm.fans.mono fun r h=>Jb (by simp [h]),hm.doors.mono fun r h=>Jb (by simp [h])⟩;have hmr1:=hm1.roads;apply (Xaw);refine q_c ?_ ?_<;>intro hc0;·apply Xdi∘qbh;refine q_r L (S1 ++ R) zzd ?_;exact ⟨OwL.nil,S1,rfl,OwL.nil_ok,by rw [Up,if_neg hc0],by rw [Kr,yv],rfl⟩
 have hck:V7 a s b A=0:=by omega
 have hC:=Yrb hck;have hok:=Ve hC.h0;have hfo:=Zea hC.hf;have hAA:=hA hC.h0;have hnr:=hok.mine.roads;have hln:=hC.hl;have hhn:=hC.hh;apply qbv∘Xcg∘qc7;rintro v M U ⟨b20,rfl,rfl,hR20⟩;replace hR20:=hR20.symm;subst hR20;apply (Xd3);refine V4 (Yo (f:=XSpan.cells) (x:=⟨0,0⟩) rfl _) ?_;apply qay∘Xc4;refine Ju rfl (Veb a.mine _ _ hm1.mineR hok.mine (Uza hC.h0)) rfl ?_;rintro v M U ⟨p,A2,S2,rfl,hpk,hA2,hpl,rfl,rfl⟩;obtain rfl:A=A2:=hAA.unique hA2;have hplen:p.l.length=a.mine.places.l.length:=by rw [hpl,yK];exact hAA.length
 have hm2:AirR a (S2 ++ (S1 ++ R)):=⟨hm1.places.mono fun r h=>Jb zza,hm1.roads.mono fun r h=>Jb zza,hm1.fans.mono fun r h=>Jb zza,hm1.doors.mono fun r h=>Jb zza⟩;have hs2:SetR s (S2 ++ (S1 ++ R)):=⟨hs.fans.mono fun r h=>Jb (by simp [h]),hs.doors.mono fun r h=>Jb (by simp [h])⟩;apply Xbz∘Xbp;refine Ju rfl (Ugc a s _ _ hm2 hs2 hok hfo) rfl ?_;rintro v M U ⟨n,rfl,hn,rfl,rfl⟩;have hpp:InR (Zga n.pipes) (Zga n.pipes :: V6a n.at_ :: (S2 ++ (S1 ++ R))):=Jb (.head _);have hbl3:InR (isl b.low) (Zga n.pipes :: V6a n.at_ :: (S2 ++ (S1 ++ R))):=hbl.mono fun r h=>Jb (by simp [h]);have hbh3:InR (isl b.high) (Zga n.pipes :: V6a n.at_ :: (S2 ++ (S1 ++ R))):=hbh.mono fun r h=>Jb (by simp [h]);have hnl:=hn.length;refine J0 (Kfb (e:=218) tb rfl zf rfl rfl rfl rfl rfl) rfl ?_;apply qag∘Xa0;refine Jh [(5,.pointer _),(7,.slice _ _ _),(8,.slice _ _ _),(27,.slice _ _ _),(28,.int _ _),(29,.int _ _)] zg fun tq0=>?_;refine q_p ([10]++rg 29 55) ((⟨fun q=>[(29,.int .i64 ((q.1.1:Nat):Int))],fun q=>p.L 4 blc ++ ((⟨.own b20 a.mine.roads.l.length [],q.1.2⟩:OwL XSpan).L 90 XSpan.cells ++ (⟨b5,b.cells,214⟩ :: ⟨b4,s.cells,80⟩ :: ⟨b3,a.cells,32⟩ :: L)),fun _=>Zga n.pipes :: V6a n.at_ :: (S2 ++ (S1 ++ R)),fun q=>n.pipes.l.length - q.1.1⟩:Head {q:Nat×List XSpan // q.1≤n.pipes.l.length∧FlowTo a s b A n q.1 q.2})) (⟨(0,List.replicate a.mine.roads.l.length ⟨0,0⟩),by dsimp only;omega,FlowTo.zero a s b A n⟩) ?_;rintro ⟨⟨k,l⟩,w1,w2⟩ junk;try dsimp only
 dsimp only at w1 w2;have hll:=w2.len;have hkq:(⟨.own b20 a.mine.roads.l.length [],l⟩:OwL XSpan).ok 2 XSpan.cells:=by have:=Yj (f:=XSpan.cells) (wd:=2) (b:=b20) (n:=a.mine.roads.l.length) (x:=⟨0,0⟩) yf zF;exact OwL.len_ok yf this zua
 apply (Xay);refine q_c ?_ ?_<;>intro hc1;·
  obtain ⟨P,hP⟩:=Ki (l:=n.pipes.l) (k:=k) zc;have hPI:=InR.pipe hpp hP;obtain ⟨hPn,hPo⟩:=hn.open (yi hP);have hPs:=hn.pipe P (yi hP);have hPk:=Zoc hok hPn hPs;have hdr:Jdb P=Uc a s ((P.num.toNat:Nat):Int):=funext fun q=>by rw [Vdd hPs q,yja hPn.1]
  have hro:=hok.mine.road P.num.toNat _ zwc;have hr1:=hro.fr;have hr2:=hro.to;have hef:P.road.fr=(a.mine.roads.l.getD P.num.toNat default).fr:=by rw [hPs.road]
  have het:P.road.to=(a.mine.roads.l.getD P.num.toNat default).to:=by rw [hPs.road]
  have hAl:=hAA.length;have hpg:p.l[P.road.fr.toNat]?=some (!(A.getD P.road.fr.toNat false)):=by rw [hpl,yt,Js (l:=A) (k:=P.road.fr.toNat) false zc];rfl
  have g1:=Js (l:=b.low.l) (k:=P.road.fr.toNat) 0 zc;have g2:=Js (l:=b.low.l) (k:=P.road.to.toNat) 0 zc;have g3:=Js (l:=b.high.l) (k:=P.road.fr.toNat) 0 zc;have g4:=Js (l:=b.high.l) (k:=P.road.to.toNat) 0 zc;have e1:=hC.pl.get P.road.fr.toNat;have e2:=hC.pl.get P.road.to.toNat;have e3:=hC.ph.get P.road.fr.toNat;have e4:=hC.ph.get P.road.to.toNat;have hlg:=Js (l:=l) (k:=P.num.toNat) default zc;apply (qbb);refine J0 zC rfl ?_;apply qdx∘qaq;intro b10;apply Xbi∘qbm∘Xez;refine J0 (Jo tb (p) _ rfl rfl rfl rfl zi (i:=P.road.fr.toNat) zo zw) rfl ?_;refine J0 zGb rfl ?_;apply (qaf);refine q_c ?_ ?_<;>intro hc2;·(have hrf:nothingS=Uo a s b A P.num.toNat:=by rw [Uo,if_neg (by rw [hPo];decide),← hef,if_neg zO]);apply qae∘Xc9∘qcd;refine J0 zid rfl ?_;refine V5 (Vm tb ((⟨.own b20 a.mine.roads.l.length [],l⟩:OwL XSpan)) (nothingS) rfl rfl rfl rfl zm zi yf zi (yX rfl) ze ze) ?_;rintro v M U ⟨rfl,rfl⟩;refine J6 (Ja (K5 (Kk (J8 (Ja (Je ?_))))));apply (Xan);exact ubK
  have hrf:(⟨Uv (Jdb P) (b.low.l.getD P.road.fr.toNat 0 - b.high.l.getD P.road.to.toNat 0),Ub (Jdb P) (b.high.l.getD P.road.fr.toNat 0 - b.low.l.getD P.road.to.toNat 0)⟩:XSpan)=Uo a s b A P.num.toNat:=by rw [Uo,if_neg (by rw [hPo];decide),← hef,← het,if_pos zO,hdr]
  refine Jt (Ja ?_);refine Kh tb [] [0,1,2,3,4,5,6,7,8,9,10,11,12,13,14,15,16,17,18,20,21,22,23,24,25,26,27,28,29,30,31,32,33,34,35,19,36,37,38] [39] ([Blk.mk b10 _ _,Blk.mk b5 _ _]) _ Kn zf zk ye ?_;apply Xd2∘Kdg∘Xah∘qan∘Xah∘Zuf∘qci∘Xah∘qan∘Xah∘V1f∘qci∘qcc∘Kdg∘Xah∘qan∘Xah∘Zuf∘qci∘Xah∘qan∘Xah∘V1f∘qci∘qcc;refine Kv rfl (Jeb P (b.low.l.getD P.road.fr.toNat 0 - b.high.l.getD P.road.to.toNat 0) _ _ hPI hPk) rfl rfl ?_;rintro v M U ⟨rfl,rfl,rfl⟩;refine ⟨zk,zu,?_⟩;refine Kv rfl (Yga P (b.high.l.getD P.road.fr.toNat 0 - b.low.l.getD P.road.to.toNat 0) _ _ hPI hPk) rfl rfl ?_;rintro v M U ⟨rfl,rfl,rfl⟩;refine ⟨zk,zu,?_⟩;apply (qcw);refine Kz zid rfl rfl rfl rfl ?_;apply (qba);refine Jwb (Vm tb ((⟨.own b20 a.mine.roads.l.length [],l⟩:OwL XSpan)) (⟨Uv (Jdb P) (b.low.l.getD P.road.fr.toNat 0 - b.high.l.getD P.road.to.toNat 0),Ub (Jdb P) (b.high.l.getD P.road.fr.toNat 0 - b.low.l.getD P.road.to.toNat 0)⟩) rfl rfl rfl rfl zm zi yf zi (yX rfl) ze ze) rfl rfl ?_;rintro v M U ⟨rfl,rfl⟩;apply qa1∘Xer;exact ubK
 obtain rfl:k=n.pipes.l.length:=by omega
 apply qbk∘Xej;refine q_r ((⟨.own b20 a.mine.roads.l.length [],l⟩:OwL XSpan).L 90 XSpan.cells ++ L) (Zga n.pipes :: V6a n.at_ :: (S2 ++ (S1 ++ R))) zzd ?_;exact ⟨(⟨.own b20 a.mine.roads.l.length [],l⟩:OwL XSpan),Zga n.pipes :: V6a n.at_ :: (S2 ++ S1),Uq hll,hkq,by rw [Up,if_pos hck];exact w2.done hn,rfl,by simp [yp]⟩
end
section
attribute [local irreducible] CJ LJ DJ Tri YV Gives U7 Kb Kp U8 RV Ke OwL.L
section
variable {A B:Prop}
def Ztf(h:B:=by exact ⟨OwL.nil,by rw [Zza,if_pos hc0];rfl,OwL.nil_ok,by rw [Zza,if_pos hc0],by rw [Kr,yv],rfl⟩):=h
def Yif(h:A→B:=by exact J0 zC rfl):=h
def V3f(h:A→B:=by exact Y6 zFb rfl):=h
def Vyf(h:A→B:=by exact Y6 zwd rfl):=h
end
def V1a {a:XAir} {s:XSetting} {b b':XBounds} {A:List Bool} (h1:b.low.l=b'.low.l) (h2:b.high.l=b'.high.l):Up a s b A=Up a s b' A:=by
 have e1:U4 a s b A=U4 a s b' A:=funext fun i=>by rw [U4,U4,h1,h2]
 have e2:V7 a s b A=V7 a s b' A:=by rw [V7,V7,h1,h2,e1]
 have e3:Uo a s b A=Uo a s b' A:=funext fun i=>by rw [Uo,Uo,h1,h2]
 rw [Up,Up,e2,e3]
def Zva (a:XAir) (s:XSetting) (A:List Bool):XBounds:=⟨⟨none,0,(Vp a s A).2.1⟩,⟨none,0,(Vp a s A).2.2⟩⟩
def Z6 (a:XAir) (k:Nat):XSpan:=if (a.mine.roads.l.getD k default).closed=true then ⟨0,0⟩ else nothingS
def Zza (a:XAir) (s:XSetting) (A:List Bool):Int×List XSpan:=
 if Ko a≠0 then (Ko a,[]) else if J8a a s=false then (21,[]) else if (Vp a s A).1=0 then (0,Up a s (Zva a s A) A)
 else (0,(List.range a.mine.roads.l.length).map (Z6 a))
def V0 (L:LB) (R:LS):
 Tri Tryz.prog 96 [].toArray L R (fun v M U=>v=nothingS.val∧L=M∧R=U):=by refine Jd 2 Tryz.call96 Tryz.func96 rfl rfl rfl ?_;exact zag
structure BlindTo (a:XAir) (i:Nat) (l:List XSpan):Prop where
 len:l.length=a.mine.roads.l.length
 don:∀j:Nat,j < i→l[j]?=some (Z6 a j)
 non:∀j:Nat,i≤j→j < a.mine.roads.l.length→l[j]?=some ⟨0,0⟩
def BlindTo.next {a:XAir} {i:Nat} {l:List XSpan} (h:BlindTo a i l) (hi:i < a.mine.roads.l.length) {x:XSpan} (hx:x=Z6 a i):BlindTo a (i + 1) (l.set i x):=by exact uaZ
def BlindTo.stay {a:XAir} {i:Nat} {l:List XSpan} (h:BlindTo a i l) (hi:i < a.mine.roads.l.length) (hx:(⟨0,0⟩:XSpan)=Z6 a i):BlindTo a (i + 1) l:=by exact ua4
def BlindTo.done {a:XAir} {l:List XSpan} (h:BlindTo a a.mine.roads.l.length l):l=(List.range a.mine.roads.l.length).map (Z6 a):=by
 have hl:=h.len;refine yfa fun j=>?_;rcases yk j a.mine.roads.l.length with hj | hj;·rw [h.don j hj,yt,yZ hj];rfl
 ·rw [yq zc,yq zH]
def Ubd (a:XAir) (s:XSetting) (A:List Bool) (L:LB) (R:LS) (hm:AirR a R) (hs:SetR s R) (hA:Ko a=0→AiryIs a.mine A):
 Tri Tryz.prog 40 [a.val,s.val].toArray L R (fun w M U=>∃p:OwL XSpan,w=.tuple #[p.val,.int .i64 (Zza a s A).1]∧p.ok 2 XSpan.cells∧p.l=(Zza a s A).2∧p.L 90 XSpan.cells ++ L=M∧R=U):=by
 have hmr:=hm.roads;refine Jd 56 Tryz.call40 Tryz.func40 rfl rfl rfl ?_;apply (Xag);intro b2;apply (qax);intro b3;apply qc4∘Xau∘qa8;refine q_l rfl (Jka a _ _ hm) ?_;apply (Xbj);refine q_c ?_ ?_<;>intro hc0;·apply Xbn∘qc4∘Xav;refine q_r L R zyd ?_;exact Ztf
 have h0:Ko a=0:=by omega
 have hok:=Ve h0;have hnp:=hok.mine.places;have hnr:=hok.mine.roads;apply qbo∘Xbp;refine q_l rfl (Jkb a s _ _ hm hs) ?_;apply (Xbg);refine q_c ?_ ?_<;>intro hc1;·apply Xdi∘Xav;refine q_r L R zyd ?_;exact ⟨OwL.nil,by rw [Zza,if_neg hc0,if_pos zN];rfl,OwL.nil_ok,by rw [Zza,if_neg hc0,if_pos zN],by rw [Kr,yv],rfl⟩
 have hf0:J8a a s=true:=by simpa using hc1
 have hff:¬ J8a a s=false:=by rw [hf0];decide
 apply qbo∘Xbp;refine Ju rfl (Jgd a s A _ _ hm hs hA zc) rfl ?_;rintro v M U ⟨lo,hi,rfl,h1,h2,h3,h4,rfl,rfl⟩;refine J0 zcc rfl ?_;apply Xbq∘qaq;intro b7;apply qak∘Xdf;refine Yq (A:=[_]) (wd:=1) [] yf zj h1 yg ?_;apply (qb1);refine Yq (A:=[_]) (wd:=1) [] yf zj h2 yg ?_;apply (qb1);have hR2:∀r∈R,InR r (isl hi.arr :: isl lo.arr :: R):=fun r hr=>Jb zJ;have hB2:BoundsR ⟨lo.arr,hi.arr⟩ (isl hi.arr :: isl lo.arr :: R):=⟨Jb (.tail _ (.head _)),Jb (.head _)⟩;have hmr2:=hmr.mono hR2;apply Xb0∘Xa6;refine q_c ?_ ?_<;>intro hc2;·
  apply qae∘Xbp∘qbe;refine Ju rfl (K8e a s ⟨lo.arr,hi.arr⟩ A _ _ (Vs hm hR2) (Y3 hs hR2) hB2 hA) rfl ?_;rintro v M U ⟨p,S,rfl,hpk,hpl,rfl,rfl⟩;apply qc4∘Xav;refine Ku (M:=p.L 90 XSpan.cells ++ L) (U:=R) zyd ?hp ?hL ?hR;case hp=>exact zDe
  case hL=>exact zk
  case hR=>exact fun r h=>Jb (by simp [h])
 apply qbv∘Xcg∘qc7;rintro v M U ⟨b37,rfl,rfl,hR37⟩;replace hR37:=hR37.symm;subst hR37;apply (Xd1);refine V4 (Yo (f:=XSpan.cells) (x:=⟨0,0⟩) rfl _) ?_;apply qay∘qab∘Xbh;refine Jh [(9,.slice _ _ _),(40,.slice _ _ _),(41,.int _ _),(42,.int _ _)] zg fun tq0=>?_;refine q_p ([10,11]++rg 42 13) ((⟨fun g=>[(42,.int .i64 ((g.1.1:Nat):Int))],fun g=>(⟨.own b37 a.mine.roads.l.length [],g.1.2⟩:OwL XSpan).L 90 XSpan.cells ++ (⟨b7,[lo.val,hi.val],214⟩ :: ⟨b3,s.cells,80⟩ :: ⟨b2,a.cells,32⟩ :: L),fun _=>isl hi.arr :: isl lo.arr :: R,fun g=>a.mine.roads.l.length - g.1.1⟩:Head {g:Nat×List XSpan // g.1≤a.mine.roads.l.length∧BlindTo a g.1 g.2})) (⟨(0,List.replicate a.mine.roads.l.length ⟨0,0⟩),by dsimp only;omega,⟨by simp,fun j hj=>by omega,fun j _ hj=>by rw [yL,if_pos hj]⟩⟩) ?_;rintro ⟨⟨k,l⟩,w1,w2⟩ junk;try dsimp only
 dsimp only at w1 w2;have hll:=w2.len;have hkq:(⟨.own b37 a.mine.roads.l.length [],l⟩:OwL XSpan).ok 2 XSpan.cells:=by have:=Yj (f:=XSpan.cells) (wd:=2) (b:=b37) (n:=a.mine.roads.l.length) (x:=⟨0,0⟩) yf zF;exact OwL.len_ok yf this zua
 apply (Xay);refine q_c ?_ ?_<;>intro hc3;·
  have hrg:=Js (l:=a.mine.roads.l) (k:=k) default zc;have hlg:=w2.non k (yn _) zc;apply Xbv∘Yif∘Xeo;intro b11;apply qad∘Xcv∘Xbg;refine q_c ?_ ?_<;>intro hc4;·(have hbf:nothingS=Z6 a k:=by rw [Z6,if_neg zU]);apply (Xcl);refine q_l rfl (V0 _ _) ?_;refine J0 (Jo tb ((⟨.own b37 a.mine.roads.l.length [],l⟩:OwL XSpan)) _ rfl rfl ((show _=Value.slice _ _ _ from rfl).trans (Uq hll)) rfl zi (i:=k) zo zw) rfl ?_;refine V5 (Vm tb ((⟨.own b37 a.mine.roads.l.length [],l⟩:OwL XSpan)) (nothingS) rfl rfl rfl rfl zm zi yf zi (yX rfl) ze ze) ?_;rintro v M U ⟨rfl,rfl⟩;apply (Xb1);exact q_k ⟨(k + 1,l.set k nothingS),by dsimp only;omega,w2.next zc hbf⟩
  have hbf:(⟨0,0⟩:XSpan)=Z6 a k:=by rw [Z6,if_pos zU]
  apply (Xbk);exact q_k ⟨(k + 1,l),by dsimp only;omega,w2.stay zc hbf⟩
 obtain rfl:k=a.mine.roads.l.length:=by omega
 apply qbk∘Xc5∘Xam;refine Ku (M:=(⟨.own b37 a.mine.roads.l.length [],l⟩:OwL XSpan).L 90 XSpan.cells ++ L) (U:=R) zyd ?hp ?hL ?hR;case hp=>
  have ha:Zza a s A=(0,(List.range a.mine.roads.l.length).map (Z6 a)):=by rw [Zza,if_neg hc0,if_neg hff,if_neg hc2]
  exact ⟨(⟨.own b37 a.mine.roads.l.length [],l⟩:OwL XSpan),by rw [ha];simp only [OwL.val,Ow.addr,Ow.cap,hll],hkq,by rw [ha];exact w2.done,rfl,rfl⟩
 case hL=>exact zk
 case hR=>exact fun r h=>Jb (by simp [h])
def Z2b (a:XAir) (s:XSetting) (A:List Bool) (L:LB) (R:LS) (hm:AirR a R) (hs:SetR s R) (hA:Ko a=0→AiryIs a.mine A):
 Tri Tryz.prog 130 [a.val,s.val].toArray L R (fun w M U=>∃p:OwL XSpan,w=.tuple #[p.val,.int .i64 (Zza a s A).1]∧p.ok 2 XSpan.cells∧p.l=(Zza a s A).2∧p.L 90 XSpan.cells ++ L=M∧R=U):=by
 have hmr:=hm.roads;refine Jd 56 Tryz.call130 Tryz.func130 rfl rfl rfl ?_;apply (Xag);intro b2;apply (qax);intro b3;apply qc4∘Xau∘qa8;refine q_l rfl (Z2 a _ _ hm) ?_;apply (Xbj);refine q_c ?_ ?_<;>intro hc0;·apply Xbn∘qc4∘Xav;refine q_r L R zyd ?_;exact Ztf
 have h0:Ko a=0:=by omega
 have hok:=Ve h0;have hnp:=hok.mine.places;have hnr:=hok.mine.roads;apply qbo∘Xbp;refine q_l rfl (Uha a s _ _ hm hs) ?_;apply (Xbg);refine q_c ?_ ?_<;>intro hc1;·
  apply Xdi∘Xav;refine q_r L R zyd ?_;have hf1:J8a a s=false:=by simpa [Yka,h0] using hc1
  exact ⟨OwL.nil,by rw [Zza,if_neg hc0,if_pos hf1];rfl,OwL.nil_ok,by rw [Zza,if_neg hc0,if_pos hf1],by rw [Kr,yv],rfl⟩
 have hf0:J8a a s=true:=by simpa [Yka,h0] using hc1
 have hff:¬ J8a a s=false:=by rw [hf0];decide
 apply qbv∘Xbp;refine Ju rfl (Jdc a s A _ _ hm hs hA zc) rfl ?_;rintro v M U ⟨lo,hi,rfl,h1,h2,h3,h4,rfl,rfl⟩;refine J0 zcc rfl ?_;apply Xbq∘qaq;intro b7;apply qak∘qad∘qco;refine Yq (A:=[_]) (wd:=1) [] yf zj h1 yg ?_;apply (qb1);refine Yq (A:=[_]) (wd:=1) [] yf zj h2 yg ?_;apply (qb1);have hR2:∀r∈R,InR r (isl hi.arr :: isl lo.arr :: R):=fun r hr=>Jb zJ;have hB2:BoundsR ⟨lo.arr,hi.arr⟩ (isl hi.arr :: isl lo.arr :: R):=⟨Jb (.tail _ (.head _)),Jb (.head _)⟩;have hmr2:=hmr.mono hR2;apply Xb0∘Xa6;refine q_c ?_ ?_<;>intro hc2;·
  apply qae∘Xbp∘qbe;refine Ju rfl (Jad a s ⟨lo.arr,hi.arr⟩ A _ _ (Vs hm hR2) (Y3 hs hR2) hB2 hA) rfl ?_;rintro v M U ⟨p,rfl,hpk,hpl,rfl,rfl⟩;apply qc4∘Xav;refine Ku (M:=p.L 90 XSpan.cells ++ L) (U:=R) zyd ?hp ?hL ?hR;case hp=>exact zDe
  case hL=>exact zk
  case hR=>exact fun r h=>Jb (by simp [h])
 apply qbv∘Xbz∘Xat;refine Jh [(2,.pointer _),(9,.slice _ _ _),(10,.int _ _)] zg fun tq0=>?_;refine K8 ([9,10,11]++rg 33 22) ((⟨fun g=>[(10,.int .i64 ((g.1.1:Nat):Int)),(9,g.1.2.val)],fun g=>g.1.2.L 90 XSpan.cells ++ (⟨b7,[lo.val,hi.val],214⟩ :: ⟨b3,s.cells,80⟩ :: ⟨b2,a.cells,32⟩ :: L),fun _=>isl hi.arr :: isl lo.arr :: R,fun g=>a.mine.roads.l.length - g.1.1⟩:Head {g:Nat×OwL XSpan // g.1≤a.mine.roads.l.length∧g.2.ok 2 XSpan.cells∧g.2.l=(List.range g.1).map (Z6 a)})) (⟨(0,OwL.nil),by dsimp only;omega,OwL.nil_ok,rfl⟩) zg zK zJb ?_;rintro ⟨⟨k,q⟩,w1,w2,w3⟩ junk;try dsimp only
 dsimp only at w1 w2 w3;have hql:q.l.length=k:=by rw [w3];simp
 apply Xap∘qab∘Xa9;refine q_c ?_ ?_<;>intro hc3;·
  have hrg:=Js (l:=a.mine.roads.l) (k:=k) default zc;apply qbb∘qck∘qaq;intro b11;apply Xbi∘Xc3∘Yif∘Xbd∘Xbg;refine q_c ?_ ?_<;>intro hc4;·(have hbf:Z6 a k=nothingS:=by rw [Z6,if_neg zU]);apply (qay);refine q_l rfl (Vz _ _) ?_;apply (qak);refine J6 (Ja (Je ?_));exact zXd
  have hbf:Z6 a k=⟨0,0⟩:=by rw [Z6,if_pos zU]
  refine Jt (Ja (Je ?_));exact zXd
 obtain rfl:k=a.mine.roads.l.length:=by omega
 apply qbk∘Xc5∘Xam;refine Ku (M:=q.L 90 XSpan.cells ++ L) (U:=R) zyd ?hp ?hL ?hR;case hp=>
  have ha:Zza a s A=(0,(List.range a.mine.roads.l.length).map (Z6 a)):=by rw [Zza,if_neg hc0,if_neg hff,if_neg hc2]
  exact ⟨q,by rw [ha];rfl,w2,by rw [ha];exact w3,rfl,rfl⟩
 case hL=>exact zk
 case hR=>exact fun r h=>Jb (by simp [h])
def Zbd (x:XSpan):Int:=if x.high < x.low then 0 else if 0 < x.low then 1 else if x.high < 0 then -1 else 0
def Uoc (x:XSpan) (L:LB) (R:LS):
 Tri Tryz.prog 48 [x.val].toArray L R (fun v M U=>v=.int .i64 (Zbd x)∧L=M∧R=U):=by
 refine Jd 17 Tryz.call48 Tryz.func48 rfl rfl rfl ?_;apply (Xag);intro b1;apply (qad);refine J6 (Ja (Ji (Jy (Ji (Je ?_)))));apply Xaa∘Xa5∘Xaz;refine q_c ?_ ?_<;>intro hc0;·apply (Xbc);refine q_i L R ?_;exact ⟨by rw [Zbd,if_pos hc0],rfl,rfl⟩
 apply qae∘Xa5∘Xaz;refine q_c ?_ ?_<;>intro hc1;·apply (Xbc);refine q_i L R ?_;exact ⟨by rw [Zbd,if_neg zc,if_pos hc1],rfl,rfl⟩
 apply qae∘Xcp∘Xaz;refine q_c ?_ ?_<;>intro hc2;·apply (Xbc);refine q_i L R ?_;exact ⟨by rw [Zbd,if_neg zc,if_neg zc,if_pos hc2],rfl,rfl⟩
 refine Jt (Jg (Ja (Ji (Je ?_))));apply (Xam);refine q_i L R ?_;exact ⟨by rw [Zbd,if_neg zc,if_neg zc,if_neg zc],rfl,rfl⟩
end
end Go.Proofs.YtchfclmokpbldaaGreat
