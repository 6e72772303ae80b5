/-
  Merged texts. By an AI agent.
-/
import Derived.Test.YtchfclmokpbldaaGreatRel
import Derived.Test.YtchfclmokpbldaaGreatMadeB
import Derived.Test.YtchfclmokpbldaaGreatFits
set_option linter.all false
set_option maxHeartbeats 4000000
set_option maxRecDepth 20000
namespace Go.Proofs.YtchfclmokpbldaaGreat
open Go.Aw Go
section
attribute [local irreducible] CJ LJ DJ Tri YV Gives U0 J3 Kj Uz RV J5 OwL.L
end
section
section
variable (b b':Nat)
end
end
section
attribute [local irreducible] CJ LJ DJ Tri YV Gives U0 J3 Kj Uz RV J5 OwL.L
end
section
structure XArc where
 road:Int
 fr:Int
 to:Int
 deriving DecidableEq,Inhabited
section
variable {m:XMine} {l:List XArc} {w:Int} {seen out:List Bool}
end
end
section
attribute [local irreducible] CJ LJ DJ Tri YV Gives U0 J3 Kj Uz RV J5 OwL.L
def U9b {a:XAir} {s:XSetting} {b b':XBounds} {A:List Bool} (h1:b.low.l=b'.low.l) (h2:b.high.l=b'.high.l):Uw a s b A=Uw a s b' A:=by
 have e1:Vm a s b A=Vm a s b' A:=funext fun i=>by rw [Vm,Vm,h1,h2]
 have e2:Yz a s b A=Yz a s b' A:=by rw [Yz,Yz,h1,h2,e1]
 have e3:Ut a s b A=Ut a s b' A:=funext fun i=>by rw [Ut,Ut,h1,h2]
 rw [Uw,Uw,e2,e3]
def Yra (a:XAir) (s:XSetting) (A:List Bool):XBounds:=⟨⟨none,0,(Yf a s A).2.1⟩,⟨none,0,(Yf a s A).2.2⟩⟩
def K0a (a:XAir) (k:Nat):XSpan:=if (a.mine.roads.l.getD k default).closed=true then ⟨0,0⟩ else nothingS
def Uzb (a:XAir) (s:XSetting) (A:List Bool):Int×List XSpan:=
 if K1 a≠0 then (K1 a,[]) else if Yfa a s=false then (21,[]) else if (Yf a s A).1=0 then (0,Uw a s (Yra a s A) A)
 else (0,(List.range a.mine.roads.l.length).map (K0a a))
def Ub (L:LB) (R:LS):
 Tri Tryz.prog 96 [].toArray L R (fun v M U=>v=nothingS.val∧L=M∧R=U):=by refine Jj 2 Tryz.call96 Tryz.func96 rfl rfl rfl ?_;apply qae∘qaq;intro b0;apply qam∘qcd∘Xbr;refine q_r L R zDc ?_;exact zrd
structure BlindTo (a:XAir) (i:Nat) (l:List XSpan):Prop where
 len:l.length=a.mine.roads.l.length
 don:∀j:Nat,j < i→l[j]?=some (K0a a j)
 non:∀j:Nat,i≤j→j < a.mine.roads.l.length→l[j]?=some ⟨0,0⟩
def BlindTo.next {a:XAir} {i:Nat} {l:List XSpan} (h:BlindTo a i l) (hi:i < a.mine.roads.l.length) {x:XSpan} (hx:x=K0a a i):BlindTo a (i + 1) (l.set i x):=by exact uaF
def BlindTo.stay {a:XAir} {i:Nat} {l:List XSpan} (h:BlindTo a i l) (hi:i < a.mine.roads.l.length) (hx:(⟨0,0⟩:XSpan)=K0a a i):BlindTo a (i + 1) l:=by exact uaK
def BlindTo.done {a:XAir} {l:List XSpan} (h:BlindTo a a.mine.roads.l.length l):l=(List.range a.mine.roads.l.length).map (K0a a):=by
 have hl:=h.len;refine yxa fun j=>?_;rcases yk j a.mine.roads.l.length with hj | hj;·rw [h.don j hj,yt,yN hj];rfl
 ·rw [yr za,yr zD]
def Jsd (a:XAir) (s:XSetting) (A:List Bool) (L:LB) (R:LS) (hm:AirR a R) (hs:SetR s R) (hA:K1 a=0→AiryIs a.mine A):
 Tri Tryz.prog 40 [a.val,s.val].toArray L R (fun w M U=>∃p:OwL XSpan,w=.tuple #[p.val,.int .i64 (Uzb a s A).1]∧p.ok 2 XSpan.cells∧p.l=(Uzb a s A).2∧p.L 90 XSpan.cells ++ L=M∧R=U):=by
 have hmr:=hm.roads;refine Jj 56 Tryz.call40 Tryz.func40 rfl rfl rfl ?_;apply (Xaf);intro b2;apply (qax);intro b3;apply qc4∘Xap∘qa8;refine q_l rfl (Z6 a _ _ hm) ?_;apply (Xba);refine q_c ?_ ?_<;>intro hc0;·apply Xbd∘qc4∘Xai;refine q_r L R zRc ?_;exact ⟨OwL.nil,by rw [Uzb,if_pos hc0];rfl,OwL.nil_ok,by rw [Uzb,if_pos hc0],by rw [Ki,yv],rfl⟩
 have h0:K1 a=0:=by omega
 have hok:=Zj h0;have hnp:=hok.mine.places;have hnr:=hok.mine.roads;apply qbo∘Xcd;refine q_l rfl (Jhb a s _ _ hm hs) ?_;apply (Xbb);refine q_c ?_ ?_<;>intro hc1;·apply Xck∘Xai;refine q_r L R zRc ?_;exact ⟨OwL.nil,by rw [Uzb,if_neg hc0,if_pos zG];rfl,OwL.nil_ok,by rw [Uzb,if_neg hc0,if_pos zG],by rw [Ki,yv],rfl⟩
 have hf0:Yfa a s=true:=by simpa using hc1
 have hff:¬ Yfa a s=false:=by rw [hf0];decide
 apply qbo∘Xcd;refine Jy rfl (Zqc a s A _ _ hm hs hA za) rfl ?_;rintro v M U ⟨lo,hi,rfl,h1,h2,h3,h4,rfl,rfl⟩;refine Jx zCb rfl ?_;apply (Xdr);intro b7;apply qak∘Xb5;refine Vla (A:=[_]) (wd:=1) [] yf ze h1 yg ?_;apply (qb1);refine Vla (A:=[_]) (wd:=1) [] yf ze h2 yg ?_;apply (qb1);have hR2:∀r∈R,InR r (isl hi.arr :: isl lo.arr :: R):=fun r hr=>Ja (by simp [hr]);have hB2:BoundsR ⟨lo.arr,hi.arr⟩ (isl hi.arr :: isl lo.arr :: R):=⟨Ja (.tail _ (.head _)),Ja (.head _)⟩;have hmr2:=hmr.mono hR2;apply Xa1∘Xcm;refine q_c ?_ ?_<;>intro hc2;·
  apply qae∘Xcd∘qbe;refine Jy rfl (Uie a s ⟨lo.arr,hi.arr⟩ A _ _ (J2a hm hR2) (Yla hs hR2) hB2 hA) rfl ?_;rintro v M U ⟨p,S,rfl,hpk,hpl,rfl,rfl⟩;apply qc4∘Xai;refine Kq (M:=p.L 90 XSpan.cells ++ L) (U:=R) zRc ?hp ?hL ?hR;case hp=>(have ha:Uzb a s A=(0,Uw a s (Yra a s A) A):=by rw [Uzb,if_neg hc0,if_neg hff,if_pos hc2]);exact ⟨p,by rw [ha];rfl,hpk,by rw [ha,hpl];exact U9b h3 h4,rfl,rfl⟩
  case hL=>exact zi
  case hR=>exact fun r h=>Ja (by simp [h])
 apply qbv∘Xb6∘qc7;rintro v M U ⟨b37,rfl,rfl,hR37⟩;replace hR37:=hR37.symm;subst hR37;apply qc4∘qco;refine Vf (Y1 (f:=XSpan.cells) (x:=⟨0,0⟩) rfl _) ?_;apply qay∘qab∘Xaw;refine Jp [(9,.slice _ _ _),(40,.slice _ _ _),(41,.int _ _),(42,.int _ _)] zh fun tq0=>?_;refine q_p ([10,11]++rg 42 13) ((⟨fun g=>[(42,.int .i64 ((g.1.1:Nat):Int))],fun g=>(⟨.own b37 a.mine.roads.l.length [],g.1.2⟩:OwL XSpan).L 90 XSpan.cells ++ (⟨b7,[lo.val,hi.val],214⟩ :: ⟨b3,s.cells,80⟩ :: ⟨b2,a.cells,32⟩ :: L),fun _=>isl hi.arr :: isl lo.arr :: R,fun g=>a.mine.roads.l.length - g.1.1⟩:Head {g:Nat×List XSpan // g.1≤a.mine.roads.l.length∧BlindTo a g.1 g.2})) (⟨(0,List.replicate a.mine.roads.l.length ⟨0,0⟩),by dsimp only;omega,⟨by simp,fun j hj=>by omega,fun j _ hj=>by rw [yB,if_pos hj]⟩⟩) ?_;rintro ⟨⟨k,l⟩,w1,w2⟩ junk;try dsimp only
 dsimp only at w1 w2;have hll:=w2.len;have hkq:(⟨.own b37 a.mine.roads.l.length [],l⟩:OwL XSpan).ok 2 XSpan.cells:=by have:=Yr (f:=XSpan.cells) (wd:=2) (b:=b37) (n:=a.mine.roads.l.length) (x:=⟨0,0⟩) yf zE;exact OwL.len_ok yf this (by simp;exact hll)
 apply (Xak);refine q_c ?_ ?_<;>intro hc3;·
  have hrg:=Jw (l:=a.mine.roads.l) (k:=k) default za;have hlg:=w2.non k (yl _) za;apply (Xa0);refine Jx zB rfl ?_;apply qc8∘qaq;intro b11;apply qad∘Xbx∘Xbb;refine q_c ?_ ?_<;>intro hc4;·(have hbf:nothingS=K0a a k:=by rw [K0a,if_neg zS]);apply (Xb3);refine q_l rfl (Ub _ _) ?_;refine Jx (Jv tb ((⟨.own b37 a.mine.roads.l.length [],l⟩:OwL XSpan)) _ rfl rfl ((show _=Value.slice _ _ _ from rfl).trans (Uq hll)) rfl zg (i:=k) zk zu) rfl ?_;refine Ym (U2 tb ((⟨.own b37 a.mine.roads.l.length [],l⟩:OwL XSpan)) (nothingS) rfl rfl rfl rfl zj zg yf zg (yQ rfl) zb zb) ?_;rintro v M U ⟨rfl,rfl⟩;apply (Xa7);exact q_k ⟨(k + 1,l.set k nothingS),by dsimp only;omega,w2.next za hbf⟩
  have hbf:(⟨0,0⟩:XSpan)=K0a a k:=by rw [K0a,if_pos zS]
  apply (Xax);exact q_k ⟨(k + 1,l),by dsimp only;omega,w2.stay za hbf⟩
 obtain rfl:k=a.mine.roads.l.length:=by omega
 apply Xcs∘qc4∘Xah;refine Kq (M:=(⟨.own b37 a.mine.roads.l.length [],l⟩:OwL XSpan).L 90 XSpan.cells ++ L) (U:=R) zRc ?hp ?hL ?hR;case hp=>
  have ha:Uzb a s A=(0,(List.range a.mine.roads.l.length).map (K0a a)):=by rw [Uzb,if_neg hc0,if_neg hff,if_neg hc2]
  exact ⟨(⟨.own b37 a.mine.roads.l.length [],l⟩:OwL XSpan),by rw [ha];simp only [OwL.val,Ow.addr,Ow.cap,hll],hkq,by rw [ha];exact w2.done,rfl,rfl⟩
 case hL=>exact zi
 case hR=>exact fun r h=>Ja (by simp [h])
def Yxd (x:XSpan):Int:=if x.high < x.low then 0 else if 0 < x.low then 1 else if x.high < 0 then -1 else 0
def Vrc (x:XSpan) (L:LB) (R:LS):
 Tri Tryz.prog 48 [x.val].toArray L R (fun v M U=>v=.int .i64 (Yxd x)∧L=M∧R=U):=by
 refine Jj 17 Tryz.call48 Tryz.func48 rfl rfl rfl ?_;apply (Xaf);intro b1;apply (qad);refine J6 (Jc (Jr (Km (Jr (Jh ?_)))));apply Xaa∘Xa5∘Xas;refine q_c ?_ ?_<;>intro hc0;·apply (Xa9);refine q_i L R ?_;exact ⟨by rw [Yxd,if_pos hc0],rfl,rfl⟩
 apply qae∘Xa5∘Xas;refine q_c ?_ ?_<;>intro hc1;·apply (Xa9);refine q_i L R ?_;exact ⟨by rw [Yxd,if_neg za,if_pos hc1],rfl,rfl⟩
 apply Xb7∘qaj∘Xas;refine q_c ?_ ?_<;>intro hc2;·apply (Xa9);refine q_i L R ?_;exact ⟨by rw [Yxd,if_neg za,if_neg za,if_pos hc2],rfl,rfl⟩
 refine Ka (Jk (Jc (Jr (Jh ?_))));apply (Xah);refine q_i L R ?_;exact ⟨by rw [Yxd,if_neg za,if_neg za,if_neg za],rfl,rfl⟩
end
section
def Znf {a:XAir} {s:XSetting} {A:List Bool} (h0:K1 a=0) (hf:Yfa a s=true) (hA:AiryIs a.mine A):
 (Uzb a s A).1=0∧((Accept a s (Yra a s A) A∧(∀i:Nat,(Yra a s A).low.l.getD i 0≤(Yra a s A).high.l.getD i 0)∧(Uzb a s A).2=(List.range a.mine.roads.l.length).map (Ut a s (Yra a s A) A))∨(Uzb a s A).2=(List.range a.mine.roads.l.length).map (K0a a)):=by
 have hfn:¬ Yfa a s=false:=by rw [hf];decide
 rw [Uzb,if_neg (by rw [h0];decide),if_neg hfn];rcases Jyd (A:=A) h0 hf with h | h;·have hac : Accept a s (Yra a s A) A := h.2.accept rfl rfl;rw [if_pos h.1,Uw,if_pos (Kjc.2 hac)];exact ⟨rfl,.inl ⟨hac,h.2.le,rfl⟩⟩
 ·rw [if_neg (by rw [h]; decide)];exact ⟨rfl,.inr rfl⟩
def Kue {a:XAir} {s:XSetting} {A:List Bool} (h0:K1 a=0) (hf:Yfa a s=true) (hA:AiryIs a.mine A):(Uzb a s A).2.length=a.mine.roads.l.length:=by rcases (Znf h0 hf hA).2 with ⟨_,_,e⟩ | e <;> rw [e] <;> simp
end
section
attribute [local irreducible] CJ LJ DJ Tri YV Gives U0 J3 Kj Uz RV J5 OwL.L
structure XFace where
 road:Int
 need:Int
 deriving Inhabited
def XFace.cells (s:XFace):List Value:=[.int .i64 s.road,.int .i64 s.need]
abbrev Ktg (x:Arr XFace):Sl:=x.sl 2 XFace.cells []
structure WrTo {α:Type} (n:Nat) (z:α) (g:Nat→α) (i:Nat) (l:List α):Prop where
 len:l.length=n
 don:∀j:Nat,j < i→l[j]?=some (g j)
 non:∀j:Nat,i≤j→j < n→l[j]?=some z
def WrTo.zero {α:Type} {n:Nat} {z:α} {g:Nat→α}:WrTo n z g 0 (List.replicate n z):=⟨by simp,fun j hj=>by omega,fun j _ hj=>by rw [yB,if_pos hj]⟩
def WrTo.next {α:Type} {n:Nat} {z:α} {g:Nat→α} {i:Nat} {l:List α} (h:WrTo n z g i l) (hi:i < n) {x:α} (hx:x=g i):WrTo n z g (i + 1) (l.set i x):=by exact uaF
def WrTo.stay {α:Type} {n:Nat} {z:α} {g:Nat→α} {i:Nat} {l:List α} (h:WrTo n z g i l) (hi:i < n) (hx:z=g i):WrTo n z g (i + 1) l:=by exact uaK
def WrTo.done {α:Type} {n:Nat} {z:α} {g:Nat→α} {l:List α} (h:WrTo n z g n l):l=(List.range n).map g:=by
 have hl:=h.len;refine yxa fun j=>?_;rcases yk j n with hj | hj;·rw [h.don j hj,yt,yN hj];rfl
 ·rw [yr za,yr zD]
def V5e (x:XSpan) (need:Int):Int:=
 if x.high < x.low then 0 else if (need≤0∨need≤x.low)∨x.high≤ -need then 1 else if -need < x.low∧x.high < need then -1 else 0
def J4b (fl:List XSpan) (f:XFace):Int:=if 0≤f.road∧f.road < fl.length then V5e (fl.getD f.road.toNat default) f.need else 0
def Kqg (fl:List XSpan) (fc:List XFace):List Int:=(List.range fc.length).map fun k=>J4b fl (fc.getD k default)
def Kpf (fc:List XFace):Prop:=∀f∈fc,-4611686018427387904≤f.need∧f.need≤4611686018427387904
def Vnf (x:XSpan) (need:Int) (L:LB) (R:LS) (hn:-4611686018427387904≤need∧need≤4611686018427387904):
 Tri Tryz.prog 275 [x.val,.int .i64 need].toArray L R (fun v M U=>v=.int .i64 (V5e x need)∧L=M∧R=U):=by
 refine Jj 39 Tryz.call275 Tryz.func275 rfl rfl rfl ?_;apply (Xaf);intro b2;apply (qad);refine J6 (Jc (Jr (Km (Jr (Jh ?_)))));apply Xaa∘Xa5∘Xas;refine q_c ?_ ?_<;>intro hc0;·apply (Xa9);refine q_i L R ?_;exact ⟨by rw [V5e,if_pos hc0],rfl,rfl⟩
 apply Xbd∘qbx∘qah;apply J9 (G:=[_,_,_,_]) (j:=2) (cj:=14) rfl rfl zb rfl zfb rfl;·intro hg3;replace hg3:=qb hg3;exact (Xam) zjd
 intro junk3;apply (qah);apply J9 (G:=[_,_,_,_,_]) (j:=8) (cj:=20) rfl rfl zb rfl zfb rfl;·intro hg9;replace hg9:=qb hg9;exact (Xam∘qcq∘qbx) qai
 intro junk9;apply (Xas);refine q_c ?_ ?_<;>intro hc1;·apply (Xa9);refine q_i L R ?_;exact ⟨by rw [V5e,if_neg za,if_pos za],rfl,rfl⟩
 apply qae∘Xam∘qcq∘qa5∘qah;apply Ui (G:=[_,_,_,_]) (j:=5) (cj:=33) rfl rfl zb rfl zfb rfl;·intro hg6;replace hg6:=qb hg6;exact (Xam) zyd
 intro junk6;apply (Xas);refine q_c ?_ ?_<;>intro hc2;·apply (Xa9);refine q_i L R ?_;exact ⟨by rw [V5e,if_neg za,if_neg za,if_pos za],rfl,rfl⟩
 refine Ka (Jk (Jc (Jr (Jh ?_))));apply (Xah);refine q_i L R ?_;exact ⟨by rw [V5e,if_neg za,if_neg za,if_neg za],rfl,rfl⟩
def Jgf (fl:Arr XSpan) (fc:Arr XFace) (L:LB) (R:LS) (hfl:InR (Jke fl) R) (hfc:InR (Ktg fc) R) (hn:Kpf fc.l) (hlen:fc.l.length≤1000) (hflen:fl.l.length≤1000):
 Tri Tryz.prog 232 [fl.val,fc.val].toArray L R (fun w M U=>∃p:OwL Int,w=p.val∧p.ok 1 Jo∧p.l=Kqg fl.l fc.l∧p.L 3 Jo ++ L=M∧R=U):=by
 refine Jj 41 Tryz.call232 Tryz.func232 rfl rfl rfl ?_;apply Xck∘qam∘Xaq∘qc7;rintro v M U ⟨b10,rfl,rfl,hR10⟩;replace hR10:=hR10.symm;subst hR10;apply qc4∘qco;refine Vf (Y1 (f:=Jo) (x:=0) rfl _) ?_;apply qay∘Xbt;refine Jp [(0,.slice _ _ _),(5,.slice _ _ _),(11,.slice _ _ _),(12,.int _ _),(13,.int _ _)] zh fun tq0=>?_;refine q_p ([6,7]++rg 13 27) ((⟨fun g=>[(13,.int .i64 ((g.1.1:Nat):Int))],fun g=>(⟨.own b10 fc.l.length [],g.1.2⟩:OwL Int).L 3 Jo ++ L,fun _=>R,fun g=>fc.l.length - g.1.1⟩:Head {g:Nat×List Int // g.1≤fc.l.length∧WrTo fc.l.length 0 (fun k=>J4b fl.l (fc.l.getD k default)) g.1 g.2})) (⟨(0,List.replicate fc.l.length 0),by dsimp only;omega,.zero⟩) ?_;rintro ⟨⟨k,l⟩,w1,w2⟩ junk;try dsimp only
 dsimp only at w1 w2;have hll:=w2.len;have hkq:(⟨.own b10 fc.l.length [],l⟩:OwL Int).ok 1 Jo:=by have:=Yr (f:=Jo) (wd:=1) (b:=b10) (n:=fc.l.length) (x:=0) Yd zE;exact OwL.len_ok Yd this (by simp;exact hll)
 apply (Xak);refine q_c ?_ ?_<;>intro hc0;·
  have hfg:=Jw (l:=fc.l) (k:=k) default za;have hlg:=w2.non k (yl _) za;have hnd:=hn _ (yj hfg);obtain ⟨f,hf⟩:∃f,f=fc.l.getD k default:=⟨_,rfl⟩;rw [← hf] at hfg hnd;apply (Xa0);refine Jx zB rfl ?_;apply (Xdq);intro b7;apply qad∘Xbx∘qbz∘qah;apply Ui (G:=[_,_,_,_,_]) (j:=3) (cj:=21) rfl rfl zb rfl zfb rfl;·intro hg4;replace hg4:=qb hg4;exact (Xaa∘Xaq) zyd
  intro junk4;apply (qaf);refine q_c ?_ ?_<;>intro hc1;·have hsg:=Jw (l:=fl.l) (k:=f.road.toNat) default za;(have hfv:V5e (fl.l.getD f.road.toNat default) f.need=(fun k=>J4b fl.l (fc.l.getD k default)) k:=by dsimp only;rw [← hf,J4b,if_pos za]);refine Kh tb [] [0,1,2,3,4,5,6,7,8,9,10] [11] ([Blk.mk b7 _ _]) _ K3 zc zi yd ?_;apply Xdd∘Xcw;refine Ku (by first | exact Jf tb rfl rfl rfl rfl zt (i:=f.road.toNat) zk za | exact Jl tb rfl rfl rfl rfl (i:=f.road.toNat) zk za) rfl rfl rfl rfl ?_;apply qd1∘Xar;refine Up rfl (Vnf (fl.l.getD f.road.toNat default) f.need _ _ hnd) rfl rfl ?_;rintro v M U ⟨rfl,rfl,rfl⟩;refine ⟨zi,zw,?_⟩;refine Ku (Jv tb ((⟨.own b10 fc.l.length [],l⟩:OwL Int)) _ rfl rfl ((show _=Value.slice _ _ _ from rfl).trans (Uq hll)) rfl zg (i:=k) zk zu) rfl rfl rfl rfl ?_;apply (qba);refine Kvb (Js tb ((⟨.own b10 fc.l.length [],l⟩:OwL Int)) (V5e (fl.l.getD f.road.toNat default) f.need) rfl rfl rfl rfl zj zg yf zg ze zb zb) rfl rfl ?_;rintro v M U ⟨rfl,rfl⟩;apply qa1∘Xda;exact q_k ⟨(k + 1,l.set k (V5e (fl.l.getD f.road.toNat default) f.need)),by dsimp only;omega,w2.next za hfv⟩
  have hfv:(0:Int)=(fun k=>J4b fl.l (fc.l.getD k default)) k:=by dsimp only;rw [← hf,J4b,if_neg za]
  apply (Xax);exact q_k ⟨(k + 1,l),by dsimp only;omega,w2.stay za hfv⟩
 obtain rfl:k=fc.l.length:=by omega
 apply Xcs∘Xcl;refine q_r ((⟨.own b10 fc.l.length [],l⟩:OwL Int).L 3 Jo ++ L) R zUc ?_;exact ⟨(⟨.own b10 fc.l.length [],l⟩:OwL Int),by simp only [OwL.val,Ow.addr,Ow.cap,hll],hkq,w2.done,rfl,rfl⟩
end
section
end
section
abbrev Sts:=List Int×List Int
def mkS (s:Sts):XSetting:=⟨⟨none,0,s.1⟩,⟨none,0,s.2⟩⟩
abbrev Jdc (s:XSetting):Sts:=(s.fans.l,s.doors.l)
def flS (a:XAir) (A:List Bool) (s:Sts):List XSpan:=(Uzb a (mkS s) A).2
end
section
def Ymc (f:XFan):XFan:=⟨f.road,f.back,f.aux,⟨none,0,f.curve.l⟩⟩
def Zsa (d:XDoor):XDoor:=⟨d.road,d.other,⟨none,0,d.rests.l⟩⟩
def Uxc (m:XMine):XMine:=⟨⟨none,0,m.places.l⟩,⟨none,0,m.roads.l⟩⟩
def Zb (a:XAir):XAir:=⟨Uxc a.mine,⟨none,0,a.fans.l.map Ymc⟩,⟨none,0,a.doors.l.map Zsa⟩⟩
abbrev Y8c (s:XSetting):XSetting:=mkS (Jdc s)
def Vnb {α β:Type} {f:α→β} {l:List α} {k:Nat} {d:α} {e:β} (h:f d=e):(l.map f).getD k e=f (l.getD k d):=by
 rw [yh,yh,yt];cases l[k]? with
 | none=>exact h.symm
 | some x=>rfl
def Zbe (a:XAir) (k:Nat):(Zb a).fans.l.getD k default=Ymc (a.fans.l.getD k default):=Vnb rfl
def Zcb (a:XAir) (k:Nat):(Zb a).doors.l.getD k default=Zsa (a.doors.l.getD k default):=Vnb rfl
def Y6b (a : XAir) (s : XSetting) (r : Int) : ∀ k, V0 (Zb a) (Y8c s) r k = V0 a s r k
 | 0=>rfl
 | k + 1=>by rw [V0,V0,Y6b a s r k,Zcb];rfl
def Uyb (a : XAir) (s : XSetting) (r q : Int) : ∀ k, innerTo (Zb a) (Y8c s) r q k = innerTo a s r q k
 | 0=>by rw [innerTo,innerTo,Y6b,show (Zb a).doors.l.length=a.doors.l.length from yz _];rfl
 | k + 1=>by rw [innerTo,innerTo,Uyb a s r q k,Zbe];rfl
def Ypd (a:XAir) (s:XSetting):K5 (Zb a) (Y8c s)=K5 a s:=by funext r q;rw [K5,K5,Uyb,show (Zb a).fans.l.length=a.fans.l.length from yz _]
def Yxc (l:List XDoor):Joa (l.map Zsa)=Joa l:=by
 funext i;rw [Joa,Joa,yt];cases l[i]? with
 | none=>rfl
 | some d=>
  have hp:Kxb (l.map Zsa) i (Zsa d)↔Kxb l i d:=by unfold Kxb;simp only [yz,Vnb (f:=Zsa) (l:=l) (d:=default) (e:=default) rfl];exact Iff.rfl
  simp only [yLa,hp];rfl
def Uoc (l:List XDoor):V8 (l.map Zsa)=V8 l:=by rw [V8,V8,Yxc,yz]
def Yfb (a:XAir):K1 (Zb a)=K1 a:=by have h1:(Zb a).fans.l=a.fans.l.map Ymc:=rfl;have h2:(Zb a).doors.l=a.doors.l.map Zsa:=rfl;have h3:(Zb a).mine=Uxc a.mine:=rfl;have h4:Vv (Uxc a.mine)=Vv a.mine:=rfl;rw [K1,K1,h1,h2,h3,h4,Uoc,yz,ySb,ySb];rfl
def J8e (a:XAir) (s:XSetting):Yfa (Zb a) (Y8c s)=Yfa a s:=by
 have h1:(Zb a).fans.l.length=a.fans.l.length:=yz _;have h2:(Zb a).doors.l.length=a.doors.l.length:=yz _;have h3:Zf (Zb a).doors.l (Y8c s).doors.l=Zf a.doors.l s.doors.l:=by funext i;show Zf (a.doors.l.map Zsa) s.doors.l i=_;rw [Zf,Zf,yt];cases s.doors.l[i]? <;> cases a.doors.l[i]? <;> rfl
 rw [Yfa,Yfa,h1,h2,h3];rfl
section
variable {a a':XAir} {s s':XSetting}
structure AirE (a a':XAir) (s s':XSetting):Prop where
 mine:a.mine.places.l=a'.mine.places.l∧a.mine.roads.l=a'.mine.roads.l
 inner:K5 a s=K5 a' s'
 err:K1 a=K1 a'
 fit:Yfa a s=Yfa a' s'
variable (h:AirE a a' s s')
include h
def AirE.term (F G:(Int→XSpan)→Int→Int):Zoa F G a s=Zoa F G a' s':=by funext ps v k;rw [Zoa,Zoa,K6a,K6a,h.inner,h.mine.2]
def AirE.sum (F G : (Int → XSpan) → Int → Int) (ps : List Int) (v : Int) : ∀ k, Zjc F G a s ps v k = Zjc F G a' s' ps v k
 | 0=>rfl
 | k + 1=>by rw [Zjc,Zjc,AirE.sum F G ps v k,h.term]
def AirE.low:Vuc a s=Vuc a' s':=by funext ps v;rw [Vuc,Vuc,h.sum,h.mine.2]
def AirE.high:Yba a s=Yba a' s':=by funext ps v;rw [Yba,Yba,h.sum,h.mine.2]
def AirE.test (up:Bool) (l:List Int):Uhc a s up l=Uhc a' s' up l:=by funext v q;rw [Uhc,Uhc];unfold Uaf Khd;rw [h.low,h.high]
def AirE.next (up:Bool):Kza a s up=Kza a' s' up:=by funext l k;rw [Kza,Kza,h.test]
def AirE.fix (A:List Bool):Vub a A=Vub a' A:=by funext k;rw [Vub,Vub,h.mine.1]
def AirE.sweep (A : List Bool) (up : Bool) (l : List Int) : ∀ k, Uf a s A up l k = Uf a' s' A up l k
 | 0=>rfl
 | k + 1=>by rw [Uf,Uf,AirE.sweep A up l k,h.fix,h.next]
def AirE.rounds (A : List Bool) (up : Bool) : ∀ n l, Va a s A up n l = Va a' s' A up n l
 | 0,_=>rfl
 | n + 1,l=>by
  rw [Va,Va,h.sweep,h.mine.1]
  cases Uf a' s' A up l a'.mine.places.l.length with
  | none=>rfl
  | some m=>dsimp only;rw [AirE.rounds A up n m]
def AirE.start (ps:List Int) (A:List Bool):Vr a s ps A=Vr a' s' ps A:=by
 have e:Yq a ps A=Yq a' ps A:=by funext i;rw [Yq,Yq,h.fix]
 rw [Vr,Vr,h.err,h.fit,h.mine.1,e]
def AirE.relax (A:List Bool) (up:Bool) (ps:List Int):K9 a s A up ps=K9 a' s' A up ps:=by rw [K9,K9,h.start,h.rounds]
def AirE.solve (A:List Bool):Yf a s A=Yf a' s' A:=by
 have e:K9 a s A=K9 a' s' A:=by funext up ps;exact h.relax A up ps
 rw [Yf,Yf,e,h.mine.1]
def AirE.check (b:XBounds) (A:List Bool):Yz a s b A=Yz a' s' b A:=by
 have e:Vm a s b A=Vm a' s' b A:=by funext i;rw [Vm,Vm,h.low,h.high,h.mine.1]
 rw [Yz,Yz,h.err,h.fit,h.mine.1,e]
def AirE.flows (b:XBounds) (A:List Bool):Uw a s b A=Uw a' s' b A:=by
 have e:Ut a s b A=Ut a' s' b A:=by funext k;rw [Ut,Ut,h.inner,h.mine.2]
 rw [Uw,Uw,h.check,h.mine.2,e]
def AirE.ana (A:List Bool):Uzb a s A=Uzb a' s' A:=by
 have e:K0a a=K0a a':=by funext k;rw [K0a,K0a,h.mine.2]
 rw [Uzb,Uzb,h.err,h.fit,Yra,Yra,h.solve,h.flows,h.mine.2,e]
end
def AirE.bare (a:XAir) (s:XSetting):AirE (Zb a) a (Y8c s) s:=⟨⟨rfl,rfl⟩,Ypd a s,Yfb a,J8e a s⟩
def AirE.symm {a a':XAir} {s s':XSetting} (h:AirE a a' s s'):AirE a' a s' s:=⟨⟨h.mine.1.symm,h.mine.2.symm⟩,h.inner.symm,h.err.symm,h.fit.symm⟩
def AirE.trans {a a' a'':XAir} {s s' s'':XSetting} (h:AirE a a' s s') (k:AirE a' a'' s' s''):AirE a a'' s s'':=⟨⟨h.mine.1.trans k.mine.1,h.mine.2.trans k.mine.2⟩,h.inner.trans k.inner,h.err.trans k.err,h.fit.trans k.fit⟩
def AirE.of {a a':XAir} {s s':XSetting} (h1:Zb a=Zb a') (h2:Jdc s=Jdc s'):AirE a a' s s':=by have e1:=(AirE.bare a s).symm;have e2:=AirE.bare a' s';rw [h1,show Y8c s=Y8c s' from congrArg mkS h2] at e1;exact e1.trans e2
def Kvf (a:XAir) {s s':XSetting} (A:List Bool) (h:Jdc s=Jdc s'):Uzb a s A=Uzb a s' A:=(AirE.of rfl h).ana A
def Ukf (a:XAir) {s s':XSetting} (h:Jdc s=Jdc s'):Yfa a s=Yfa a s':=(AirE.of rfl h).fit
def Jdg (a:XAir) (s:XSetting) (A:List Bool):flS a A (Jdc s)=(Uzb a s A).2:=by rw [flS,Kvf a (s:=mkS (Jdc s)) (s':=s) A rfl]
end
end Go.Proofs.YtchfclmokpbldaaGreat
