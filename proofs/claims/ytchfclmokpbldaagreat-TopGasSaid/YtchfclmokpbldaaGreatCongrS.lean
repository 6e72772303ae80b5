/-
  Merged texts. By an AI agent.
-/
import Derived.Test.YtchfclmokpbldaaGreatCflowS
import Derived.Test.YtchfclmokpbldaaGreatCircS
set_option linter.all false
set_option maxHeartbeats 4000000
set_option maxRecDepth 20000
namespace Go.Proofs.YtchfclmokpbldaaGreat
open Go.Aw Go
section
attribute [local irreducible] CJ LJ DJ Tri YV Gives Uq J2 Kj Ut RV J3 OwL.L
def Vob {a:XAir} {s:XSetting} {b b':XBounds} {A:List Bool} (h1:b.low.l=b'.low.l) (h2:b.high.l=b'.high.l):U5 a s b A=U5 a s b' A:=by
 have e1:Vl a s b A=Vl a s b' A:=funext fun i=>by rw [Vl,Vl,h1,h2]
 have e2:Y4 a s b A=Y4 a s b' A:=by rw [Y4,Y4,h1,h2,e1]
 have e3:Ua a s b A=Ua a s b' A:=funext fun i=>by rw [Ua,Ua,h1,h2]
 rw [U5,U5,e2,e3]
def Yda (a:XAir) (s:XSetting) (A:List Bool):XBounds:=⟨⟨none,0,(Yl a s A).2.1⟩,⟨none,0,(Yl a s A).2.2⟩⟩
def Yf (a:XAir) (k:Nat):XSpan:=if (a.mine.roads.l.getD k default).closed=true then ⟨0,0⟩ else nothingS
def K3b (a:XAir) (s:XSetting) (A:List Bool):Int×List XSpan:=
 if Kx a≠0 then (Kx a,[]) else if Uka a s=false then (21,[]) else if (Yl a s A).1=0 then (0,U5 a s (Yda a s A) A)
 else (0,(List.range a.mine.roads.l.length).map (Yf a))
def Ub (L:LB) (R:LS):
 Tri Tryz.prog 96 [].toArray L R (fun v U J=>v=nothingS.val∧L=U∧R=J):=by refine Je 2 Tryz.call96 Tryz.func96 rfl rfl rfl ?_;apply (Xd2);intro b0;apply qam∘qcd∘Xbl;refine q_r L R zQc ?_;exact zDd
structure BlindTo (a:XAir) (i:Nat) (l:List XSpan):Prop where
 len:l.length=a.mine.roads.l.length
 don:∀j:Nat,j < i→l[j]?=some (Yf a j)
 non:∀j:Nat,i≤j→j < a.mine.roads.l.length→l[j]?=some ⟨0,0⟩
def BlindTo.next {a:XAir} {i:Nat} {l:List XSpan} (h:BlindTo a i l) (hi:i < a.mine.roads.l.length) {x:XSpan} (hx:x=Yf a i):BlindTo a (i + 1) (l.set i x):=by exact uaL
def BlindTo.stay {a:XAir} {i:Nat} {l:List XSpan} (h:BlindTo a i l) (hi:i < a.mine.roads.l.length) (hx:(⟨0,0⟩:XSpan)=Yf a i):BlindTo a (i + 1) l:=by exact uaR
def BlindTo.done {a:XAir} {l:List XSpan} (h:BlindTo a a.mine.roads.l.length l):l=(List.range a.mine.roads.l.length).map (Yf a):=by
 have hl:=h.len;refine yBa fun j=>?_;rcases yk j a.mine.roads.l.length with hj | hj;·rw [h.don j hj,yq,yL hj];rfl
 ·rw [yu za,yu zE]
def Y9b (a:XAir) (s:XSetting) (A:List Bool) (L:LB) (R:LS) (hm:AirR a R) (hs:SetR s R) (hA:Kx a=0→AiryIs a.mine A):
 Tri Tryz.prog 40 [a.val,s.val].toArray L R (fun w U J=>∃p:OwL XSpan,w=.tuple #[p.val,.int .i64 (K3b a s A).1]∧p.ok 2 XSpan.cells∧p.l=(K3b a s A).2∧p.L 90 XSpan.cells ++ L=U∧R=J):=by
 have hmr:=hm.roads;refine Je 56 Tryz.call40 Tryz.func40 rfl rfl rfl ?_;apply (Xaf);intro b2;apply (qax);intro b3;apply qc4∘Xar∘qa8;refine q_l rfl (Z1 a _ _ hm) ?_;apply (Xbb);refine q_c ?_ ?_<;>intro hc0;·apply Xbi∘qc4∘Xao;refine q_r L R zed ?_;exact ⟨OwL.nil,by rw [K3b,if_pos hc0];rfl,OwL.nil_ok,by rw [K3b,if_pos hc0],by rw [Kk,yv],rfl⟩
 have h0:Kx a=0:=by omega
 have hok:=V3 h0;have hnp:=hok.mine.places;have hnr:=hok.mine.roads;apply qbo∘Xct;refine q_l rfl (Jcb a s _ _ hm hs) ?_;apply (Xbj);refine q_c ?_ ?_<;>intro hc1;·apply qae∘qc4∘Xao;refine q_r L R zed ?_;exact ⟨OwL.nil,by rw [K3b,if_neg hc0,if_pos zL];rfl,OwL.nil_ok,by rw [K3b,if_neg hc0,if_pos zL],by rw [Kk,yv],rfl⟩
 have hf0:Uka a s=true:=by simpa using hc1
 have hff:¬ Uka a s=false:=by rw [hf0];decide
 apply qbo∘Xct;refine Jv rfl (Ztc a s A _ _ hm hs hA za) rfl ?_;rintro v U J ⟨lo,hi,rfl,h1,h2,h3,h4,rfl,rfl⟩;refine Jw zRb rfl ?_;apply Xba∘qaq;intro b7;apply qak∘Xca;refine Vg (A:=[_]) (wd:=1) [] yf ze h1 yg ?_;apply (qb1);refine Vg (A:=[_]) (wd:=1) [] yf ze h2 yg ?_;apply (qb1);have hR2:∀r∈R,InR r (isl hi.arr :: isl lo.arr :: R):=fun r hr=>Ja zI;have hB2:BoundsR ⟨lo.arr,hi.arr⟩ (isl hi.arr :: isl lo.arr :: R):=⟨Ja (.tail _ (.head _)),Ja (.head _)⟩;have hmr2:=hmr.mono hR2;apply Xa5∘Xbu;refine q_c ?_ ?_<;>intro hc2;·
  apply qae∘Xct∘qbe;refine Jv rfl (Kje a s ⟨lo.arr,hi.arr⟩ A _ _ (Zw hm hR2) (Yoa hs hR2) hB2 hA) rfl ?_;rintro v U J ⟨p,S,rfl,hpk,hpl,rfl,rfl⟩;apply qc4∘Xao;refine K2 (U:=p.L 90 XSpan.cells ++ L) (J:=R) zed ?hp ?hL ?hR;case hp=>(have ha:K3b a s A=(0,U5 a s (Yda a s A) A):=by rw [K3b,if_neg hc0,if_neg hff,if_pos hc2]);exact ⟨p,by rw [ha];rfl,hpk,by rw [ha,hpl];exact Vob h3 h4,rfl,rfl⟩
  case hL=>exact zi
  case hR=>exact fun r h=>Ja (by simp [h])
 apply qbv∘Xce∘qc7;rintro v U J ⟨b37,rfl,rfl,hR37⟩;replace hR37:=hR37.symm;subst hR37;apply (Xdd);refine U2 zCc ?_;apply qay∘qab∘Xay;refine Jm [(9,.slice _ _ _),(40,.slice _ _ _),(41,.int _ _),(42,.int _ _)] zh fun tq0=>?_;refine q_p ([10,11]++rg 42 13) ((⟨fun g=>[(42,.int .i64 ((g.1.1:Nat):Int))],fun g=>(⟨.own b37 a.mine.roads.l.length [],g.1.2⟩:OwL XSpan).L 90 XSpan.cells ++ (⟨b7,[lo.val,hi.val],214⟩ :: ⟨b3,s.cells,80⟩ :: ⟨b2,a.cells,32⟩ :: L),fun _=>isl hi.arr :: isl lo.arr :: R,fun g=>a.mine.roads.l.length - g.1.1⟩:Head {g:Nat×List XSpan // g.1≤a.mine.roads.l.length∧BlindTo a g.1 g.2})) (⟨(0,List.replicate a.mine.roads.l.length ⟨0,0⟩),by dsimp only;omega,⟨by simp,fun j hj=>by omega,fun j _ hj=>by rw [yC,if_pos hj]⟩⟩) ?_;rintro ⟨⟨k,l⟩,w1,w2⟩ junk;try dsimp only
 dsimp only at w1 w2;have hll:=w2.len;have hkq:(⟨.own b37 a.mine.roads.l.length [],l⟩:OwL XSpan).ok 2 XSpan.cells:=by have:=U0 (f:=XSpan.cells) (wd:=2) (b:=b37) (n:=a.mine.roads.l.length) (x:=⟨0,0⟩) yf zB;exact OwL.len_ok yf this zla
 apply (Xaj);refine q_c ?_ ?_<;>intro hc3;·
  have hrg:=Jp (l:=a.mine.roads.l) (k:=k) default za;have hlg:=w2.non k (ym _) za;apply (Xa1);refine Jw zD rfl ?_;apply qc8∘qaq;intro b11;apply qad∘Xb9∘Xbj;refine q_c ?_ ?_<;>intro hc4;·(have hbf:nothingS=Yf a k:=by rw [Yf,if_neg zaa]);apply (Xb3);refine q_l rfl (Ub _ _) ?_;refine Jw (Jo tb ((⟨.own b37 a.mine.roads.l.length [],l⟩:OwL XSpan)) _ rfl rfl ((show _=Value.slice _ _ _ from rfl).trans (K6 hll)) rfl zg (i:=k) zk zp) rfl ?_;refine Vk (Uw tb ((⟨.own b37 a.mine.roads.l.length [],l⟩:OwL XSpan)) (nothingS) rfl rfl rfl rfl zj zg yf zg (yR rfl) zb zb) ?_;rintro v U J ⟨rfl,rfl⟩;apply (Xa4);exact q_k ⟨(k + 1,l.set k nothingS),by dsimp only;omega,w2.next za hbf⟩
  have hbf:(⟨0,0⟩:XSpan)=Yf a k:=by rw [Yf,if_pos zaa]
  apply (Xaw);exact q_k ⟨(k + 1,l),by dsimp only;omega,w2.stay za hbf⟩
 obtain rfl:k=a.mine.roads.l.length:=by omega
 apply Xch∘qc4∘Xam;refine K2 (U:=(⟨.own b37 a.mine.roads.l.length [],l⟩:OwL XSpan).L 90 XSpan.cells ++ L) (J:=R) zed ?hp ?hL ?hR;case hp=>
  have ha:K3b a s A=(0,(List.range a.mine.roads.l.length).map (Yf a)):=by rw [K3b,if_neg hc0,if_neg hff,if_neg hc2]
  exact ⟨(⟨.own b37 a.mine.roads.l.length [],l⟩:OwL XSpan),by rw [ha];simp only [OwL.val,Ow.addr,Ow.cap,hll],hkq,by rw [ha];exact w2.done,rfl,rfl⟩
 case hL=>exact zi
 case hR=>exact fun r h=>Ja (by simp [h])
def Vhc (x:XSpan):Int:=if x.high < x.low then 0 else if 0 < x.low then 1 else if x.high < 0 then -1 else 0
def Kmb (x:XSpan) (L:LB) (R:LS):
 Tri Tryz.prog 48 [x.val].toArray L R (fun v U J=>v=.int .i64 (Vhc x)∧L=U∧R=J):=by
 refine Je 17 Tryz.call48 Tryz.func48 rfl rfl rfl ?_;apply (Xaf);intro b1;apply (qad);refine J9 (Jb (Jq (Ki (Jq (Jg ?_)))));apply Xa0∘qa5∘Xas;refine q_c ?_ ?_<;>intro hc0;·apply (Xbe);refine q_i L R ?_;exact ⟨by rw [Vhc,if_pos hc0],rfl,rfl⟩
 apply qae∘Xbg∘Xas;refine q_c ?_ ?_<;>intro hc1;·apply (Xbe);refine q_i L R ?_;exact ⟨by rw [Vhc,if_neg za,if_pos hc1],rfl,rfl⟩
 apply Xcr∘qaj∘Xas;refine q_c ?_ ?_<;>intro hc2;·apply (Xbe);refine q_i L R ?_;exact ⟨by rw [Vhc,if_neg za,if_neg za,if_pos hc2],rfl,rfl⟩
 refine J5 (Jh (Jb (Jq (Jg ?_))));apply (Xam);refine q_i L R ?_;exact ⟨by rw [Vhc,if_neg za,if_neg za,if_neg za],rfl,rfl⟩
end
section
def Zwf (l:List XSpan):Prop:=∀k:Nat,(-1125899906842624≤(l.getD k default).low∧(l.getD k default).low≤1125899906842624)∧(-1125899906842624≤(l.getD k default).high∧(l.getD k default).high≤1125899906842624)
def Zic {a:XAir} {s:XSetting} {b:XBounds} {A:List Bool} (ha:AirOk a) {k:Nat} (hk:k < a.mine.roads.l.length):
 (-1125899906842624≤(Ua a s b A k).low∧(Ua a s b A k).low≤1125899906842624)∧(-1125899906842624≤(Ua a s b A k).high∧(Ua a s b A k).high≤1125899906842624):=by
 rw [Ua];split;·dsimp only;omega
 split;·
  have h1 := fun p => (J6b (s := s) ha).bnd k hk p;have h2:=fun p=>(Zfa (s:=s) ha).bnd k hk p;dsimp only;exact ⟨⟨by have:=h1 (b.low.l.getD (a.mine.roads.l.getD k default).fr.toNat 0 - b.high.l.getD (a.mine.roads.l.getD k default).to.toNat 0);omega,by have:=h1 (b.low.l.getD (a.mine.roads.l.getD k default).fr.toNat 0 - b.high.l.getD (a.mine.roads.l.getD k default).to.toNat 0);omega⟩,
   ⟨by have:=h2 (b.high.l.getD (a.mine.roads.l.getD k default).fr.toNat 0 - b.low.l.getD (a.mine.roads.l.getD k default).to.toNat 0);omega,by have:=h2 (b.high.l.getD (a.mine.roads.l.getD k default).fr.toNat 0 - b.low.l.getD (a.mine.roads.l.getD k default).to.toNat 0);omega⟩⟩
 ·simp only [nothingS];omega
def Ypc (a:XAir) (k:Nat):Yf a k=⟨0,0⟩∨Yf a k=nothingS:=by
 rw [Yf];split;·exact .inl rfl
 ·exact .inr rfl
def Yyd {a:XAir} {s:XSetting} {A:List Bool} (h0:Kx a=0) (hf:Uka a s=true) (hA:AiryIs a.mine A):
 (K3b a s A).1=0∧((Accept a s (Yda a s A) A∧(∀i:Nat,(Yda a s A).low.l.getD i 0≤(Yda a s A).high.l.getD i 0)∧(K3b a s A).2=(List.range a.mine.roads.l.length).map (Ua a s (Yda a s A) A))∨(K3b a s A).2=(List.range a.mine.roads.l.length).map (Yf a)):=by
 have hfn:¬ Uka a s=false:=by rw [hf];decide
 rw [K3b,if_neg (by rw [h0];decide),if_neg hfn];rcases K7d (A:=A) h0 hf with h | h;·have hac : Accept a s (Yda a s A) A := h.2.accept rfl rfl;rw [if_pos h.1,U5,if_pos (Koc.2 hac)];exact ⟨rfl,.inl ⟨hac,h.2.le,rfl⟩⟩
 ·rw [if_neg (by rw [h]; decide)];exact ⟨rfl,.inr rfl⟩
def Uvc {a:XAir} {s:XSetting} {A:List Bool} (h0:Kx a=0) (hf:Uka a s=true) (hA:AiryIs a.mine A):(K3b a s A).2.length=a.mine.roads.l.length:=by rcases (Yyd h0 hf hA).2 with ⟨_,_,e⟩ | e <;> rw [e] <;> simp
def Umf {a:XAir} {s:XSetting} {A:List Bool} (h0:Kx a=0) (hf:Uka a s=true) (hA:AiryIs a.mine A):Zwf (K3b a s A).2:=fun k=>by
 have hl:=Uvc h0 hf hA
 have ha:=V3 h0
 rcases yk k a.mine.roads.l.length with hk | hk
 ·rcases (Yyd h0 hf hA).2 with ⟨_, _, e⟩ | e
  ·rw [e, yi, yq, yL hk]
   exact Zic ha hk
  ·rw [e, yi, yq, yL hk]
   show (-1125899906842624≤(Yf a k).low∧(Yf a k).low≤1125899906842624)∧(-1125899906842624≤(Yf a k).high∧(Yf a k).high≤1125899906842624)
   rcases Ypc a k with e | e <;> rw [e] <;> simp [nothingS]
 ·rw [yi, yu za]
  exact ⟨⟨by decide,by decide⟩,by decide,by decide⟩
end
section
attribute [local irreducible] CJ LJ DJ Tri YV Gives Uq J2 Kj Ut RV J3 OwL.L
structure XFace where
 road:Int
 need:Int
 deriving Inhabited
def XFace.cells (s:XFace):List Value:=[.int .i64 s.road,.int .i64 s.need]
abbrev Vrg (x:Arr XFace):Sl:=x.sl 2 XFace.cells []
structure WrTo {α:Type} (n:Nat) (z:α) (g:Nat→α) (i:Nat) (l:List α):Prop where
 len:l.length=n
 don:∀j:Nat,j < i→l[j]?=some (g j)
 non:∀j:Nat,i≤j→j < n→l[j]?=some z
def WrTo.zero {α:Type} {n:Nat} {z:α} {g:Nat→α}:WrTo n z g 0 (List.replicate n z):=⟨by simp,fun j hj=>by omega,fun j _ hj=>by rw [yC,if_pos hj]⟩
def WrTo.next {α:Type} {n:Nat} {z:α} {g:Nat→α} {i:Nat} {l:List α} (h:WrTo n z g i l) (hi:i < n) {x:α} (hx:x=g i):WrTo n z g (i + 1) (l.set i x):=by exact uaL
def WrTo.stay {α:Type} {n:Nat} {z:α} {g:Nat→α} {i:Nat} {l:List α} (h:WrTo n z g i l) (hi:i < n) (hx:z=g i):WrTo n z g (i + 1) l:=by exact uaR
def WrTo.done {α:Type} {n:Nat} {z:α} {g:Nat→α} {l:List α} (h:WrTo n z g n l):l=(List.range n).map g:=by
 have hl:=h.len;refine yBa fun j=>?_;rcases yk j n with hj | hj;·rw [h.don j hj,yq,yL hj];rfl
 ·rw [yu za,yu zE]
def Yle (x:XSpan) (need:Int):Int:=
 if x.high < x.low then 0 else if (need≤0∨need≤x.low)∨x.high≤ -need then 1 else if -need < x.low∧x.high < need then -1 else 0
def K1b (fl:List XSpan) (f:XFace):Int:=if 0≤f.road∧f.road < fl.length then Yle (fl.getD f.road.toNat default) f.need else 0
def Vpg (fl:List XSpan) (fc:List XFace):List Int:=(List.range fc.length).map fun k=>K1b fl (fc.getD k default)
def Vef (fc:List XFace):Prop:=∀f∈fc,-4611686018427387904≤f.need∧f.need≤4611686018427387904
def Ysf (x:XSpan) (need:Int) (L:LB) (R:LS) (hn:-4611686018427387904≤need∧need≤4611686018427387904):
 Tri Tryz.prog 275 [x.val,.int .i64 need].toArray L R (fun v U J=>v=.int .i64 (Yle x need)∧L=U∧R=J):=by
 refine Je 39 Tryz.call275 Tryz.func275 rfl rfl rfl ?_;apply (Xaf);intro b2;apply (qad);refine J9 (Jb (Jq (Ki (Jq (Jg ?_)))));apply Xa0∘qa5∘Xas;refine q_c ?_ ?_<;>intro hc0;·apply (Xbe);refine q_i L R ?_;exact ⟨by rw [Yle,if_pos hc0],rfl,rfl⟩
 apply Xbi∘qbx∘qah;apply Kf (G:=[_,_,_,_]) (j:=2) (cj:=14) rfl rfl zb rfl zmb rfl;·intro hg3;replace hg3:=qb hg3;exact (Xah) zyd
 intro junk3;apply (qah);apply Kf (G:=[_,_,_,_,_]) (j:=8) (cj:=20) rfl rfl zb rfl zmb rfl;·intro hg9;replace hg9:=qb hg9;exact (Xah∘qcq∘qbx) qai
 intro junk9;apply (Xas);refine q_c ?_ ?_<;>intro hc1;·apply (Xbe);refine q_i L R ?_;exact ⟨by rw [Yle,if_neg za,if_pos za],rfl,rfl⟩
 apply qae∘Xah∘qcq∘qa5∘qah;apply Ui (G:=[_,_,_,_]) (j:=5) (cj:=33) rfl rfl zb rfl zmb rfl;·intro hg6;replace hg6:=qb hg6;exact (Xah) zOd
 intro junk6;apply (Xas);refine q_c ?_ ?_<;>intro hc2;·apply (Xbe);refine q_i L R ?_;exact ⟨by rw [Yle,if_neg za,if_neg za,if_pos za],rfl,rfl⟩
 refine J5 (Jh (Jb (Jq (Jg ?_))));apply (Xam);refine q_i L R ?_;exact ⟨by rw [Yle,if_neg za,if_neg za,if_neg za],rfl,rfl⟩
def J5f (fl:Arr XSpan) (fc:Arr XFace) (L:LB) (R:LS) (hfl:InR (Jkc fl) R) (hfc:InR (Vrg fc) R) (hn:Vef fc.l) (hlen:fc.l.length≤1000) (hflen:fl.l.length≤1000):
 Tri Tryz.prog 232 [fl.val,fc.val].toArray L R (fun w U J=>∃p:OwL Int,w=p.val∧p.ok 1 Jj∧p.l=Vpg fl.l fc.l∧p.L 3 Jj ++ L=U∧R=J):=by
 refine Je 41 Tryz.call232 Tryz.func232 rfl rfl rfl ?_;apply qae∘Xb8∘Xap∘qc7;rintro v U J ⟨b10,rfl,rfl,hR10⟩;replace hR10:=hR10.symm;subst hR10;apply (Xdd);refine U2 (Vh (f:=Jj) (x:=0) rfl _) ?_;apply qay∘Xbr;refine Jm [(0,.slice _ _ _),(5,.slice _ _ _),(11,.slice _ _ _),(12,.int _ _),(13,.int _ _)] zh fun tq0=>?_;refine q_p ([6,7]++rg 13 27) ((⟨fun g=>[(13,.int .i64 ((g.1.1:Nat):Int))],fun g=>(⟨.own b10 fc.l.length [],g.1.2⟩:OwL Int).L 3 Jj ++ L,fun _=>R,fun g=>fc.l.length - g.1.1⟩:Head {g:Nat×List Int // g.1≤fc.l.length∧WrTo fc.l.length 0 (fun k=>K1b fl.l (fc.l.getD k default)) g.1 g.2})) (⟨(0,List.replicate fc.l.length 0),by dsimp only;omega,.zero⟩) ?_;rintro ⟨⟨k,l⟩,w1,w2⟩ junk;try dsimp only
 dsimp only at w1 w2;have hll:=w2.len;have hkq:(⟨.own b10 fc.l.length [],l⟩:OwL Int).ok 1 Jj:=by have:=U0 (f:=Jj) (wd:=1) (b:=b10) (n:=fc.l.length) (x:=0) K0 zB;exact OwL.len_ok K0 this zla
 apply (Xaj);refine q_c ?_ ?_<;>intro hc0;·
  have hfg:=Jp (l:=fc.l) (k:=k) default za;have hlg:=w2.non k (ym _) za;have hnd:=hn _ (yh hfg);obtain ⟨f,hf⟩:∃f,f=fc.l.getD k default:=⟨_,rfl⟩;rw [← hf] at hfg hnd;apply (Xa1);refine Jw zD rfl ?_;apply (Xdn);intro b7;apply qad∘Xb9∘qbz∘qah;apply Ui (G:=[_,_,_,_,_]) (j:=3) (cj:=21) rfl rfl zb rfl zmb rfl;·intro hg4;replace hg4:=qb hg4;exact (Xaa∘Xap) zOd
  intro junk4;apply (qaf);refine q_c ?_ ?_<;>intro hc1;·have hsg:=Jp (l:=fl.l) (k:=f.road.toNat) default za;(have hfv:Yle (fl.l.getD f.road.toNat default) f.need=(fun k=>K1b fl.l (fc.l.getD k default)) k:=by dsimp only;rw [← hf,K1b,if_pos za]);refine J7 tb [] [0,1,2,3,4,5,6,7,8,9,10] [11] ([Blk.mk b7 _ _]) _ Ko zc zi yd ?_;apply Xdl∘Xcw;refine Ku (by first | exact Jd tb rfl rfl rfl rfl zu (i:=f.road.toNat) zk za | exact Jl tb rfl rfl rfl rfl (i:=f.road.toNat) zk za) rfl rfl rfl rfl ?_;apply qd1∘Xak;refine K7 rfl (Ysf (fl.l.getD f.road.toNat default) f.need _ _ hnd) rfl rfl ?_;rintro v U J ⟨rfl,rfl,rfl⟩;refine ⟨zi,zt,?_⟩;refine Ku (Jo tb ((⟨.own b10 fc.l.length [],l⟩:OwL Int)) _ rfl rfl ((show _=Value.slice _ _ _ from rfl).trans (K6 hll)) rfl zg (i:=k) zk zp) rfl rfl rfl rfl ?_;apply (qba);refine Ywa (Jn tb ((⟨.own b10 fc.l.length [],l⟩:OwL Int)) (Yle (fl.l.getD f.road.toNat default) f.need) rfl rfl rfl rfl zj zg yf zg ze zb zb) rfl rfl ?_;rintro v U J ⟨rfl,rfl⟩;apply qa1∘Xc4;exact q_k ⟨(k + 1,l.set k (Yle (fl.l.getD f.road.toNat default) f.need)),by dsimp only;omega,w2.next za hfv⟩
  have hfv:(0:Int)=(fun k=>K1b fl.l (fc.l.getD k default)) k:=by dsimp only;rw [← hf,K1b,if_neg za]
  apply (Xaw);exact q_k ⟨(k + 1,l),by dsimp only;omega,w2.stay za hfv⟩
 obtain rfl:k=fc.l.length:=by omega
 apply Xch∘Xci;refine q_r ((⟨.own b10 fc.l.length [],l⟩:OwL Int).L 3 Jj ++ L) R zhd ?_;exact ⟨(⟨.own b10 fc.l.length [],l⟩:OwL Int),by simp only [OwL.val,Ow.addr,Ow.cap,hll],hkq,w2.done,rfl,rfl⟩
end
section
end
section
abbrev Sts:=List Int×List Int
def mkS (s:Sts):XSetting:=⟨⟨none,0,s.1⟩,⟨none,0,s.2⟩⟩
abbrev Jrc (s:XSetting):Sts:=(s.fans.l,s.doors.l)
def flS (a:XAir) (A:List Bool) (s:Sts):List XSpan:=(K3b a (mkS s) A).2
end
section
def Jpd (f:XFan):XFan:=⟨f.road,f.back,f.aux,⟨none,0,f.curve.l⟩⟩
def Zta (d:XDoor):XDoor:=⟨d.road,d.other,⟨none,0,d.rests.l⟩⟩
def Vpc (m:XMine):XMine:=⟨⟨none,0,m.places.l⟩,⟨none,0,m.roads.l⟩⟩
def Zf (a:XAir):XAir:=⟨Vpc a.mine,⟨none,0,a.fans.l.map Jpd⟩,⟨none,0,a.doors.l.map Zta⟩⟩
abbrev Yzc (s:XSetting):XSetting:=mkS (Jrc s)
def Vub {α β:Type} {f:α→β} {l:List α} {k:Nat} {d:α} {e:β} (h:f d=e):(l.map f).getD k e=f (l.getD k d):=by
 rw [yi,yi,yq];cases l[k]? with
 | none=>exact h.symm
 | some x=>rfl
def J0f (a:XAir) (k:Nat):(Zf a).fans.l.getD k default=Jpd (a.fans.l.getD k default):=Vub rfl
def Jac (a:XAir) (k:Nat):(Zf a).doors.l.getD k default=Zta (a.doors.l.getD k default):=Vub rfl
def Zab (a : XAir) (s : XSetting) (r : Int) : ∀ k, Va (Zf a) (Yzc s) r k = Va a s r k
 | 0=>rfl
 | k + 1=>by rw [Va,Va,Zab a s r k,Jac];rfl
def Uwb (a : XAir) (s : XSetting) (r q : Int) : ∀ k, innerTo (Zf a) (Yzc s) r q k = innerTo a s r q k
 | 0=>by rw [innerTo,innerTo,Zab,show (Zf a).doors.l.length=a.doors.l.length from yD _];rfl
 | k + 1=>by rw [innerTo,innerTo,Uwb a s r q k,J0f];rfl
def J0e (a:XAir) (s:XSetting):Ky (Zf a) (Yzc s)=Ky a s:=by funext r q;rw [Ky,Ky,Uwb,show (Zf a).fans.l.length=a.fans.l.length from yD _]
def Y8c (l:List XDoor):Jja (l.map Zta)=Jja l:=by
 funext i;rw [Jja,Jja,yq];cases l[i]? with
 | none=>rfl
 | some d=>
  have hp:Uob (l.map Zta) i (Zta d)↔Uob l i d:=by unfold Uob;simp only [yD,Vub (f:=Zta) (l:=l) (d:=default) (e:=default) rfl];exact Iff.rfl
  simp only [yRa,hp];rfl
def V1c (l:List XDoor):Vz (l.map Zta)=Vz l:=by rw [Vz,Vz,Y8c,yD]
def Ydb (a:XAir):Kx (Zf a)=Kx a:=by have h1:(Zf a).fans.l=a.fans.l.map Jpd:=rfl;have h2:(Zf a).doors.l=a.doors.l.map Zta:=rfl;have h3:(Zf a).mine=Vpc a.mine:=rfl;have h4:Ul (Vpc a.mine)=Ul a.mine:=rfl;rw [Kx,Kx,h1,h2,h3,h4,V1c,yD,ycc,ycc];rfl
def Vze (a:XAir) (s:XSetting):Uka (Zf a) (Yzc s)=Uka a s:=by
 have h1:(Zf a).fans.l.length=a.fans.l.length:=yD _;have h2:(Zf a).doors.l.length=a.doors.l.length:=yD _;have h3:Zg (Zf a).doors.l (Yzc s).doors.l=Zg a.doors.l s.doors.l:=by funext i;show Zg (a.doors.l.map Zta) s.doors.l i=_;rw [Zg,Zg,yq];cases s.doors.l[i]? <;> cases a.doors.l[i]? <;> rfl
 rw [Uka,Uka,h1,h2,h3];rfl
section
variable {a a':XAir} {s s':XSetting}
structure AirE (a a':XAir) (s s':XSetting):Prop where
 mine:a.mine.places.l=a'.mine.places.l∧a.mine.roads.l=a'.mine.roads.l
 inner:Ky a s=Ky a' s'
 err:Kx a=Kx a'
 fit:Uka a s=Uka a' s'
variable (h:AirE a a' s s')
include h
def AirE.term (F G:(Int→XSpan)→Int→Int):Uaa F G a s=Uaa F G a' s':=by funext ps v k;rw [Uaa,Uaa,Ur,Ur,h.inner,h.mine.2]
def AirE.sum (F G : (Int → XSpan) → Int → Int) (ps : List Int) (v : Int) : ∀ k, Jfc F G a s ps v k = Jfc F G a' s' ps v k
 | 0=>rfl
 | k + 1=>by rw [Jfc,Jfc,AirE.sum F G ps v k,h.term]
def AirE.low:Ugc a s=Ugc a' s':=by funext ps v;rw [Ugc,Ugc,h.sum,h.mine.2]
def AirE.high:U1a a s=U1a a' s':=by funext ps v;rw [U1a,U1a,h.sum,h.mine.2]
def AirE.test (up:Bool) (l:List Int):Vfc a s up l=Vfc a' s' up l:=by funext v q;rw [Vfc,Vfc];unfold Yzf Kqd;rw [h.low,h.high]
def AirE.next (up:Bool):Kza a s up=Kza a' s' up:=by funext l k;rw [Kza,Kza,h.test]
def AirE.fix (A:List Bool):V3b a A=V3b a' A:=by funext k;rw [V3b,V3b,h.mine.1]
def AirE.sweep (A : List Bool) (up : Bool) (l : List Int) : ∀ k, Um a s A up l k = Um a' s' A up l k
 | 0=>rfl
 | k + 1=>by rw [Um,Um,AirE.sweep A up l k,h.fix,h.next]
def AirE.rounds (A : List Bool) (up : Bool) : ∀ n l, Vi a s A up n l = Vi a' s' A up n l
 | 0,_=>rfl
 | n + 1,l=>by
  rw [Vi,Vi,h.sweep,h.mine.1]
  cases Um a' s' A up l a'.mine.places.l.length with
  | none=>rfl
  | some m=>dsimp only;rw [AirE.rounds A up n m]
def AirE.start (ps:List Int) (A:List Bool):Vy a s ps A=Vy a' s' ps A:=by
 have e:Yx a ps A=Yx a' ps A:=by funext i;rw [Yx,Yx,h.fix]
 rw [Vy,Vy,h.err,h.fit,h.mine.1,e]
def AirE.relax (A:List Bool) (up:Bool) (ps:List Int):Ug a s A up ps=Ug a' s' A up ps:=by rw [Ug,Ug,h.start,h.rounds]
def AirE.solve (A:List Bool):Yl a s A=Yl a' s' A:=by
 have e:Ug a s A=Ug a' s' A:=by funext up ps;exact h.relax A up ps
 rw [Yl,Yl,e,h.mine.1]
def AirE.check (b:XBounds) (A:List Bool):Y4 a s b A=Y4 a' s' b A:=by
 have e:Vl a s b A=Vl a' s' b A:=by funext i;rw [Vl,Vl,h.low,h.high,h.mine.1]
 rw [Y4,Y4,h.err,h.fit,h.mine.1,e]
def AirE.flows (b:XBounds) (A:List Bool):U5 a s b A=U5 a' s' b A:=by
 have e:Ua a s b A=Ua a' s' b A:=by funext k;rw [Ua,Ua,h.inner,h.mine.2]
 rw [U5,U5,h.check,h.mine.2,e]
def AirE.ana (A:List Bool):K3b a s A=K3b a' s' A:=by
 have e:Yf a=Yf a':=by funext k;rw [Yf,Yf,h.mine.2]
 rw [K3b,K3b,h.err,h.fit,Yda,Yda,h.solve,h.flows,h.mine.2,e]
end
def AirE.bare (a:XAir) (s:XSetting):AirE (Zf a) a (Yzc s) s:=⟨⟨rfl,rfl⟩,J0e a s,Ydb a,Vze a s⟩
def AirE.symm {a a':XAir} {s s':XSetting} (h:AirE a a' s s'):AirE a' a s' s:=⟨⟨h.mine.1.symm,h.mine.2.symm⟩,h.inner.symm,h.err.symm,h.fit.symm⟩
def AirE.trans {a a' a'':XAir} {s s' s'':XSetting} (h:AirE a a' s s') (k:AirE a' a'' s' s''):AirE a a'' s s'':=⟨⟨h.mine.1.trans k.mine.1,h.mine.2.trans k.mine.2⟩,h.inner.trans k.inner,h.err.trans k.err,h.fit.trans k.fit⟩
def AirE.of {a a':XAir} {s s':XSetting} (h1:Zf a=Zf a') (h2:Jrc s=Jrc s'):AirE a a' s s':=by have e1:=(AirE.bare a s).symm;have e2:=AirE.bare a' s';rw [h1,show Yzc s=Yzc s' from congrArg mkS h2] at e1;exact e1.trans e2
def Yaf (a:XAir) {s s':XSetting} (A:List Bool) (h:Jrc s=Jrc s'):K3b a s A=K3b a s' A:=(AirE.of rfl h).ana A
def Usf (a:XAir) {s s':XSetting} (h:Jrc s=Jrc s'):Uka a s=Uka a s':=(AirE.of rfl h).fit
def Zef (a:XAir) (s:XSetting) (A:List Bool):flS a A (Jrc s)=(K3b a s A).2:=by rw [flS,Yaf a (s:=mkS (Jrc s)) (s':=s) A rfl]
end
end Go.Proofs.YtchfclmokpbldaaGreat
