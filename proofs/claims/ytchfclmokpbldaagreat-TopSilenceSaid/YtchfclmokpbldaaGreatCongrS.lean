/-
  Merged texts. By an AI agent.
-/
import Derived.Test.YtchfclmokpbldaaGreatRel
import Derived.Test.YtchfclmokpbldaaGreatMadeB
import Derived.Test.YtchfclmokpbldaaGreatFits
set_option linter.all false
set_option maxHeartbeats 4000000
set_option maxRecDepth 20000
namespace Go.Proofs.YtchfclmokpbldaaGreat
open Go.Aw Go
section
attribute [local irreducible] CJ LJ DJ Tri YV Gives Uq J2 Km Ur RV J4 OwL.L
end
section
section
variable (b b':Nat)
end
end
section
attribute [local irreducible] CJ LJ DJ Tri YV Gives Uq J2 Km Ur RV J4 OwL.L
end
section
structure XArc where
 road:Int
 fr:Int
 to:Int
 deriving DecidableEq,Inhabited
section
variable {m:XMine} {l:List XArc} {w:Int} {seen out:List Bool}
end
end
section
attribute [local irreducible] CJ LJ DJ Tri YV Gives Uq J2 Km Ur RV J4 OwL.L
def Vsb {a:XAir} {s:XSetting} {b b':XBounds} {A:List Bool} (h1:b.low.l=b'.low.l) (h2:b.high.l=b'.high.l):U3 a s b A=U3 a s b' A:=by
 have e1:Vn a s b A=Vn a s b' A:=funext fun i=>by rw [Vn,Vn,h1,h2]
 have e2:Ze a s b A=Ze a s b' A:=by rw [Ze,Ze,h1,h2,e1]
 have e3:Uz a s b A=Uz a s b' A:=funext fun i=>by rw [Uz,Uz,h1,h2]
 rw [U3,U3,e2,e3]
def Y3a (a:XAir) (s:XSetting) (A:List Bool):XBounds:=⟨⟨none,0,(Yt a s A).2.1⟩,⟨none,0,(Yt a s A).2.2⟩⟩
def Uga (a:XAir) (k:Nat):XSpan:=if (a.mine.roads.l.getD k default).closed=true then ⟨0,0⟩ else nothingS
def Veb (a:XAir) (s:XSetting) (A:List Bool):Int×List XSpan:=
 if Kx a≠0 then (Kx a,[]) else if Uza a s=false then (21,[]) else if (Yt a s A).1=0 then (0,U3 a s (Y3a a s A) A)
 else (0,(List.range a.mine.roads.l.length).map (Uga a))
def Ua (L:LB) (R:LS):
 Tri Tryz.prog 96 [].toArray L R (fun v M U=>v=nothingS.val∧L=M∧R=U):=by refine Jd 2 Tryz.call96 Tryz.func96 rfl rfl rfl ?_;exact zwe
structure BlindTo (a:XAir) (i:Nat) (l:List XSpan):Prop where
 len:l.length=a.mine.roads.l.length
 don:∀j:Nat,j < i→l[j]?=some (Uga a j)
 non:∀j:Nat,i≤j→j < a.mine.roads.l.length→l[j]?=some ⟨0,0⟩
def BlindTo.next {a:XAir} {i:Nat} {l:List XSpan} (h:BlindTo a i l) (hi:i < a.mine.roads.l.length) {x:XSpan} (hx:x=Uga a i):BlindTo a (i + 1) (l.set i x):=by exact uaI
def BlindTo.stay {a:XAir} {i:Nat} {l:List XSpan} (h:BlindTo a i l) (hi:i < a.mine.roads.l.length) (hx:(⟨0,0⟩:XSpan)=Uga a i):BlindTo a (i + 1) l:=by exact uaO
def BlindTo.done {a:XAir} {l:List XSpan} (h:BlindTo a a.mine.roads.l.length l):l=(List.range a.mine.roads.l.length).map (Uga a):=by
 have hl:=h.len;refine yra fun j=>?_;rcases yl j a.mine.roads.l.length with hj | hj;·rw [h.don j hj,yr,yU hj];rfl
 ·rw [yt za,yt zD]
def Vld (a:XAir) (s:XSetting) (A:List Bool) (L:LB) (R:LS) (hm:AirR a R) (hs:SetR s R) (hA:Kx a=0→AiryIs a.mine A):
 Tri Tryz.prog 40 [a.val,s.val].toArray L R (fun w M U=>∃p:OwL XSpan,w=.tuple #[p.val,.int .i64 (Veb a s A).1]∧p.ok 2 XSpan.cells∧p.l=(Veb a s A).2∧p.L 90 XSpan.cells ++ L=M∧R=U):=by
 have hmr:=hm.roads;refine Jd 56 Tryz.call40 Tryz.func40 rfl rfl rfl ?_;apply (Xaf);intro b2;apply (qax);intro b3;apply qc4∘Xap∘qa8;refine q_l rfl (Jha a _ _ hm) ?_;apply (Xbi);refine q_c ?_ ?_<;>intro hc0;·apply Xbq∘qc4∘Xal;refine q_r L R zjd ?_;exact ⟨OwL.nil,by rw [Veb,if_pos hc0];rfl,OwL.nil_ok,by rw [Veb,if_pos hc0],by rw [Kj,yx],rfl⟩
 have h0:Kx a=0:=by omega
 have hok:=Y0 h0;have hnp:=hok.mine.places;have hnr:=hok.mine.roads;apply qbo∘Xcy;refine q_l rfl (Jzb a s _ _ hm hs) ?_;apply (Xbl);refine q_c ?_ ?_<;>intro hc1;·apply Xcu∘Xal;refine q_r L R zjd ?_;exact ⟨OwL.nil,by rw [Veb,if_neg hc0,if_pos zL];rfl,OwL.nil_ok,by rw [Veb,if_neg hc0,if_pos zL],by rw [Kj,yx],rfl⟩
 have hf0:Uza a s=true:=by simpa using hc1
 have hff:¬ Uza a s=false:=by rw [hf0];decide
 apply qbo∘Xcy;refine Jo rfl (Yrc a s A _ _ hm hs hA za) rfl ?_;rintro v M U ⟨lo,hi,rfl,h1,h2,h3,h4,rfl,rfl⟩;refine Jy zPb rfl ?_;apply Xa6∘qaq;intro b7;apply qak∘Xcb;refine V1 (A:=[_]) (wd:=1) [] yf ze h1 yg ?_;apply (qb1);refine V1 (A:=[_]) (wd:=1) [] yf ze h2 yg ?_;apply (qb1);have hR2:∀r∈R,InR r (isl hi.arr :: isl lo.arr :: R):=fun r hr=>Ja zG;have hB2:BoundsR ⟨lo.arr,hi.arr⟩ (isl hi.arr :: isl lo.arr :: R):=⟨Ja (.tail _ (.head _)),Ja (.head _)⟩;have hmr2:=hmr.mono hR2;apply Xa9∘Xbm;refine q_c ?_ ?_<;>intro hc2;·
  apply qae∘Xcy∘qbe;refine Jo rfl (Vqe a s ⟨lo.arr,hi.arr⟩ A _ _ (Kha hm hR2) (Zda hs hR2) hB2 hA) rfl ?_;rintro v M U ⟨p,S,rfl,hpk,hpl,rfl,rfl⟩;apply qc4∘Xal;refine Kv (M:=p.L 90 XSpan.cells ++ L) (U:=R) zjd ?hp ?hL ?hR;case hp=>(have ha:Veb a s A=(0,U3 a s (Y3a a s A) A):=by rw [Veb,if_neg hc0,if_neg hff,if_pos hc2]);exact ⟨p,by rw [ha];rfl,hpk,by rw [ha,hpl];exact Vsb h3 h4,rfl,rfl⟩
  case hL=>exact zg
  case hR=>exact fun r h=>Ja (by simp [h])
 apply qbv∘Xce∘qc7;rintro v M U ⟨b37,rfl,rfl,hR37⟩;replace hR37:=hR37.symm;subst hR37;apply qc4∘qco;refine U0 (Yo (f:=XSpan.cells) (x:=⟨0,0⟩) rfl _) ?_;apply qay∘qab∘Xaz;refine Jl [(9,.slice _ _ _),(40,.slice _ _ _),(41,.int _ _),(42,.int _ _)] zh fun tq0=>?_;refine q_p ([10,11]++rg 42 13) ((⟨fun g=>[(42,.int .i64 ((g.1.1:Nat):Int))],fun g=>(⟨.own b37 a.mine.roads.l.length [],g.1.2⟩:OwL XSpan).L 90 XSpan.cells ++ (⟨b7,[lo.val,hi.val],214⟩ :: ⟨b3,s.cells,80⟩ :: ⟨b2,a.cells,32⟩ :: L),fun _=>isl hi.arr :: isl lo.arr :: R,fun g=>a.mine.roads.l.length - g.1.1⟩:Head {g:Nat×List XSpan // g.1≤a.mine.roads.l.length∧BlindTo a g.1 g.2})) (⟨(0,List.replicate a.mine.roads.l.length ⟨0,0⟩),by dsimp only;omega,⟨by simp,fun j hj=>by omega,fun j _ hj=>by rw [yK,if_pos hj]⟩⟩) ?_;rintro ⟨⟨k,l⟩,w1,w2⟩ junk;try dsimp only
 dsimp only at w1 w2;have hll:=w2.len;have hkq:(⟨.own b37 a.mine.roads.l.length [],l⟩:OwL XSpan).ok 2 XSpan.cells:=by have:=Yl (f:=XSpan.cells) (wd:=2) (b:=b37) (n:=a.mine.roads.l.length) (x:=⟨0,0⟩) yf zF;exact OwL.len_ok yf this (by simp;exact hll)
 apply (Xan);refine q_c ?_ ?_<;>intro hc3;·
  have hrg:=Jt (l:=a.mine.roads.l) (k:=k) default za;have hlg:=w2.non k (ym _) za;apply (Xa4);refine Jy zC rfl ?_;apply qc8∘qaq;intro b11;apply qad∘Xb9∘Xbl;refine q_c ?_ ?_<;>intro hc4;·(have hbf:nothingS=Uga a k:=by rw [Uga,if_neg zW]);apply (Xcg);refine q_l rfl (Ua _ _) ?_;refine Jy (Jw tb ((⟨.own b37 a.mine.roads.l.length [],l⟩:OwL XSpan)) _ rfl rfl ((show _=Value.slice _ _ _ from rfl).trans (Uu hll)) rfl zi (i:=k) zk zw) rfl ?_;refine Ye (Uv tb ((⟨.own b37 a.mine.roads.l.length [],l⟩:OwL XSpan)) (nothingS) rfl rfl rfl rfl zj zi yf zi (yW rfl) zb zb) ?_;rintro v M U ⟨rfl,rfl⟩;apply (Xa8);exact q_k ⟨(k + 1,l.set k nothingS),by dsimp only;omega,w2.next za hbf⟩
  have hbf:(⟨0,0⟩:XSpan)=Uga a k:=by rw [Uga,if_pos zW]
  apply (Xay);exact q_k ⟨(k + 1,l),by dsimp only;omega,w2.stay za hbf⟩
 obtain rfl:k=a.mine.roads.l.length:=by omega
 apply Xc7∘qc4∘Xai;refine Kv (M:=(⟨.own b37 a.mine.roads.l.length [],l⟩:OwL XSpan).L 90 XSpan.cells ++ L) (U:=R) zjd ?hp ?hL ?hR;case hp=>
  have ha:Veb a s A=(0,(List.range a.mine.roads.l.length).map (Uga a)):=by rw [Veb,if_neg hc0,if_neg hff,if_neg hc2]
  exact ⟨(⟨.own b37 a.mine.roads.l.length [],l⟩:OwL XSpan),by rw [ha];simp only [OwL.val,Ow.addr,Ow.cap,hll],hkq,by rw [ha];exact w2.done,rfl,rfl⟩
 case hL=>exact zg
 case hR=>exact fun r h=>Ja (by simp [h])
def Z1d (x:XSpan):Int:=if x.high < x.low then 0 else if 0 < x.low then 1 else if x.high < 0 then -1 else 0
def U4c (x:XSpan) (L:LB) (R:LS):
 Tri Tryz.prog 48 [x.val].toArray L R (fun v M U=>v=.int .i64 (Z1d x)∧L=M∧R=U):=by
 refine Jd 17 Tryz.call48 Tryz.func48 rfl rfl rfl ?_;apply (Xaf);intro b1;apply (qad);refine J7 (Jb (Jp (Kc (Jp (Jh ?_)))));apply Xbe∘qa5∘Xar;refine q_c ?_ ?_<;>intro hc0;·apply (Xbg);refine q_i L R ?_;exact ⟨by rw [Z1d,if_pos hc0],rfl,rfl⟩
 apply qae∘Xbr∘Xar;refine q_c ?_ ?_<;>intro hc1;·apply (Xbg);refine q_i L R ?_;exact ⟨by rw [Z1d,if_neg za,if_pos hc1],rfl,rfl⟩
 apply Xcl∘qaj∘Xar;refine q_c ?_ ?_<;>intro hc2;·apply (Xbg);refine q_i L R ?_;exact ⟨by rw [Z1d,if_neg za,if_neg za,if_pos hc2],rfl,rfl⟩
 refine J3 (Jf (Jb (Jp (Jh ?_))));apply (Xai);refine q_i L R ?_;exact ⟨by rw [Z1d,if_neg za,if_neg za,if_neg za],rfl,rfl⟩
end
section
def Jsg {a:XAir} {s:XSetting} {A:List Bool} (h0:Kx a=0) (hf:Uza a s=true) (hA:AiryIs a.mine A):
 (Veb a s A).1=0∧((Accept a s (Y3a a s A) A∧(∀i:Nat,(Y3a a s A).low.l.getD i 0≤(Y3a a s A).high.l.getD i 0)∧(Veb a s A).2=(List.range a.mine.roads.l.length).map (Uz a s (Y3a a s A) A))∨(Veb a s A).2=(List.range a.mine.roads.l.length).map (Uga a)):=by
 have hfn:¬ Uza a s=false:=by rw [hf];decide
 rw [Veb,if_neg (by rw [h0];decide),if_neg hfn];rcases Ucd (A:=A) h0 hf with h | h;·have hac : Accept a s (Y3a a s A) A := h.2.accept rfl rfl;rw [if_pos h.1,U3,if_pos (K6c.2 hac)];exact ⟨rfl,.inl ⟨hac,h.2.le,rfl⟩⟩
 ·rw [if_neg (by rw [h]; decide)];exact ⟨rfl,.inr rfl⟩
def Kqe {a:XAir} {s:XSetting} {A:List Bool} (h0:Kx a=0) (hf:Uza a s=true) (hA:AiryIs a.mine A):(Veb a s A).2.length=a.mine.roads.l.length:=by rcases (Jsg h0 hf hA).2 with ⟨_,_,e⟩ | e <;> rw [e] <;> simp
end
section
attribute [local irreducible] CJ LJ DJ Tri YV Gives Uq J2 Km Ur RV J4 OwL.L
structure XFace where
 road:Int
 need:Int
 deriving Inhabited
def XFace.cells (s:XFace):List Value:=[.int .i64 s.road,.int .i64 s.need]
abbrev Yog (x:Arr XFace):Sl:=x.sl 2 XFace.cells []
structure WrTo {α:Type} (n:Nat) (z:α) (g:Nat→α) (i:Nat) (l:List α):Prop where
 len:l.length=n
 don:∀j:Nat,j < i→l[j]?=some (g j)
 non:∀j:Nat,i≤j→j < n→l[j]?=some z
def WrTo.zero {α:Type} {n:Nat} {z:α} {g:Nat→α}:WrTo n z g 0 (List.replicate n z):=⟨by simp,fun j hj=>by omega,fun j _ hj=>by rw [yK,if_pos hj]⟩
def WrTo.next {α:Type} {n:Nat} {z:α} {g:Nat→α} {i:Nat} {l:List α} (h:WrTo n z g i l) (hi:i < n) {x:α} (hx:x=g i):WrTo n z g (i + 1) (l.set i x):=by exact uaI
def WrTo.stay {α:Type} {n:Nat} {z:α} {g:Nat→α} {i:Nat} {l:List α} (h:WrTo n z g i l) (hi:i < n) (hx:z=g i):WrTo n z g (i + 1) l:=by exact uaO
def WrTo.done {α:Type} {n:Nat} {z:α} {g:Nat→α} {l:List α} (h:WrTo n z g n l):l=(List.range n).map g:=by
 have hl:=h.len;refine yra fun j=>?_;rcases yl j n with hj | hj;·rw [h.don j hj,yr,yU hj];rfl
 ·rw [yt za,yt zD]
def Y9e (x:XSpan) (need:Int):Int:=
 if x.high < x.low then 0 else if (need≤0∨need≤x.low)∨x.high≤ -need then 1 else if -need < x.low∧x.high < need then -1 else 0
def Keb (fl:List XSpan) (f:XFace):Int:=if 0≤f.road∧f.road < fl.length then Y9e (fl.getD f.road.toNat default) f.need else 0
def Ymg (fl:List XSpan) (fc:List XFace):List Int:=(List.range fc.length).map fun k=>Keb fl (fc.getD k default)
def Zsf (fc:List XFace):Prop:=∀f∈fc,-4611686018427387904≤f.need∧f.need≤4611686018427387904
def Zpf (x:XSpan) (need:Int) (L:LB) (R:LS) (hn:-4611686018427387904≤need∧need≤4611686018427387904):
 Tri Tryz.prog 275 [x.val,.int .i64 need].toArray L R (fun v M U=>v=.int .i64 (Y9e x need)∧L=M∧R=U):=by
 refine Jd 39 Tryz.call275 Tryz.func275 rfl rfl rfl ?_;apply (Xaf);intro b2;apply (qad);refine J7 (Jb (Jp (Kc (Jp (Jh ?_)))));apply Xbe∘qa5∘Xar;refine q_c ?_ ?_<;>intro hc0;·apply (Xbg);refine q_i L R ?_;exact ⟨by rw [Y9e,if_pos hc0],rfl,rfl⟩
 apply Xbq∘qbx∘qah;apply Kd (G:=[_,_,_,_]) (j:=2) (cj:=14) rfl rfl zb rfl zmb rfl;·intro hg3;replace hg3:=qb hg3;exact (Xah) zAd
 intro junk3;apply (qah);apply Kd (G:=[_,_,_,_,_]) (j:=8) (cj:=20) rfl rfl zb rfl zmb rfl;·intro hg9;replace hg9:=qb hg9;exact (Xah∘qcq∘qbx) qai
 intro junk9;apply (Xar);refine q_c ?_ ?_<;>intro hc1;·apply (Xbg);refine q_i L R ?_;exact ⟨by rw [Y9e,if_neg za,if_pos za],rfl,rfl⟩
 apply qae∘Xah∘qcq∘qa5∘qah;apply Uy (G:=[_,_,_,_]) (j:=5) (cj:=33) rfl rfl zb rfl zmb rfl;·intro hg6;replace hg6:=qb hg6;exact (Xah) zJd
 intro junk6;apply (Xar);refine q_c ?_ ?_<;>intro hc2;·apply (Xbg);refine q_i L R ?_;exact ⟨by rw [Y9e,if_neg za,if_neg za,if_pos za],rfl,rfl⟩
 refine J3 (Jf (Jb (Jp (Jh ?_))));apply (Xai);refine q_i L R ?_;exact ⟨by rw [Y9e,if_neg za,if_neg za,if_neg za],rfl,rfl⟩
def Juf (fl:Arr XSpan) (fc:Arr XFace) (L:LB) (R:LS) (hfl:InR (Kpe fl) R) (hfc:InR (Yog fc) R) (hn:Zsf fc.l) (hlen:fc.l.length≤1000) (hflen:fl.l.length≤1000):
 Tri Tryz.prog 232 [fl.val,fc.val].toArray L R (fun w M U=>∃p:OwL Int,w=p.val∧p.ok 1 Jk∧p.l=Ymg fl.l fc.l∧p.L 3 Jk ++ L=M∧R=U):=by
 refine Jd 41 Tryz.call232 Tryz.func232 rfl rfl rfl ?_;apply Xcu∘qam∘Xaq∘qc7;rintro v M U ⟨b10,rfl,rfl,hR10⟩;replace hR10:=hR10.symm;subst hR10;apply qc4∘qco;refine U0 (Yo (f:=Jk) (x:=0) rfl _) ?_;apply qay∘Xb5;refine Jl [(0,.slice _ _ _),(5,.slice _ _ _),(11,.slice _ _ _),(12,.int _ _),(13,.int _ _)] zh fun tq0=>?_;refine q_p ([6,7]++rg 13 27) ((⟨fun g=>[(13,.int .i64 ((g.1.1:Nat):Int))],fun g=>(⟨.own b10 fc.l.length [],g.1.2⟩:OwL Int).L 3 Jk ++ L,fun _=>R,fun g=>fc.l.length - g.1.1⟩:Head {g:Nat×List Int // g.1≤fc.l.length∧WrTo fc.l.length 0 (fun k=>Keb fl.l (fc.l.getD k default)) g.1 g.2})) (⟨(0,List.replicate fc.l.length 0),by dsimp only;omega,.zero⟩) ?_;rintro ⟨⟨k,l⟩,w1,w2⟩ junk;try dsimp only
 dsimp only at w1 w2;have hll:=w2.len;have hkq:(⟨.own b10 fc.l.length [],l⟩:OwL Int).ok 1 Jk:=by have:=Yl (f:=Jk) (wd:=1) (b:=b10) (n:=fc.l.length) (x:=0) U8 zF;exact OwL.len_ok U8 this (by simp;exact hll)
 apply (Xan);refine q_c ?_ ?_<;>intro hc0;·
  have hfg:=Jt (l:=fc.l) (k:=k) default za;have hlg:=w2.non k (ym _) za;have hnd:=hn _ (yi hfg);obtain ⟨f,hf⟩:∃f,f=fc.l.getD k default:=⟨_,rfl⟩;rw [← hf] at hfg hnd;apply (Xa4);refine Jy zC rfl ?_;apply (Xea);intro b7;apply qad∘Xb9∘qbz∘qah;apply Uy (G:=[_,_,_,_,_]) (j:=3) (cj:=21) rfl rfl zb rfl zmb rfl;·intro hg4;replace hg4:=qb hg4;exact (Xaa∘Xaq) zJd
  intro junk4;apply (qaf);refine q_c ?_ ?_<;>intro hc1;·have hsg:=Jt (l:=fl.l) (k:=f.road.toNat) default za;(have hfv:Y9e (fl.l.getD f.road.toNat default) f.need=(fun k=>Keb fl.l (fc.l.getD k default)) k:=by dsimp only;rw [← hf,Keb,if_pos za]);refine J5 tb [] [0,1,2,3,4,5,6,7,8,9,10] [11] ([Blk.mk b7 _ _]) _ Kr zc zg yd ?_;apply Xdu∘Xdi;refine Kp (by first | exact Je tb rfl rfl rfl rfl zy (i:=f.road.toNat) zk za | exact Jn tb rfl rfl rfl rfl (i:=f.road.toNat) zk za) rfl rfl rfl rfl ?_;apply qd1∘Xaj;refine Ks rfl (Zpf (fl.l.getD f.road.toNat default) f.need _ _ hnd) rfl rfl ?_;rintro v M U ⟨rfl,rfl,rfl⟩;refine ⟨zg,zq,?_⟩;refine Kp (Jw tb ((⟨.own b10 fc.l.length [],l⟩:OwL Int)) _ rfl rfl ((show _=Value.slice _ _ _ from rfl).trans (Uu hll)) rfl zi (i:=k) zk zw) rfl rfl rfl rfl ?_;apply (qba);refine Jnb (Ju tb ((⟨.own b10 fc.l.length [],l⟩:OwL Int)) (Y9e (fl.l.getD f.road.toNat default) f.need) rfl rfl rfl rfl zj zi yf zi ze zb zb) rfl rfl ?_;rintro v M U ⟨rfl,rfl⟩;apply qa1∘qby∘Xae;exact q_k ⟨(k + 1,l.set k (Y9e (fl.l.getD f.road.toNat default) f.need)),by dsimp only;omega,w2.next za hfv⟩
  have hfv:(0:Int)=(fun k=>Keb fl.l (fc.l.getD k default)) k:=by dsimp only;rw [← hf,Keb,if_neg za]
  apply (Xay);exact q_k ⟨(k + 1,l),by dsimp only;omega,w2.stay za hfv⟩
 obtain rfl:k=fc.l.length:=by omega
 apply Xc7∘Xcn;refine q_r ((⟨.own b10 fc.l.length [],l⟩:OwL Int).L 3 Jk ++ L) R zkd ?_;exact ⟨(⟨.own b10 fc.l.length [],l⟩:OwL Int),by simp only [OwL.val,Ow.addr,Ow.cap,hll],hkq,w2.done,rfl,rfl⟩
end
section
end
section
abbrev Sts:=List Int×List Int
def mkS (s:Sts):XSetting:=⟨⟨none,0,s.1⟩,⟨none,0,s.2⟩⟩
abbrev Jxc (s:XSetting):Sts:=(s.fans.l,s.doors.l)
def flS (a:XAir) (A:List Bool) (s:Sts):List XSpan:=(Veb a (mkS s) A).2
end
section
def Z1c (f:XFan):XFan:=⟨f.road,f.back,f.aux,⟨none,0,f.curve.l⟩⟩
def Zwa (d:XDoor):XDoor:=⟨d.road,d.other,⟨none,0,d.rests.l⟩⟩
def Ylc (m:XMine):XMine:=⟨⟨none,0,m.places.l⟩,⟨none,0,m.roads.l⟩⟩
def Zr (a:XAir):XAir:=⟨Ylc a.mine,⟨none,0,a.fans.l.map Z1c⟩,⟨none,0,a.doors.l.map Zwa⟩⟩
abbrev Z2c (s:XSetting):XSetting:=mkS (Jxc s)
def V8b {α β:Type} {f:α→β} {l:List α} {k:Nat} {d:α} {e:β} (h:f d=e):(l.map f).getD k e=f (l.getD k d):=by
 rw [yh,yh,yr];cases l[k]? with
 | none=>exact h.symm
 | some x=>rfl
def Jkf (a:XAir) (k:Nat):(Zr a).fans.l.getD k default=Z1c (a.fans.l.getD k default):=V8b rfl
def Yub (a:XAir) (k:Nat):(Zr a).doors.l.getD k default=Zwa (a.doors.l.getD k default):=V8b rfl
def Zcb (a : XAir) (s : XSetting) (r : Int) : ∀ k, U4 (Zr a) (Z2c s) r k = U4 a s r k
 | 0=>rfl
 | k + 1=>by rw [U4,U4,Zcb a s r k,Yub];rfl
def Uxb (a : XAir) (s : XSetting) (r q : Int) : ∀ k, innerTo (Zr a) (Z2c s) r q k = innerTo a s r q k
 | 0=>by rw [innerTo,innerTo,Zcb,show (Zr a).doors.l.length=a.doors.l.length from yA _];rfl
 | k + 1=>by rw [innerTo,innerTo,Uxb a s r q k,Jkf];rfl
def Kie (a:XAir) (s:XSetting):K3 (Zr a) (Z2c s)=K3 a s:=by funext r q;rw [K3,K3,Uxb,show (Zr a).fans.l.length=a.fans.l.length from yA _]
def Jfd (l:List XDoor):J2a (l.map Zwa)=J2a l:=by
 funext i;rw [J2a,J2a,yr];cases l[i]? with
 | none=>rfl
 | some d=>
  have hp:Usb (l.map Zwa) i (Zwa d)↔Usb l i d:=by unfold Usb;simp only [yA,V8b (f:=Zwa) (l:=l) (d:=default) (e:=default) rfl];exact Iff.rfl
  simp only [yPa,hp];rfl
def Vuc (l:List XDoor):Vw (l.map Zwa)=Vw l:=by rw [Vw,Vw,Jfd,yA]
def Y7b (a:XAir):Kx (Zr a)=Kx a:=by have h1:(Zr a).fans.l=a.fans.l.map Z1c:=rfl;have h2:(Zr a).doors.l=a.doors.l.map Zwa:=rfl;have h3:(Zr a).mine=Ylc a.mine:=rfl;have h4:Un (Ylc a.mine)=Un a.mine:=rfl;rw [Kx,Kx,h1,h2,h3,h4,Vuc,yA,ybc,ybc];rfl
def Ufe (a:XAir) (s:XSetting):Uza (Zr a) (Z2c s)=Uza a s:=by
 have h1:(Zr a).fans.l.length=a.fans.l.length:=yA _;have h2:(Zr a).doors.l.length=a.doors.l.length:=yA _;have h3:Zv (Zr a).doors.l (Z2c s).doors.l=Zv a.doors.l s.doors.l:=by funext i;show Zv (a.doors.l.map Zwa) s.doors.l i=_;rw [Zv,Zv,yr];cases s.doors.l[i]? <;> cases a.doors.l[i]? <;> rfl
 rw [Uza,Uza,h1,h2,h3];rfl
section
variable {a a':XAir} {s s':XSetting}
structure AirE (a a':XAir) (s s':XSetting):Prop where
 mine:a.mine.places.l=a'.mine.places.l∧a.mine.roads.l=a'.mine.roads.l
 inner:K3 a s=K3 a' s'
 err:Kx a=Kx a'
 fit:Uza a s=Uza a' s'
variable (h:AirE a a' s s')
include h
def AirE.term (F G:(Int→XSpan)→Int→Int):Zza F G a s=Zza F G a' s':=by funext ps v k;rw [Zza,Zza,Uoa,Uoa,h.inner,h.mine.2]
def AirE.sum (F G : (Int → XSpan) → Int → Int) (ps : List Int) (v : Int) : ∀ k, Jkd F G a s ps v k = Jkd F G a' s' ps v k
 | 0=>rfl
 | k + 1=>by rw [Jkd,Jkd,AirE.sum F G ps v k,h.term]
def AirE.low:Ypc a s=Ypc a' s':=by funext ps v;rw [Ypc,Ypc,h.sum,h.mine.2]
def AirE.high:Yna a s=Yna a' s':=by funext ps v;rw [Yna,Yna,h.sum,h.mine.2]
def AirE.test (up:Bool) (l:List Int):Vvc a s up l=Vvc a' s' up l:=by funext v q;rw [Vvc,Vvc];unfold Vuf Kod;rw [h.low,h.high]
def AirE.next (up:Bool):Uja a s up=Uja a' s' up:=by funext l k;rw [Uja,Uja,h.test]
def AirE.fix (A:List Bool):Yeb a A=Yeb a' A:=by funext k;rw [Yeb,Yeb,h.mine.1]
def AirE.sweep (A : List Bool) (up : Bool) (l : List Int) : ∀ k, Ui a s A up l k = Ui a' s' A up l k
 | 0=>rfl
 | k + 1=>by rw [Ui,Ui,AirE.sweep A up l k,h.fix,h.next]
def AirE.rounds (A : List Bool) (up : Bool) : ∀ n l, Vk a s A up n l = Vk a' s' A up n l
 | 0,_=>rfl
 | n + 1,l=>by
  rw [Vk,Vk,h.sweep,h.mine.1]
  cases Ui a' s' A up l a'.mine.places.l.length with
  | none=>rfl
  | some m=>dsimp only;rw [AirE.rounds A up n m]
def AirE.start (ps:List Int) (A:List Bool):Vx a s ps A=Vx a' s' ps A:=by
 have e:Y7 a ps A=Y7 a' ps A:=by funext i;rw [Y7,Y7,h.fix]
 rw [Vx,Vx,h.err,h.fit,h.mine.1,e]
def AirE.relax (A:List Bool) (up:Bool) (ps:List Int):Uc a s A up ps=Uc a' s' A up ps:=by rw [Uc,Uc,h.start,h.rounds]
def AirE.solve (A:List Bool):Yt a s A=Yt a' s' A:=by
 have e:Uc a s A=Uc a' s' A:=by funext up ps;exact h.relax A up ps
 rw [Yt,Yt,e,h.mine.1]
def AirE.check (b:XBounds) (A:List Bool):Ze a s b A=Ze a' s' b A:=by
 have e:Vn a s b A=Vn a' s' b A:=by funext i;rw [Vn,Vn,h.low,h.high,h.mine.1]
 rw [Ze,Ze,h.err,h.fit,h.mine.1,e]
def AirE.flows (b:XBounds) (A:List Bool):U3 a s b A=U3 a' s' b A:=by
 have e:Uz a s b A=Uz a' s' b A:=by funext k;rw [Uz,Uz,h.inner,h.mine.2]
 rw [U3,U3,h.check,h.mine.2,e]
def AirE.ana (A:List Bool):Veb a s A=Veb a' s' A:=by
 have e:Uga a=Uga a':=by funext k;rw [Uga,Uga,h.mine.2]
 rw [Veb,Veb,h.err,h.fit,Y3a,Y3a,h.solve,h.flows,h.mine.2,e]
end
def AirE.bare (a:XAir) (s:XSetting):AirE (Zr a) a (Z2c s) s:=⟨⟨rfl,rfl⟩,Kie a s,Y7b a,Ufe a s⟩
def AirE.symm {a a':XAir} {s s':XSetting} (h:AirE a a' s s'):AirE a' a s' s:=⟨⟨h.mine.1.symm,h.mine.2.symm⟩,h.inner.symm,h.err.symm,h.fit.symm⟩
def AirE.trans {a a' a'':XAir} {s s' s'':XSetting} (h:AirE a a' s s') (k:AirE a' a'' s' s''):AirE a a'' s s'':=⟨⟨h.mine.1.trans k.mine.1,h.mine.2.trans k.mine.2⟩,h.inner.trans k.inner,h.err.trans k.err,h.fit.trans k.fit⟩
def AirE.of {a a':XAir} {s s':XSetting} (h1:Zr a=Zr a') (h2:Jxc s=Jxc s'):AirE a a' s s':=by have e1:=(AirE.bare a s).symm;have e2:=AirE.bare a' s';rw [h1,show Z2c s=Z2c s' from congrArg mkS h2] at e1;exact e1.trans e2
def Ztf (a:XAir) {s s':XSetting} (A:List Bool) (h:Jxc s=Jxc s'):Veb a s A=Veb a s' A:=(AirE.of rfl h).ana A
def Yqf (a:XAir) {s s':XSetting} (h:Jxc s=Jxc s'):Uza a s=Uza a s':=(AirE.of rfl h).fit
def Kug (a:XAir) (s:XSetting) (A:List Bool):flS a A (Jxc s)=(Veb a s A).2:=by rw [flS,Ztf a (s:=mkS (Jxc s)) (s':=s) A rfl]
end
end Go.Proofs.YtchfclmokpbldaaGreat
