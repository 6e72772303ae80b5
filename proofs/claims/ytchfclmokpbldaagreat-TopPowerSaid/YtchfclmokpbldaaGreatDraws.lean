/-
  Draws: MakeS, Make, BranchW, Draw1, Draw2, FitS, Fit, MadeS, Made, New, Base, in one text. By an AI agent; no person has read it.
-/
import Derived.Test.YtchfclmokpbldaaGreatFlows
import Derived.Test.YtchfclmokpbldaaGreatOwn
set_option linter.all false
set_option maxHeartbeats 4000000
section
variable {A B:Prop}
def Jmf(h:A→B:=by exact Ku (Jl tb rfl rfl rfl rfl (i:=(a.doors.l.getD k default).road.toNat) zk za) rfl rfl rfl rfl):=h
def Vbf(h:A→B:=by exact Ku (Jl tb rfl rfl rfl rfl (i:=k) zk za) rfl rfl rfl rfl):=h
def Ycf(h:A→B:=by exact Kh tb [] [0,1,2,3,4,5,6,7,8,9,10] [11] (_) _ K3 zc zi (by (repeat (first | apply List.Sublist.cons (a:=Blk.mk b20 _ _) | apply List.Sublist.cons_cons));exact yx _)):=h
def V1f(h:A→B:=by exact Kh tb [] [0,1,2,3,4,5,6,7,8,9,10] [11] (_) _ K3 zc zi (by (repeat (first | apply List.Sublist.cons (a:=Blk.mk b14 _ _) | apply List.Sublist.cons_cons));exact yx _)):=h
end
section
namespace Go.Proofs.YtchfclmokpbldaaGreat
open Go.Aw Go
def Zc (a : XAir) (s : XSetting) : Nat → List XSpan
 | 0=>List.replicate a.mine.roads.l.length ⟨0,0⟩
 | k + 1=>
  let d:=a.doors.l.getD k default
  let x:=Zqa d (s.doors.l.getD k 0)
  let y:=(Zc a s k).getD d.road.toNat default
  (Zc a s k).set d.road.toNat ⟨y.low + x.low,y.high + x.high⟩
def Jxa (a : XAir) (s : XSetting) : ∀ k, (Zc a s k).length = a.mine.roads.l.length
 | 0=>by simp [Zc]
 | k + 1=>by simp only [Zc,yy];exact Jxa a s k
def Jkb {a:XAir} {s:XSetting} (ha:AirOk a) {r:Nat} (hr:r < a.mine.roads.l.length):∀k,k≤a.doors.l.length→∃x:XSpan,(Zc a s k)[r]?=some x∧
 (V0 a s r k).low=(a.mine.roads.l.getD r default).rest.low + x.low∧(V0 a s r k).high=(a.mine.roads.l.getD r default).rest.high + x.high
 | 0,_=>⟨⟨0,0⟩,by simp [Zc,hr],by simp [V0],by simp [V0]⟩
 | k + 1,hk=>by
  obtain ⟨x,h1,h2,h3⟩:=Jkb (s:=s) ha hr k za
  have hd:=ha.door k _ (Jw default (show k < a.doors.l.length by omega))
  have hd0:=hd.1.road
  simp only [Zc,V0]
  by_cases he:(a.doors.l.getD k default).road=(r:Int)
  ·rw [if_pos he]
   have he':(a.doors.l.getD k default).road.toNat=r:=by omega
   rw [he']
   have hg:(Zc a s k).getD r default=x:=by rw [yh,h1];rfl
   refine ⟨_,yH (by rw [Jxa];exact hr),?_,?_⟩ <;> rw [hg] <;> dsimp only <;> omega
  ·rw [if_neg he]
   have he':¬ (a.doors.l.getD k default).road.toNat=r:=by omega
   exact ⟨x,by rw [yda he'];exact h1,h2,h3⟩
def Uy (a : XAir) : Nat → List Nat
 | 0=>[]
 | k + 1=>if (a.mine.roads.l.getD k default).closed=true then Uy a k else Uy a k ++ [k]
def Jpd (a : XAir) (v : Nat) : Nat → List Int
 | 0=>[]
 | k + 1=>
  if (a.mine.roads.l.getD k default).closed=true then Jpd a v k
  else if (a.mine.roads.l.getD k default).fr=(v:Int)∨(a.mine.roads.l.getD k default).to=(v:Int) then Jpd a v k ++ [((Uy a k).length:Int)]
  else Jpd a v k
def Vua (a : XAir) : ∀ k, (Uy a k).length ≤ k
 | 0=>by simp [Uy]
 | k + 1=>by
  have:=Vua a k
  simp only [Uy]
  split
  ·omega
  ·simp;omega
def Kya (a : XAir) (v : Nat) : ∀ k, (Jpd a v k).length ≤ k
 | 0=>by simp [Jpd]
 | k + 1=>by
  have:=Kya a v k
  simp only [Jpd]
  split
  ·omega
  ·split
   ·simp;omega
   ·omega
structure XNet where
 pipes:Arr XPipe
 at_:Arr (Arr Int)
abbrev XNet.val (n:XNet):Value:=.agg #[n.pipes.val,n.at_.val]
def XNet.cells (n:XNet):List Value:=[n.pipes.val,n.at_.val]
def Uhf (x:Arr Int):List Value:=[x.val]
abbrev Zma (x:Arr XPipe):Sl:=x.sl 12 XPipe.cells (x.l.map XPipe.sl)
abbrev Yga (x:Arr (Arr Int)):Sl:=x.sl 1 Uhf (x.l.map isl)
structure NetIs (a:XAir) (s:XSetting) (n:XNet):Prop where
 nums:n.pipes.l.map XPipe.num=(Uy a a.mine.roads.l.length).map fun (i:Nat)=>(i:Int)
 pipe:∀p∈n.pipes.l,PipeIs a s p.num p
 atl:n.at_.l.length=a.mine.places.l.length
 at_:∀(v:Nat) (x:Arr Int),n.at_.l[v]?=some x→x.l=Jpd a v a.mine.roads.l.length
structure MF (a:XAir) (s:XSetting) (k:Nat) (F:List (OwL XBlow)):Prop where
 len:F.length=a.mine.roads.l.length
 ok:∀(r:Nat) (p:OwL XBlow),F[r]?=some p→p.ok 5 XBlow.cells∧p.l=blowsTo a s r k
def MF.zero (a:XAir) (s:XSetting):MF a s 0 (List.replicate a.mine.roads.l.length OwL.nil):=by exact uaz
def MF.stay {a:XAir} {s:XSetting} {k:Nat} {F:List (OwL XBlow)} (h:MF a s k F) (hs:s.fans.l.getD k 0=0):MF a s (k + 1) F:=by refine ⟨h.len,fun r p hp=>?_⟩;rw [blowsTo,if_neg (fun h=>h.1 hs)];exact h.ok r p hp
def MF.next {a : XAir} {s : XSetting} {k : Nat} {F : List (OwL XBlow)} (h : MF a s k F) (hs : ¬ s.fans.l.getD k 0 = 0) {i : Nat} (hi : (i : Int) = (a.fans.l.getD k default).road) {p : OwL XBlow} (hp : F[i]? = some p) {o : Ow}
 (ho:(⟨o,p.l ++ [⟨a.fans.l.getD k default,s.fans.l.getD k 0⟩]⟩:OwL XBlow).ok 5 XBlow.cells):MF a s (k + 1) (F.set i ⟨o,p.l ++ [⟨a.fans.l.getD k default,s.fans.l.getD k 0⟩]⟩):=by
 refine ⟨by simp [h.len],fun r q hq=>?_⟩;rw [yK] at hq;split at hq;·
  rename_i hri;subst hri;split at hq;·cases hq;refine ⟨ho,?_⟩;dsimp only;rw [blowsTo,if_pos ⟨hs,hi.symm⟩,(h.ok i p hp).2]
  ·cases hq
 ·rename_i hri;rw [blowsTo,if_neg (fun h=>hri za)];exact h.ok r q hq
structure MA (a:XAir) (k:Nat) (G:List (OwL Int)):Prop where
 len:G.length=a.mine.places.l.length
 ok:∀(v:Nat) (p:OwL Int),G[v]?=some p→p.ok 1 Jo∧p.l=Jpd a v k
def MA.zero (a:XAir):MA a 0 (List.replicate a.mine.places.l.length OwL.nil):=by exact uaz
def MA.stay {a:XAir} {k:Nat} {G:List (OwL Int)} (h:MA a k G) (hc:(a.mine.roads.l.getD k default).closed=true):MA a (k + 1) G:=by refine ⟨h.len,fun v p hp=>?_⟩;rw [Jpd,if_pos hc];exact h.ok v p hp
def MA.next {a : XAir} {k : Nat} {G : List (OwL Int)} (h : MA a k G) (hc : ¬ (a.mine.roads.l.getD k default).closed = true) {i j : Nat} (hi : (i : Int) = (a.mine.roads.l.getD k default).fr) (hj : (j : Int) = (a.mine.roads.l.getD k default).to) (hne : i ≠ j)
 {p q:OwL Int} (hp:G[i]?=some p) (hq:G[j]?=some q) {o o':Ow} {n:Int} (hn:n=((Uy a k).length:Int)) (ho:(⟨o,p.l ++ [n]⟩:OwL Int).ok 1 Jo) (ho':(⟨o',q.l ++ [n]⟩:OwL Int).ok 1 Jo):
 MA a (k + 1) ((G.set i ⟨o,p.l ++ [n]⟩).set j ⟨o',q.l ++ [n]⟩):=by
 refine ⟨by simp [h.len],fun v x hx=>?_⟩;rw [Jpd,if_neg hc];rw [yK] at hx;split at hx;·
  rename_i hv;subst hv;split at hx;·cases hx;refine ⟨ho',?_⟩;dsimp only;rw [if_pos (.inr hj.symm),(h.ok j q hq).2,hn]
  ·cases hx
 ·
  rename_i hv;rw [yK] at hx;split at hx;·
   rename_i hv2;subst hv2;split at hx;·cases hx;refine ⟨ho,?_⟩;dsimp only;rw [if_pos (.inl hi.symm),(h.ok i p hp).2,hn]
   ·cases hx
  ·rename_i hv2;rw [if_neg za];exact h.ok v x hx
structure MP (a:XAir) (s:XSetting) (S:LS) (k:Nat) (P:OwL XPipe):Prop where
 ok:P.ok 12 XPipe.cells
 nums:P.l.map XPipe.num=(Uy a k).map fun (i:Nat)=>(i:Int)
 pipe:∀p∈P.l,PipeIs a s p.num p∧InR p.sl S
def MP.length {a:XAir} {s:XSetting} {S:LS} {k:Nat} {P:OwL XPipe} (h:MP a s S k P):P.l.length=(Uy a k).length:=by have:=congrArg List.length h.nums;simpa using this
def MP.zero (a:XAir) (s:XSetting) (S:LS):MP a s S 0 OwL.nil:=⟨OwL.nil_ok,rfl,fun _ h=>by cases h⟩
def MP.stay {a:XAir} {s:XSetting} {S:LS} {k:Nat} {P:OwL XPipe} (h:MP a s S k P) (hc:(a.mine.roads.l.getD k default).closed=true):MP a s S (k + 1) P:=
 ⟨h.ok,by rw [Uy,if_pos hc];exact h.nums,h.pipe⟩
def MP.next {a:XAir} {s:XSetting} {S:LS} {k:Nat} {P:OwL XPipe} (h:MP a s S k P) (hc:¬ (a.mine.roads.l.getD k default).closed=true) {p:XPipe} (hp:PipeIs a s k p) (hs:InR p.sl S) {o:Ow} (ho:(⟨o,P.l ++ [p]⟩:OwL XPipe).ok 12 XPipe.cells):
 MP a s S (k + 1) ⟨o,P.l ++ [p]⟩:=by
 refine ⟨ho,?_,fun q hq=>?_⟩;·rw [Uy, if_neg hc];simp [h.nums,hp.num]
 ·
  rcases List.mem_append.1 hq with hq | hq;·exact h.pipe q hq
  ·rw [List.mem_singleton.1 hq];refine ⟨?_,hs⟩;rw [hp.num];exact hp
def Uqc {α:Type} {T:TypeId} {f:α→List Value} (n:Nat):(List.replicate n (OwL.nil:OwL α)).flatMap (OwL.L T f)=[]:=by
 induction n with
 | zero=>rfl
 | succ n ih=>rw [yob,yM,ih];rfl
def K7c {α:Type} (n:Nat):Vhb [.slice none 0 0] n=(List.replicate n (OwL.nil:OwL α)).flatMap Kjb:=Yhb (f:=Kjb) (x:=OwL.nil) rfl n
def Kce (n:Nat):Vhb [.int .i64 0,.int .i64 0] n=(List.replicate n (⟨0,0⟩:XSpan)).flatMap XSpan.cells:=Yhb (f:=XSpan.cells) (x:=⟨0,0⟩) rfl n
end Go.Proofs.YtchfclmokpbldaaGreat
end
section
namespace Go.Proofs.YtchfclmokpbldaaGreat
open Go.Aw Go
set_option maxRecDepth 20000
attribute [local irreducible] CJ LJ DJ Tri YV Gives U0 J3 Kj Uz RV J5 OwL.L
def Vgc (a:XAir) (s:XSetting) (L:LB) (R:LS) (hm:AirR a R) (hs:SetR s R) (ha:AirOk a) (hf:FitOk a s):
 Tri Tryz.prog 113 [a.val,s.val].toArray L R (fun v M U=>∃n:XNet,v=n.val∧NetIs a s n∧L=M∧Zma n.pipes :: Yga n.at_ :: R=U):=by
 have hmr:=hm.roads;have hmp:=hm.places;have hfa:=hm.fans;have hdo:=hm.doors;have hsf:=hs.fans;have hsd:=hs.doors;have hnd:=ha.ndoors;have hnf:=ha.nfans;have hlf:=hf.lf;have hld:=hf.ld;have hnr:=ha.mine.roads;have hnp:=ha.mine.places;refine Jj 181 Tryz.call113 Tryz.func113 rfl rfl rfl ?_;apply (Xaf);intro b2;apply (qax);intro b3;apply (qaq);intro b4;apply qam∘Xb6∘qc7;rintro v M U ⟨b20,rfl,rfl,hR20⟩;replace hR20:=hR20.symm;subst hR20;apply qc4∘qam∘Xb6∘qc7;rintro v M U ⟨b25,rfl,rfl,hR25⟩;replace hR25:=hR25.symm;subst hR25;apply Xb0∘Xaw;refine Jp [(2,.pointer _),(3,.pointer _),(4,.pointer _),(5,.slice _ _ _),(6,.slice _ _ _),(27,.slice _ _ _),(28,.int _ _),(29,.int _ _)] zh fun tq0=>?_;refine Vx ([7,8,9]++rg 29 35) ((⟨fun g=>[(29,.int .i64 ((g.1:Nat):Int))],fun g=>⟨b25,Vhb [.slice none 0 0] a.mine.roads.l.length,223⟩ :: ⟨b20,(Zc a s g.1).flatMap XSpan.cells,90⟩ :: ⟨b4,[.slice none 0 0,.slice none 0 0],221⟩ :: ⟨b3,s.cells,80⟩ :: ⟨b2,a.cells,32⟩ :: L,fun _=>R,fun g=>a.doors.l.length - g.1⟩:Head {k:Nat // k≤a.doors.l.length})) (⟨0,by omega⟩) zh (by dsimp only;rw [Zc,← Kce];exact yx _) ztb ?_;rintro ⟨k,hk⟩ junk;try dsimp only
 apply (Xak);refine q_c ?_ ?_<;>intro hc0;·
  have hd:=Jw (l:=a.doors.l) (k:=k) default za;have hsk:=Jw (l:=s.doors.l) (k:=k) 0 za;have hdk:=ha.door _ _ hd;have hdr:=hdk.1.road;have hrl:=Jxa a s k;obtain ⟨y,hy,hy1,hy2⟩:=Jkb (s:=s) ha (r:=(a.doors.l.getD k default).road.toNat) za k za;have hyb:=Z3 (s:=s) ha (r:=(((a.doors.l.getD k default).road.toNat:Nat):Int)) za k za;have hrb:=U7b hdk.1 (s.doors.l.getD k 0);have hrr:=(ha.mine.road _ _ (Jw (l:=a.mine.roads.l) (k:=(a.doors.l.getD k default).road.toNat) default za)).rest;have hyg:(Zc a s k).getD (a.doors.l.getD k default).road.toNat default=y:=getD_some hy;apply Xa0∘qa3∘qdk∘qaq;intro b8;apply qad∘Xc3;refine Kp tb [0,1,2,3,4,5,6,7,8] _ K3 zc ye ?_;refine K2 zkb rfl rfl rfl ?_;apply Xb4∘qb5∘qbl;refine q_d rfl (Jef (a.doors.l.getD k default) (s.doors.l.getD k 0) _ _ (hdo.door hd)) ?_;apply (qbr);intro b9;apply qbg∘qb9∘Ycf∘Xcw∘Jmf∘qcv∘qcr∘Xar∘qcj∘Jmf∘qcv∘qba;refine Zi (v:=Value.int _ _) rfl rfl rfl rfl zy zO (by exact K2a (x':=⟨y.low + (Zqa (a.doors.l.getD k default) (s.doors.l.getD k 0)).low,y.high⟩) yf ze zg zb) zb zi ?_;apply (qbu);obtain ⟨y2,hy2e⟩:∃y2:XSpan,y2=⟨y.low + (Zqa (a.doors.l.getD k default) (s.doors.l.getD k 0)).low,y.high⟩:=⟨_,rfl⟩;have hy':((Zc a s k).set (a.doors.l.getD k default).road.toNat ⟨y.low + (Zqa (a.doors.l.getD k default) (s.doors.l.getD k 0)).low,y.high⟩)[(a.doors.l.getD k default).road.toNat]?=some y2:=by rw [hy2e];exact yH za
  have hy2h:y2.high=y.high:=by rw [hy2e]
  apply Ycf∘Xcw∘Jmf∘qcv∘qcr∘Xar∘qcj∘Jmf∘qcv∘qba;refine Zi (v:=Value.int _ _) rfl rfl rfl rfl zy zO (by exact K2a (x':=⟨y2.low,y2.high + (Zqa (a.doors.l.getD k default) (s.doors.l.getD k 0)).high⟩) yf ze zg zb) zb zi ?_;apply (Xda);subst hy2e;exact Kr ⟨k + 1,by omega⟩ zm zh (by dsimp only;rw [yIa,Zc];(try dsimp only);rw [hyg];exact zi) ztb zx
 obtain rfl:k=a.doors.l.length:=by omega
 apply qcf∘Xaw;refine Jp [(2,.pointer _),(3,.pointer _),(4,.pointer _),(5,.slice _ _ _),(6,.slice _ _ _),(65,.slice _ _ _),(66,.int _ _),(67,.int _ _)] zh fun tq1=>?_;refine Vx ([10,11]++rg 67 30) ((⟨fun g=>[(67,.int .i64 ((g.1.1:Nat):Int))],fun g=>⟨b25,g.1.2.flatMap Kjb,223⟩ :: ⟨b20,(Zc a s a.doors.l.length).flatMap XSpan.cells,90⟩ :: ⟨b4,[.slice none 0 0,.slice none 0 0],221⟩ :: ⟨b3,s.cells,80⟩ :: ⟨b2,a.cells,32⟩ :: (g.1.2.flatMap (OwL.L 292 XBlow.cells) ++ L),fun _=>R,fun g=>a.fans.l.length - g.1.1⟩:Head {g:Nat×List (OwL XBlow) // g.1≤a.fans.l.length∧MF a s g.1 g.2})) (⟨(0,List.replicate a.mine.roads.l.length OwL.nil),by omega,MF.zero a s⟩) zh (by dsimp only;rw [Uqc,← K7c];exact yx _) ztb ?_;rintro ⟨⟨k,F⟩,hk,hF⟩ junk;try dsimp only
 dsimp only at hk hF;apply (Xak);refine q_c ?_ ?_<;>intro hc1;·
  have hd:=Jw (l:=a.fans.l) (k:=k) default za;have hsk:=Jw (l:=s.fans.l) (k:=k) 0 za;have hdk:=ha.fan _ _ hd;have hdr:=hdk.1.road;have hFl:=hF.len;have hfl:(a.fans.l.getD k default).road.toNat < F.length:=by omega
  obtain ⟨p,hp⟩:=Ky hfl;have hpk:=hF.ok _ _ hp;have hpl:=Uoa (a:=a) (s:=s) (r:=(((a.fans.l.getD k default).road.toNat:Nat):Int)) k;rw [← hpk.2] at hpl;apply Xa0∘qa3∘Xdb;intro b11;apply qad∘Xay∘Xam∘qa3∘qa7∘Xao;refine q_c ?_ ?_<;>intro hc2;·refine Kh tb [78,79,80] [0,1,2,3,4,5,6,7,8,9,10,11,12,13,14,15] [16,17,18] ([Blk.mk b11 _ _,Blk.mk b25 _ _,Blk.mk b3 _ _]) _ K3 zc zi (by (repeat (first | apply List.Sublist.cons (a:=Blk.mk b25 _ _) | apply List.Sublist.cons_cons));exact yx _) ?_;refine V2 zMc rfl rfl rfl rfl ?_;apply Xc9∘Xcw;refine Ku zsc rfl rfl rfl rfl ?_;apply qcr∘qde∘Xdc∘qc5∘qci;refine Ku (Kf (qs:=[(0,(Value.agg _).cells.toList),(1,(Value.int _ _).cells.toList)]) (out:=[_,_,_,_,_]) tb rfl rfl rfl rfl) rfl rfl rfl rfl ?_;refine K0d zcc rfl rfl rfl ?_;rintro v M U ⟨b93,rfl,rfl,hR93⟩;replace hR93:=hR93.symm;subst hR93;apply (Xc0);refine Z4b (Kb (f:=XBlow.cells) (a:=⟨a.fans.l.getD k default,s.fans.l.getD k 0⟩) tb rfl rfl rfl rfl (hpk.1) zj zxb rfl zA) rfl rfl rfl ?_;rintro v M U ⟨o94,rfl,hok94,rfl,rfl⟩;apply (qa1);refine K2 zsc rfl rfl rfl ?_;refine Zi (v:=Value.slice _ _ _) rfl rfl rfl rfl zy zO (by exact K2a (x':=⟨o94,p.l ++ [⟨a.fans.l.getD k default,s.fans.l.getD k 0⟩]⟩) yf ze zg zb) zb zi ?_;apply (Xda);exact uaR
  apply (Xax);exact uaR
 obtain rfl:k=a.fans.l.length:=by omega
 apply qbk∘Xb6∘qc7;rintro v M U ⟨b101,rfl,rfl,hR101⟩;replace hR101:=hR101.symm;subst hR101;refine Jx (Kf (qs:=[(1,(Value.slice _ _ _).cells.toList)]) (out:=[_,_]) tb rfl rfl rfl rfl) rfl ?_;apply (qaq);intro b12;apply Xa8∘qab∘Xaw;refine Jp [(4,.pointer _),(5,.slice _ _ _),(6,.slice _ _ _),(12,.pointer _),(105,.slice _ _ _),(106,.int _ _),(107,.int _ _)] zh fun tq2=>?_;have mem:∀p∈F,∃r:Nat,F[r]?=some p:=fun p hp=>List.mem_iff_getElem?.1 hp;refine Uqe (A:=[_,_,_,_,_,_,_]) (wd:=5) (fun b=>b.fan.sl) yf ze (fun p hp=>?okF) (fun p hp x hx=>?subF) fun S hS=>?_;case okF=>obtain ⟨r,hr⟩:=mem p hp;exact (hF.ok r p hr).1
 case subF=>obtain ⟨r,hr⟩:=mem p hp;rw [(hF.ok r p hr).2] at hx;obtain ⟨i,hi⟩:=Vja _ (yl _) x hx;exact hfa.fan hi
 apply (qb1);have hmr2:InR (rsl a.mine.roads) (S ++ R):=hmr.mono fun r h=>Ja (by simp [h]);refine Vx ([13,14,15]++rg 107 73) ((⟨fun g=>[(107,.int .i64 ((g.1.1:Nat):Int))],fun g=>⟨b12,[g.1.2.1.val,.slice (some ⟨b101,0,none⟩) a.mine.places.l.length a.mine.places.l.length],221⟩ :: ⟨b101,g.1.2.2.flatMap Kjb,40⟩ :: ⟨b25,F.flatMap Kjb,223⟩ :: ⟨b20,(Zc a s a.doors.l.length).flatMap XSpan.cells,90⟩ :: ⟨b4,[.slice none 0 0,.slice none 0 0],221⟩ :: ⟨b3,s.cells,80⟩ :: ⟨b2,a.cells,32⟩ :: (g.1.2.1.L 225 XPipe.cells ++ (g.1.2.2.flatMap (OwL.L 3 Jo) ++ L)),fun _=>S ++ R,fun g=>a.mine.roads.l.length - g.1.1⟩:Head {g:Nat×OwL XPipe×List (OwL Int) // g.1≤a.mine.roads.l.length∧MP a s S g.1 g.2.1∧MA a g.1 g.2.2})) (⟨(0,OwL.nil,List.replicate a.mine.places.l.length OwL.nil),by dsimp only;omega,MP.zero a s S,MA.zero a⟩) zh (by dsimp only;rw [Ki,Uqc,← K7c];exact yx _) ztb ?_;rintro ⟨⟨k,P,G⟩,hk,hP,hG⟩ junk;try dsimp only
 dsimp only at hk hP hG;apply (Xak);refine q_c ?_ ?_<;>intro hc3;·
  have hr:=Jw (l:=a.mine.roads.l) (k:=k) default za;have hro:=ha.mine.road _ _ hr;have hr1:=hro.fr;have hr2:=hro.to;have hr3:=hro.ne;have hrr:=hro.rest;have hGl:=hG.len;have hFl:=hF.len;have hPl:=hP.length;have hol:=Vua a k;have hkF:k < F.length:=by omega
  obtain ⟨fk,hfk⟩:=Ky hkF;have hfk2:=hF.ok _ _ hfk;have hg1:(a.mine.roads.l.getD k default).fr.toNat < G.length:=by omega
  have hg2:(a.mine.roads.l.getD k default).to.toNat < G.length:=by omega
  obtain ⟨p,hp⟩:=Ky hg1;obtain ⟨q,hq⟩:=Ky hg2;have hpk:=hG.ok _ _ hp;have hqk:=hG.ok _ _ hq;have hpl:=Kya a (a.mine.roads.l.getD k default).fr.toNat k;have hql:=Kya a (a.mine.roads.l.getD k default).to.toNat k;rw [← hpk.2] at hpl;rw [← hqk.2] at hql;have hne:(a.mine.roads.l.getD k default).fr.toNat≠(a.mine.roads.l.getD k default).to.toNat:=by omega
  obtain ⟨y,hy,hy1,hy2⟩:=Jkb (s:=s) ha (r:=k) za a.doors.l.length za;have hyb:=Z3 (s:=s) ha (r:=((k:Nat):Int)) za a.doors.l.length za;have hrl:=Jxa a s a.doors.l.length;apply Xa0∘qa3∘qc8∘qaq;intro b14;apply qad∘Xa8∘Xaa∘qaf;refine q_c ?_ ?_<;>intro hc4;·refine Ug (Kw (Kd (Jc (Jh ?_))));apply (Xae);exact uan
  apply qbv∘Xab∘Xb5;refine Kh tb [117,118,119,120] [0,1,2,3,4,5,6,7,8,9,10,11] [12,13,14] ([Blk.mk b14 _ _,Blk.mk b12 _ _,Blk.mk b101 _ _]) _ K3 zc zi zOa ?_;apply Xc9∘Xc9∘Xar∘Xar;refine Ku zpc rfl rfl rfl rfl ?_;apply qcr∘qbf∘qc9;rintro v M U ⟨b128,rfl,rfl,hR128⟩;replace hR128:=hR128.symm;subst hR128;apply (Xc0);refine Z4b (Kb (f:=Jo) (a:=(P.l.length:Int)) tb rfl rfl rfl rfl (hpk.1) zj zxb rfl zA) rfl rfl rfl ?_;rintro v M U ⟨o129,rfl,hok129,rfl,rfl⟩;apply (qa1);refine K2 zpc rfl rfl rfl ?_;refine Zi (v:=Value.slice _ _ _) rfl rfl rfl rfl zy zO (by exact K2a (x':=⟨o129,p.l ++ [(P.l.length:Int)]⟩) yf ze zg zb) zb zi ?_;apply (qb9);have hq':(G.set (a.mine.roads.l.getD k default).fr.toNat ⟨o129,p.l ++ [(P.l.length:Int)]⟩)[(a.mine.roads.l.getD k default).to.toNat]?=some q:=by rw [yda hne];exact hq
  refine Kh tb [131,132,133,134] [0,1,2,3,4,5,6,7,8,9,10,11] [12,13,14] ([Blk.mk b14 _ _,Blk.mk b12 _ _,Blk.mk b101 _ _]) _ K3 zc zi zOa ?_;apply Xc9∘Xc9∘Xar∘Xar;refine Ku zqc rfl rfl rfl rfl ?_;apply qcr∘qbf∘qc9;rintro v M U ⟨b142,rfl,rfl,hR142⟩;replace hR142:=hR142.symm;subst hR142;apply (Xc0);refine Z4b (Kb (f:=Jo) (a:=(P.l.length:Int)) tb rfl rfl rfl rfl (hqk.1) zj zxb rfl zA) rfl rfl rfl ?_;rintro v M U ⟨o143,rfl,hok143,rfl,rfl⟩;apply (qa1);refine K2 zqc rfl rfl rfl ?_;refine Zi (v:=Value.slice _ _ _) rfl rfl rfl rfl zy zO (by exact K2a (x':=⟨o143,q.l ++ [(P.l.length:Int)]⟩) yf ze zg zb) zb zi ?_;apply qb9∘V1f∘qan∘Xar∘Xdd∘Vbf∘qcv∘qcr∘qcj∘qan∘qan∘qba∘qb6∘qb9∘V1f∘qan∘Xar∘Xdd∘Vbf∘qcv∘qcr∘qcj∘qan∘qan∘qba∘qb6∘qbu;refine Kh tb [] [0,1,2,3,4,5,6,7,8,9] [10,11,12] ([Blk.mk b14 _ _,Blk.mk b12 _ _,Blk.mk b25 _ _]) _ K3 zc zi yd ?_;apply (Xar);refine Ku (Jm (row:=[_,_,_,_,_,_,_,_,_,_]) tb rfl rfl rfl zf zb zb) rfl rfl rfl rfl ?_;apply qbf∘Xdd∘Vbf∘qcr;refine Ku (Kf (qs:=[(0,(Value.agg _).cells.toList),(1,(Value.int _ _).cells.toList),(2,(Value.slice _ _ _).cells.toList)]) (out:=[_,_,_,_,_,_,_,_,_,_,_,_]) tb rfl rfl rfl rfl) rfl rfl rfl rfl ?_;refine K0d (J0 (qs:=[(0,(Value.agg _).cells.toList)]) (out:=[_,_,_,_,_,_,_,_,_,_,_,_]) tb rfl rfl rfl rfl rfl rfl rfl) rfl rfl rfl ?_;rintro v M U ⟨b176,rfl,rfl,hR176⟩;replace hR176:=hR176.symm;subst hR176;apply (Xc0);refine Z4b (Kb (f:=XPipe.cells) (a:=⟨{ a.mine.roads.l.getD k default with rest:=⟨(a.mine.roads.l.getD k default).rest.low + y.low,(a.mine.roads.l.getD k default).rest.high + y.high⟩ },(k:Int),fk.arr⟩) tb rfl rfl rfl rfl (hP.ok) zj zxb rfl zA) rfl rfl rfl ?_;rintro v M U ⟨o177,rfl,hok177,rfl,rfl⟩;apply qa1∘Xc1∘Xda;exact uan
 obtain rfl:k=a.mine.roads.l.length:=by omega
 apply (qc3);have hGl:=hG.len;refine Vla (A:=[_,_,_,_,_,_,_]) (wd:=12) (P.l.map XPipe.sl) yf ze hP.ok (fun x hx=>?subP) ?_;case subP=>obtain ⟨p,hp,rfl⟩:=List.mem_map.1 hx;exact (hP.pipe p hp).2.mono fun r h=>Ja (by simp [h])
 apply (qb1);refine J8c (A:=[_,_,_,_,_,_,_]) (wd:=1) yf ze (fun p hp=>?okG) fun S2 hS2=>?_;case okG=>obtain ⟨r,hr⟩:=List.mem_iff_getElem?.1 hp;exact (hG.ok r p hr).1
 apply (qb1);refine V5b (A:=[_]) (wd:=1) (len:=(G.map OwL.arr).length) (cap:=a.mine.places.l.length) (rows:=(G.map OwL.arr).map Uhf) (subs:=(G.map OwL.arr).map isl) zo zD za (fun r hr=>?w1) ze ?cs1 (fun x hx=>?subG) ?_;case w1=>obtain ⟨y,_,rfl⟩:=List.mem_map.1 hr;rfl
 case cs1=>rw [Jzb,List.flatMap_map,yG (by rw [Uo (wd:=1) (fun _=>rfl)];simp)];rfl
 case subG=>exact zId
 apply qb1∘qay∘Xde;refine Kq (M:=L) (U:=Zma P.arr :: Yga ⟨some ⟨b101,0,none⟩,a.mine.places.l.length,G.map OwL.arr⟩ :: R) zDc ?hp ?hL ?hR;case hp=>
  refine ⟨⟨P.arr,⟨some ⟨b101,0,none⟩,a.mine.places.l.length,G.map OwL.arr⟩⟩,?_,⟨hP.nums,fun p hp=>(hP.pipe p hp).1,by simp [hGl],fun v x hx=>?_⟩,rfl,rfl⟩;·simp only [XNet.val, Arr.val, yz, hGl];rfl
  ·dsimp only at hx;exact zQd
 case hL=>exact zi
 case hR=>exact fun r hr=>Ja (by simp only [yaa,yUa] at hr ⊢;rcases hr with h | h | h <;> simp [h])
end Go.Proofs.YtchfclmokpbldaaGreat
end
section
namespace Go.Proofs.YtchfclmokpbldaaGreat
open Go.Aw Go
set_option maxRecDepth 20000
attribute [local irreducible] CJ LJ DJ Tri YV Gives U0 J3 Kj Uz RV J5 OwL.L
def Zda {a : XAir} {i : Nat} : ∀ {k : Nat}, i ∈ Uy a k ↔ i < k ∧ (a.mine.roads.l.getD i default).closed = false
 | 0=>by simp [Uy]
 | k + 1=>by
  have ih:=Zda (a:=a) (i:=i) (k:=k)
  simp only [Uy]
  by_cases hc:(a.mine.roads.l.getD k default).closed=true
  ·rw [if_pos hc, ih]
   constructor
   ·rintro ⟨h1,h2⟩;exact ⟨by omega,h2⟩
   ·rintro ⟨h1, h2⟩
    refine ⟨?_,h2⟩
    rcases Nat.lt_or_eq_of_le (Nat.le_of_lt_succ h1) with h | h
    ·exact h
    ·subst h;rw [hc] at h2;cases h2
  ·rw [if_neg hc, yUa, ih, yUb]
   constructor
   ·rintro (⟨h1, h2⟩ | rfl)
    ·exact ⟨by omega,h2⟩
    ·exact ⟨by omega,by simpa using hc⟩
   ·rintro ⟨h1, h2⟩
    rcases Nat.lt_or_eq_of_le (Nat.le_of_lt_succ h1) with h | h
    ·exact .inl ⟨h,h2⟩
    ·exact .inr h
def NetIs.find {a:XAir} {s:XSetting} {n:XNet} (h:NetIs a s n) {r:Int} (hr:0≤r∧r < a.mine.roads.l.length) (hc:(a.mine.roads.l.getD r.toNat default).closed=false):∃(j:Nat) (p:XPipe),n.pipes.l[j]?=some p∧p.num=r:=by
 have h1:r.toNat∈Uy a a.mine.roads.l.length:=Zda.2 ⟨by omega,hc⟩;have h2:r∈n.pipes.l.map XPipe.num:=by rw [h.nums];exact List.mem_map.2 ⟨_,h1,by omega⟩
 obtain ⟨p,hp,he⟩:=List.mem_map.1 h2;obtain ⟨j,hj⟩:=List.mem_iff_getElem?.1 hp;exact ⟨j,p,hj,he⟩
def NetIs.open {a:XAir} {s:XSetting} {n:XNet} (h:NetIs a s n) {p:XPipe} (hp:p∈n.pipes.l):(0≤p.num∧p.num < a.mine.roads.l.length)∧(a.mine.roads.l.getD p.num.toNat default).closed=false:=by have h2:p.num∈n.pipes.l.map XPipe.num:=List.mem_map.2 ⟨p,hp,rfl⟩;rw [h.nums] at h2;obtain ⟨i,hi,he⟩:=List.mem_map.1 h2;obtain ⟨h3,h4⟩:=Zda.1 hi;rw [← he];exact ⟨by omega,by simpa using h4⟩
def NetIs.length {a:XAir} {s:XSetting} {n:XNet} (h:NetIs a s n):n.pipes.l.length≤a.mine.roads.l.length:=by have:=congrArg List.length h.nums;simp only [yz] at this;have:=Vua a a.mine.roads.l.length;omega
def InR.pipe {x:Arr XPipe} {R:LS} (h:InR (Zma x) R) {i:Nat} {p:XPipe} (hi:x.l[i]?=some p):InR p.sl R:=
 h.sub (.deep (List.mem_map.2 ⟨p,yj hi,rfl⟩) .here)
def Zmc {l:List Int} (h:l.findSome? Vj=none):∀(i:Nat) (p:Int),l[i]?=some p→-70368744177664≤p∧p≤70368744177664:=fun i p hp=>by
 have:=List.findSome?_eq_none_iff.1 h p (yj hp)
 unfold Vj at this
 split at this
 ·cases this
 ·omega
end Go.Proofs.YtchfclmokpbldaaGreat
end
section
namespace Go.Proofs.YtchfclmokpbldaaGreat
open Go.Aw Go
set_option maxRecDepth 20000
attribute [local irreducible] CJ LJ DJ Tri YV Gives U0 J3 Kj Uz RV J5 OwL.L
def CodesR.mono {x:Arr Int} {R U:LS} (h:CodesR x R) (k:∀r∈R,InR r U):CodesR x U:=⟨h.sl.mono k,h.byte⟩
structure MadeCurve (l:List XPoint):Prop where
 len:1≤l.length∧l.length≤4
 ok:CurveOk l
 top:(l.getD 0 default).pres≤3000
structure MadeDoor (road:Int) (d:XDoor):Prop where
 road:d.road=road
 other:d.other= -1
 len:2≤d.rests.l.length∧d.rests.l.length≤4
 rest:∀(i:Nat) (v:Int),d.rests.l[i]?=some v→0≤v∧v≤900
 falls:Klb d.rests.l d.rests.l.length=true
end Go.Proofs.YtchfclmokpbldaaGreat
end
section
namespace Go.Proofs.YtchfclmokpbldaaGreat
open Go.Aw Go
set_option maxRecDepth 20000
attribute [local irreducible] CJ LJ DJ Tri YV Gives U0 J3 Kj Uz RV J5 OwL.L
end Go.Proofs.YtchfclmokpbldaaGreat
end
section
namespace Go.Proofs.YtchfclmokpbldaaGreat
open Go.Aw Go
end Go.Proofs.YtchfclmokpbldaaGreat
end
section
namespace Go.Proofs.YtchfclmokpbldaaGreat
open Go.Aw Go
set_option maxRecDepth 20000
attribute [local irreducible] CJ LJ DJ Tri YV Gives U0 J3 Kj Uz RV J5 OwL.L
end Go.Proofs.YtchfclmokpbldaaGreat
end
section
namespace Go.Proofs.YtchfclmokpbldaaGreat
open Go.Aw Go
def Krb {α β:Type} {f:α→Option β} {l:List α} (h:∀x∈l,f x=none):l.findSome? f=none:=List.findSome?_eq_none_iff.2 h
def Kve {a:XAir} {s:XSetting} (h:FitOk a s):Yfa a s=true:=by
 have h1:=h.lf;have h2:=h.ld;rw [Vjb h1 h2,Krb (fun x hx=>?_),Krb (fun i hi=>?_)];·rfl
 ·have hi := List.mem_range.1 hi;obtain ⟨y,hy⟩:=Ky hi;obtain ⟨d,hd⟩:=Ky (l:=a.doors.l) (k:=i) za;have:=h.door i y d hy hd;rw [Yja hy hd];exact if_neg za
 ·obtain ⟨j, hj⟩ := List.mem_iff_getElem?.1 hx;have:=h.fan j x hj;unfold J2b;exact if_neg za
structure MadeA (a:XAir) (t:XSetting) (x:XState):Prop where
 err:K1 a=0
 fit:Yfa a t=true
 fits:Kjg a t x=0
 nplaces:1≤a.mine.places.l.length∧a.mine.places.l.length≤6
 nroads:a.mine.roads.l.length≤9
 nfans:a.fans.l.length≤2
 ndoors:a.doors.l.length≤2
 small:∀(i:Nat) (r:XRoad),a.mine.roads.l[i]?=some r→(-260000000≤r.lift.low∧r.lift.high≤260000000)∧r.rest.high≤22
 curve:∀f∈a.fans.l,MadeCurve f.curve.l
 rests:∀d∈a.doors.l,MadeDoor d.road d
 press:∀p∈x.pres.l,-4000≤p∧p≤4000
 surf0:(a.mine.places.l.getD 0 default).surface=true
 shaft:∀v:Nat,v < a.mine.places.l.length→(a.mine.places.l.getD v default).surface=false→∃k u:Nat,k < a.mine.roads.l.length∧(a.mine.places.l.getD u default).surface=true∧(a.mine.roads.l.getD k default).closed=false∧(((a.mine.roads.l.getD k default).fr=(v:Int)∧(a.mine.roads.l.getD k default).to=(u:Int))∨((a.mine.roads.l.getD k default).fr=(u:Int)∧(a.mine.roads.l.getD k default).to=(v:Int)))
end Go.Proofs.YtchfclmokpbldaaGreat
end
section
namespace Go.Proofs.YtchfclmokpbldaaGreat
open Go.Aw Go
set_option maxRecDepth 20000
attribute [local irreducible] CJ LJ DJ Tri YV Gives U0 J3 Kj Uz RV J5 OwL.L
end Go.Proofs.YtchfclmokpbldaaGreat
end
section
namespace Go.Proofs.YtchfclmokpbldaaGreat
open Go.Aw Go
set_option maxRecDepth 20000
attribute [local irreducible] CJ LJ DJ Tri YV Gives U0 J3 Kj Uz RV J5 OwL.L
abbrev Ue (y:Arr Int):Arr Int:=⟨y.a,y.cap,y.l.take 300⟩
def Jxe (y:Arr Int) (L:LB) (R:LS) (hy:CodesR y R):
 Tri Tryz.prog 14 [y.val].toArray L R (fun v M U=>∃c,v=.pointer (some ⟨c,0,none⟩)∧CodesR (Ue y) U∧cblk c (Ue y) 0 :: L=M∧bsl (Ue y) :: R=U):=by have hsl:=hy.sl;refine Zba Tryz.call14 hsl fun hyn=>?_;refine Jj 10 Tryz.call14 Tryz.func14 rfl rfl rfl ?_;apply qae∘qc1∘qa4;refine Vzd 300 hsl ?_;apply Xcy∘Xaq;refine Jx (Zib rfl rfl) rfl ?_;refine Jx (Ufb tb rfl rfl rfl rfl (n:=(y.l.take 300).length) (by rw [yYa];omega) (by rw [yYa];omega)) rfl ?_;refine Jx (Kf (qs:=[(0,(Value.slice _ _ _).cells.toList)]) (out:=[_,_]) tb rfl rfl rfl rfl) rfl ?_;apply (qax);intro b9;apply qc1∘qa0;refine q_r (cblk b9 (Ue y) 0 :: L) (bsl (Ue y) :: R) (Yc rfl (Jg zEb)) ?_;exact ⟨b9,rfl,⟨Ja zo,fun i b hb=>by rw [ysa] at hb;split at hb;exact hy.byte i b hb;cases hb⟩,rfl,rfl⟩
end Go.Proofs.YtchfclmokpbldaaGreat
end
section
namespace Go.Proofs.YtchfclmokpbldaaGreat
open Go.Aw Go
set_option maxRecDepth 20000
attribute [local irreducible] CJ LJ DJ Tri YV Gives U0 J3 Kj Uz RV J5 OwL.L
def Jzf:SpanEq Tryz.prog 90:=
 J3e (I:=3) zc zc zc zc zc
def J2a {a:XAir} {R U:LS} (h:AirR a R) (k:∀r∈R,InR r U):AirR a U:=⟨h.places.mono k,h.roads.mono k,h.fans.mono k,h.doors.mono k⟩
def Yla {s:XSetting} {R U:LS} (h:SetR s R) (k:∀r∈R,InR r U):SetR s U:=⟨h.fans.mono k,h.doors.mono k⟩
end Go.Proofs.YtchfclmokpbldaaGreat
end
