/-
  Deep copies of a site and of a station. By an AI agent; no person has read it.
-/
import Derived.Test.YtchfclmokpbldaaGreatLevK
set_option linter.all false
set_option maxHeartbeats 4000000
namespace Go.Proofs.YtchfclmokpbldaaGreat
open Go.Aw Go
section
variable {A B:Prop}
def Jsg(h:A→B:=by exact Jx zB rfl):=h
def Zof(h:A→B:=by exact Jqa zzb rfl):=h
def Jkg(h:A→B:=by exact Jx zob rfl):=h
end
def Tri.postW {P:Program} {f:FuncId} {args:Array Value} {L:LB} {R:LS} {Post Post':Yy} (h:Tri P f args L R Post) (k:∀v M U c w,Post v M U→St c M U w→∃L'' R'',St c L'' R'' w∧Post' v L'' R''):Tri P f args L R Post':=
 ⟨h.1,fun w G hh=>(h.2 w G hh).mono fun _ _ ⟨v,M,U,e,p,s⟩=>let ⟨L'',R'',s',p'⟩:=k v M U _ _ p s;⟨v,L'',R'',e,p',s'⟩⟩
set_option maxRecDepth 20000
attribute [local irreducible] CJ LJ DJ Tri YV Gives U0 J3 Kj Uz RV J5 OwL.L
def Jeb (x:Arr Int) (L:LB) (R:LS) (hx:InR (isl x) R) (hn:x.l.length≤1000):
 Tri Tryz.prog 149 [x.val].toArray L R (fun v M U=>∃o:Ow,v=(⟨o,x.l⟩:OwL Int).val∧(⟨o,x.l⟩:OwL Int).ok 1 Jo∧(⟨o,x.l⟩:OwL Int).L 3 Jo ++ L=M∧R=U):=by refine Jj 5 Tryz.call149 Tryz.func149 rfl rfl rfl ?_;apply Xck∘Xc7;refine Jqa (Kn (f:=Jo) (xs:=x) tb rfl rfl rfl ze rfl rfl (hx) yf za) rfl ?_;rintro v M U ⟨o4,rfl,hok4,rfl,rfl⟩;apply (Xcl);refine q_r ((⟨o4,x.l⟩:OwL Int).L 3 Jo ++ L) R zUc ?_;exact ⟨o4,rfl,hok4,rfl,rfl⟩
structure FansC (l:List XFan) (k:Nat) (R:LS) (pf:OwL XFan) (S:LS):Prop where
 ok:pf.ok 4 XFan.cells
 len:pf.l.length=k
 eq:pf.l.map Ymc=(l.take k).map Ymc
 sub:∀f∈pf.l,InR f.sl S
 ext:∀r∈R,InR r S
structure DoorsC (l:List XDoor) (k:Nat) (R:LS) (pd:OwL XDoor) (S:LS):Prop where
 ok:pd.ok 3 XDoor.cells
 len:pd.l.length=k
 eq:pd.l.map Zsa=(l.take k).map Zsa
 sub:∀f∈pd.l,InR f.sl S
 ext:∀r∈R,InR r S
structure ZonesC (l:List XZone) (k:Nat) (R:LS) (pz:OwL XZone) (S:LS):Prop where
 ok:pz.ok 4 XZone.cells
 len:pz.l.length=k
 eq:pz.l.map Kpb=(l.take k).map Kpb
 sub:∀f∈pz.l,∀s∈XZone.subs f,InR s S
 ext:∀r∈R,InR r S
def Vba {α β:Type} {f:α→β} {l ys:List α} {k:Nat} {x y:α} (h:ys.map f=(l.take k).map f) (hx:l[k]?=some x) (he:f y=f x):(ys ++ [y]).map f=(l.take (k + 1)).map f:=by rw [yfa,hx,yO,yO,h];show _ ++ [f y]=_ ++ [f x];rw [he]
def FansC.next {l:List XFan} {k:Nat} {R S:LS} {pf:OwL XFan} (h:FansC l k R pf S) {x y:XFan} (hx:l[k]?=some x) (he:Ymc y=Ymc x) {o:Ow} (hok:(⟨o,pf.l ++ [y]⟩:OwL XFan).ok 4 XFan.cells):FansC l (k + 1) R ⟨o,pf.l ++ [y]⟩ (y.sl :: S):=
 ⟨hok,by show (pf.l ++ [y]).length=_;rw [yo,h.len];rfl,Vba h.eq hx he,fun f hf=>by
  rcases List.mem_append.1 hf with hf | hf
  ·exact (h.sub f hf).mono fun r hr=>Ja (.tail _ hr)
  ·rw [List.mem_singleton.1 hf];exact Ja (.head _),fun r hr=>(h.ext r hr).mono fun r hr=>Ja (.tail _ hr)⟩
def DoorsC.next {l:List XDoor} {k:Nat} {R S:LS} {pf:OwL XDoor} (h:DoorsC l k R pf S) {x y:XDoor} (hx:l[k]?=some x) (he:Zsa y=Zsa x) {o:Ow} (hok:(⟨o,pf.l ++ [y]⟩:OwL XDoor).ok 3 XDoor.cells):DoorsC l (k + 1) R ⟨o,pf.l ++ [y]⟩ (y.sl :: S):=
 ⟨hok,by show (pf.l ++ [y]).length=_;rw [yo,h.len];rfl,Vba h.eq hx he,fun f hf=>by
  rcases List.mem_append.1 hf with hf | hf
  ·exact (h.sub f hf).mono fun r hr=>Ja (.tail _ hr)
  ·rw [List.mem_singleton.1 hf];exact Ja (.head _),fun r hr=>(h.ext r hr).mono fun r hr=>Ja (.tail _ hr)⟩
def ZonesC.next {l:List XZone} {k:Nat} {R S:LS} {pf:OwL XZone} (h:ZonesC l k R pf S) {x y:XZone} (hx:l[k]?=some x) (he:Kpb y=Kpb x) {o:Ow} (hok:(⟨o,pf.l ++ [y]⟩:OwL XZone).ok 4 XZone.cells):ZonesC l (k + 1) R ⟨o,pf.l ++ [y]⟩ (isl y.roads :: V1e y.rule :: S):=
 ⟨hok,by show (pf.l ++ [y]).length=_;rw [yo,h.len];rfl,Vba h.eq hx he,fun f hf s hs=>by
  rcases List.mem_append.1 hf with hf | hf
  ·exact (h.sub f hf s hs).mono fun r hr=>Ja (.tail _ (.tail _ hr))
  ·rw [List.mem_singleton.1 hf] at hs
   simp only [XZone.subs,yaa,yY,or_false] at hs
   rcases hs with rfl | rfl
   ·exact Ja (.tail _ (.head _))
   ·exact Ja (.head _),fun r hr=>(h.ext r hr).mono fun r hr=>Ja (.tail _ (.tail _ hr))⟩
def Zdc (a:XAir) (L:LB) (R:LS) (ha:AirR a R) (h0:K1 a=0):
 Tri Tryz.prog 226 [a.val].toArray L R (fun v M U=>∃(a':XAir) (S:LS),v=a'.val∧Zb a'=Zb a∧AirR a' (S ++ R)∧L=M∧S ++ R=U):=by
 have hok:=Zj h0;have hnp:=hok.mine.places;have hnr:=hok.mine.roads;have hnf:=hok.nfans;have hnd:=hok.ndoors;have hpR:=ha.places;have hrR:=ha.roads;have hfR:=ha.fans;have hdR:=ha.doors;refine Jj 55 Tryz.call226 Tryz.func226 rfl rfl rfl ?_;apply (Xaf);intro b1;apply (qaq);intro b2;apply (qa4);refine Kp tb [0,1,2,4,5,6,3,7,8,9,10,11] _ K3 zc ye ?_;apply Xc4∘Xc4;refine Z4b (Kn (f:=XPlace.cells) (xs:=a.mine.places) tb rfl rfl rfl ze rfl rfl (hpR) yf za) rfl rfl rfl ?_;rintro v M U ⟨o11,rfl,hok11,rfl,rfl⟩;apply (qa1);refine Z4b (Kn (f:=XRoad.cells) (xs:=a.mine.roads) tb rfl rfl rfl ze rfl rfl (hrR) yf za) rfl rfl rfl ?_;rintro v M U ⟨o15,rfl,hok15,rfl,rfl⟩;apply qa1∘qdq;refine K2 zlc rfl rfl rfl ?_;apply (qbr);intro b3;apply (qbg);refine Jz (Jc (Jr (Jr ?_)));refine Kg (T:=157) (f:=XRoad.cells) (wd:=10) (⟨o15,a.mine.roads.l⟩:OwL XRoad) [] zj yf ze hok15 yg ?_;refine Vf zp ?_;refine Kg (T:=159) (f:=XPlace.cells) (wd:=2) (⟨o11,a.mine.places.l⟩:OwL XPlace) [] zj yf ze hok11 yg ?_;refine Vf zp ?_;obtain ⟨R1,hR1e⟩:∃R1,R1=psl (⟨o11,a.mine.places.l⟩:OwL XPlace).arr :: rsl (⟨o15,a.mine.roads.l⟩:OwL XRoad).arr :: R:=⟨_,rfl⟩;have hR1:∀r∈R,InR r R1:=fun r hr=>Ja (by rw [hR1e];exact .tail _ (.tail _ hr));have hOP:InR (psl (⟨o11,a.mine.places.l⟩:OwL XPlace).arr) R1:=Ja zpa;have hOR:InR (rsl (⟨o15,a.mine.roads.l⟩:OwL XRoad).arr) R1:=Ja zna;refine Vvc zAc ?_;have hfR1:=hfR.mono hR1;have hdR1:=hdR.mono hR1;apply qay∘Xaw;refine Jp [(1,.pointer _),(2,.pointer _),(3,.pointer _),(19,.slice _ _ _),(20,.int _ _),(21,.int _ _)] zh fun tq0=>?_;refine Vx ([5]++rg 21 15) ((⟨fun g=>[(21,.int .i64 ((g.1.1:Nat):Int))],fun g=>⟨b3,[(⟨o11,a.mine.places.l⟩:OwL XPlace).val,(⟨o15,a.mine.roads.l⟩:OwL XRoad).val,g.1.2.1.val,.slice none 0 0],32⟩ :: (g.1.2.1.L 278 XFan.cells ++ (⟨b2,[.slice none 0 0,.slice none 0 0,.slice none 0 0,.slice none 0 0],32⟩ :: ⟨b1,a.cells,32⟩ :: L)),fun g=>g.1.2.2,fun g=>a.fans.l.length - g.1.1⟩:Head {g:Nat×OwL XFan×LS // g.1≤a.fans.l.length∧FansC a.fans.l g.1 R1 g.2.1 g.2.2})) (⟨(0,OwL.nil,R1),by dsimp only;omega,⟨OwL.nil_ok,rfl,rfl,fun f hf=>(by cases hf),Jd _⟩⟩) zh zY ztb ?_;rintro ⟨⟨k,pf,S⟩,hk,hF⟩ junk;try dsimp only
 dsimp only at hk hF;have hFok:=hF.ok;have hFn:=hF.len;have hfR2:=hfR1.mono hF.ext;apply (Xak);refine q_c ?_ ?_<;>intro hc0;·have hg:=Jw (l:=a.fans.l) (k:=k) default za;obtain ⟨x,hx⟩:∃x,x=a.fans.l.getD k default:=⟨_,rfl⟩;rw [← hx] at hg;have hxR:=InR.fan hfR2 hg;have hxn:=(hok.fan k x hg).1.len8;apply qbb∘Jsg∘Xdb;intro b5;apply (Xbx);refine Jqa (Kn (f:=XPoint.cells) (xs:=x.curve) tb rfl rfl rfl ze rfl rfl (hxR) yf za) rfl ?_;rintro v M U ⟨o27,rfl,hok27,rfl,rfl⟩;apply (Xbn);refine J6 (Jc (Jh ?_));apply Xaa∘qa8∘Zof;rintro v M U ⟨b32,rfl,rfl,hR32⟩;replace hR32:=hR32.symm;subst hR32;refine Jqa (Kb (f:=XFan.cells) (p:=pf) (a:=⟨x.road,x.back,x.aux,(⟨o27,x.curve.l⟩:OwL XPoint).arr⟩) tb rfl rfl rfl rfl (hFok) zj zxb rfl zA) rfl ?_;rintro v M U ⟨o33,rfl,hok33,rfl,rfl⟩;apply (Xbn);refine J6 (Jk (Jc ?_));refine Kg (T:=319) (f:=XPoint.cells) (wd:=2) (⟨o27,x.curve.l⟩:OwL XPoint) [] zj yf ze hok27 yg ?_;refine Vf zp ?_;apply qay∘Xae;exact q_k ⟨(k + 1,⟨o33,pf.l ++ [_]⟩,_),by dsimp only;omega,hF.next (y:=⟨x.road,x.back,x.aux,(⟨o27,x.curve.l⟩:OwL XPoint).arr⟩) hg rfl hok33⟩
 obtain rfl:k=a.fans.l.length:=by omega
 have hdR2:=hdR1.mono hF.ext;apply qcf∘Xaw;refine Jp [(2,.pointer _),(3,.pointer _),(37,.slice _ _ _),(38,.int _ _),(39,.int _ _)] zh fun tq1=>?_;refine Vx ([7]++rg 39 15) ((⟨fun g=>[(39,.int .i64 ((g.1.1:Nat):Int))],fun g=>⟨b3,[(⟨o11,a.mine.places.l⟩:OwL XPlace).val,(⟨o15,a.mine.roads.l⟩:OwL XRoad).val,pf.val,g.1.2.1.val],32⟩ :: (g.1.2.1.L 239 XDoor.cells ++ (pf.L 278 XFan.cells ++ (⟨b2,[.slice none 0 0,.slice none 0 0,.slice none 0 0,.slice none 0 0],32⟩ :: ⟨b1,a.cells,32⟩ :: L))),fun g=>g.1.2.2,fun g=>a.doors.l.length - g.1.1⟩:Head {g:Nat×OwL XDoor×LS // g.1≤a.doors.l.length∧DoorsC a.doors.l g.1 S g.2.1 g.2.2})) (⟨(0,OwL.nil,S),by dsimp only;omega,⟨OwL.nil_ok,rfl,rfl,fun f hf=>(by cases hf),Jd _⟩⟩) zh zY ztb ?_;rintro ⟨⟨j,pd,S2⟩,hj,hD⟩ junk;try dsimp only
 dsimp only at hj hD;have hDok:=hD.ok;have hDn:=hD.len;have hdR3:=hdR2.mono hD.ext;apply (Xak);refine q_c ?_ ?_<;>intro hc1;·have hg:=Jw (l:=a.doors.l) (k:=j) default za;obtain ⟨x,hx⟩:∃x,x=a.doors.l.getD j default:=⟨_,rfl⟩;rw [← hx] at hg;have hxR:=InR.door hdR3 hg;have hxn:=(hok.door j x hg).1.len;apply (qbb);refine Jx zLa rfl ?_;apply qdk∘qaq;intro b7;apply (Xbx);refine Jy rfl (Jeb x.rests _ _ hxR za) rfl ?_;rintro v M U ⟨od,rfl,hokd,rfl,rfl⟩;apply (Xbn);refine J6 (Jc (Jh ?_));apply (Xaa);refine Jx zkb rfl ?_;refine Jqa zAb rfl ?_;rintro v M U ⟨b50,rfl,rfl,hR50⟩;replace hR50:=hR50.symm;subst hR50;refine Jqa (Kb (f:=XDoor.cells) (p:=pd) (a:=⟨x.road,x.other,(⟨od,x.rests.l⟩:OwL Int).arr⟩) tb rfl rfl rfl rfl (hDok) zj zxb rfl zA) rfl ?_;rintro v M U ⟨o51,rfl,hok51,rfl,rfl⟩;apply (Xbn);refine J6 (Jk (Jc ?_));refine Kg (T:=3) (f:=Jo) (wd:=1) (⟨od,x.rests.l⟩:OwL Int) [] zj yf ze hokd yg ?_;refine Vf zp ?_;apply qay∘Xae;exact q_k ⟨(j + 1,⟨o51,pd.l ++ [_]⟩,_),by dsimp only;omega,hD.next (y:=⟨x.road,x.other,(⟨od,x.rests.l⟩:OwL Int).arr⟩) hg rfl hok51⟩
 obtain rfl:j=a.doors.l.length:=by omega
 refine Kg (T:=278) (f:=XFan.cells) (wd:=4) pf (pf.l.map XFan.sl) zj yf ze hF.ok (fun s hs=>by obtain ⟨f,hf,rfl⟩:=List.mem_map.1 hs;exact (hF.sub f hf).mono hD.ext) ?_;refine Vf zp ?_;refine Kg (T:=239) (f:=XDoor.cells) (wd:=3) pd (pd.l.map XDoor.sl) zj yf ze hD.ok (fun s hs=>by obtain ⟨f,hf,rfl⟩:=List.mem_map.1 hs;exact (hD.sub f hf).mono fun r hr=>Ja (.tail _ hr)) ?_;refine Vf zp ?_;apply qbk∘qa8∘Xbr;refine Kq (M:=L) (U:=(dsl pd.arr :: fsl pf.arr :: S2) ++ R) (Yc rfl zvb) ?hp ?hL ?hR;case hp=>
  exact ⟨⟨⟨(⟨o11,a.mine.places.l⟩:OwL XPlace).arr,(⟨o15,a.mine.roads.l⟩:OwL XRoad).arr⟩,pf.arr,pd.arr⟩,dsl pd.arr :: fsl pf.arr :: S2,rfl,by
  rw [Zb,Zb];refine congr (congr (congrArg XAir.mk rfl) ?_) ?_;·show (⟨none, 0, pf.l.map Ymc⟩ : Arr XFan) = _;rw [hF.eq,yG (yl _)]
  ·show (⟨none, 0, pd.l.map Zsa⟩ : Arr XDoor) = _;rw [hD.eq,yG (yl _)],⟨((hOP.mono hF.ext).mono hD.ext).mono fun r hr=>Ja (.tail _ (.tail _ (ym _ hr))),((hOR.mono hF.ext).mono hD.ext).mono fun r hr=>Ja (.tail _ (.tail _ (ym _ hr))),Ja (.tail _ (.head _)),Ja (.head _)⟩,rfl,rfl⟩
 case hL=>exact zi
 case hR=>
  exact fun r hr=>by
   rcases List.mem_append.1 hr with h | h;·exact Ja h
   ·exact (((hR1 r h).mono hF.ext).mono hD.ext).mono fun r hr=>Ja (.tail _ (.tail _ hr))
def Ykc {n : Nat} {l : List Int} (h : ∀ i : Nat, i < l.length → ¬ Yi n l i) : ∀ i : Nat, i < l.length → (i : Int) ≤ l.getD i 0 ∧ l.getD i 0 < n
 | 0,hi=>by have:=h 0 hi;rw [Yi] at this;omega
 | i + 1,hi=>by
  have h1:=Ykc h i za
  have h2:=h (i + 1) hi
  rw [Yi,Nat.add_sub_cancel] at h2
  omega
def Zjd {n m:Nat} {z:XZone} (h:Yx n m z=0):z.rule.l.length≤64∧z.roads.l.length≤m + 1:=by
 rw [Yx] at h;split at h;·omega
 rename_i h1;split at h;·cases h
 split at h;·cases h
 rename_i h3;have h1:Jna z.rule.l n=0:=Decidable.not_not.1 h1;refine ⟨?_,?_⟩;·
  rw [Jna] at h1;split at h1;·cases h1
  ·rename_i h4;(have h4:Ufa z.rule.l=true:=by simpa using h4);rw [Ufa,yn,decide_eq_true_eq] at h4;omega
 ·
  rcases yk (m + 1) z.roads.l.length with hl | hl;·have := Ykc (n := m) (l := z.roads.l) (fun i hi hb => h3 ⟨i, hi, hb⟩) (m + 1) hl;omega
  ·exact hl
def K6c (s:XSite) (L:LB) (R:LS) (hs:SiteR s R) (h0:K6 s=0):
 Tri Tryz.prog 148 [s.val].toArray L R (fun v M U=>∃(s':XSite) (S:LS),v=s'.val∧SiteE s' s∧SiteR s' (S ++ R)∧L=M∧S ++ R=U):=by
 have hok:=Zz h0
 have hln:=hok.len
 have hnr:=(Zj hok.air).mine.roads
 have hsR:=hs.sensors
 have hcR:=hs.conds
 have hzR:=hs.zones
 have hpR:=hs.persons
 refine Jj 42 Tryz.call148 Tryz.func148 rfl rfl rfl ?_
 apply (Xaf)
 intro b1
 apply (qaq)
 intro b2
 apply (qa4)
 refine Kp tb [0,1,3,4,6,7,9,10,2,5,8,11,12,13,14] _ K3 zc ye ?_
 apply qal∘qbc∘Xan∘Xan∘Xan
 refine Yj rfl (Zdc s.air _ _ hs.air hok.air) rfl rfl ?_
 rintro v M U ⟨a',Sa,rfl,hba,haR,rfl,rfl⟩
 refine ⟨zi,zw,?_⟩
 have hRa:∀r∈R,InR r (Sa ++ R):=fun r hr=>Ja (yi _ hr)
 have hsR1:=hsR.mono hRa
 have hcR1:=hcR.mono hRa
 have hpR1:=hpR.mono hRa
 have hzR1:=hzR.mono hRa
 refine Z4b (Kn (f:=XSens.cells) (xs:=s.sensors) tb rfl rfl rfl ze rfl rfl (hsR1) yf za) rfl rfl rfl ?_
 rintro v M U ⟨o11,rfl,hok11,rfl,rfl⟩
 apply (qa1)
 refine Z4b (Kn (f:=XCond.cells) (xs:=s.conds) tb rfl rfl rfl ze rfl rfl (hcR1) yf za) rfl rfl rfl ?_
 rintro v M U ⟨o14,rfl,hok14,rfl,rfl⟩
 apply (qa1)
 refine Z4b (Kn (f:=Jo) (xs:=s.persons) tb rfl rfl rfl ze rfl rfl (hpR1) yf za) rfl rfl rfl ?_
 rintro v M U ⟨o17,rfl,hok17,rfl,rfl⟩
 apply (qa1)
 refine K2 zGb rfl rfl rfl ?_
 apply (qbr)
 intro b3
 apply (qbg)
 refine Jz (Jc (Jr (Jr ?_)))
 refine Kg (T:=170) (f:=Jo) (wd:=1) (⟨o17,s.persons.l⟩:OwL Int) [] zj yf ze hok17 yg ?_
 refine Vf zp ?_
 refine Kg (T:=102) (f:=XCond.cells) (wd:=6) (⟨o14,s.conds.l⟩:OwL XCond) [] zj yf ze hok14 yg ?_
 refine Vf zp ?_
 refine Kg (T:=88) (f:=XSens.cells) (wd:=8) (⟨o11,s.sensors.l⟩:OwL XSens) [] zj yf ze hok11 yg ?_
 refine Vf zp ?_
 obtain ⟨R1,hR1e⟩:∃R1,R1=Jme (⟨o11,s.sensors.l⟩:OwL XSens).arr :: Vtf (⟨o14,s.conds.l⟩:OwL XCond).arr :: isl (⟨o17,s.persons.l⟩:OwL Int).arr :: (Sa ++ R):=⟨_,rfl⟩
 have hR1:∀r∈Sa ++ R,InR r R1:=fun r hr=>Ja (by rw [hR1e];exact .tail _ (.tail _ (.tail _ hr)))
 have hOS:InR (Jme (⟨o11,s.sensors.l⟩:OwL XSens).arr) R1:=Ja zpa
 have hOC:InR (Vtf (⟨o14,s.conds.l⟩:OwL XCond).arr) R1:=Ja zna
 have hOPS:InR (isl (⟨o17,s.persons.l⟩:OwL Int).arr) R1:=Ja zAa
 refine Vvc zAc ?_
 have hzR2:=hzR1.mono hR1
 have haR2:=J2a haR hR1
 apply qay∘Xaw
 refine Jp [(2,.pointer _),(3,.pointer _),(20,.slice _ _ _),(21,.int _ _),(22,.int _ _)] zh fun tq0=>?_
 refine Vx ([5]++rg 22 19) ((⟨fun g=>[(22,.int .i64 ((g.1.1:Nat):Int))],fun g=>⟨b3,[a'.mine.places.val,a'.mine.roads.val,a'.fans.val,a'.doors.val,(⟨o11,s.sensors.l⟩:OwL XSens).val,(⟨o14,s.conds.l⟩:OwL XCond).val,g.1.2.1.val,(⟨o17,s.persons.l⟩:OwL Int).val],38⟩ :: (g.1.2.1.L 97 XZone.cells ++ (⟨b2,[.slice none 0 0,.slice none 0 0,.slice none 0 0,.slice none 0 0,.slice none 0 0,.slice none 0 0,.slice none 0 0,.slice none 0 0],38⟩ :: ⟨b1,s.cells,38⟩ :: L)),fun g=>g.1.2.2,fun g=>s.zones.l.length - g.1.1⟩:Head {g:Nat×OwL XZone×LS // g.1≤s.zones.l.length∧ZonesC s.zones.l g.1 R1 g.2.1 g.2.2})) (⟨(0,OwL.nil,R1),by dsimp only;omega,⟨OwL.nil_ok,rfl,rfl,fun f hf=>(by cases hf),Jd _⟩⟩) zh zY ztb ?_
 rintro ⟨⟨k,pz,S⟩,hk,hZ⟩ junk
 try dsimp only
 dsimp only at hk hZ
 have hZok:=hZ.ok
 have hZn:=hZ.len
 have hzR3:=hzR2.mono hZ.ext
 apply (Xak)
 refine q_c ?_ ?_<;>intro hc0
 ·
  have hg:=Jw (l:=s.zones.l) (k:=k) default za
  obtain ⟨x,hx⟩:∃x,x=s.zones.l.getD k default:=⟨_,rfl⟩
  rw [← hx] at hg
  have hxr:=InR.rule hzR3 hg
  have hxz:=InR.zroads hzR3 hg
  have hxs:=Zjd (hok.zone x (yj hg))
  apply qbb∘Jsg∘Xdb
  intro b5
  apply (Xc3)
  refine Kh tb [] [0,1,3,4,2,6,5] [7,8,9] (_) _ K3 zc zi yd ?_
  apply Xar∘Xar
  refine K0d (Kn (f:=XNode.cells) (xs:=x.rule) tb rfl rfl rfl ze rfl rfl (hxr) yf za) rfl rfl rfl ?_
  rintro v M U ⟨o28,rfl,hok28,rfl,rfl⟩
  apply qa1∘qan
  refine Up rfl (Jeb x.roads _ _ hxz za) rfl rfl ?_
  rintro v M U ⟨od,rfl,hokd,rfl,rfl⟩
  refine ⟨zi,zw,?_⟩
  apply qba∘qbw∘Xc1
  refine Jz (Jc (Jh ?_))
  apply Xaa∘qa8∘Zof
  rintro v M U ⟨b37,rfl,rfl,hR37⟩
  replace hR37:=hR37.symm;subst hR37
  refine Jqa (Kb (f:=XZone.cells) (p:=pz) (a:=⟨(⟨o28,x.rule.l⟩:OwL XNode).arr,x.hold,(⟨od,x.roads.l⟩:OwL Int).arr,x.fresh⟩) tb rfl rfl rfl rfl (hZok) zj zxb rfl zA) rfl ?_
  rintro v M U ⟨o38,rfl,hok38,rfl,rfl⟩
  apply (Xbn)
  refine J6 (Jk (Jc ?_))
  refine Kg (T:=172) (f:=XNode.cells) (wd:=4) (⟨o28,x.rule.l⟩:OwL XNode) [] zj yf ze hok28 yg ?_
  refine Vf zp ?_
  refine Kg (T:=3) (f:=Jo) (wd:=1) (⟨od,x.roads.l⟩:OwL Int) [] zj yf ze hokd yg ?_
  refine Vf zp ?_
  apply qay∘Xae
  exact q_k ⟨(k + 1,⟨o38,pz.l ++ [_]⟩,_),by dsimp only;omega,hZ.next (y:=⟨(⟨o28,x.rule.l⟩:OwL XNode).arr,x.hold,(⟨od,x.roads.l⟩:OwL Int).arr,x.fresh⟩) hg rfl hok38⟩
 obtain rfl:k=s.zones.l.length:=by omega
 refine Kg (T:=97) (f:=XZone.cells) (wd:=4) pz (pz.l.flatMap XZone.subs) zj yf ze hZ.ok (fun s hs=>by
  obtain ⟨f,hf,hs⟩:=List.mem_flatMap.1 hs
  exact hZ.sub f hf s hs) ?_
 refine Vf zp ?_
 apply qbk∘Jkg∘Xbr
 refine Kq (M:=L) (U:=(Zie pz.arr :: S) ++ R) (Yc rfl (Jq (row:=[_,_,_,_,_,_,_,_]) tb rfl rfl rfl zf zb zb)) ?hp ?hL ?hR
 case hp=>
  exact ⟨⟨a',(⟨o11,s.sensors.l⟩:OwL XSens).arr,(⟨o14,s.conds.l⟩:OwL XCond).arr,pz.arr,(⟨o17,s.persons.l⟩:OwL Int).arr⟩,Zie pz.arr :: S,rfl,by
  show Kx _=Kx _
  rw [Kx,Kx]
  refine congr (congr (congr (congr (congrArg XSite.mk hba) rfl) rfl) ?_) rfl
  show (⟨none,0,pz.l.map Kpb⟩:Arr XZone)=_
  rw [hZ.eq,yG (yl _)],by
  have h5:∀r∈R1,InR r ((Zie pz.arr :: S) ++ R):=fun r hr=>(hZ.ext r hr).mono fun r hr=>Ja (.tail _ (ym _ hr))
  exact ⟨J2a haR2 h5,hOS.mono h5,hOC.mono h5,Ja (.head _),hOPS.mono h5⟩,rfl,rfl⟩
 case hL=>exact zi
 case hR=>
  exact fun r hr=>by
   rcases List.mem_append.1 hr with h | h
   ·exact Ja h
   ·exact (((hRa r h).mono hR1).mono hZ.ext).mono fun r hr=>Ja (.tail _ hr)
structure StaK (x:XSta) (s:XSite) (h:Arr Int) (w:Arr XWatch) (c:Arr XCut) (f:XFeeder) (pm:OwL XMeas) (pl:OwL XEntry) (R:LS):Prop where
 km:pm.ok 4 XMeas.cells
 kl:pl.ok 4 XEntry.cells
 es:SiteE s x.site
 eh:h.l=x.held.l
 ew:w.l=x.watches.l
 ec:c.l=x.cuts.l
 esw:f.switches.l=x.feeder.switches.l
 ezn:f.zones.l=x.feeder.zones.l
 erp:f.reply=x.feeder.reply
 em:pm.l=x.meas.l
 el:pl.l=x.log.l
 site:SiteR s R
 held:InR (bsl h) R
 watches:InR (Jge w) R
 cuts:InR (Unc c) R
 feeder:FeederR f R
def StaK.is {x:XSta} {s:XSite} {h:Arr Int} {w:Arr XWatch} {c:Arr XCut} {f:XFeeder} {pm:OwL XMeas} {pl:OwL XEntry} {R:LS} (k:StaK x s h w c f pm pl R) {g:PSite} {p:PSta} (hx:StaIs g p x):StaIs g p ⟨s,x.time,h,x.dropped,pm.arr,w,c,f,x.rest,pl.arr⟩:=
 ⟨k.es.trans hx.site,hx.time,k.eh.trans hx.held,hx.dropped,k.em.trans hx.meas,k.ew.trans hx.watches,k.ec.trans hx.cuts,k.esw.trans hx.sw,k.ezn.trans hx.zn,k.erp.trans hx.rp,hx.rest,k.el.trans hx.log⟩
structure StaN (x:XSta):Prop where
 ok:K6 x.site=0
 held:x.held.l.length≤1000
 meas:x.meas.l.length≤1000
 watches:x.watches.l.length≤1000
 cuts:x.cuts.l.length≤1000
 sw:x.feeder.switches.l.length≤1000
 zn:x.feeder.zones.l.length≤1000
 log:x.log.l.length≤1000
def StaN.of {g:PSite} {p:PSta} {x:XSta} (hI:Inv g p) (hx:StaIs g p x):StaN x:=by have hln:=hI.sok.len;exact ⟨by rw [hx.site.err];exact hI.site,by rw [hx.held];have:=hI.held.2;omega,by rw [hx.meas,hI.meas];omega,by rw [hx.watches,hI.wlen];omega,by rw [hx.cuts,hI.clen];omega,by rw [hx.sw];have:=hI.fok.sn;omega,by rw [hx.zn];have:=hI.fok.zl;omega,by rw [hx.log];have:=hI.log;omega⟩
structure StaKO (x:XSta) (s:XSite) (h:Arr Int) (f:XFeeder) (pm:OwL XMeas) (pw:OwL XWatch) (pc:OwL XCut) (pl:OwL XEntry) (R:LS):Prop where
 km:pm.ok 4 XMeas.cells
 kw:pw.ok 3 XWatch.cells
 kc:pc.ok 3 XCut.cells
 kl:pl.ok 4 XEntry.cells
 es:SiteE s x.site
 eh:h.l=x.held.l
 ew:pw.l=x.watches.l
 ec:pc.l=x.cuts.l
 esw:f.switches.l=x.feeder.switches.l
 ezn:f.zones.l=x.feeder.zones.l
 erp:f.reply=x.feeder.reply
 em:pm.l=x.meas.l
 el:pl.l=x.log.l
 site:SiteR s R
 held:InR (bsl h) R
 feeder:FeederR f R
def J5b (x:XSta) (L:LB) (R:LS) (hN:StaN x) (hR:StaR x R):
 Tri Tryz.prog 76 [x.val].toArray L R (fun v M U=>∃(s:XSite) (h:Arr Int) (f:XFeeder) (pm:OwL XMeas) (pw:OwL XWatch) (pc:OwL XCut) (pl:OwL XEntry) (S:LS),v=(⟨s,x.time,h,x.dropped,pm.arr,pw.arr,pc.arr,f,x.rest,pl.arr⟩:XSta).val∧StaKO x s h f pm pw pc pl (S ++ R)∧pl.L 150 XEntry.cells ++ (pc.L 71 XCut.cells ++ (pw.L 153 XWatch.cells ++ (pm.L 93 XMeas.cells ++ L)))=M∧S ++ R=U):=by have h1:=hN.held;have h2:=hN.meas;have h3:=hN.watches;have h4:=hN.cuts;have h5:=hN.sw;have h6:=hN.zn;have h7:=hN.log;have hsR:=hR.site;refine Jj 42 Tryz.call76 Tryz.func76 rfl rfl rfl ?_;apply (Xaf);intro b1;apply (qaq);intro b2;apply qam∘qab∘Jkg;refine Jy rfl (K6c x.site _ _ hsR hN.ok) rfl ?_;rintro v M U ⟨s',Ss,rfl,hsE,hsR1,rfl,rfl⟩;have hRs:∀r∈R,InR r (Ss ++ R):=fun r hr=>Ja (yi _ hr);have k1:=hR.held.mono hRs;have k2:=hR.meas.mono hRs;have k3:=hR.watches.mono hRs;have k4:=hR.cuts.mono hRs;have k5:=hR.feeder.sw.mono hRs;have k6:=hR.feeder.zn.mono hRs;have k7:=hR.log.mono hRs;apply (qab);refine K4a tb rfl rfl rfl rfl zy zb zb zb ?_;apply qam∘Xdm;refine Jqa (Kn (f:=Jea) (xs:=x.held) tb rfl rfl rfl ze rfl rfl (k1) yf za) rfl ?_;rintro v M U ⟨o10,rfl,hok10,rfl,rfl⟩;apply qab∘Xbn∘Xcj;refine Jqa (Kn (f:=XMeas.cells) (xs:=x.meas) tb rfl rfl rfl ze rfl rfl (k2) yf za) rfl ?_;rintro v M U ⟨o15,rfl,hok15,rfl,rfl⟩;apply Xbn∘Xcj;refine Jqa (Kn (f:=XWatch.cells) (xs:=x.watches) tb rfl rfl rfl ze rfl rfl (k3) yf za) rfl ?_;rintro v M U ⟨o19,rfl,hok19,rfl,rfl⟩;apply Xbn∘Xcj;refine Jqa (Kn (f:=XCut.cells) (xs:=x.cuts) tb rfl rfl rfl ze rfl rfl (k4) yf za) rfl ?_;rintro v M U ⟨o23,rfl,hok23,rfl,rfl⟩;apply Xbn∘qam∘Xdm;refine Jqa (Kn (f:=XSwitch.cells) (xs:=x.feeder.switches) tb rfl rfl rfl ze rfl rfl (k5) yf za) rfl ?_;rintro v M U ⟨o28,rfl,hok28,rfl,rfl⟩;apply qab∘Xbn∘qam∘Xdm;refine Jy rfl (Jeb x.feeder.zones _ _ k6 za) rfl ?_;rintro v M U ⟨od,rfl,hokd,rfl,rfl⟩;apply qab∘Xbn∘Xcj;refine Jqa (Kn (f:=XEntry.cells) (xs:=x.log) tb rfl rfl rfl ze rfl rfl (k7) yf za) rfl ?_;rintro v M U ⟨o39,rfl,hok39,rfl,rfl⟩;apply Xbn∘qa4;refine Kg (T:=3) (f:=Jo) (wd:=1) (⟨od,x.feeder.zones.l⟩:OwL Int) [] zj yf ze hokd yg ?_;refine Vf zp ?_;refine Kg (T:=76) (f:=XSwitch.cells) (wd:=5) (⟨o28,x.feeder.switches.l⟩:OwL XSwitch) [] zj yf ze hok28 yg ?_;refine Vf zp ?_;refine Kg (T:=5) (f:=Jea) (wd:=1) (⟨o10,x.held.l⟩:OwL Int) [] zj yf ze hok10 yg ?_;refine Vf zp ?_;apply (qay);refine Jx zlb rfl ?_;apply (Xbr);refine q_r ((⟨o39,x.log.l⟩:OwL XEntry).L 150 XEntry.cells ++ ((⟨o23,x.cuts.l⟩:OwL XCut).L 71 XCut.cells ++ ((⟨o19,x.watches.l⟩:OwL XWatch).L 153 XWatch.cells ++ ((⟨o15,x.meas.l⟩:OwL XMeas).L 93 XMeas.cells ++ L)))) ((bsl (⟨o10,x.held.l⟩:OwL Int).arr :: Vcb (⟨o28,x.feeder.switches.l⟩:OwL XSwitch).arr :: isl (⟨od,x.feeder.zones.l⟩:OwL Int).arr :: Ss) ++ R) (Yc rfl zib) ?_;exact ⟨s',(⟨o10,x.held.l⟩:OwL Int).arr,⟨(⟨o28,x.feeder.switches.l⟩:OwL XSwitch).arr,(⟨od,x.feeder.zones.l⟩:OwL Int).arr,x.feeder.reply⟩,(⟨o15,x.meas.l⟩:OwL XMeas),⟨o19,x.watches.l⟩,⟨o23,x.cuts.l⟩,(⟨o39,x.log.l⟩:OwL XEntry),bsl (⟨o10,x.held.l⟩:OwL Int).arr :: Vcb (⟨o28,x.feeder.switches.l⟩:OwL XSwitch).arr :: isl (⟨od,x.feeder.zones.l⟩:OwL Int).arr :: Ss,rfl,⟨hok15,hok19,hok23,hok39,hsE,rfl,rfl,rfl,rfl,rfl,rfl,rfl,rfl,hsR1.mono fun r hr=>Ja (.tail _ (.tail _ (.tail _ hr))),Ja (.head _),⟨Ja (.tail _ (.head _)),Ja (.tail _ (.tail _ (.head _)))⟩⟩,rfl,rfl⟩
def Zq (x:XSta) (L:LB) (R:LS) (hN:StaN x) (hR:StaR x R):
 Tri Tryz.prog 76 [x.val].toArray L R (fun v M U=>∃(s:XSite) (h:Arr Int) (w:Arr XWatch) (c:Arr XCut) (f:XFeeder) (pm:OwL XMeas) (pl:OwL XEntry) (S:LS),v=(⟨s,x.time,h,x.dropped,pm.arr,w,c,f,x.rest,pl.arr⟩:XSta).val∧StaK x s h w c f pm pl (S ++ R)∧pl.L 150 XEntry.cells ++ (pm.L 93 XMeas.cells ++ L)=M∧S ++ R=U):=by refine Tri.postW (J5b x L R hN hR) ?_;rintro v M U c w ⟨s,h,f,pm,pw,pc,pl,S,hv,hK,rfl,rfl⟩ hst;have h1:=hst.perm (yla _ _ _);have h2:=h1.frzO (subs:=[]) hK.kc yf ze yg;have h3:=h2.perm (yla _ _ _);have h4:=h3.frzO (subs:=[]) hK.kw yf ze yg;have h5:∀r∈S ++ R,InR r ((Jge pw.arr :: Unc pc.arr :: S) ++ R):=fun r hr=>Ja (.tail _ (.tail _ hr));exact ⟨_,_,h4,s,h,pw.arr,pc.arr,f,pm,pl,Jge pw.arr :: Unc pc.arr :: S,hv,⟨hK.km,hK.kl,hK.es,hK.eh,hK.ew,hK.ec,hK.esw,hK.ezn,hK.erp,hK.em,hK.el,hK.site.mono h5,hK.held.mono h5,Ja (.head _),Ja (.tail _ (.head _)),hK.feeder.mono h5⟩,rfl,rfl⟩
end Go.Proofs.YtchfclmokpbldaaGreat
