/-
  Merged texts. By an AI agent.
-/
import Derived.Test.YtchfclmokpbldaaGreatDrawR
import Derived.Test.YtchfclmokpbldaaGreatFits
import Derived.Test.YtchfclmokpbldaaGreatWinR
set_option linter.all false
set_option maxHeartbeats 4000000
set_option maxRecDepth 20000
namespace Go.Proofs.YtchfclmokpbldaaGreat
open Go.Aw Go
section
attribute [local irreducible] CJ LJ DJ Tri YV Gives Uq J2 Km Ur RV J4 OwL.L
section
variable {A B:Prop}
def Ueg(h:A→B:=by exact Jo rfl (Jta zp hx hk za) rfl):=h
def Vzg(h:A→B:=by exact Jy zrc rfl):=h
end
def Z2f {c:Nat} {x:Arr Int} {k:Nat} {L:LB} {F:List Value→LB} {R:LS} (hu:USeg c (U6 x k) 168 L F) (hx:CodesR x R) (hk:k≤x.l.length):
 Tri Tryz.prog 94 [.pointer (some ⟨c, 0, none⟩)].toArray L R
  (fun v M U=>∃(r:Int) (k':Nat),v=.int .i64 r∧(-1≤r∧r≤1)∧k'≤x.l.length∧F (U6 x k')=M∧R=U):=by refine Jd 6 Tryz.call94 Tryz.func94 rfl rfl rfl ?_;apply Xac∘Xdd;refine Jo rfl (Yg hu hx hk za) rfl ?_;rintro v M U ⟨r1,k1,rfl,g1,g1',g1'',hk1,rfl,rfl⟩;have g1q:=g1' za;apply qa9∘Xai;refine q_i (F (U6 x k1)) R ?_;exact ⟨r1 - 1,k1,rfl,by omega,hk1,rfl,rfl⟩
structure LevD (l:XLevel):Prop where
 cut:1≤l.cut∧l.cut≤120
 clear:0≤l.clear∧l.clear < l.cut
 delay:0≤l.delay∧l.delay≤11
def LevD.ok {l:XLevel} (h:LevD l):Yr l:=by have h1:=h.cut;have h2:=h.clear;have h3:=h.delay;rw [Yr];omega
def Vrc (c:Nat) (x:Arr Int) (k:Nat) (R:LS) (hx:CodesR x R) (hk:k≤x.l.length):
 Tri Tryz.prog 173 [.pointer (some ⟨c, 0, none⟩)].toArray [cblk c x k] R
  (fun v M U=>∃(l:XLevel) (k':Nat),v=l.val∧LevD l∧k'≤x.l.length∧cblk c x k' :: []=M∧R=U):=by refine Jd 15 Tryz.call173 Tryz.func173 rfl rfl rfl ?_;apply (Xco);intro b2;apply Xdd∘Ueg;rintro v M U ⟨r1,k1,rfl,g1,g1',hk1,rfl,rfl⟩;apply (qa6);refine Jo rfl (Yg zp hx hk1 za) rfl ?_;rintro v M U ⟨r2,k2,rfl,g2,g2',g2'',hk2,rfl,rfl⟩;have g2q:=g2' za;refine Jy (J8 (qs:=[(0,(Value.int _ _).cells.toList),(2,(Value.int _ _).cells.toList)]) (out:=[_,_,_]) tb rfl rfl rfl rfl) rfl ?_;apply (qaq);intro b3;apply Xa0∘qa6∘Xaa;refine Jo rfl (Yg zp hx hk2 za) rfl ?_;rintro v M U ⟨r3,k3,rfl,g3,g3',g3'',hk3,rfl,rfl⟩;have g3q:=g3' za;apply (Xd7);refine Jy zrb rfl ?_;apply (Xbd);refine q_r [cblk c x k3] R (Va rfl zsb) ?_;exact ⟨⟨r1,r3,r2⟩,k3,rfl,⟨by dsimp only;omega,by dsimp only;omega,by dsimp only;omega⟩,hk3,rfl,rfl⟩
def Uug {c:Nat} {x:Arr Int} {k:Nat} {L:LB} {F:List Value→LB} {R:LS} (hu:USeg c (U6 x k) 168 L F) (hx:CodesR x R) (hk:k≤x.l.length):
 Tri Tryz.prog 173 [.pointer (some ⟨c, 0, none⟩)].toArray L R
  (fun v M U=>∃(l:XLevel) (k':Nat),v=l.val∧LevD l∧k'≤x.l.length∧F (U6 x k')=M∧R=U):=
 (Tri.at1 (Post' := fun v cs' U => ∃ (l : XLevel) (k' : Nat), v = l.val ∧ LevD l ∧ k' ≤ x.l.length ∧ cs' = U6 x k' ∧ R = U) hu (Vrc c x k R hx hk)
  (fun v M U ⟨y,k',h1,h2,h5,h6,h7⟩=>⟨_,h6,y,k',h1,h2,h5,rfl,h7⟩)).mono
  (fun v M U ⟨cs',h0,y,k',h1,h2,h5,h6,h7⟩=>⟨y,k',h1,h2,h5,by rw [← h6];exact h0,h7⟩)
def Kqd {c:Nat} {x:Arr Int} {k:Nat} {kind address target:Int} {L:LB} {F:List Value→LB} {R:LS} (hu:USeg c (U6 x k) 168 L F) (hx:CodesR x R) (hk:k≤x.l.length):
 Tri Tryz.prog 91 [.pointer (some ⟨c, 0, none⟩), .int .i64 kind, .int .i64 address, .int .i64 target].toArray L R
  (fun v M U=>∃(s:XSens) (k':Nat),v=s.val∧SensD kind address target s∧k'≤x.l.length∧F (U6 x k')=M∧R=U):=
 (Tri.at1 (Post' := fun v cs' U => ∃ (s : XSens) (k' : Nat), v = s.val ∧ SensD kind address target s ∧ k' ≤ x.l.length ∧ cs' = U6 x k' ∧ R = U) hu (J8c c x k kind address target R hx hk)
  (fun v M U ⟨y,k',h1,h2,h5,h6,h7⟩=>⟨_,h6,y,k',h1,h2,h5,rfl,h7⟩)).mono
  (fun v M U ⟨cs',h0,y,k',h1,h2,h5,h6,h7⟩=>⟨y,k',h1,h2,h5,by rw [← h6];exact h0,h7⟩)
structure CondD (S:List XSens) (n:Nat) (c:XCond):Prop where
 err:Kt S n c=0
 value:0≤c.value∧c.value≤60
 level:LevD c.level
def Zse {S:List XSens} {n:Nat} {c:XCond} (hk:c.kind=1∨c.kind=2∨c.kind=4∨c.kind=5) (hv:0≤c.value∧c.value≤60) (hl:LevD c.level) (ht:0≤c.target∧c.target < if c.kind=5 then (n:Int) else S.length):CondD S n c:=by
 refine ⟨?_,hv,hl⟩;have hb:Ko S n c=0:=by
  rw [Ko];rcases hk with h | h | h | h;·exact ubm
  ·exact ubm
  ·exact ubm
  ·rw [if_pos h] at ht;rw [if_neg za,if_neg za,if_pos h,if_pos za]
 rw [Kt,if_neg za,if_neg za,Y1,if_pos hl.ok];split <;> rfl
def Uge {S:List XSens} {n:Nat} {c:XCond} {i:Nat} (hk:c.kind=3) (hv:0≤c.value∧c.value≤60) (hl:LevD c.level) (ht:c.target=(i:Int)) (hi:i < S.length) (hs:(S.getD i default).kind=5):CondD S n c:=by
 refine ⟨?_,hv,hl⟩;have hb:Ko S n c=0:=by rw [Ko,if_neg za,if_pos hk,if_pos];refine ⟨by omega,?_⟩;rw [ht,yD];exact hs
 rw [Kt,if_neg za,if_neg za,if_neg za]
def J3d (c:Nat) (x:Arr Int) (k:Nat) (s:XSite) (R:LS) (hx:CodesR x R) (hk:k≤x.l.length) (hs:InR (Kcd s.sensors) R) (hn:1≤s.sensors.l.length∧s.sensors.l.length≤1000) (hr:1≤s.air.mine.roads.l.length∧s.air.mine.roads.l.length≤1000):
 Tri Tryz.prog 92 [.pointer (some ⟨c, 0, none⟩), s.val].toArray [cblk c x k] R
  (fun v M U=>∃(z:XCond) (k':Nat),v=z.val∧CondD s.sensors.l s.air.mine.roads.l.length z∧k'≤x.l.length∧cblk c x k' :: []=M∧R=U):=by
 refine Jd 54 Tryz.call92 Tryz.func92 rfl rfl rfl ?_;apply (Xaf);intro b3;apply (qaq);intro b4;apply Xdd∘Ueg;rintro v M U ⟨r1,k1,rfl,g1,g1',hk1,rfl,rfl⟩;apply (qa6);refine Jo rfl (Jta zp hx hk1 za) rfl ?_;rintro v M U ⟨r2,k2,rfl,g2,g2',hk2,rfl,rfl⟩;apply (qa6);refine Jo rfl (Uug zp hx hk2) rfl ?_;rintro v M U ⟨l,k3,rfl,hl,hk3,rfl,rfl⟩;refine Jy (J8 (qs:=[(0,(Value.int _ _).cells.toList),(2,(Value.int _ _).cells.toList),(3,(Value.agg _).cells.toList)]) (out:=[_,_,_,_,_,_]) tb rfl rfl rfl rfl) rfl ?_;apply (qaq);intro b5;apply Xdl∘Xbm;refine Yj ([6]++rg 18 18) ((⟨fun _=>[],fun g=>⟨b5,XCond.cells ⟨g.1,0,r2,l⟩,102⟩ :: ⟨b4,[.int .i64 0,.int .i64 0,.int .i64 0,.int .i64 0,.int .i64 0,.int .i64 0],102⟩ :: ⟨b3,s.cells,38⟩ :: cblk c x k3 :: [],fun _=>R,fun _=>0⟩:Head {g:Int // g=1∨g=2∨g=4∨g=5})) ?_ ?_;·
  skip
  refine q_c ?_ ?_<;>intro hc0;·
   apply qbi∘Xba;refine Vd ([6]++rg 18 18) zJ [(6,.int _ _)] zh fun tq0=>?_;refine q_s ([6]++rg 18 17) (fun g:{j:Nat // j≤s.sensors.l.length}=>[(6,.int .i64 ((g.1:Nat):Int))]) (fun g=>s.sensors.l.length - g.1) (⟨0,by omega⟩) ?_;rintro ⟨j,hj⟩ junk;(try dsimp only);apply Xa1∘Xd8;refine q_c ?_ ?_<;>intro hc1;·
    have hsg:=Jt (l:=s.sensors.l) (k:=j) default za;apply qbb∘Xah;refine Jy zwa rfl ?_;apply Xbx∘Xbm;refine q_c ?_ ?_<;>intro hc2;·apply Xbq∘Xd7∘Vzg∘qak;refine J7 (Jb (K6 (J9 (J6 (Yb (J9 (J6 (Yfb ?_))))))));refine q_r [cblk c x k3] R (Va rfl (Jq (row:=[_,_,_,_,_,_]) tb rfl rfl rfl zf zb zb)) ?_;exact ⟨⟨r1,(j:Int),r2,l⟩,k3,rfl,Uge (i:=j) hc0 zu hl rfl za hc2,hk3,rfl,rfl⟩
    apply qbj∘Xbo;exact q_k (⟨j + 1,by omega⟩)
   refine K7 (Kq (K4 (Kb (Jb (Jh ?_)))));apply Xa5∘qav;exact q_j ⟨1,.inl rfl⟩
  refine J3 ?_;exact q_j ⟨r1,by omega⟩
 rintro ⟨kd,hkd⟩ junk;try dsimp only
 apply qae∘Xab∘Xap∘Xaa∘Xbm;refine Yj [7,42,43,44,45,46] ((⟨fun g=>[(7,.int .i64 g.1)],fun g=>⟨b5,XCond.cells ⟨kd,0,r2,l⟩,102⟩ :: ⟨b4,[.int .i64 0,.int .i64 0,.int .i64 0,.int .i64 0,.int .i64 0,.int .i64 0],102⟩ :: ⟨b3,s.cells,38⟩ :: cblk c x k3 :: [],fun _=>R,fun _=>0⟩:Head {g:Int // g=if kd=5 then (s.air.mine.roads.l.length:Int) else s.sensors.l.length})) ?_ ?_;·
  skip
  refine q_c ?_ ?_<;>intro hc3;·apply (qay);(iterate 3 apply (qab));apply Xdb∘Xaw;exact q_j ⟨(s.air.mine.roads.l.length:Int),by rw [if_pos hc3]⟩
  refine J3 ?_;exact q_j ⟨(s.sensors.l.length:Int),by rw [if_neg hc3]⟩
 rintro ⟨nn,hnn⟩ junk;try dsimp only
 have hnb:1≤nn∧nn≤1000:=by rw [hnn];split <;> omega
 apply Xa1∘Xbm;refine q_c ?_ ?_<;>intro hc4;·(exfalso;omega)
 apply qbv∘Xb6;refine Jo rfl (Yg zp hx hk3 za) rfl ?_;rintro v M U ⟨r3,k4,rfl,g3,g3',g3'',hk4,rfl,rfl⟩;have g3q:=g3' za;apply Xd7∘Vzg∘Xbd;refine q_r [cblk c x k4] R (Va rfl (Jq (row:=[_,_,_,_,_,_]) tb rfl rfl rfl zf zb zb)) ?_;exact ⟨⟨kd,r3,r2,l⟩,k4,rfl,Zse hkd zu hl (by dsimp only;rw [← hnn];omega),hk4,rfl,rfl⟩
def V5g {c:Nat} {x:Arr Int} {k:Nat} {s:XSite} {L:LB} {F:List Value→LB} {R:LS} (hu:USeg c (U6 x k) 168 L F) (hx:CodesR x R) (hk:k≤x.l.length) (hs:InR (Kcd s.sensors) R) (hn:1≤s.sensors.l.length∧s.sensors.l.length≤1000) (hr:1≤s.air.mine.roads.l.length∧s.air.mine.roads.l.length≤1000):
 Tri Tryz.prog 92 [.pointer (some ⟨c, 0, none⟩), s.val].toArray L R
  (fun v M U=>∃(z:XCond) (k':Nat),v=z.val∧CondD s.sensors.l s.air.mine.roads.l.length z∧k'≤x.l.length∧F (U6 x k')=M∧R=U):=
 (Tri.at1 (Post' := fun v cs' U => ∃ (z : XCond) (k' : Nat), v = z.val ∧ CondD s.sensors.l s.air.mine.roads.l.length z ∧ k' ≤ x.l.length ∧ cs' = U6 x k' ∧ R = U) hu (J3d c x k s R hx hk hs hn hr)
  (fun v M U ⟨y,k',h1,h2,h5,h6,h7⟩=>⟨_,h6,y,k',h1,h2,h5,rfl,h7⟩)).mono
  (fun v M U ⟨cs',h0,y,k',h1,h2,h5,h6,h7⟩=>⟨y,k',h1,h2,h5,by rw [← h6];exact h0,h7⟩)
end
section
def Uya (n:Nat):XRoad:=⟨0,(n:Int),10,4,false,false,⟨1,1⟩,⟨0,0⟩⟩
section
variable {a:XAir} {s:XSetting} {x:XState} (h:MadeA a s x) (hr:a.mine.roads.l.length=0)
include h hr
def MadeA.no_fans:a.fans.l=[]:=by
 have ha:=Y0 h.err;cases hf:a.fans.l with
 | nil=>rfl
 | cons f l=>obtain ⟨h1,h2⟩:=ha.fan 0 f (by rw [hf];rfl);have:=h1.road;omega
def MadeA.no_doors:a.doors.l=[]:=by
 have ha:=Y0 h.err;cases hf:a.doors.l with
 | nil=>rfl
 | cons f l=>obtain ⟨h1,h2⟩:=ha.door 0 f (by rw [hf];rfl);have:=h1.road;omega
def MadeA.all_surface (i:Nat) (hi:i < a.mine.places.l.length):(a.mine.places.l.getD i default).surface=true:=by
 cases hs:(a.mine.places.l.getD i default).surface with
 | true=>rfl
 | false=>obtain ⟨k,u,hk,_⟩:=h.shaft i hi hs;omega
def MadeA.all_zero (i:Nat) (hi:i < a.mine.places.l.length):x.pres.l.getD i 0=0:=by
 have hp:=(Vac h.err h.fit h.fits).place i hi;rw [Yf] at hp;split at hp;·cases hp
 ·
  rename_i hn;have:=h.all_surface hr i hi;by_cases hz:x.pres.l.getD i 0=0;·exact hz
  ·exact absurd (.inl ⟨this,hz⟩) hn
end
def Kpd {m:XMine} (h:Un m=0):m.places.l.findSome? Jia=none:=by
 cases hf:m.places.l.findSome? Jia with
 | none=>rfl
 | some e=>
  rw [Un] at h;split at h;·omega
  rw [hf] at h;obtain ⟨p,_,hp⟩:=yy hf;unfold Jia at hp;exact uaQ
def Jid {a:XAir} (h:Kx a=0):Un a.mine=0:=by
 rw [Kx] at h;split at h;·omega
 ·omega
section
variable {a:XAir} {s:XSetting} {x:XState} {P:Arr XPlace} {Rd:Arr XRoad} {Pr Fl:Arr Int} (h:MadeA a s x) (hr:a.mine.roads.l.length=0) (hP:P.l=a.mine.places.l ++ [⟨0,true⟩]) (hR:Rd.l=[Uya a.mine.places.l.length]) (hPr:Pr.l=x.pres.l ++ [0]) (hFl:Fl.l=[0])
include h hr hP hR
def Yfd:Kx ⟨⟨P,Rd⟩,a.fans,a.doors⟩=0:=by
 have hn:=h.nplaces;have hf:=h.no_fans hr;have hd:=h.no_doors hr;have hm:Un ⟨P,Rd⟩=0:=by
  rw [Un,if_neg (by simp only [hP,hR,yj,yn];omega)];dsimp only;rw [hP,List.findSome?_append,Kpd (Jid h.err),hR];show (([Uya a.mine.places.l.length].findSome? (V3 (a.mine.places.l ++ [(⟨0,true⟩:XPlace)]).length)).getD 0)=0;have e:V3 (a.mine.places.l ++ [(⟨0,true⟩:XPlace)]).length (Uya a.mine.places.l.length)=none:=by rw [V3,Uya,if_neg (by simp only [yj,yn];omega),if_neg];dsimp only;decide
  rw [yTb,e];rfl
 rw [Kx,if_neg zu];dsimp only;rw [hf,hd];rfl
include hPr hFl
def Vde:Zhc ⟨⟨P,Rd⟩,a.fans,a.doors⟩ s ⟨Pr,Fl⟩=0:=by
 have hn:=h.nplaces;have hpl:=(Vac h.err h.fit h.fits).plen;have hz:∀i:Nat,i < a.mine.places.l.length + 1→Pr.l.getD i 0=0:=fun i hi=>by
  rw [hPr,yh];rcases yl i x.pres.l.length with h1 | h1;·rw [yz h1, ← yh];exact h.all_zero hr i za
  ·rw [yB h1,show i - x.pres.l.length=0 by omega];rfl
 have hzm:∀p∈Pr.l,p=0:=fun p hp=>by
  obtain ⟨i,hi,rfl⟩:=List.mem_iff_getElem.1 hp;have:Pr.l.length=a.mine.places.l.length + 1:=by rw [hPr,yj,yn];omega
  have:=hz i za;rw [yh,yC hi] at this;exact this
 rw [Urc (Yfd h hr hP hR) (show Uza ⟨⟨P,Rd⟩,a.fans,a.doors⟩ s=true from h.fit) (by simp only [hP,hR,hPr,hFl,yj,yn];omega)];dsimp only;rw [List.findSome?_eq_none_iff.2 (fun p hp=>by rw [hzm p hp];rfl),hFl];have e1:[(0:Int)].findSome? Zea=none:=by decide
 rw [e1];dsimp only;have e2:(List.range [(0:Int)].length).findSome? (Zd ⟨⟨P,Rd⟩,a.fans,a.doors⟩ s ⟨Pr,Fl⟩)=none:=by
  refine List.findSome?_eq_none_iff.2 fun i hi=>?_;obtain rfl:i=0:=by simpa using List.mem_range.1 hi
  rw [Zd];dsimp only;rw [hR,hFl];have e3:K3 ⟨⟨P,Rd⟩,a.fans,a.doors⟩ s ((0:Nat):Int) 0=⟨0,0⟩:=by rw [K3];dsimp only;rw [h.no_fans hr];show innerTo _ s 0 0 0=_;rw [innerTo];dsimp only;rw [h.no_doors hr];show J9c (U4 _ s 0 0) _ 0=_;rw [U4];dsimp only;rw [hR];rfl
  have e4:([(0:Int)]).getD 0 0=0:=rfl;have e5:([Uya a.mine.places.l.length]).getD 0 default=Uya a.mine.places.l.length:=rfl;rw [e4,e5,e3,Uya];dsimp only;rw [show Pr.l.getD (Int.toNat 0) 0=0 from hz 0 za,yD,hz _ (Nat.lt_succ_self _)];rfl
 rw [e2];dsimp only;rw [List.findSome?_eq_none_iff.2 (fun i hi=>?_)];·rfl
 ·
  have hi2 := List.mem_range.1 hi;rw [hPr,yj,yn] at hi2;rw [Yf];dsimp only;rw [hz i za];have hs:(P.l.getD i default).surface=true:=by
   rw [hP,yh];rcases yl i a.mine.places.l.length with h1 | h1;·rw [yz h1, ← yh];exact h.all_surface hr i h1
   ·rw [yB h1,show i - a.mine.places.l.length=0 by omega];rfl
  rw [hs,if_neg zo]
end
end
section
structure AirD (a:XAir) (s:XSetting) (x:XState):Prop where
 err:Kx a=0
 fit:Uza a s=true
 fits:Zhc a s x=0
 nplaces:1≤a.mine.places.l.length∧a.mine.places.l.length≤7
 nroads:1≤a.mine.roads.l.length∧a.mine.roads.l.length≤9
 nfans:a.fans.l.length≤2
 ndoors:a.doors.l.length≤2
def Vkf {a:XAir} {s:XSetting} {x:XState} (h:MadeA a s x) (hr:¬ a.mine.roads.l.length=0):AirD a s x:=by have h1:=h.nplaces;have h2:=h.nroads;exact ⟨h.err,h.fit,h.fits,by omega,by omega,h.nfans,h.ndoors⟩
def Ktf {a:XAir} {s:XSetting} {x:XState} {P:Arr XPlace} {Rd:Arr XRoad} {Pr Fl:Arr Int} (h:MadeA a s x) (hr:a.mine.roads.l.length=0) (hP:P.l=a.mine.places.l ++ [⟨0,true⟩]) (hR:Rd.l=[Uya a.mine.places.l.length]) (hPr:Pr.l=x.pres.l ++ [0]) (hFl:Fl.l=[0]):
 AirD ⟨⟨P,Rd⟩,a.fans,a.doors⟩ s ⟨Pr,Fl⟩:=by
 have h1:=h.nplaces;refine ⟨Yfd h hr hP hR,h.fit,Vde h hr hP hR hPr hFl,?_,?_,h.nfans,h.ndoors⟩;·dsimp only;rw [hP,yj,yn];omega
 ·dsimp only;rw [hR,yn];omega
structure SenK (a:XAir) (i:Nat) (t:XSens):Prop where
 kind:1≤t.kind∧t.kind≤6
 d:SensD t.kind (i:Int) t.target t
 target:0≤t.target∧t.target < Uba a t
def SenL (a:XAir) (l:List XSens):Prop:=∀(i:Nat) (t:XSens),l[i]?=some t→SenK a i t
def SenL.snoc {a:XAir} {l:List XSens} (h:SenL a l) {t:XSens} (ht:SenK a l.length t):SenL a (l ++ [t]):=fun i z hz=>by
 rw [yea] at hz
 split at hz
 ·exact h i z hz
 ·rw [yja] at hz
  split at hz
  ·cases hz
   rename_i h1 h2
   rw [show i=l.length by omega]
   exact ht
  ·cases hz
structure RoadsA (n i:Nat) (l:List Int):Prop where
 len:l.length≤i
 at_:∀k:Nat,k < l.length→0≤l.getD k 0∧l.getD k 0 < n∧l.getD k 0 < i
 up:∀k:Nat,k + 1 < l.length→l.getD k 0 < l.getD (k + 1) 0
def RoadsA.nil {n:Nat}:RoadsA n 0 []:=⟨ym _,fun k hk=>absurd hk zo,fun k hk=>absurd hk zo⟩
def RoadsA.stay {n i:Nat} {l:List Int} (h:RoadsA n i l):RoadsA n (i + 1) l:=⟨by have:=h.len;omega,fun k hk=>by have:=h.at_ k hk;omega,h.up⟩
def RoadsA.next {n i:Nat} {l:List Int} (h:RoadsA n i l) (hi:i < n):RoadsA n (i + 1) (l ++ [(i:Int)]):=by
 have hl:=h.len;have e:∀k:Nat,k < l.length→(l ++ [(i:Int)]).getD k 0=l.getD k 0:=fun k hk=>by rw [yh,yz hk,← yh]
 have e2:(l ++ [(i:Int)]).getD l.length 0=(i:Int):=by rw [yh,yB (ym _),yzb];rfl
 refine ⟨by rw [yj,yn];omega,fun k hk=>?_,fun k hk=>?_⟩;·
  rw [yj, yn] at hk;rcases yl k l.length with h1 | h1;·rw [e k h1];have:=h.at_ k h1;omega
  ·(obtain rfl : k = l.length := by omega);rw [e2];omega
 ·
  rw [yj, yn] at hk;rcases yl (k + 1) l.length with h1 | h1;·rw [e k za,e _ h1];exact h.up k h1
  ·(have hk2 : k + 1 = l.length := by omega);rw [e k za,hk2,e2];have:=h.at_ k za;omega
def RoadsA.good {n i:Nat} {l:List Int} (h:RoadsA n i l) (k:Nat) (hk:k < l.length):¬ V8 n l k:=by
 rw [V8];have h1:=h.at_ k hk;rintro (h2 | ⟨h2,h3⟩);·exact h2 za
 ·have := h.up (k - 1) za;rw [show k - 1 + 1=k by omega] at this;omega
structure ZoneD (conds n:Nat) (z:XZone):Prop where
 rule:RuleD conds 2 z.rule.l
 hold:0≤z.hold∧z.hold≤8
 fresh:0≤z.fresh∧z.fresh≤1
 roads:RoadsA n n z.roads.l
def ZoneD.err {conds n:Nat} {z:XZone} (h:ZoneD conds n z):V4 conds n z=0:=by have h1:=h.hold;have h2:=h.fresh;rw [V4,if_neg (by rw [h.rule.err];decide),if_neg za,if_neg];rintro ⟨i,hi,hb⟩;exact h.roads.good i hi hb
structure SiteD (s:XSite) (u:XSetting) (x:XState):Prop where
 air:AirD s.air u x
 sens:SenL s.air s.sensors.l
 nsens:1≤s.sensors.l.length∧s.sensors.l.length≤8
 cond:∀c∈s.conds.l,CondD s.sensors.l s.air.mine.roads.l.length c
 ncond:1≤s.conds.l.length∧s.conds.l.length≤4
 zone:∀z∈s.zones.l,ZoneD s.conds.l.length s.air.mine.roads.l.length z
 nzone:1≤s.zones.l.length∧s.zones.l.length≤3
 pers:s.persons.l=[1,2,1,3]
def SensD.err {kind address target:Int} {t:XSens} (h:SensD kind address target t) (hk:1≤kind∧kind≤6) (ha:0≤address∧address≤255) (ht:0≤target):U1 t=0:=by obtain ⟨h1,h2,h3,h4,h5,h6,h7,h8⟩:=h;rw [U1,if_neg za,if_pos (by rw [Zn];omega)]
def SiteD.ok {s:XSite} {u:XSetting} {x:XState} (h:SiteD s u x):SiteOk s:=by
 have h1:=h.nsens;have h2:=h.ncond;have h3:=h.nzone;refine ⟨h.air.err,⟨by omega,by omega,by omega,by rw [h.pers];decide⟩,fun i hi=>?_,fun c hc=>(h.cond c hc).err,fun z hz=>(h.zone z hz).err,fun p hp=>?_⟩;·have hs := h.sens i _ (Jt default hi);refine Yvb rfl (hs.d.err hs.kind za hs.target.1) hs.target fun k hk e=>?_;have h5:=h.sens k _ (Jt (l:=s.sensors.l) (k:=k) default za);have e1:=h5.d.address;have e2:=hs.d.address;omega
 ·rw [h.pers] at hp;simp only [yS,yP,or_false] at hp;omega
end
end Go.Proofs.YtchfclmokpbldaaGreat
