/-
  Merged texts. By an AI agent.
-/
import Derived.Test.YtchfclmokpbldaaGreatTelF
import Derived.Test.YtchfclmokpbldaaGreatLaw11b
import Derived.Test.YtchfclmokpbldaaGreatCloneS
import Derived.Test.YtchfclmokpbldaaGreatDone22
import Derived.Test.YtchfclmokpbldaaGreatRuleP
import Derived.Test.YtchfclmokpbldaaGreatEasyR
import Derived.Test.YtchfclmokpbldaaGreatStrEq
import Derived.Test.YtchfclmokpbldaaGreatSiteD
set_option linter.all false
set_option maxHeartbeats 4000000
set_option maxRecDepth 20000
namespace Go.Proofs.YtchfclmokpbldaaGreat
open Go.Aw Go
section
attribute [local irreducible] CJ LJ DJ Tri YV Gives Ur J3 Ko Uq RV J5 OwL.L
def V7f {a:Int}:a.fdiv (2 ^ (min (8:Int).toNat IntKind.i64.bits))=a / 256:=by show a.fdiv (2 ^ 8)=_;rw [yRa _ ze];rfl
def u8m {a:Int} (h:0≤a∧a < 1048576):IntKind.u8.wrap a=a % 256:=by obtain ⟨n,rfl⟩:∃n:Nat,a=(n:Int):=⟨a.toNat,by omega⟩;unfold IntKind.wrap;simp [IntKind.bits,IntKind.signed]
def u8w {a:Int} (h:0≤a∧a≤255):IntKind.u8.wrap a=a:=by obtain ⟨n,rfl⟩:∃n:Nat,a=(n:Int):=⟨a.toNat,by omega⟩;exact Ktg za
def Tri.lendD {P : Program} {f : FuncId} {args : Array Value} {A : LB} {R : LS} {p : OwL Int} {T : TypeId} {u : Value} (hin : InB (p.L T Vv) A) (hok : p.ok 1 Vv) (h1 : 1 ≤ p.l.length)
 (h:Tri P f args [] (bsl (Zp p.arr 1 1) :: R) (fun v M U=>v=u∧[]=M∧bsl (Zp p.arr 1 1) :: R=U)):Tri P f args A R (fun v M U=>v=u∧A=M∧R=U):=by
 refine Go.Proofs.YtchfclmokpbldaaGreat.Tri.lendU (S:=[bsl (Zp p.arr 1 1)]) (fun w G hh s hs=>?_) h;rw [List.mem_singleton.1 hs];have h0:=Ze hh hin hok yf ze (subs:=[]) yg;have h2:=Yjc h0 (m:=1) ze h1 ze;have e1:p.arr.l.length - 1=(p.arr.l.drop 1).length:=by rw [yY]
 have e2:(p.arr.l.map Vv).drop 1=(p.arr.l.drop 1).map Vv:=by rw [List.map_drop]
 rw [e1,e2] at h2;exact h2
def Yfa (f:XTele):Int:=if (f.address < 0∨255 < f.address)∨f.kind < 0∨255 < f.kind then 1 else if 64 < f.data.length then 2 else 0
def Zbc (f:XFrame) (L:LB) (R:LS) (hf:InR (bsl f.data) R) (hb:BytesOk f.data.l):
 Tri Tryz.prog 83 [f.val].toArray L R (fun v M U=>∃q:OwL Int,v=.tuple #[q.val,.int .i64 (Yfa f.tele)]∧q.ok 1 Vv∧q.l=(if Yfa f.tele=0 then Jrd f.tele else [])∧q.L 5 Vv ++ L=M∧∀r∈R,InR r U):=by
 refine Jd 53 Tryz.call83 Tryz.func83 rfl rfl rfl ?_;apply (Xaf);intro b1;apply qc4∘Xar∘Xbu;apply Kf (G:=[_,_,_]) (j:=3) (cj:=9) rfl rfl zb rfl zmb rfl;·exact zud
 intro junk4;apply (qah);apply Kf (G:=[_,_,_]) (j:=8) (cj:=14) rfl rfl zb rfl zmb rfl;·exact zve
 intro junk9;apply (qah);apply Kf (G:=[_,_,_]) (j:=13) (cj:=19) rfl rfl zb rfl zmb rfl;·exact zVd
 intro junk14;apply (qaf);refine q_c ?_ ?_<;>intro hc0;·
  apply qae∘qc4∘Xal;refine Kw (M:=L) (U:=R) zjd ?hp ?hL ?hR;case hp=>(have he:Yfa f.tele=1:=by rw [Yfa,if_pos zS]);exact ubg
  case hL=>exact zg
  case hR=>exact fun r hr=>Ja hr
 apply qbo∘Xab∘Xb4;refine q_c ?_ ?_<;>intro hc1;·
  apply qae∘qc4∘Xal;refine q_r L R zjd ?_;have he:Yfa f.tele=2:=by rw [Yfa,if_neg zS,if_pos zS]
  exact ubg
 apply qbv∘Xab∘qdg∘Xaa∘qdg∘Xaa∘qdg;refine Yu (Jr (qs:=[(0,(Value.int _ _).cells.toList),(1,(Value.int _ _).cells.toList),(2,(Value.int _ _).cells.toList),(3,(Value.int _ _).cells.toList)]) (out:=[_,_,_,_]) tb rfl rfl rfl rfl rfl rfl rfl) rfl ?_;rintro v M U ⟨b38,rfl,rfl,hR38⟩;replace hR38:=hR38.symm;subst hR38;apply (Xaa);have e1:IntKind.u8.wrap (f.data.l.length:Int)=f.data.l.length:=u8w za;have e2:IntKind.u8.wrap f.address=f.address:=u8w za;have e3:IntKind.u8.wrap f.kind=f.kind:=u8w za;rw [e1,e2,e3];have hok38:(⟨.own b38 4 [],[126,(f.data.l.length:Int),f.address,f.kind]⟩:OwL Int).ok 1 Vv:=⟨rfl,ym _,by decide,rfl⟩;refine Vdg (show _=(⟨.own b38 4 [],[126,(f.data.l.length:Int),f.address,f.kind]⟩:OwL Int).L 5 Vv ++ (⟨b1,f.cells,118⟩ :: L) by (simp [OwL.L,Ow.L,Vv,XFrame.cells,Arr.val];rfl)) ?_;refine Yu (Z8 tb (⟨.own b38 4 [],[126,(f.data.l.length:Int),f.address,f.kind]⟩:OwL Int) f.data rfl rfl rfl ze rfl rfl hok38 hf zj yf (by simp only [yw,yP];omega)) rfl ?_;rintro v M U ⟨o41,rfl,hok41,rfl,rfl⟩;apply (Xde);have hwl:(⟨o41,[126,(f.data.l.length:Int),f.address,f.kind] ++ f.data.l⟩:OwL Int).l=Yia f.tele:=rfl;have hwb:BytesOk (Yia f.tele):=fun x hx=>by
  rw [← hwl] at hx;simp only [yr,yx,yU] at hx;rcases hx with h | h | h | h | h;·omega
  ·omega
  ·omega
  ·omega
  ·exact hb x h
 have hcr:=V9c (Yia f.tele).tail;rw [Crc] at hcr;apply (Xcm);refine Jx (Zsb (m:=1) (wd:=1) (u:=(⟨o41,[126,(f.data.l.length:Int),f.address,f.kind] ++ f.data.l⟩:OwL Int).arr) tb rfl rfl rfl rfl rfl ze zo rfl) rfl ?_;refine q_l rfl (Tri.lendD zH hok41 zo (Jac (Zp (⟨o41,[126,(f.data.l.length:Int),f.address,f.kind] ++ f.data.l⟩:OwL Int).arr 1 1) _ _ zEb (fun x hx=>hwb x (yya hx)))) ?_;apply (Xcd);have ecr:(Zp (⟨o41,[126,(f.data.l.length:Int),f.address,f.kind] ++ f.data.l⟩:OwL Int).arr 1 1).l=(Yia f.tele).tail:=List.drop_one;rw [ecr];obtain ⟨cr,hcre⟩:∃cr,cr=Ubb (Yia f.tele).tail:=⟨_,rfl⟩;rw [← hcre] at hcr ⊢;have e4:IntKind.u8.wrap (cr / 256)=cr / 256:=u8w za;have e5:IntKind.u8.wrap cr=cr % 256:=u8m za;apply (Xcl);refine Jx (Zyb rfl rfl ze V7f) rfl ?_;apply qdg∘qaa∘qdg;refine Yu zyb rfl ?_;rintro v M U ⟨b51,rfl,rfl,hR51⟩;replace hR51:=hR51.symm;subst hR51;rw [e4,e5];refine Kja (wd:=1) (len:=2) (cap:=2) (rows:=[Vv (cr / 256),Vv (cr % 256)]) (subs:=[]) rfl ze ze (fun r hr=>by rcases List.mem_cons.1 hr with rfl | hr;rfl;rw [List.mem_singleton.1 hr];rfl) ze rfl yg ?_;have h51:InR (bsl (⟨some ⟨b51,0,none⟩,2,[cr / 256,cr % 256]⟩:Arr Int)) (bsl (⟨some ⟨b51,0,none⟩,2,[cr / 256,cr % 256]⟩:Arr Int) :: R):=Ja (.head _);refine Yu (Z8 tb (⟨o41,[126,(f.data.l.length:Int),f.address,f.kind] ++ f.data.l⟩:OwL Int) (⟨some ⟨b51,0,none⟩,2,[cr / 256,cr % 256]⟩:Arr Int) rfl rfl rfl ze rfl rfl hok41 h51 zj yf (by simp only [yw,yP,yj];omega)) rfl ?_;rintro v M U ⟨o52,rfl,hok52,rfl,rfl⟩;apply qc4∘Xaj;refine q_r ((⟨o52,([126,(f.data.l.length:Int),f.address,f.kind] ++ f.data.l) ++ [cr / 256,cr % 256]⟩:OwL Int).L 5 Vv ++ L) (bsl (⟨some ⟨b51,0,none⟩,2,[cr / 256,cr % 256]⟩:Arr Int) :: R) zjd ?_;have he:Yfa f.tele=0:=by rw [Yfa,if_neg zS,if_neg zS]
 exact ⟨(⟨o52,([126,(f.data.l.length:Int),f.address,f.kind] ++ f.data.l) ++ [cr / 256,cr % 256]⟩:OwL Int),by rw [he];rfl,hok52,by rw [he,if_pos rfl,hcre];rfl,rfl,fun r hr=>Ja (.tail _ hr)⟩
section
variable {A B:Prop}
def Kyg(h:A→B:=by exact Jm rfl (Vo zp hx hk za) rfl):=h
def Kfg(h:A→B:=by exact Yu zyb rfl):=h
def Upg(h:A→B:=by exact Kr (Jw tb (b) _ rfl rfl rfl rfl zi (i:=r6.toNat) zk zw) rfl rfl rfl rfl):=h
def U0g(h:A→B:=by exact Jm rfl (Vo zp hx4 hk5 za) rfl):=h
end
def Jpd {f:XTele} (h:Yfa f=0) (hb:BytesOk f.data):BytesOk (Jrd f):=by
 have hcr:=V9c (Yia f).tail;rw [Crc] at hcr;rw [Yfa] at h;split at h;·cases h
 split at h;·cases h
 intro x hx;rw [Jrd,Yia] at hx;rw [Yia] at hcr;simp only [yr,yU,yPa,yR,or_false] at hx;rcases hx with h | h | h | h | h | h | h;·omega
 ·omega
 ·omega
 ·omega
 ·exact hb x h
 ·omega
 ·omega
structure FrameD (f:XFrame) (R:LS):Prop where
 data:InR (bsl f.data) R
 bytes:BytesOk f.data.l
 ok:Yfa f.tele=0
 len:f.data.l.length≤2
def Voc (c:Nat) (x:Arr Int) (k:Nat) (R:LS) (hx:CodesR x R) (hk:k≤x.l.length):
 Tri Tryz.prog 95 [.pointer (some ⟨c, 0, none⟩)].toArray [cblk c x k] R
  (fun v M U=>∃(f:XFrame) (k':Nat),v=f.val∧FrameD f U∧k'≤x.l.length∧(∀r∈R,InR r U)∧cblk c x k' :: []=M):=by
 refine Jd 34 Tryz.call95 Tryz.func95 rfl rfl rfl ?_;apply (Xcp);intro b2;apply Xdi∘Kyg;rintro v M U ⟨r1,k1,rfl,g1,g1',g1'',hk1,rfl,rfl⟩;have g1q:=g1' za;apply (qa6);refine Jm rfl (Vo zp hx hk1 za) rfl ?_;rintro v M U ⟨q1,k2,rfl,g2,g2',g2'',hk2,rfl,rfl⟩;have g2q:=g2' za;apply qdg∘qa6;refine Jm rfl (Vo zp hx hk2 za) rfl ?_;rintro v M U ⟨q2,k3,rfl,g3,g3',g3'',hk3,rfl,rfl⟩;have g3q:=g3' za;apply qdg∘Kfg;rintro v M U ⟨b12,rfl,rfl,hR12⟩;replace hR12:=hR12.symm;subst hR12;have e4:IntKind.u8.wrap q1=q1:=u8w za;have e5:IntKind.u8.wrap q2=q2:=u8w za;rw [e4,e5];refine Kja (wd:=1) (len:=2) (cap:=2) (rows:=[Vv q1,Vv q2]) (subs:=[]) rfl ze ze (fun r hr=>by rcases List.mem_cons.1 hr with rfl | hr;rfl;rw [List.mem_singleton.1 hr];rfl) ze rfl yg ?_;refine Jx zHb rfl ?_;apply (qaq);intro b3;apply qak∘qco;refine Y8c 1 ?_;refine Keb (wd:=1) (f:=Vv) (subs:=[]) (y:=(⟨some ⟨b12,0,none⟩,2,[q1,q2]⟩:Arr Int)) 0 zZb ?_;refine Keb (wd:=1) (f:=Vv) (subs:=[]) (y:=(⟨some ⟨b12,0,none⟩,2,[q1,q2]⟩:Arr Int)) 1 (Ja (.tail _ (.tail _ (.head _)))) ?_;obtain ⟨R2,hR2e⟩:∃R2,R2=bsl (⟨some ⟨b12,0,none⟩,2,[q1,q2].take 1⟩:Arr Int) :: bsl (⟨some ⟨b12,0,none⟩,2,[q1,q2].take 0⟩:Arr Int) :: bsl ⟨none,0,[]⟩ :: bsl (⟨some ⟨b12,0,none⟩,2,[q1,q2]⟩:Arr Int) :: R:=⟨_,rfl⟩;have hBR:InR (bsl (⟨some ⟨b12,0,none⟩,2,[q1,q2]⟩:Arr Int)) R2:=Ja (by rw [hR2e];simp);have hB0:InR (bsl (⟨some ⟨b12,0,none⟩,2,[q1,q2].take 0⟩:Arr Int)) R2:=Ja (by rw [hR2e];simp);have hB1:InR (bsl (⟨some ⟨b12,0,none⟩,2,[q1,q2].take 1⟩:Arr Int)) R2:=Ja (by rw [hR2e];simp);have hBn:InR (bsl ⟨none,0,[]⟩) R2:=Ja (by rw [hR2e];simp);have hRR:∀r∈R,InR r R2:=fun r hr=>Ja (by rw [hR2e];simp [hr]);have hBb:BytesOk [q1,q2]:=fun y hy=>by simp only [yU,yR,or_false] at hy;rcases hy with h | h <;> omega
 refine Ujb (show _=R2 by rw [hR2e];rfl) ?_;have hx2:CodesR x R2:=⟨hx.1.mono hRR,hx.2⟩;have hE:∀(kd:Int) (d:Arr Int),(0≤kd∧kd≤255)→InR (bsl d) R2→BytesOk d.l→d.l.length≤2→FrameD ⟨r1,kd,d⟩ R2:=fun kd d h1 h2 h3 h4=>⟨h2,h3,by rw [Yfa,if_neg zS,if_neg zS],h4⟩;apply (Xb3);refine Jm rfl (Vo zp hx2 hk3 za) rfl ?_;rintro v M U ⟨r4,k4,rfl,g4,g4',g4'',hk4,rfl,rfl⟩;apply (qaf);refine Vy (rg 16 17) ((⟨fun _=>[],fun g=>⟨b3,g.1.1.cells,118⟩ :: ⟨b2,[.int .i64 0,.int .i64 0,.slice none 0 0],118⟩ :: cblk c x g.1.2 :: [],fun _=>R2,fun _=>0⟩:Head {g:XFrame×Nat // FrameD g.1 R2∧g.2≤x.l.length})) ?_ ?_;·
  refine Ka (Jp (Jg ?_));apply (Xax);refine q_c ?_ ?_<;>intro hc0;·apply qay∘Xa8∘Xbd;refine J7 (Je ?_);exact q_j ⟨(⟨r1,2,⟨none,0,[]⟩⟩,k4),hE _ _ za hBn (fun y hy=>by cases hy) ze,hk4⟩
  apply (Xbj);refine q_c ?_ ?_<;>intro hc1;·apply (Xb3);refine Jm rfl (Vo zp hx2 hk4 za) rfl ?_;rintro v M U ⟨r5,k5,rfl,g5,g5',g5'',hk5,rfl,rfl⟩;have g5q:=g5' za;apply (Xa8);refine J7 (Je ?_);exact q_j ⟨(⟨r1,r5,(⟨some ⟨b12,0,none⟩,2,[q1,q2]⟩:Arr Int)⟩,k5),hE _ _ za hBR hBb zo,hk5⟩
  apply (Xbj);refine q_c ?_ ?_<;>intro hc2;·
   refine J6 tb [] [0,1,2,3,4,5] [6] ([Blk.mk b3 _ _]) _ Kq zc zg (by (repeat (first | apply List.Sublist.cons (a:=Blk.mk b3 _ _) | apply List.Sublist.cons_cons));exact yv _) ?_;apply (Xch);refine Ku rfl (Vo zp hx2 hk4 za) rfl rfl ?_;rintro v M U ⟨r6,k6,rfl,g6,g6',g6'',hk6,rfl,rfl⟩;refine ⟨zg,zq,?_⟩;have g6q:=g6' za;refine Kr (U6a (n:=r6.toNat) tb rfl rfl rfl rfl za za) rfl rfl rfl rfl ?_;apply Xef∘qbw;refine J2 (Je ?_);(have h6:r6=0∨r6=1∨r6=2:=by omega);rcases h6 with rfl | rfl | rfl;·exact q_j ⟨(⟨r1,1,(⟨some ⟨b12,0,none⟩,2,[q1,q2].take 0⟩:Arr Int)⟩,k6),hE _ _ za hB0 (fun y hy=>by cases hy) zo,hk6⟩
   ·exact q_j ⟨(⟨r1,1,(⟨some ⟨b12,0,none⟩,2,[q1,q2].take 1⟩:Arr Int)⟩,k6),hE _ _ za hB1 (fun y hy=>hBb y (yWa hy)) zo,hk6⟩
   ·exact q_j ⟨(⟨r1,1,(⟨some ⟨b12,0,none⟩,2,[q1,q2]⟩:Arr Int)⟩,k6),hE _ _ za hBR hBb zo,hk6⟩
  refine J1 (Je ?_);exact q_j ⟨(⟨r1,1,(⟨some ⟨b12,0,none⟩,2,[q1,q2]⟩:Arr Int)⟩,k4),hE _ _ za hBR hBb zo,hk4⟩
 rintro ⟨⟨f,k7⟩,hf,hk7⟩ junk;try dsimp only
 dsimp only at hf hk7;apply (qae);refine Jx zrb rfl ?_;apply (Xbe);refine q_r (cblk c x k7 :: []) R2 (U8 rfl zsb) ?_;exact ⟨f,k7,rfl,hf,hk7,hRR,rfl⟩
def OwL.cap_ok {α:Type} {f:α→List Value} {wd:Nat} {p:OwL α} (h:p.ok wd f):p.l.length≤p.o.cap:=by
 obtain ⟨o,l⟩:=p;cases o with
 | nil=>exact Nat.le_of_eq h.1
 | own g c sp=>exact h.2.1
def u8r {n:Nat}:0≤IntKind.u8.wrap (n:Int)∧IntKind.u8.wrap (n:Int)≤255:=by exact ua7
def Uyc (c:Nat) (x:Arr Int) (k:Nat) (most:Int) (R:LS) (hx:CodesR x R) (hk:k≤x.l.length) (hm:0≤most∧most≤100):
 Tri Tryz.prog 32 [.pointer (some ⟨c, 0, none⟩), .int .i64 most].toArray [cblk c x k] R
  (fun v M U=>∃(q:OwL Int) (k':Nat),v=q.val∧q.ok 1 Vv∧BytesOk q.l∧(q.l.length:Int)≤80 * most∧k'≤x.l.length∧(∀r∈R,InR r U)∧q.L 5 Vv ++ (cblk c x k' :: [])=M):=by
 refine Jd 61 Tryz.call32 Tryz.func32 rfl rfl rfl ?_;apply qae∘Xcv∘Xb0∘qa6∘Xa1∘Kyg;rintro v M U ⟨n0,k1,rfl,g1,g1',g1'',hk1,rfl,rfl⟩;have g1q:=g1' za;apply (Xa4);refine Jl [(0,.pointer _),(5,.slice _ _ _),(6,.int _ _)] zh fun tq0=>?_;refine K9 ([5,6,7,8]++rg 13 47) ((⟨fun g=>[(6,.int .i64 g.1.1),(5,g.1.2.1.val)],fun g=>g.1.2.1.L 5 Vv ++ (cblk c x g.1.2.2.1 :: []),fun g=>g.1.2.2.2,fun g=>g.1.1.toNat⟩:Head {g:Int×OwL Int×Nat×LS // (0≤g.1∧g.1≤n0)∧g.2.1.ok 1 Vv∧BytesOk g.2.1.l∧(g.2.1.l.length:Int)≤80 * (n0 - g.1)∧g.2.2.1≤x.l.length∧∀r∈R,InR r g.2.2.2})) (⟨(n0,OwL.nil,k1,R),⟨by dsimp only;omega,by dsimp only;omega⟩,OwL.nil_ok,fun y hy=>(by cases hy),by simp,hk1,fun r hr=>Ja hr⟩) zh zK zCb ?_;rintro ⟨⟨n,out,k2,S⟩,⟨hn0,hn1⟩,hok,hob,hol,hk2,hS⟩ junk;try dsimp only
 dsimp only at hn0 hn1 hok hob hol hk2 hS;have hx2:CodesR x S:=⟨hx.1.mono hS,hx.2⟩;apply (Xec);refine q_c ?_ ?_<;>intro hc0;·
  apply (Xdj);refine Jm rfl (Tri.spl (.appB (.consL .nil)) (Voc c x k2 S hx2 hk2)) rfl ?_;rintro v M U ⟨_,rfl,f,k3,rfl,hf,hk3,hS3,rfl⟩;simp only [yo,yx,yea];refine Jm rfl (Zbc f _ _ hf.data hf.bytes) rfl ?_;rintro v M U ⟨b,rfl,hbk,hbl,rfl,hS4⟩;rw [if_pos hf.ok] at hbl;refine Jx zXb rfl ?_;apply Xbb∘qc4∘qad∘qco;have hbc:=OwL.cap_ok hbk;have hbb:BytesOk b.l:=by rw [hbl];exact Jpd hf.ok hf.bytes
  have hbn:b.l.length=f.data.l.length + 6:=by rw [hbl,J5e];rfl
  have hfl:=hf.len;have hx4:CodesR x U:=⟨(hx2.1.mono hS3).mono hS4,hx2.2⟩;apply (Xb3);refine Jm rfl (Vo zp hx4 hk3 za) rfl ?_;rintro v M U ⟨r5,k5,rfl,g5,g5',g5'',hk5,rfl,rfl⟩;apply (qaf);refine Vy ([5,7]++rg 25 32) ((⟨fun g=>[(7,.slice g.1.1.o.addr g.1.2.1 g.1.1.o.cap),(5,g.1.2.2.1.val)],fun g=>g.1.1.L 5 Vv ++ (g.1.2.2.1.L 5 Vv ++ (cblk c x g.1.2.2.2 :: [])),fun _=>U,fun _=>0⟩:Head {g:OwL Int×Nat×OwL Int×Nat // (g.1.ok 1 Vv∧BytesOk g.1.l∧g.1.l.length≤70)∧g.2.1≤g.1.l.length∧(g.2.2.1.ok 1 Vv∧BytesOk g.2.2.1.l∧(g.2.2.1.l.length:Int)≤80 * (n0 - n) + 2)∧g.2.2.2≤x.l.length})) ?_ ?_;·
   refine Ka (Jp (Jg ?_));apply (Xax);refine q_c ?_ ?_<;>intro hc1;·
    refine J6 tb [] [0,1,2,3,7,4,5,6,8,9,10,11,12] [13] ((b.L 5 Vv ++ (out.L 5 Vv ++ []))) _ Kq zc zg (yZ _ _) ?_;apply qct∘qb3∘qct;refine Kr zIb rfl rfl rfl rfl ?_;apply (qb3);refine Ku rfl (Vo zp hx4 hk5 za) rfl rfl ?_;rintro v M U ⟨r6,k6,rfl,g6,g6',g6'',hk6,rfl,rfl⟩;refine ⟨zg,zq,?_⟩;have g6q:=g6' za;have hbg:=Ju (l:=b.l) (k:=r6.toNat) 0 za;apply (Upg);refine Kr (Kd tb (b) rfl rfl rfl zj zi yf zi zb) rfl rfl rfl rfl ?_;refine Ku rfl (Vo zp hx4 hk6 za) rfl rfl ?_;rintro v M U ⟨r7,k7,rfl,g7,g7',g7'',hk7,rfl,rfl⟩;refine ⟨zg,zq,?_⟩;obtain ⟨sv,hsv⟩:∃sv,IntKind.u8.wrap (1 * 2 ^ (min r7.toNat IntKind.u8.bits))=sv:=⟨_,rfl⟩;obtain ⟨xv,hxv,hxr⟩:∃xv,IntKind.u8.wrap ((BitVec.ofInt IntKind.u8.bits (b.l.getD r6.toNat 0) ^^^ BitVec.ofInt IntKind.u8.bits sv).toNat:Int)=xv∧(0≤xv∧xv≤255):=⟨_,rfl,u8r⟩;have g7q:=g7' za;refine Kr zla rfl rfl rfl rfl ?_;refine Kr (Z7b rfl rfl za hsv) rfl rfl rfl rfl ?_;refine Kr (K7d rfl rfl hxv) rfl rfl rfl rfl ?_;apply Upg∘qba;refine Jlb (Jt tb (b) (xv) rfl rfl rfl rfl zj zi yf zi ze zb zb) rfl rfl ?_;rintro v M U ⟨rfl,rfl⟩;apply (qa1);refine J2 (Je ?_);exact Zia ⟨(⟨b.o,b.l.set r6.toNat xv⟩,b.l.length,out,k7),⟨OwL.set_ok yf hbk,fun y hy=>by
    rcases yob hy with hy | rfl;·exact hbb y hy
    ·exact hxr,by dsimp only;rw [yE];omega⟩,by dsimp only;rw [yE];exact ym _,⟨hok,hob,by dsimp only;omega⟩,hk7⟩ zm zh zg zCb
   apply (Xbj);refine q_c ?_ ?_<;>intro hc2;·apply Xcm∘qa6∘Xao∘qar∘U0g;rintro v M U ⟨r6,k6,rfl,g6,g6',g6'',hk6,rfl,rfl⟩;have g6q:=g6' za;refine Jx (U6a (n:=r6.toNat) tb rfl rfl rfl rfl za za) rfl ?_;apply (qc4);refine J7 (Je ?_);exact q_j ⟨(b,r6.toNat,out,k6),⟨hbk,hbb,by dsimp only;omega⟩,by dsimp only;omega,⟨hok,hob,by dsimp only;omega⟩,hk6⟩
   apply (Xbj);refine q_c ?_ ?_<;>intro hc3;·
    apply Xcm∘qa6∘U0g;rintro v M U ⟨r6,k6,rfl,g6,g6',g6'',hk6,rfl,rfl⟩;have g6q:=g6' za;apply qdg∘Kfg;rintro v M U ⟨b55,rfl,rfl,hR55⟩;replace hR55:=hR55.symm;subst hR55;have e4:IntKind.u8.wrap r6=r6:=u8w za;rw [e4];refine Kja (wd:=1) (len:=2) (cap:=2) (rows:=[Vv r6,Vv 126]) (subs:=[]) rfl ze ze (fun r hr=>by rcases List.mem_cons.1 hr with rfl | hr;rfl;rw [List.mem_singleton.1 hr];rfl) ze rfl yg ?_;have h55:InR (bsl (⟨some ⟨b55,0,none⟩,2,[r6,126]⟩:Arr Int)) (bsl (⟨some ⟨b55,0,none⟩,2,[r6,126]⟩:Arr Int) :: U):=Ja (.head _);refine Yu (Z8 tb out (⟨some ⟨b55,0,none⟩,2,[r6,126]⟩:Arr Int) rfl rfl rfl ze rfl rfl hok h55 zj yf (by simp only [yw,yP];omega)) rfl ?_;rintro v M U ⟨o56,rfl,hok56,rfl,rfl⟩;apply (qc4);refine J7 (Je ?_);exact Zia ⟨(b,b.l.length,⟨o56,out.l ++ [r6,126]⟩,k6),⟨hbk,hbb,by dsimp only;omega⟩,ym _,⟨hok56,fun y hy=>by
    rcases List.mem_append.1 hy with hy | hy;·exact hob y hy
    ·simp only [yU, yR, or_false] at hy;omega,by dsimp only;rw [yj];simp only [yw,yP];omega⟩,hk6⟩ zm zh zg (fun r hr=>Ja (.tail _ hr))
   refine J1 (Je ?_);exact q_j ⟨(b,b.l.length,out,k5),⟨hbk,hbb,by dsimp only;omega⟩,ym _,⟨hok,hob,by dsimp only;omega⟩,hk5⟩
  rintro ⟨⟨b2,m,out2,k8⟩,⟨hb2k,hb2b,hb2n⟩,hm2,⟨hok2,hob2,hol2⟩,hk8⟩ junk;try dsimp only
  dsimp only at hb2k hb2b hb2n hm2 hok2 hob2 hol2 hk8;refine Kk (T:=5) (f:=Vv) (wd:=1) b2 [] zj yf ze hb2k yg ?_;refine Uu zt ?_;refine Keb (wd:=1) (f:=Vv) (subs:=[]) (y:=b2.arr) m zEb ?_;have hTR:InR (bsl (⟨b2.o.addr,b2.o.cap,b2.l.take m⟩:Arr Int)) (bsl (⟨b2.o.addr,b2.o.cap,b2.l.take m⟩:Arr Int) :: bsl b2.arr :: U):=Ja (.head _);have hTl:(⟨b2.o.addr,b2.o.cap,b2.l.take m⟩:Arr Int).l.length=m:=by show (b2.l.take m).length=m;rw [yJa];omega
  apply Xcm∘qbm;refine Yu (Z8 tb out2 (⟨b2.o.addr,b2.o.cap,b2.l.take m⟩:Arr Int) rfl rfl rfl ze rfl ((show _=Value.slice _ _ _ from rfl).trans (by simp only [Arr.val];rw [hTl])) hok2 hTR zj yf (by rw [hTl];omega)) rfl ?_;rintro v M U ⟨o59,rfl,hok59,rfl,rfl⟩;apply qc4∘Xed;exact Ki ⟨(n - 1,⟨o59,out2.l ++ b2.l.take m⟩,k8,bsl (⟨b2.o.addr,b2.o.cap,b2.l.take m⟩:Arr Int) :: bsl b2.arr :: U),⟨by dsimp only;omega,by dsimp only;omega⟩,hok59,fun y hy=>by
  rcases List.mem_append.1 hy with hy | hy;·exact hob2 y hy
  ·exact hb2b y (yWa hy),by dsimp only;rw [yj,yJa];omega,hk8,fun r hr=>((hS r hr).mono hS3).mono fun r hr=>(hS4 r hr).mono fun r hr=>Ja (.tail _ (.tail _ hr))⟩ zm zh zg zCb zu
 apply Xc7∘Xcw;refine q_r (out.L 5 Vv ++ (cblk c x k2 :: [])) S zkd ?_;exact ⟨out,k2,rfl,hok,hob,by omega,hk2,hS,rfl⟩
end
section
attribute [local irreducible] CJ LJ DJ Tri YV Gives Ur J3 Ko Uq RV J5 OwL.L
abbrev Vqg (x:Arr XAct):Sl:=x.sl 5 XAct.cells (x.l.map fun a=>bsl a.bytes)
structure ActR (a:XAct) (R:LS):Prop where
 ok:ActOk a.p
 bytes:InR (bsl a.bytes) R
structure ActsQ (q:OwL XAct) (R:LS):Prop where
 ok:q.ok 5 XAct.cells
 all:∀a∈q.l,ActR a R
def ActsQ.mono {q:OwL XAct} {R U:LS} (h:ActsQ q R) (k:∀r∈R,InR r U):ActsQ q U:=⟨h.ok,fun a ha=>⟨(h.all a ha).ok,(h.all a ha).bytes.mono k⟩⟩
def ActsQ.app {o o':Ow} {l m:List XAct} {R:LS} (h:ActsQ ⟨o,l⟩ R) (h1:(⟨o',l ++ m⟩:OwL XAct).ok 5 XAct.cells) (h2:∀a∈m,ActR a R):ActsQ ⟨o',l ++ m⟩ R:=⟨h1,fun a ha=>by
 rcases List.mem_append.1 ha with ha | ha
 ·exact h.all a ha
 ·exact h2 a ha⟩
end
section
def Wd (x y:XSpan):Prop:=x.low≤x.high∧y.low≤x.low∧x.high≤y.high
structure MLoose (m m':XMeas):Prop where
 sensor:m'.sensor=m.sensor
 time:m'.time=m.time
 span:m'=m∨(Wd m.span m'.span∧(-1000000000≤m'.span.low∧m'.span.high≤1000000000))
section
variable {S:List XSens} {m m':List XMeas} {fl fl':List XSpan} {c:XCond} {w:XWatch} {t:Int} (hl:m'.length=m.length) (h:∀i:Nat,i < m.length→MLoose (m.getD i default) (m'.getD i default)) (hfl:fl'.length=fl.length) (hf:∀i:Nat,i < fl.length→Wd (fl.getD i default) (fl'.getD i default))
include hl h
include hfl hf
end
def Y3c {s : XSite} {v : List Int} {c : List XCut} {i : Int} : ∀ n, i ∈ Una s v c n ↔ ∃ k : Nat, k < n ∧ i = (k : Int) ∧ Jla (s.zones.l.getD k default).rule.l v ≠ -1 ∧ (c.getD k default).off = false
 | 0=>by rw [Una];simp
 | n + 1=>by
  have ih:=Y3c (s:=s) (v:=v) (c:=c) (i:=i) n
  rw [Una]
  constructor
  ·intro hi
   split at hi
   ·rename_i hc
    rcases List.mem_append.1 hi with hi | hi
    ·obtain ⟨k, k1, k2⟩ := ih.1 hi
     exact ⟨k,by omega,k2⟩
    ·exact ⟨n,by omega,List.mem_singleton.1 hi,hc⟩
   ·obtain ⟨k, k1, k2⟩ := ih.1 hi
    exact ⟨k,by omega,k2⟩
  ·rintro ⟨k, k1, k2, k3⟩
   rcases yl k n with hk | hk
   ·split
    ·exact yp _ (ih.2 ⟨k,hk,k2,k3⟩)
    ·exact ih.2 ⟨k,hk,k2,k3⟩
   ·obtain rfl : k = n := by omega
    rw [if_pos k3]
    exact yk _ (List.mem_singleton.2 k2)
end
section
section
variable {g:PSite} {p:PSta}
end
end
section
section
variable {P:Program} {ρ:Operand→Value} {L:LB} {R:LS} {dst:Option Tmp} {ty:TypeId} {pos:String} {after:Array Edge} {guard:Option (Nat×Bool)} (tb:Tabs P) {T:TypeId} {x y z:Operand}
end
def Uqe {g:PSite} {p:PSta} (hI:Inv g p) {a:PAct} (ha:ActOk a):p.dropped≤(Kva g p a).1.dropped∧(Kva g p a).1.dropped≤p.dropped + 100100:=by
 have hs:=fun (p:PSta) t=>(K3a (g:=g) (p:=p) t).dropped;rw [Kva];split;·
  rw [Yzb]; split;·dsimp only;omega
  ·
   dsimp only;rw [hs];have h2:=K8c _ (l:=p.held ++ a.bytes) p.dropped rfl (fun x hx=>by
    rcases List.mem_append.1 hx with hx | hx;·exact hI.held.1 x hx
    ·exact ha.bytes x hx)
   have h3:=ha.len;have h4:=hI.held.2;rw [yj] at h2;show p.dropped≤(Ve (p.held ++ a.bytes) p.dropped).dropped∧(Ve (p.held ++ a.bytes) p.dropped).dropped≤_;omega
 have hk:=hs p (p.time + a.wait);split;·
  rw [J6a]; split;·dsimp only;omega
  split;·dsimp only;omega
  ·dsimp only;rw [hs];dsimp only;omega
 split;·
  rw [Vtd]; split;·dsimp only;omega
  exact uaI
 split;·
  rw [Za]; split;·dsimp only;omega
  exact uaI
 split;·
  rw [Vfa]; split;·dsimp only;omega
  exact uaI
 ·
  rw [Yxa]; split;·dsimp only;omega
  ·dsimp only;rw [hs];omega
attribute [local irreducible] CJ LJ DJ Tri YV Gives Ur J3 Ko Uq RV J5 OwL.L
end
section
attribute [local irreducible] CJ LJ DJ Tri YV Gives Ur J3 Ko Uq RV J5 OwL.L
def Uxe {l:List Bool}:∀{k:Nat},l[k]?=some false→(l.set k true).count true=l.count true + 1:=by
 induction l with
 | nil=>intro k h;simp at h
 | cons b l ih=>
  intro k h;cases k with
  | zero=>simp only [yab,yMa] at h;subst h;simp
  | succ k=>simp only [List.getElem?_cons_succ] at h;simp only [yfc,List.count_cons,ih h];omega
def J2e {l:List Bool} (h:l.count true < l.length):∃j:Nat,l[j]?=some false:=by
 induction l with
 | nil=>simp at h
 | cons b l ih=>
  cases b with
  | false=>exact ⟨0,rfl⟩
  | true=>simp only [List.count_cons_self,yw] at h;obtain ⟨j,hj⟩:=ih za;exact ⟨j + 1,hj⟩
def Kve {m m2 jf n:Int} (hm:0≤m∧m < n) (hj:0≤jf∧jf < n) (hne:m≠jf) (h:m2=if m + 1=n then 0 else m + 1):(if m2≤jf then jf - m2 else jf - m2 + n).toNat < (if m≤jf then jf - m else jf - m + n).toNat:=by split at h <;> (repeat' split) <;> omega
end
end Go.Proofs.YtchfclmokpbldaaGreat
