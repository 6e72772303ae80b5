/-
  Merged texts. By an AI agent.
-/
import Derived.Test.YtchfclmokpbldaaGreatTelF
import Derived.Test.YtchfclmokpbldaaGreatMadeB
import Derived.Test.YtchfclmokpbldaaGreatCloneS
set_option linter.all false
set_option maxHeartbeats 4000000
set_option maxRecDepth 20000
namespace Go.Proofs.YtchfclmokpbldaaGreat
open Go.Aw Go
section
attribute [local irreducible] CJ LJ DJ Tri YV Gives Uq J2 Km Ur RV J4 OwL.L
def Vse {a:Int}:a.fdiv (2 ^ (min (8:Int).toNat IntKind.i64.bits))=a / 256:=by show a.fdiv (2 ^ 8)=_;rw [ySa _ ze];rfl
def u8m {a:Int} (h:0≤a∧a < 1048576):IntKind.u8.wrap a=a % 256:=by obtain ⟨n,rfl⟩:∃n:Nat,a=(n:Int):=⟨a.toNat,by omega⟩;unfold IntKind.wrap;simp [IntKind.bits,IntKind.signed]
def u8w {a:Int} (h:0≤a∧a≤255):IntKind.u8.wrap a=a:=by obtain ⟨n,rfl⟩:∃n:Nat,a=(n:Int):=⟨a.toNat,by omega⟩;exact Vug za
def Tri.lendD {P : Program} {f : FuncId} {args : Array Value} {A : LB} {R : LS} {p : OwL Int} {T : TypeId} {u : Value} (hin : InB (p.L T Vp) A) (hok : p.ok 1 Vp) (h1 : 1 ≤ p.l.length)
 (h:Tri P f args [] (bsl (Zw p.arr 1 1) :: R) (fun v M U=>v=u∧[]=M∧bsl (Zw p.arr 1 1) :: R=U)):Tri P f args A R (fun v M U=>v=u∧A=M∧R=U):=by
 refine Go.Proofs.YtchfclmokpbldaaGreat.Tri.lendU (S:=[bsl (Zw p.arr 1 1)]) (fun w G hh s hs=>?_) h;rw [List.mem_singleton.1 hs];have h0:=Y5 hh hin hok yf ze (subs:=[]) yg;have h2:=Z0c h0 (m:=1) ze h1 ze;have e1:p.arr.l.length - 1=(p.arr.l.drop 1).length:=by rw [yX]
 have e2:(p.arr.l.map Vp).drop 1=(p.arr.l.drop 1).map Vp:=by rw [List.map_drop]
 rw [e1,e2] at h2;exact h2
def K8a (f:XTele):Int:=if (f.address < 0∨255 < f.address)∨f.kind < 0∨255 < f.kind then 1 else if 64 < f.data.length then 2 else 0
def Vbb (f:XFrame) (L:LB) (R:LS) (hf:InR (bsl f.data) R) (hb:BytesOk f.data.l):
 Tri Tryz.prog 83 [f.val].toArray L R (fun v M U=>∃q:OwL Int,v=.tuple #[q.val,.int .i64 (K8a f.tele)]∧q.ok 1 Vp∧q.l=(if K8a f.tele=0 then Zo f.tele else [])∧q.L 5 Vp ++ L=M∧∀r∈R,InR r U):=by
 refine Jd 53 Tryz.call83 Tryz.func83 rfl rfl rfl ?_;apply (Xaf);intro b1;apply qc4∘Xap∘Xbt;apply Kd (G:=[_,_,_]) (j:=3) (cj:=9) rfl rfl zb rfl zmb rfl;·exact ztd
 intro junk4;apply (qah);apply Kd (G:=[_,_,_]) (j:=8) (cj:=14) rfl rfl zb rfl zmb rfl;·exact zte
 intro junk9;apply (qah);apply Kd (G:=[_,_,_]) (j:=13) (cj:=19) rfl rfl zb rfl zmb rfl;·exact zSd
 intro junk14;apply (qaf);refine q_c ?_ ?_<;>intro hc0;·
  apply Xcu∘Xal;refine Kv (M:=L) (U:=R) zjd ?hp ?hL ?hR;case hp=>(have he:K8a f.tele=1:=by rw [K8a,if_pos zR]);exact ubd
  case hL=>exact zg
  case hR=>exact fun r hr=>Ja hr
 apply qbo∘Xab∘Xca;refine q_c ?_ ?_<;>intro hc1;·
  apply Xcu∘Xal;refine q_r L R zjd ?_;have he:K8a f.tele=2:=by rw [K8a,if_neg zR,if_pos zR]
  exact ubd
 apply qbv∘Xab∘qdg∘Xaa∘qdg∘Xaa∘qdg;refine Y3 (Jr (qs:=[(0,(Value.int _ _).cells.toList),(1,(Value.int _ _).cells.toList),(2,(Value.int _ _).cells.toList),(3,(Value.int _ _).cells.toList)]) (out:=[_,_,_,_]) tb rfl rfl rfl rfl rfl rfl rfl) rfl ?_;rintro v M U ⟨b38,rfl,rfl,hR38⟩;replace hR38:=hR38.symm;subst hR38;apply (Xaa);have e1:IntKind.u8.wrap (f.data.l.length:Int)=f.data.l.length:=u8w za;have e2:IntKind.u8.wrap f.address=f.address:=u8w za;have e3:IntKind.u8.wrap f.kind=f.kind:=u8w za;rw [e1,e2,e3];have hok38:(⟨.own b38 4 [],[126,(f.data.l.length:Int),f.address,f.kind]⟩:OwL Int).ok 1 Vp:=⟨rfl,ym _,by decide,rfl⟩;refine Yhg (show _=(⟨.own b38 4 [],[126,(f.data.l.length:Int),f.address,f.kind]⟩:OwL Int).L 5 Vp ++ (⟨b1,f.cells,118⟩ :: L) by (simp [OwL.L,Ow.L,Vp,XFrame.cells,Arr.val];rfl)) ?_;refine Y3 (Jea tb (⟨.own b38 4 [],[126,(f.data.l.length:Int),f.address,f.kind]⟩:OwL Int) f.data rfl rfl rfl ze rfl rfl hok38 hf zj yf (by simp only [yw,yM];omega)) rfl ?_;rintro v M U ⟨o41,rfl,hok41,rfl,rfl⟩;apply (Xdj);have hwl:(⟨o41,[126,(f.data.l.length:Int),f.address,f.kind] ++ f.data.l⟩:OwL Int).l=Jma f.tele:=rfl;have hwb:BytesOk (Jma f.tele):=fun x hx=>by
  rw [← hwl] at hx;simp only [yu,yx,yS] at hx;rcases hx with h | h | h | h | h;·omega
  ·omega
  ·omega
  ·omega
  ·exact hb x h
 have hcr:=V7c (Jma f.tele).tail;rw [Crc] at hcr;apply (Xcr);refine Jy (Yob (m:=1) (wd:=1) (u:=(⟨o41,[126,(f.data.l.length:Int),f.address,f.kind] ++ f.data.l⟩:OwL Int).arr) tb rfl rfl rfl rfl rfl ze zo rfl) rfl ?_;refine q_l rfl (Tri.lendD zH hok41 zo (Znb (Zw (⟨o41,[126,(f.data.l.length:Int),f.address,f.kind] ++ f.data.l⟩:OwL Int).arr 1 1) _ _ zCb (fun x hx=>hwb x (yxa hx)))) ?_;apply (Xcb);have ecr:(Zw (⟨o41,[126,(f.data.l.length:Int),f.address,f.kind] ++ f.data.l⟩:OwL Int).arr 1 1).l=(Jma f.tele).tail:=List.drop_one;rw [ecr];obtain ⟨cr,hcre⟩:∃cr,cr=Jab (Jma f.tele).tail:=⟨_,rfl⟩;rw [← hcre] at hcr ⊢;have e4:IntKind.u8.wrap (cr / 256)=cr / 256:=u8w za;have e5:IntKind.u8.wrap cr=cr % 256:=u8m za;apply (Xcg);refine Jy (Ugb rfl rfl ze Vse) rfl ?_;apply qdg∘qaa∘qdg;refine Y3 zyb rfl ?_;rintro v M U ⟨b51,rfl,rfl,hR51⟩;replace hR51:=hR51.symm;subst hR51;rw [e4,e5];refine Jna (wd:=1) (len:=2) (cap:=2) (rows:=[Vp (cr / 256),Vp (cr % 256)]) (subs:=[]) rfl ze ze (fun r hr=>by rcases List.mem_cons.1 hr with rfl | hr;rfl;rw [List.mem_singleton.1 hr];rfl) ze rfl yg ?_;have h51:InR (bsl (⟨some ⟨b51,0,none⟩,2,[cr / 256,cr % 256]⟩:Arr Int)) (bsl (⟨some ⟨b51,0,none⟩,2,[cr / 256,cr % 256]⟩:Arr Int) :: R):=Ja (.head _);refine Y3 (Jea tb (⟨o41,[126,(f.data.l.length:Int),f.address,f.kind] ++ f.data.l⟩:OwL Int) (⟨some ⟨b51,0,none⟩,2,[cr / 256,cr % 256]⟩:Arr Int) rfl rfl rfl ze rfl rfl hok41 h51 zj yf (by simp only [yw,yM,yj];omega)) rfl ?_;rintro v M U ⟨o52,rfl,hok52,rfl,rfl⟩;apply qc4∘Xai;refine q_r ((⟨o52,([126,(f.data.l.length:Int),f.address,f.kind] ++ f.data.l) ++ [cr / 256,cr % 256]⟩:OwL Int).L 5 Vp ++ L) (bsl (⟨some ⟨b51,0,none⟩,2,[cr / 256,cr % 256]⟩:Arr Int) :: R) zjd ?_;have he:K8a f.tele=0:=by rw [K8a,if_neg zR,if_neg zR]
 exact ⟨(⟨o52,([126,(f.data.l.length:Int),f.address,f.kind] ++ f.data.l) ++ [cr / 256,cr % 256]⟩:OwL Int),by rw [he];rfl,hok52,by rw [he,if_pos rfl,hcre];rfl,rfl,fun r hr=>Ja (.tail _ hr)⟩
section
variable {A B:Prop}
def Yjf(h:A→B:=by exact Y3 zyb rfl):=h
def Jrg(h:A→B:=by exact Jy zHb rfl):=h
def Vog(h:A→B:=by exact Jo rfl (Yg zp hx hk za) rfl):=h
def Z5f(h:A→B:=by exact Kp (Jw tb (b) _ rfl rfl rfl rfl zi (i:=r6.toNat) zk zw) rfl rfl rfl rfl):=h
def Kqg(h:A→B:=by exact Jo rfl (Yg zp hx4 hk5 za) rfl):=h
end
def Vyf (address raw:Int):XTele:=⟨address,1,[raw / 256,raw % 256]⟩
def Ydf (address raw:Int):List Int:=Zo (Vyf address raw)
def K9e {address raw:Int} (ha:0≤address∧address≤255):K8a (Vyf address raw)=0:=by rw [K8a,if_neg (by simp only [Vyf];omega),if_neg (by simp [Vyf])]
def U6b {f:XTele} (h:K8a f=0) (hb:BytesOk f.data):BytesOk (Zo f):=by
 have hcr:=V7c (Jma f).tail;rw [Crc] at hcr;rw [K8a] at h;split at h;·cases h
 split at h;·cases h
 intro x hx;rw [Zo,Jma] at hx;rw [Jma] at hcr;simp only [yu,yS,yQa,yP,or_false] at hx;rcases hx with h | h | h | h | h | h | h;·omega
 ·omega
 ·omega
 ·omega
 ·exact hb x h
 ·omega
 ·omega
def Kmc {address raw:Int} (ha:0≤address∧address≤255) (hr:0≤raw∧raw≤65535):BytesOk (Ydf address raw):=U6b (K9e ha) (fun x hx=>by
 simp only [Vyf,yS,yP,or_false] at hx
 rcases hx with h | h <;> omega)
def Yof (address raw:Int) (L:LB) (R:LS) (ha:0≤address∧address≤255) (hr:0≤raw∧raw≤65535):
 Tri Tryz.prog 19 [.int .i64 address,.int .i64 raw].toArray L R (fun v M U=>∃q:Arr Int,v=q.val∧q.l=Ydf address raw∧InR (bsl q) U∧(∀r∈R,InR r U)∧L=M):=by
 refine Jd 20 Tryz.call19 Tryz.func19 rfl rfl rfl ?_;apply Xcu∘qam∘Xcd;refine Jy (Ugb rfl rfl ze Vse) rfl ?_;apply qdg∘qaa∘qdg∘Yjf;rintro v M U ⟨b14,rfl,rfl,hR14⟩;replace hR14:=hR14.symm;subst hR14;have e4:IntKind.u8.wrap (raw / 256)=raw / 256:=u8w za;have e5:IntKind.u8.wrap raw=raw % 256:=u8m za;rw [e4,e5];refine Jna (wd:=1) (len:=2) (cap:=2) (rows:=[Vp (raw / 256),Vp (raw % 256)]) (subs:=[]) rfl ze ze (fun r hr=>by rcases List.mem_cons.1 hr with rfl | hr;rfl;rw [List.mem_singleton.1 hr];rfl) ze rfl yg ?_;apply (Jrg);refine Jo rfl (Vbb (⟨address,1,⟨some ⟨b14,0,none⟩,2,[raw / 256,raw % 256]⟩⟩:XFrame) _ (bsl (⟨some ⟨b14,0,none⟩,2,[raw / 256,raw % 256]⟩:Arr Int) :: R) zCb (fun x hx=>by
 simp only [yS,yP,or_false] at hx;rcases hx with h | h <;> omega)) rfl ?_
 rintro v M U ⟨q,rfl,hqk,hql,rfl,hR1⟩;refine Jy zPb rfl ?_;apply Xa6∘qc4∘Xcb;have hE:K8a (XFrame.tele ⟨address,1,⟨some ⟨b14,0,none⟩,2,[raw / 256,raw % 256]⟩⟩)=0:=K9e (raw:=raw) ha;rw [if_pos hE] at hql;refine Kk (T:=5) (f:=Vp) (wd:=1) q [] zj yf ze hqk yg ?_;refine U0 zt ?_;apply Xcr∘Xcn;refine q_r L (bsl q.arr :: U) zkd ?_;exact ⟨q.arr,rfl,hql,Ja (.head _),fun r hr=>(hR1 r (.tail _ hr)).mono fun r hr=>Ja (.tail _ hr),rfl⟩
structure FrameD (f:XFrame) (R:LS):Prop where
 data:InR (bsl f.data) R
 bytes:BytesOk f.data.l
 ok:K8a f.tele=0
 len:f.data.l.length≤2
def V8c (c:Nat) (x:Arr Int) (k:Nat) (R:LS) (hx:CodesR x R) (hk:k≤x.l.length):
 Tri Tryz.prog 95 [.pointer (some ⟨c, 0, none⟩)].toArray [cblk c x k] R
  (fun v M U=>∃(f:XFrame) (k':Nat),v=f.val∧FrameD f U∧k'≤x.l.length∧(∀r∈R,InR r U)∧cblk c x k' :: []=M):=by
 refine Jd 34 Tryz.call95 Tryz.func95 rfl rfl rfl ?_;apply (Xco);intro b2;apply Xdd∘Vog;rintro v M U ⟨r1,k1,rfl,g1,g1',g1'',hk1,rfl,rfl⟩;have g1q:=g1' za;apply (qa6);refine Jo rfl (Yg zp hx hk1 za) rfl ?_;rintro v M U ⟨q1,k2,rfl,g2,g2',g2'',hk2,rfl,rfl⟩;have g2q:=g2' za;apply qdg∘qa6;refine Jo rfl (Yg zp hx hk2 za) rfl ?_;rintro v M U ⟨q2,k3,rfl,g3,g3',g3'',hk3,rfl,rfl⟩;have g3q:=g3' za;apply qdg∘Yjf;rintro v M U ⟨b12,rfl,rfl,hR12⟩;replace hR12:=hR12.symm;subst hR12;have e4:IntKind.u8.wrap q1=q1:=u8w za;have e5:IntKind.u8.wrap q2=q2:=u8w za;rw [e4,e5];refine Jna (wd:=1) (len:=2) (cap:=2) (rows:=[Vp q1,Vp q2]) (subs:=[]) rfl ze ze (fun r hr=>by rcases List.mem_cons.1 hr with rfl | hr;rfl;rw [List.mem_singleton.1 hr];rfl) ze rfl yg ?_;apply Jrg∘qaq;intro b3;apply qak∘qco;refine Y5d 1 ?_;refine Kgb (wd:=1) (f:=Vp) (subs:=[]) (y:=(⟨some ⟨b12,0,none⟩,2,[q1,q2]⟩:Arr Int)) 0 zZb ?_;refine Kgb (wd:=1) (f:=Vp) (subs:=[]) (y:=(⟨some ⟨b12,0,none⟩,2,[q1,q2]⟩:Arr Int)) 1 (Ja (.tail _ (.tail _ (.head _)))) ?_;obtain ⟨R2,hR2e⟩:∃R2,R2=bsl (⟨some ⟨b12,0,none⟩,2,[q1,q2].take 1⟩:Arr Int) :: bsl (⟨some ⟨b12,0,none⟩,2,[q1,q2].take 0⟩:Arr Int) :: bsl ⟨none,0,[]⟩ :: bsl (⟨some ⟨b12,0,none⟩,2,[q1,q2]⟩:Arr Int) :: R:=⟨_,rfl⟩;have hBR:InR (bsl (⟨some ⟨b12,0,none⟩,2,[q1,q2]⟩:Arr Int)) R2:=Ja (by rw [hR2e];simp);have hB0:InR (bsl (⟨some ⟨b12,0,none⟩,2,[q1,q2].take 0⟩:Arr Int)) R2:=Ja (by rw [hR2e];simp);have hB1:InR (bsl (⟨some ⟨b12,0,none⟩,2,[q1,q2].take 1⟩:Arr Int)) R2:=Ja (by rw [hR2e];simp);have hBn:InR (bsl ⟨none,0,[]⟩) R2:=Ja (by rw [hR2e];simp);have hRR:∀r∈R,InR r R2:=fun r hr=>Ja (by rw [hR2e];simp [hr]);have hBb:BytesOk [q1,q2]:=fun y hy=>by simp only [yS,yP,or_false] at hy;rcases hy with h | h <;> omega
 refine Ubb (show _=R2 by rw [hR2e];rfl) ?_;have hx2:CodesR x R2:=⟨hx.1.mono hRR,hx.2⟩;have hE:∀(kd:Int) (d:Arr Int),(0≤kd∧kd≤255)→InR (bsl d) R2→BytesOk d.l→d.l.length≤2→FrameD ⟨r1,kd,d⟩ R2:=fun kd d h1 h2 h3 h4=>⟨h2,h3,by rw [K8a,if_neg zR,if_neg zR],h4⟩;apply (Xc0);refine Jo rfl (Yg zp hx2 hk3 za) rfl ?_;rintro v M U ⟨r4,k4,rfl,g4,g4',g4'',hk4,rfl,rfl⟩;apply (qaf);refine Yj (rg 16 17) ((⟨fun _=>[],fun g=>⟨b3,g.1.1.cells,118⟩ :: ⟨b2,[.int .i64 0,.int .i64 0,.slice none 0 0],118⟩ :: cblk c x g.1.2 :: [],fun _=>R2,fun _=>0⟩:Head {g:XFrame×Nat // FrameD g.1 R2∧g.2≤x.l.length})) ?_ ?_;·
  refine Kc (Jp (Jh ?_));apply (Xax);refine q_c ?_ ?_<;>intro hc0;·apply qay∘Xa5∘Xbf;refine J7 (Jf ?_);exact q_j ⟨(⟨r1,2,⟨none,0,[]⟩⟩,k4),hE _ _ za hBn (fun y hy=>by cases hy) ze,hk4⟩
  apply (Xbj);refine q_c ?_ ?_<;>intro hc1;·apply (Xc0);refine Jo rfl (Yg zp hx2 hk4 za) rfl ?_;rintro v M U ⟨r5,k5,rfl,g5,g5',g5'',hk5,rfl,rfl⟩;have g5q:=g5' za;apply (Xa5);refine J7 (Jf ?_);exact q_j ⟨(⟨r1,r5,(⟨some ⟨b12,0,none⟩,2,[q1,q2]⟩:Arr Int)⟩,k5),hE _ _ za hBR hBb zo,hk5⟩
  apply (Xbj);refine q_c ?_ ?_<;>intro hc2;·
   refine J5 tb [] [0,1,2,3,4,5] [6] ([Blk.mk b3 _ _]) _ Kr zc zg zUa ?_;apply (Xcj);refine Ks rfl (Yg zp hx2 hk4 za) rfl rfl ?_;rintro v M U ⟨r6,k6,rfl,g6,g6',g6'',hk6,rfl,rfl⟩;refine ⟨zg,zq,?_⟩;have g6q:=g6' za;refine Kp (Vca (n:=r6.toNat) tb rfl rfl rfl rfl za za) rfl rfl rfl rfl ?_;apply Xeb∘qbw;refine J1 (Jf ?_);(have h6:r6=0∨r6=1∨r6=2:=by omega);rcases h6 with rfl | rfl | rfl;·exact q_j ⟨(⟨r1,1,(⟨some ⟨b12,0,none⟩,2,[q1,q2].take 0⟩:Arr Int)⟩,k6),hE _ _ za hB0 (fun y hy=>by cases hy) zo,hk6⟩
   ·exact q_j ⟨(⟨r1,1,(⟨some ⟨b12,0,none⟩,2,[q1,q2].take 1⟩:Arr Int)⟩,k6),hE _ _ za hB1 (fun y hy=>hBb y (yWa hy)) zo,hk6⟩
   ·exact q_j ⟨(⟨r1,1,(⟨some ⟨b12,0,none⟩,2,[q1,q2]⟩:Arr Int)⟩,k6),hE _ _ za hBR hBb zo,hk6⟩
  refine J3 (Jf ?_);exact q_j ⟨(⟨r1,1,(⟨some ⟨b12,0,none⟩,2,[q1,q2]⟩:Arr Int)⟩,k4),hE _ _ za hBR hBb zo,hk4⟩
 rintro ⟨⟨f,k7⟩,hf,hk7⟩ junk;try dsimp only
 dsimp only at hf hk7;apply (qae);refine Jy zrb rfl ?_;apply (Xbd);refine q_r (cblk c x k7 :: []) R2 (Va rfl zsb) ?_;exact ⟨f,k7,rfl,hf,hk7,hRR,rfl⟩
def OwL.cap_ok {α:Type} {f:α→List Value} {wd:Nat} {p:OwL α} (h:p.ok wd f):p.l.length≤p.o.cap:=by
 obtain ⟨o,l⟩:=p;cases o with
 | nil=>exact Nat.le_of_eq h.1
 | own g c sp=>exact h.2.1
def u8r {n:Nat}:0≤IntKind.u8.wrap (n:Int)∧IntKind.u8.wrap (n:Int)≤255:=by exact ua4
def Yec (c:Nat) (x:Arr Int) (k:Nat) (most:Int) (R:LS) (hx:CodesR x R) (hk:k≤x.l.length) (hm:0≤most∧most≤100):
 Tri Tryz.prog 32 [.pointer (some ⟨c, 0, none⟩), .int .i64 most].toArray [cblk c x k] R
  (fun v M U=>∃(q:OwL Int) (k':Nat),v=q.val∧q.ok 1 Vp∧BytesOk q.l∧(q.l.length:Int)≤80 * most∧k'≤x.l.length∧(∀r∈R,InR r U)∧q.L 5 Vp ++ (cblk c x k' :: [])=M):=by
 refine Jd 61 Tryz.call32 Tryz.func32 rfl rfl rfl ?_;apply Xcu∘qam∘Xbz∘qa6∘Xa2∘Vog;rintro v M U ⟨n0,k1,rfl,g1,g1',g1'',hk1,rfl,rfl⟩;have g1q:=g1' za;apply (Xba);refine Jl [(0,.pointer _),(5,.slice _ _ _),(6,.int _ _)] zh fun tq0=>?_;refine Ub ([5,6,7,8]++rg 13 47) ((⟨fun g=>[(6,.int .i64 g.1.1),(5,g.1.2.1.val)],fun g=>g.1.2.1.L 5 Vp ++ (cblk c x g.1.2.2.1 :: []),fun g=>g.1.2.2.2,fun g=>g.1.1.toNat⟩:Head {g:Int×OwL Int×Nat×LS // (0≤g.1∧g.1≤n0)∧g.2.1.ok 1 Vp∧BytesOk g.2.1.l∧(g.2.1.l.length:Int)≤80 * (n0 - g.1)∧g.2.2.1≤x.l.length∧∀r∈R,InR r g.2.2.2})) (⟨(n0,OwL.nil,k1,R),⟨by dsimp only;omega,by dsimp only;omega⟩,OwL.nil_ok,fun y hy=>(by cases hy),by simp,hk1,fun r hr=>Ja hr⟩) zh zK zBb ?_;rintro ⟨⟨n,out,k2,S⟩,⟨hn0,hn1⟩,hok,hob,hol,hk2,hS⟩ junk;try dsimp only
 dsimp only at hn0 hn1 hok hob hol hk2 hS;have hx2:CodesR x S:=⟨hx.1.mono hS,hx.2⟩;apply Xa1∘Xca;refine q_c ?_ ?_<;>intro hc0;·
  apply (Xd1);refine Jo rfl (Tri.spl (.appB (.consL .nil)) (V8c c x k2 S hx2 hk2)) rfl ?_;rintro v M U ⟨_,rfl,f,k3,rfl,hf,hk3,hS3,rfl⟩;simp only [yo,yx,yca];refine Jo rfl (Vbb f _ _ hf.data hf.bytes) rfl ?_;rintro v M U ⟨b,rfl,hbk,hbl,rfl,hS4⟩;rw [if_pos hf.ok] at hbl;refine Jy zPb rfl ?_;apply Xa6∘qc4∘qad∘qco;have hbc:=OwL.cap_ok hbk;have hbb:BytesOk b.l:=by rw [hbl];exact U6b hf.ok hf.bytes
  have hbn:b.l.length=f.data.l.length + 6:=by rw [hbl,Zja];rfl
  have hfl:=hf.len;have hx4:CodesR x U:=⟨(hx2.1.mono hS3).mono hS4,hx2.2⟩;apply (Xc0);refine Jo rfl (Yg zp hx4 hk3 za) rfl ?_;rintro v M U ⟨r5,k5,rfl,g5,g5',g5'',hk5,rfl,rfl⟩;apply (qaf);refine Yj ([5,7]++rg 25 32) ((⟨fun g=>[(7,.slice g.1.1.o.addr g.1.2.1 g.1.1.o.cap),(5,g.1.2.2.1.val)],fun g=>g.1.1.L 5 Vp ++ (g.1.2.2.1.L 5 Vp ++ (cblk c x g.1.2.2.2 :: [])),fun _=>U,fun _=>0⟩:Head {g:OwL Int×Nat×OwL Int×Nat // (g.1.ok 1 Vp∧BytesOk g.1.l∧g.1.l.length≤70)∧g.2.1≤g.1.l.length∧(g.2.2.1.ok 1 Vp∧BytesOk g.2.2.1.l∧(g.2.2.1.l.length:Int)≤80 * (n0 - n) + 2)∧g.2.2.2≤x.l.length})) ?_ ?_;·
   refine Kc (Jp (Jh ?_));apply (Xax);refine q_c ?_ ?_<;>intro hc1;·
    refine J5 tb [] [0,1,2,3,7,4,5,6,8,9,10,11,12] [13] ((b.L 5 Vp ++ (out.L 5 Vp ++ []))) _ Kr zc zg (yZ _ _) ?_;apply qct∘qb3∘qct;refine Kp zKb rfl rfl rfl rfl ?_;apply (qb3);refine Ks rfl (Yg zp hx4 hk5 za) rfl rfl ?_;rintro v M U ⟨r6,k6,rfl,g6,g6',g6'',hk6,rfl,rfl⟩;refine ⟨zg,zq,?_⟩;have g6q:=g6' za;have hbg:=Jt (l:=b.l) (k:=r6.toNat) 0 za;apply (Z5f);refine Kp (Ke tb (b) rfl rfl rfl zj zi yf zi zb) rfl rfl rfl rfl ?_;refine Ks rfl (Yg zp hx4 hk6 za) rfl rfl ?_;rintro v M U ⟨r7,k7,rfl,g7,g7',g7'',hk7,rfl,rfl⟩;refine ⟨zg,zq,?_⟩;obtain ⟨sv,hsv⟩:∃sv,IntKind.u8.wrap (1 * 2 ^ (min r7.toNat IntKind.u8.bits))=sv:=⟨_,rfl⟩;obtain ⟨xv,hxv,hxr⟩:∃xv,IntKind.u8.wrap ((BitVec.ofInt IntKind.u8.bits (b.l.getD r6.toNat 0) ^^^ BitVec.ofInt IntKind.u8.bits sv).toNat:Int)=xv∧(0≤xv∧xv≤255):=⟨_,rfl,u8r⟩;have g7q:=g7' za;refine Kp zia rfl rfl rfl rfl ?_;refine Kp (Jbc rfl rfl za hsv) rfl rfl rfl rfl ?_;refine Kp (Ksd rfl rfl hxv) rfl rfl rfl rfl ?_;apply Z5f∘qba;refine Jnb (Ju tb (b) (xv) rfl rfl rfl rfl zj zi yf zi ze zb zb) rfl rfl ?_;rintro v M U ⟨rfl,rfl⟩;apply (qa1);refine J1 (Jf ?_);exact Zha ⟨(⟨b.o,b.l.set r6.toNat xv⟩,b.l.length,out,k7),⟨OwL.set_ok yf hbk,fun y hy=>by
    rcases ytb hy with hy | rfl;·exact hbb y hy
    ·exact hxr,by dsimp only;rw [yE];omega⟩,by dsimp only;rw [yE];exact ym _,⟨hok,hob,by dsimp only;omega⟩,hk7⟩ zm zh zg zBb
   apply (Xbj);refine q_c ?_ ?_<;>intro hc2;·apply Xcr∘qa6∘Xaq∘qar∘Kqg;rintro v M U ⟨r6,k6,rfl,g6,g6',g6'',hk6,rfl,rfl⟩;have g6q:=g6' za;refine Jy (Vca (n:=r6.toNat) tb rfl rfl rfl rfl za za) rfl ?_;apply (qc4);refine J7 (Jf ?_);exact q_j ⟨(b,r6.toNat,out,k6),⟨hbk,hbb,by dsimp only;omega⟩,by dsimp only;omega,⟨hok,hob,by dsimp only;omega⟩,hk6⟩
   apply (Xbj);refine q_c ?_ ?_<;>intro hc3;·
    apply Xcr∘qa6∘Kqg;rintro v M U ⟨r6,k6,rfl,g6,g6',g6'',hk6,rfl,rfl⟩;have g6q:=g6' za;apply qdg∘Yjf;rintro v M U ⟨b55,rfl,rfl,hR55⟩;replace hR55:=hR55.symm;subst hR55;have e4:IntKind.u8.wrap r6=r6:=u8w za;rw [e4];refine Jna (wd:=1) (len:=2) (cap:=2) (rows:=[Vp r6,Vp 126]) (subs:=[]) rfl ze ze (fun r hr=>by rcases List.mem_cons.1 hr with rfl | hr;rfl;rw [List.mem_singleton.1 hr];rfl) ze rfl yg ?_;have h55:InR (bsl (⟨some ⟨b55,0,none⟩,2,[r6,126]⟩:Arr Int)) (bsl (⟨some ⟨b55,0,none⟩,2,[r6,126]⟩:Arr Int) :: U):=Ja (.head _);refine Y3 (Jea tb out (⟨some ⟨b55,0,none⟩,2,[r6,126]⟩:Arr Int) rfl rfl rfl ze rfl rfl hok h55 zj yf (by simp only [yw,yM];omega)) rfl ?_;rintro v M U ⟨o56,rfl,hok56,rfl,rfl⟩;apply (qc4);refine J7 (Jf ?_);exact Zha ⟨(b,b.l.length,⟨o56,out.l ++ [r6,126]⟩,k6),⟨hbk,hbb,by dsimp only;omega⟩,ym _,⟨hok56,fun y hy=>by
    rcases List.mem_append.1 hy with hy | hy;·exact hob y hy
    ·simp only [yS, yP, or_false] at hy;omega,by dsimp only;rw [yj];simp only [yw,yM];omega⟩,hk6⟩ zm zh zg (fun r hr=>Ja (.tail _ hr))
   refine J3 (Jf ?_);exact q_j ⟨(b,b.l.length,out,k5),⟨hbk,hbb,by dsimp only;omega⟩,ym _,⟨hok,hob,by dsimp only;omega⟩,hk5⟩
  rintro ⟨⟨b2,m,out2,k8⟩,⟨hb2k,hb2b,hb2n⟩,hm2,⟨hok2,hob2,hol2⟩,hk8⟩ junk;try dsimp only
  dsimp only at hb2k hb2b hb2n hm2 hok2 hob2 hol2 hk8;refine Kk (T:=5) (f:=Vp) (wd:=1) b2 [] zj yf ze hb2k yg ?_;refine U0 zt ?_;refine Kgb (wd:=1) (f:=Vp) (subs:=[]) (y:=b2.arr) m zCb ?_;have hTR:InR (bsl (⟨b2.o.addr,b2.o.cap,b2.l.take m⟩:Arr Int)) (bsl (⟨b2.o.addr,b2.o.cap,b2.l.take m⟩:Arr Int) :: bsl b2.arr :: U):=Ja (.head _);have hTl:(⟨b2.o.addr,b2.o.cap,b2.l.take m⟩:Arr Int).l.length=m:=by show (b2.l.take m).length=m;rw [yIa];omega
  apply Xcr∘qbm;refine Y3 (Jea tb out2 (⟨b2.o.addr,b2.o.cap,b2.l.take m⟩:Arr Int) rfl rfl rfl ze rfl ((show _=Value.slice _ _ _ from rfl).trans (by simp only [Arr.val];rw [hTl])) hok2 hTR zj yf (by rw [hTl];omega)) rfl ?_;rintro v M U ⟨o59,rfl,hok59,rfl,rfl⟩;apply qc4∘qcs∘Xb2;exact Ki ⟨(n - 1,⟨o59,out2.l ++ b2.l.take m⟩,k8,bsl (⟨b2.o.addr,b2.o.cap,b2.l.take m⟩:Arr Int) :: bsl b2.arr :: U),⟨by dsimp only;omega,by dsimp only;omega⟩,hok59,fun y hy=>by
  rcases List.mem_append.1 hy with hy | hy;·exact hob2 y hy
  ·exact hb2b y (yWa hy),by dsimp only;rw [yj,yIa];omega,hk8,fun r hr=>((hS r hr).mono hS3).mono fun r hr=>(hS4 r hr).mono fun r hr=>Ja (.tail _ (.tail _ hr))⟩ zm zh zg zBb zu
 apply Xc7∘Xcn;refine q_r (out.L 5 Vp ++ (cblk c x k2 :: [])) S zkd ?_;exact ⟨out,k2,rfl,hok,hob,by omega,hk2,hS,rfl⟩
end
end Go.Proofs.YtchfclmokpbldaaGreat
