/-
  Merged texts. By an AI agent.
-/
import Derived.Test.YtchfclmokpbldaaGreatTelG
import Derived.Test.YtchfclmokpbldaaGreatCloneS
import Derived.Test.YtchfclmokpbldaaGreatRuleP
import Derived.Test.YtchfclmokpbldaaGreatEasyR
import Derived.Test.YtchfclmokpbldaaGreatFeedC
import Derived.Test.YtchfclmokpbldaaGreatDrawC
set_option linter.all false
set_option maxHeartbeats 4000000
set_option maxRecDepth 20000
namespace Go.Proofs.YtchfclmokpbldaaGreat
open Go.Aw Go
section
attribute [local irreducible] CJ LJ DJ Tri YV Gives Uo J0 Kj Un RV J2 OwL.L
section
variable {A B:Prop}
def Zwf(h:A→B:=by exact Jq rfl (Vz zp hx hk za) rfl):=h
def Zdf(h:A→B:=by exact Yl zqb rfl):=h
def Yyf(h:A→B:=by exact Kn (Jv tb (b) _ rfl rfl rfl rfl zg (i:=r6.toNat) zk zu) rfl rfl rfl rfl):=h
def Y8f(h:A→B:=by exact Jq rfl (Vz zp hx4 hk5 za) rfl):=h
end
def Voc {f:XTele} (h:Vpa f=0) (hb:BytesOk f.data):BytesOk (Uuc f):=by
 have hcr:=Kbc (Vma f).tail;rw [Crc] at hcr;rw [Vpa] at h;split at h;·cases h
 split at h;·cases h
 intro x hx;rw [Uuc,Vma] at hx;rw [Vma] at hcr;simp only [yz,yU,yOa,yR,or_false] at hx;rcases hx with h | h | h | h | h | h | h;·omega
 ·omega
 ·omega
 ·omega
 ·exact hb x h
 ·omega
 ·omega
structure FrameD (f:XFrame) (R:LS):Prop where
 data:InR (bsl f.data) R
 bytes:BytesOk f.data.l
 ok:Vpa f.tele=0
 len:f.data.l.length≤2
def Kjc (c:Nat) (x:Arr Int) (k:Nat) (R:LS) (hx:CodesR x R) (hk:k≤x.l.length):
 Tri Tryz.prog 95 [.pointer (some ⟨c, 0, none⟩)].toArray [cblk c x k] R
  (fun v M U=>∃(f:XFrame) (k':Nat),v=f.val∧FrameD f U∧k'≤x.l.length∧(∀r∈R,InR r U)∧cblk c x k' :: []=M):=by
 refine Je 34 Tryz.call95 Tryz.func95 rfl rfl rfl ?_;apply (Xcg);intro b2;apply Xc2∘Zwf;rintro v M U ⟨r1,k1,rfl,g1,g1',g1'',hk1,rfl,rfl⟩;have g1q:=g1' za;apply (qa6);refine Jq rfl (Vz zp hx hk1 za) rfl ?_;rintro v M U ⟨q1,k2,rfl,g2,g2',g2'',hk2,rfl,rfl⟩;have g2q:=g2' za;apply qdg∘qa6;refine Jq rfl (Vz zp hx hk2 za) rfl ?_;rintro v M U ⟨q2,k3,rfl,g3,g3',g3'',hk3,rfl,rfl⟩;have g3q:=g3' za;apply qdg∘Zdf;rintro v M U ⟨b12,rfl,rfl,hR12⟩;replace hR12:=hR12.symm;subst hR12;have e4:IntKind.u8.wrap q1=q1:=u8w za;have e5:IntKind.u8.wrap q2=q2:=u8w za;rw [e4,e5];refine Joa (wd:=1) (len:=2) (cap:=2) (rows:=[Vd q1,Vd q2]) (subs:=[]) rfl ze ze (fun r hr=>by rcases List.mem_cons.1 hr with rfl | hr;rfl;rw [List.mem_singleton.1 hr];rfl) ze rfl yg ?_;refine Jx zyb rfl ?_;apply (qaq);intro b3;apply qak∘qco;refine Ufd 1 ?_;refine U6a (wd:=1) (f:=Vd) (subs:=[]) (y:=(⟨some ⟨b12,0,none⟩,2,[q1,q2]⟩:Arr Int)) 0 zDc ?_;refine U6a (wd:=1) (f:=Vd) (subs:=[]) (y:=(⟨some ⟨b12,0,none⟩,2,[q1,q2]⟩:Arr Int)) 1 (Ja (.tail _ (.tail _ (.head _)))) ?_;obtain ⟨R2,hR2e⟩:∃R2,R2=bsl (⟨some ⟨b12,0,none⟩,2,[q1,q2].take 1⟩:Arr Int) :: bsl (⟨some ⟨b12,0,none⟩,2,[q1,q2].take 0⟩:Arr Int) :: bsl ⟨none,0,[]⟩ :: bsl (⟨some ⟨b12,0,none⟩,2,[q1,q2]⟩:Arr Int) :: R:=⟨_,rfl⟩;have hBR:InR (bsl (⟨some ⟨b12,0,none⟩,2,[q1,q2]⟩:Arr Int)) R2:=Ja (by rw [hR2e];simp);have hB0:InR (bsl (⟨some ⟨b12,0,none⟩,2,[q1,q2].take 0⟩:Arr Int)) R2:=Ja (by rw [hR2e];simp);have hB1:InR (bsl (⟨some ⟨b12,0,none⟩,2,[q1,q2].take 1⟩:Arr Int)) R2:=Ja (by rw [hR2e];simp);have hBn:InR (bsl ⟨none,0,[]⟩) R2:=Ja (by rw [hR2e];simp);have hRR:∀r∈R,InR r R2:=fun r hr=>Ja (by rw [hR2e];simp [hr]);have hBb:BytesOk [q1,q2]:=fun y hy=>by simp only [yU,yR,or_false] at hy;rcases hy with h | h <;> omega
 refine Zfb (show _=R2 by rw [hR2e];rfl) ?_;have hx2:CodesR x R2:=⟨hx.1.mono hRR,hx.2⟩;have hE:∀(kd:Int) (d:Arr Int),(0≤kd∧kd≤255)→InR (bsl d) R2→BytesOk d.l→d.l.length≤2→FrameD ⟨r1,kd,d⟩ R2:=fun kd d h1 h2 h3 h4=>⟨h2,h3,by rw [Vpa,if_neg zR,if_neg zR],h4⟩;apply (Xch);refine Jq rfl (Vz zp hx2 hk3 za) rfl ?_;rintro v M U ⟨r4,k4,rfl,g4,g4',g4'',hk4,rfl,rfl⟩;apply (qaf);refine V8 (rg 16 17) ((⟨fun _=>[],fun g=>⟨b3,g.1.1.cells,118⟩ :: ⟨b2,[.int .i64 0,.int .i64 0,.slice none 0 0],118⟩ :: cblk c x g.1.2 :: [],fun _=>R2,fun _=>0⟩:Head {g:XFrame×Nat // FrameD g.1 R2∧g.2≤x.l.length})) ?_ ?_;·
  refine Kb (Jl (Jf ?_));apply (Xay);refine q_c ?_ ?_<;>intro hc0;·apply qay∘Xa7∘Xa9;refine J5 (Jd ?_);exact q_j ⟨(⟨r1,2,⟨none,0,[]⟩⟩,k4),hE _ _ za hBn (fun y hy=>by cases hy) ze,hk4⟩
  apply (Xbk);refine q_c ?_ ?_<;>intro hc1;·apply (Xch);refine Jq rfl (Vz zp hx2 hk4 za) rfl ?_;rintro v M U ⟨r5,k5,rfl,g5,g5',g5'',hk5,rfl,rfl⟩;have g5q:=g5' za;apply (Xa7);refine J5 (Jd ?_);exact q_j ⟨(⟨r1,r5,(⟨some ⟨b12,0,none⟩,2,[q1,q2]⟩:Arr Int)⟩,k5),hE _ _ za hBR hBb zo,hk5⟩
  apply (Xbk);refine q_c ?_ ?_<;>intro hc2;·
   refine J6 tb [] [0,1,2,3,4,5] [6] ([Blk.mk b3 _ _]) _ Kr zc zi (by (repeat (first | apply List.Sublist.cons (a:=Blk.mk b3 _ _) | apply List.Sublist.cons_cons));exact yu _) ?_;apply (Xb8);refine Kp rfl (Vz zp hx2 hk4 za) rfl rfl ?_;rintro v M U ⟨r6,k6,rfl,g6,g6',g6'',hk6,rfl,rfl⟩;refine ⟨zi,zq,?_⟩;have g6q:=g6' za;refine Kn (Kca (n:=r6.toNat) tb rfl rfl rfl rfl za za) rfl rfl rfl rfl ?_;apply Xdx∘qbw;refine J3 (Jd ?_);(have h6:r6=0∨r6=1∨r6=2:=by omega);rcases h6 with rfl | rfl | rfl;·exact q_j ⟨(⟨r1,1,(⟨some ⟨b12,0,none⟩,2,[q1,q2].take 0⟩:Arr Int)⟩,k6),hE _ _ za hB0 (fun y hy=>by cases hy) zo,hk6⟩
   ·exact q_j ⟨(⟨r1,1,(⟨some ⟨b12,0,none⟩,2,[q1,q2].take 1⟩:Arr Int)⟩,k6),hE _ _ za hB1 (fun y hy=>hBb y (yWa hy)) zo,hk6⟩
   ·exact q_j ⟨(⟨r1,1,(⟨some ⟨b12,0,none⟩,2,[q1,q2]⟩:Arr Int)⟩,k6),hE _ _ za hBR hBb zo,hk6⟩
  refine J1 (Jd ?_);exact q_j ⟨(⟨r1,1,(⟨some ⟨b12,0,none⟩,2,[q1,q2]⟩:Arr Int)⟩,k4),hE _ _ za hBR hBb zo,hk4⟩
 rintro ⟨⟨f,k7⟩,hf,hk7⟩ junk;try dsimp only
 dsimp only at hf hk7;apply (qae);refine Jx zjb rfl ?_;apply (Xa8);refine q_r (cblk c x k7 :: []) R2 (U8 rfl zkb) ?_;exact ⟨f,k7,rfl,hf,hk7,hRR,rfl⟩
def OwL.cap_ok {α:Type} {f:α→List Value} {wd:Nat} {p:OwL α} (h:p.ok wd f):p.l.length≤p.o.cap:=by
 obtain ⟨o,l⟩:=p;cases o with
 | nil=>exact Nat.le_of_eq h.1
 | own g c sp=>exact h.2.1
def u8r {n:Nat}:0≤IntKind.u8.wrap (n:Int)∧IntKind.u8.wrap (n:Int)≤255:=by exact ua3
def Knc (c:Nat) (x:Arr Int) (k:Nat) (most:Int) (R:LS) (hx:CodesR x R) (hk:k≤x.l.length) (hm:0≤most∧most≤100):
 Tri Tryz.prog 32 [.pointer (some ⟨c, 0, none⟩), .int .i64 most].toArray [cblk c x k] R
  (fun v M U=>∃(q:OwL Int) (k':Nat),v=q.val∧q.ok 1 Vd∧BytesOk q.l∧(q.l.length:Int)≤80 * most∧k'≤x.l.length∧(∀r∈R,InR r U)∧q.L 5 Vd ++ (cblk c x k' :: [])=M):=by
 refine Je 61 Tryz.call32 Tryz.func32 rfl rfl rfl ?_;apply Xcz∘qam∘Xbv∘qa6∘Xa0∘Zwf;rintro v M U ⟨n0,k1,rfl,g1,g1',g1'',hk1,rfl,rfl⟩;have g1q:=g1' za;apply (Xa4);refine Jk [(0,.pointer _),(5,.slice _ _ _),(6,.int _ _)] zh fun tq0=>?_;refine K7 ([5,6,7,8]++rg 13 47) ((⟨fun g=>[(6,.int .i64 g.1.1),(5,g.1.2.1.val)],fun g=>g.1.2.1.L 5 Vd ++ (cblk c x g.1.2.2.1 :: []),fun g=>g.1.2.2.2,fun g=>g.1.1.toNat⟩:Head {g:Int×OwL Int×Nat×LS // (0≤g.1∧g.1≤n0)∧g.2.1.ok 1 Vd∧BytesOk g.2.1.l∧(g.2.1.l.length:Int)≤80 * (n0 - g.1)∧g.2.2.1≤x.l.length∧∀r∈R,InR r g.2.2.2})) (⟨(n0,OwL.nil,k1,R),⟨by dsimp only;omega,by dsimp only;omega⟩,OwL.nil_ok,fun y hy=>(by cases hy),by simp,hk1,fun r hr=>Ja hr⟩) zh zL zxb ?_;rintro ⟨⟨n,out,k2,S⟩,⟨hn0,hn1⟩,hok,hob,hol,hk2,hS⟩ junk;try dsimp only
 dsimp only at hn0 hn1 hok hob hol hk2 hS;have hx2:CodesR x S:=⟨hx.1.mono hS,hx.2⟩;apply Xaw∘Xb1;refine q_c ?_ ?_<;>intro hc0;·
  apply (Xdn);refine Jq rfl (Tri.spl (.appB (.consL .nil)) (Kjc c x k2 S hx2 hk2)) rfl ?_;rintro v M U ⟨_,rfl,f,k3,rfl,hf,hk3,hS3,rfl⟩;simp only [yo,yw,yfa];refine Jq rfl (U0c f _ _ hf.data hf.bytes) rfl ?_;rintro v M U ⟨b,rfl,hbk,hbl,rfl,hS4⟩;rw [if_pos hf.ok] at hbl;refine Jx zSb rfl ?_;apply Xbt∘qc4∘qad∘qco;have hbc:=OwL.cap_ok hbk;have hbb:BytesOk b.l:=by rw [hbl];exact Voc hf.ok hf.bytes
  have hbn:b.l.length=f.data.l.length + 6:=by rw [hbl,Ydd];rfl
  have hfl:=hf.len;have hx4:CodesR x U:=⟨(hx2.1.mono hS3).mono hS4,hx2.2⟩;apply (Xch);refine Jq rfl (Vz zp hx4 hk3 za) rfl ?_;rintro v M U ⟨r5,k5,rfl,g5,g5',g5'',hk5,rfl,rfl⟩;apply (qaf);refine V8 ([5,7]++rg 25 32) ((⟨fun g=>[(7,.slice g.1.1.o.addr g.1.2.1 g.1.1.o.cap),(5,g.1.2.2.1.val)],fun g=>g.1.1.L 5 Vd ++ (g.1.2.2.1.L 5 Vd ++ (cblk c x g.1.2.2.2 :: [])),fun _=>U,fun _=>0⟩:Head {g:OwL Int×Nat×OwL Int×Nat // (g.1.ok 1 Vd∧BytesOk g.1.l∧g.1.l.length≤70)∧g.2.1≤g.1.l.length∧(g.2.2.1.ok 1 Vd∧BytesOk g.2.2.1.l∧(g.2.2.1.l.length:Int)≤80 * (n0 - n) + 2)∧g.2.2.2≤x.l.length})) ?_ ?_;·
   refine Kb (Jl (Jf ?_));apply (Xay);refine q_c ?_ ?_<;>intro hc1;·
    refine J6 tb [] [0,1,2,3,7,4,5,6,8,9,10,11,12] [13] ((b.L 5 Vd ++ (out.L 5 Vd ++ []))) _ Kr zc zi (yW _ _) ?_;apply qct∘qb3∘qct;refine Kn zzb rfl rfl rfl rfl ?_;apply (qb3);refine Kp rfl (Vz zp hx4 hk5 za) rfl rfl ?_;rintro v M U ⟨r6,k6,rfl,g6,g6',g6'',hk6,rfl,rfl⟩;refine ⟨zi,zq,?_⟩;have g6q:=g6' za;have hbg:=Ju (l:=b.l) (k:=r6.toNat) 0 za;apply (Yyf);refine Kn (Kd tb (b) rfl rfl rfl zj zg yf zg zb) rfl rfl rfl rfl ?_;refine Kp rfl (Vz zp hx4 hk6 za) rfl rfl ?_;rintro v M U ⟨r7,k7,rfl,g7,g7',g7'',hk7,rfl,rfl⟩;refine ⟨zi,zq,?_⟩;obtain ⟨sv,hsv⟩:∃sv,IntKind.u8.wrap (1 * 2 ^ (min r7.toNat IntKind.u8.bits))=sv:=⟨_,rfl⟩;obtain ⟨xv,hxv,hxr⟩:∃xv,IntKind.u8.wrap ((BitVec.ofInt IntKind.u8.bits (b.l.getD r6.toNat 0) ^^^ BitVec.ofInt IntKind.u8.bits sv).toNat:Int)=xv∧(0≤xv∧xv≤255):=⟨_,rfl,u8r⟩;have g7q:=g7' za;refine Kn zha rfl rfl rfl rfl ?_;refine Kn (Vzb rfl rfl za hsv) rfl rfl rfl rfl ?_;refine Kn (Kcd rfl rfl hxv) rfl rfl rfl rfl ?_;apply Yyf∘qba;refine Jab (Js tb (b) (xv) rfl rfl rfl rfl zj zg yf zg ze zb zb) rfl rfl ?_;rintro v M U ⟨rfl,rfl⟩;apply (qa1);refine J3 (Jd ?_);exact Yra ⟨(⟨b.o,b.l.set r6.toNat xv⟩,b.l.length,out,k7),⟨OwL.set_ok yf hbk,fun y hy=>by
    rcases yqb hy with hy | rfl;·exact hbb y hy
    ·exact hxr,by dsimp only;rw [yP];omega⟩,by dsimp only;rw [yP];exact yn _,⟨hok,hob,by dsimp only;omega⟩,hk7⟩ zm zh zi zxb
   apply (Xbk);refine q_c ?_ ?_<;>intro hc2;·apply Xc0∘qa6∘Xak∘qar∘Y8f;rintro v M U ⟨r6,k6,rfl,g6,g6',g6'',hk6,rfl,rfl⟩;have g6q:=g6' za;refine Jx (Kca (n:=r6.toNat) tb rfl rfl rfl rfl za za) rfl ?_;apply (qc4);refine J5 (Jd ?_);exact q_j ⟨(b,r6.toNat,out,k6),⟨hbk,hbb,by dsimp only;omega⟩,by dsimp only;omega,⟨hok,hob,by dsimp only;omega⟩,hk6⟩
   apply (Xbk);refine q_c ?_ ?_<;>intro hc3;·
    apply Xc0∘qa6∘Y8f;rintro v M U ⟨r6,k6,rfl,g6,g6',g6'',hk6,rfl,rfl⟩;have g6q:=g6' za;apply qdg∘Zdf;rintro v M U ⟨b55,rfl,rfl,hR55⟩;replace hR55:=hR55.symm;subst hR55;have e4:IntKind.u8.wrap r6=r6:=u8w za;rw [e4];refine Joa (wd:=1) (len:=2) (cap:=2) (rows:=[Vd r6,Vd 126]) (subs:=[]) rfl ze ze (fun r hr=>by rcases List.mem_cons.1 hr with rfl | hr;rfl;rw [List.mem_singleton.1 hr];rfl) ze rfl yg ?_;have h55:InR (bsl (⟨some ⟨b55,0,none⟩,2,[r6,126]⟩:Arr Int)) (bsl (⟨some ⟨b55,0,none⟩,2,[r6,126]⟩:Arr Int) :: U):=Ja (.head _);refine Yl (Z0 tb out (⟨some ⟨b55,0,none⟩,2,[r6,126]⟩:Arr Int) rfl rfl rfl ze rfl rfl hok h55 zj yf (by simp only [yv,yL];omega)) rfl ?_;rintro v M U ⟨o56,rfl,hok56,rfl,rfl⟩;apply (qc4);refine J5 (Jd ?_);exact Yra ⟨(b,b.l.length,⟨o56,out.l ++ [r6,126]⟩,k6),⟨hbk,hbb,by dsimp only;omega⟩,yn _,⟨hok56,fun y hy=>by
    rcases List.mem_append.1 hy with hy | hy;·exact hob y hy
    ·simp only [yU, yR, or_false] at hy;omega,by dsimp only;rw [yj];simp only [yv,yL];omega⟩,hk6⟩ zm zh zi (fun r hr=>Ja (.tail _ hr))
   refine J1 (Jd ?_);exact q_j ⟨(b,b.l.length,out,k5),⟨hbk,hbb,by dsimp only;omega⟩,yn _,⟨hok,hob,by dsimp only;omega⟩,hk5⟩
  rintro ⟨⟨b2,m,out2,k8⟩,⟨hb2k,hb2b,hb2n⟩,hm2,⟨hok2,hob2,hol2⟩,hk8⟩ junk;try dsimp only
  dsimp only at hb2k hb2b hb2n hm2 hok2 hob2 hol2 hk8;refine Ks (T:=5) (f:=Vd) (wd:=1) b2 [] zj yf ze hb2k yg ?_;refine V0 zy ?_;refine U6a (wd:=1) (f:=Vd) (subs:=[]) (y:=b2.arr) m zCb ?_;have hTR:InR (bsl (⟨b2.o.addr,b2.o.cap,b2.l.take m⟩:Arr Int)) (bsl (⟨b2.o.addr,b2.o.cap,b2.l.take m⟩:Arr Int) :: bsl b2.arr :: U):=Ja (.head _);have hTl:(⟨b2.o.addr,b2.o.cap,b2.l.take m⟩:Arr Int).l.length=m:=by show (b2.l.take m).length=m;rw [yya];omega
  apply Xc0∘qbm;refine Yl (Z0 tb out2 (⟨b2.o.addr,b2.o.cap,b2.l.take m⟩:Arr Int) rfl rfl rfl ze rfl ((show _=Value.slice _ _ _ from rfl).trans (by simp only [Arr.val];rw [hTl])) hok2 hTR zj yf (by rw [hTl];omega)) rfl ?_;rintro v M U ⟨o59,rfl,hok59,rfl,rfl⟩;apply qc4∘qcs∘Xbu;exact Kq ⟨(n - 1,⟨o59,out2.l ++ b2.l.take m⟩,k8,bsl (⟨b2.o.addr,b2.o.cap,b2.l.take m⟩:Arr Int) :: bsl b2.arr :: U),⟨by dsimp only;omega,by dsimp only;omega⟩,hok59,fun y hy=>by
  rcases List.mem_append.1 hy with hy | hy;·exact hob2 y hy
  ·exact hb2b y (yWa hy),by dsimp only;rw [yj,yya];omega,hk8,fun r hr=>((hS r hr).mono hS3).mono fun r hr=>(hS4 r hr).mono fun r hr=>Ja (.tail _ (.tail _ hr))⟩ zm zh zi zxb zw
 apply Xdd∘Xct;refine q_r (out.L 5 Vd ++ (cblk c x k2 :: [])) S zTc ?_;exact ⟨out,k2,rfl,hok,hob,by omega,hk2,hS,rfl⟩
end
section
attribute [local irreducible] CJ LJ DJ Tri YV Gives Uo J0 Kj Un RV J2 OwL.L
end
section
def Wd (x y:XSpan):Prop:=x.low≤x.high∧y.low≤x.low∧x.high≤y.high
structure MLoose (m m':XMeas):Prop where
 sensor:m'.sensor=m.sensor
 time:m'.time=m.time
 span:m'=m∨(Wd m.span m'.span∧(-1000000000≤m'.span.low∧m'.span.high≤1000000000))
section
variable {S:List XSens} {m m':List XMeas} {fl fl':List XSpan} {c:XCond} {w:XWatch} {t:Int} (hl:m'.length=m.length) (h:∀i:Nat,i < m.length→MLoose (m.getD i default) (m'.getD i default)) (hfl:fl'.length=fl.length) (hf:∀i:Nat,i < fl.length→Wd (fl.getD i default) (fl'.getD i default))
include hl h
include hfl hf
end
end
section
section
variable {g:PSite} {p:PSta}
end
end
section
section
variable {P:Program} {ρ:Operand→Value} {L:LB} {R:LS} {dst:Option Tmp} {ty:TypeId} {pos:String} {after:Array Edge} {guard:Option (Nat×Bool)} (tb:Tabs P) {T:TypeId} {x y z:Operand}
def Ypd {k:IntKind} {len cap:Nat} {ar:Option Addr} {e n1 fl bt z k2 n2 fl2 bt2 z2} (hT:V2 tb.tab T=some ⟨.slice e,n1,fl,bt,z⟩) (hE:V2 tb.tab e=some ⟨k2,n2,fl2,bt2,z2⟩) (hx:ρ x=.slice ar len cap) (hy:ρ y=.int k 0):
 YV P ⟨dst,.slice T x (some y) none none,ty,pos,after,guard⟩ ρ L R (.slice ar len cap):=fun _ w _=>by
 have hu:=U4 (tb.ok _ _ hT) rfl
 have he:P.elem T=e:=by simp [Program.elem,hu]
 have hu':P.underlying T=some (.slice (P.elem T)):=by rw [he];exact hu
 have hs:=Go.Aw.run_sizeOf (tb.ok _ _ hE) w
 simp only at hs
 have h1:=run_slice_l (P:=P) w T ar len cap hu' k 0 za za
 rw [he,hs,yA,show (0:Int).toNat=0 from rfl,Kqd] at h1
 simp [execOp,hx,hy,run_sliceAt_slice w T _ _ _ _ hu',h1]
def Kma {α:Type} (u:Arr α) (m wd:Nat):Arr α:=if m=0 then u else Yw u m wd
def Jlf {α:Type} (u:Arr α) (m wd:Nat):(Kma u m wd).l=u.l.drop m:=by
 rw [Kma];split;·rename_i h;subst h;rfl
 ·rfl
def K7e {α:Type} {u:Arr α} {m wd:Nat} {h:Int} {k:IntKind} {e n1 fl bt z k2 n2 fl2 bt2 z2} (hT:V2 tb.tab T=some ⟨.slice e,n1,fl,bt,z⟩) (hE:V2 tb.tab e=some ⟨k2,n2,fl2,bt2,z2⟩) (hx:ρ x=u.val) (hy:ρ y=.int k h) (hh:h=(m:Int)) (hn:m≤u.l.length) (hw:n2=wd):
 YV P ⟨dst,.slice T x (some y) none none,ty,pos,after,guard⟩ ρ L R (Kma u m wd).val:=by
 rw [Kma];split;·rename_i h0; subst h0;exact Ypd tb hT hE hx (by rw [hy,hh];rfl)
 ·exact Jxb tb hT hE hx hy hh za hn hw
def V6e {α:Type} {u:Arr α} {m:Nat} {h:Int} {k:IntKind} {e n1 fl bt z k2 n2 fl2 bt2 z2} (hT:V2 tb.tab T=some ⟨.slice e,n1,fl,bt,z⟩) (hE:V2 tb.tab e=some ⟨k2,n2,fl2,bt2,z2⟩) (hx:ρ x=u.val) (hy:ρ y=.int k h) (hh:h=(m:Int)) (hn:m≤u.l.length) (hc:u.l.length≤u.cap):
 YV P ⟨dst,.slice T x none (some y) none,ty,pos,after,guard⟩ ρ L R (Jsa u m).val:=by rw [Arr.val,yya,Nat.min_eq_left hn];exact Kca tb hT hE hx hy hh (by show m≤u.cap;omega)
end
def Uke {α:Type} {P n code t L R} {Q:Kt} {wd m:Nat} {f:α→List Value} {subs:LS} {y:Arr α} (hR:InR (y.sl wd f subs) R) (hk:m≤y.l.length) (hp:0 < wd) (h:InR ((Kma y m wd).sl wd f subs) ((Kma y m wd).sl wd f subs :: R)→CJ P n code t L ((Kma y m wd).sl wd f subs :: R) Q):CJ P n code t L R Q:=by
 rcases yyb m with h0 | h0;·
  have e : Kma y m wd = y := by rw [Kma, if_pos h0]
  rw [e] at h;have h1:=U6a (P:=P) (n:=n) (code:=code) (t:=t) (L:=L) (Q:=Q) y.l.length hR;refine h1 ?_;rw [yM (yn _)];exact h zCb
 ·
  refine Yia hR h0 hk hp ?_;have e:Kma y m wd=Yw y m wd:=by rw [Kma,if_neg za]
  rw [e] at h;exact h zCb
def Kze {g:PSite} {p:PSta} (hI:Inv g p) {a:PAct} (ha:ActOk a):p.dropped≤(Kue g p a).1.dropped∧(Kue g p a).1.dropped≤p.dropped + 100100:=by
 have hs:=fun (p:PSta) t=>(Vja (g:=g) (p:=p) t).dropped;rw [Kue];split;·
  rw [Y2]; split;·dsimp only;omega
  ·
   dsimp only;rw [hs];have h2:=Zlb _ (l:=p.held ++ a.bytes) p.dropped rfl (fun x hx=>by
    rcases List.mem_append.1 hx with hx | hx;·exact hI.held.1 x hx
    ·exact ha.bytes x hx)
   have h3:=ha.len;have h4:=hI.held.2;rw [yj] at h2;show p.dropped≤(Ul (p.held ++ a.bytes) p.dropped).dropped∧(Ul (p.held ++ a.bytes) p.dropped).dropped≤_;omega
 have hk:=hs p (p.time + a.wait);split;·
  rw [J3e]; split;·dsimp only;omega
  split;·dsimp only;omega
  ·dsimp only;rw [hs];dsimp only;omega
 split;·
  rw [Y3d]; split;·dsimp only;omega
  exact uaF
 split;·
  rw [K9d]; split;·dsimp only;omega
  exact uaF
 split;·
  rw [Zre]; split;·dsimp only;omega
  exact uaF
 ·
  rw [Yrf]; split;·dsimp only;omega
  ·dsimp only;rw [hs];omega
attribute [local irreducible] CJ LJ DJ Tri YV Gives Uo J0 Kj Un RV J2 OwL.L
end
section
attribute [local irreducible] CJ LJ DJ Tri YV Gives Uo J0 Kj Un RV J2 OwL.L
def Koe {l:List Bool}:∀{k:Nat},l[k]?=some false→(l.set k true).count true=l.count true + 1:=by
 induction l with
 | nil=>intro k h;simp at h
 | cons b l ih=>
  intro k h;cases k with
  | zero=>simp only [yab,yLa] at h;subst h;simp
  | succ k=>simp only [List.getElem?_cons_succ] at h;simp only [yZb,List.count_cons,ih h];omega
def Vrd {l:List Bool} (h:l.count true < l.length):∃j:Nat,l[j]?=some false:=by
 induction l with
 | nil=>simp at h
 | cons b l ih=>
  cases b with
  | false=>exact ⟨0,rfl⟩
  | true=>simp only [List.count_cons_self,yv] at h;obtain ⟨j,hj⟩:=ih za;exact ⟨j + 1,hj⟩
def Kme {m m2 jf n:Int} (hm:0≤m∧m < n) (hj:0≤jf∧jf < n) (hne:m≠jf) (h:m2=if m + 1=n then 0 else m + 1):(if m2≤jf then jf - m2 else jf - m2 + n).toNat < (if m≤jf then jf - m else jf - m + n).toNat:=by split at h <;> (repeat' split) <;> omega
end
end Go.Proofs.YtchfclmokpbldaaGreat
