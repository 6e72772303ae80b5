/-
  Fans: FanN, FanS, FanW, Pipe, Search, AirS, Inner, Ref09, in one text. By an AI agent; no person has read it.
-/
import Derived.Test.YtchfclmokpbldaaGreatChecks
set_option linter.all false
set_option maxHeartbeats 4000000
section
namespace Go.Proofs.YtchfclmokpbldaaGreat
open Go.Aw Go
set_option maxRecDepth 20000
attribute [local irreducible] CJ LJ DJ Tri YV Gives U0 J3 Kj Uz RV J5
def Kme (x y:Int) (L:LB) (R:LS) (hx:0≤x) (hx2:x≤2199023255552) (hy:0≤y) (hy2:y≤4194304):
 Tri Tryz.prog 303 [.int .u64 x,.int .u64 y].toArray L R (fun v M U=>v=.tuple #[.int .u64 0,.int .u64 (x * y)]∧L=M∧R=U):=by
 have e1:y % 4294967296=y:=by omega
 have e2:y / 4294967296=0:=by omega
 have b0:0≤x % 4294967296 * y:=yba za hy;have b1:x % 4294967296 * y≤4294967296 * 4194304:=yza za hy2 hy za;have c0:0≤x / 4294967296 * y:=yba za hy;have c1:x / 4294967296 * y≤512 * 4194304:=yza za hy2 hy za;have d0:0≤x * y:=yba hx hy;have d1:x * y≤2199023255552 * 4194304:=yza hx2 hy2 hy za;refine Jj 51 Tryz.call303 Tryz.func303 rfl rfl rfl ?_;apply Xac∘Xau;refine Jx (Ycb rfl rfl za za) rfl ?_;apply (Xau);refine Jx (J3b rfl rfl) rfl ?_;apply (Xau);refine Jx (Ycb rfl rfl za za) rfl ?_;apply (Xau);refine Jx (J3b rfl rfl) rfl ?_;apply (Xb5);simp only [e1,e2];apply Xa1∘Xc6∘Xau∘Xc6∘qaa;refine Jx (J3b rfl rfl) rfl ?_;apply qar∘Xau;refine Jx (Ycb rfl rfl za za) rfl ?_;apply (Xau);refine Jx (J3b rfl rfl) rfl ?_;apply (Xag);iterate 3 apply (qaa)
 apply qcm∘qar∘Xau∘Xc6∘qaa∘Xad;refine Jx (J3b rfl rfl) rfl ?_;apply qar∘Xau∘Xc6∘Xah;have key:(x / 4294967296 * y + x % 4294967296 * y / 4294967296) / 4294967296 + (x / 4294967296 * y + x % 4294967296 * y / 4294967296) % 4294967296 / 4294967296=0:=by omega
 refine q_r L R zTc ?_;exact ⟨by simp [key],rfl,rfl⟩
def Kwe (lo y:Int) (L:LB) (R:LS) (hx:0≤lo) (hx2:lo≤18446744073709551615) (hy:0 < y) (hy2:y≤18446744073709551615):
 Tri Tryz.prog 304 [.int .u64 0,.int .u64 lo,.int .u64 y].toArray L R (fun v M U=>v=.tuple #[.int .u64 (lo / y),.int .u64 (lo % y)]∧L=M∧R=U):=by refine Jj 135 Tryz.call304 Tryz.func304 rfl rfl rfl ?_;apply Xac∘Xb2∘Xcm;refine Jrb zfb zD ?_;apply qbo∘Xbg∘qbx∘qaf;refine Jrb zfb zD ?_;apply Xcq∘Xcm;refine Vye zfb zo ?_;refine Jr ?_;refine Kp tb [0,1,2,3,4,5,6,7] _ K3 zc ye ?_;apply qao∘qao;refine K2 zUa rfl rfl rfl ?_;apply qao∘qao;refine K2 (by first | exact K5e rfl rfl za za | exact U6e rfl rfl za) rfl rfl rfl ?_;apply (Xdn);refine Jz (Jc (U4 (Ke ?_)));refine q_r L R zTc ?_;exact zrd
def Yp (a b:XPoint) (q:Int):XSpan:=
 ⟨a.pres - (a.pres - b.pres) * (q - a.flow) / (b.flow - a.flow) - (if 0 < (a.pres - b.pres) * (q - a.flow) % (b.flow - a.flow) then 1 else 0),a.pres - (a.pres - b.pres) * (q - a.flow) / (b.flow - a.flow)⟩
def Jed (a b:XPoint) (q:Int) (L:LB) (R:LS) (hp:0≤b.pres∧b.pres≤a.pres∧a.pres≤2199023255552) (hf:-1048576≤a.flow∧a.flow≤q∧q≤b.flow∧a.flow < b.flow∧b.flow≤1048576):
 Tri Tryz.prog 294 [a.val,b.val,.int .i64 q].toArray L R (fun v M U=>v=(Yp a b q).val∧L=M∧R=U):=by
 have d0:0≤(a.pres - b.pres) * (q - a.flow):=yba za za;have d1:(a.pres - b.pres) * (q - a.flow)≤2199023255552 * 4194304:=yza za za za za;have d2:0≤(a.pres - b.pres) * (q - a.flow) / (b.flow - a.flow):=yMb d0 za;have d3:(a.pres - b.pres) * (q - a.flow) / (b.flow - a.flow)≤a.pres - b.pres:=by refine Int.ediv_le_of_le_mul za ?_;exact yoa za za
 refine Jj 57 Tryz.call294 Tryz.func294 rfl rfl rfl ?_;apply (Xaf);intro b3;apply (qax);intro b4;apply (qaq);intro b6;apply qam∘Xbq∘qa9∘qdg∘qaa∘Xaa∘qa9∘qdg;refine q_l rfl (Kme _ _ _ _ za za za za) ?_;refine Jx zCb rfl ?_;apply Xa3∘qad∘Xau∘qaa∘Xbq∘qa9∘qdg;refine q_l rfl (Kwe _ _ _ _ za za za za) ?_;refine Jx zCb rfl ?_;apply Xa3∘qad∘Xag∘Xam∘qdg∘qa9∘Xam∘qdg∘qa9∘qcd∘qaq;intro b11;apply Xa8∘Xb8∘qaf;refine q_c ?_ ?_<;>intro hc0;·apply qay∘Xaa∘Xdo∘qam∘Xde;refine q_r L R zDc ?_;exact ⟨by simp [Yp,XSpan.val,hc0],rfl,rfl⟩
 apply qbv∘Xde;refine q_r L R zDc ?_;exact ⟨by simp [Yp,XSpan.val,hc0],rfl,rfl⟩
end Go.Proofs.YtchfclmokpbldaaGreat
end
section
namespace Go.Proofs.YtchfclmokpbldaaGreat
open Go.Aw Go
structure CurveOk (l:List XPoint):Prop where
 pt:∀(i:Nat) (p:XPoint),l[i]?=some p→-1048576≤p.flow∧p.flow≤1048576∧0≤p.pres∧p.pres≤2199023255552
 st:∀(i:Nat) (p r:XPoint),l[i]?=some p→l[i + 1]?=some r→p.flow < r.flow∧r.pres≤p.pres
structure FanOk (f:XFan):Prop where
 road:0≤f.road
 len1:1≤f.curve.l.length
 len8:f.curve.l.length≤8
 ok:CurveOk f.curve.l
def Jjf {f:XFan} (h:Z1a f=0):FanOk f:=by
 unfold Z1a at h;split at h;·cases h
 rename_i h1;split at h;·cases h
 rename_i h2;have hn:(List.range f.curve.l.length).findSome? (Yo f.curve.l)=none:=by
  cases hf:(List.range f.curve.l.length).findSome? (Yo f.curve.l) with
  | none=>rfl
  | some e=>
   rw [hf] at h;simp only [ydc] at h;subst h;obtain ⟨i,_,hi⟩:=yI hf;unfold Yo at hi;split at hi;·cases hi
   ·
    split at hi;·cases hi
    ·
     split at hi;·cases hi
     ·
      split at hi;·cases hi
      ·split at hi <;> cases hi
 have hall:∀(i:Nat) (p:XPoint),f.curve.l[i]?=some p→Yo f.curve.l i=none:=fun i p hp=>by obtain ⟨hi,_⟩:=List.getElem?_eq_some_iff.1 hp;exact List.findSome?_eq_none_iff.1 hn i (List.mem_range.2 hi)
 have hpt:∀(i:Nat) (p:XPoint),f.curve.l[i]?=some p→-1048576≤p.flow∧p.flow≤1048576∧0≤p.pres∧p.pres≤2199023255552:=fun i p hp=>by
  have:=hall i p hp;by_cases hr:p.flow < -1048576∨1048576 < p.flow∨p.pres < 0∨2199023255552 < p.pres;·rw [Kmc hp hr] at this;cases this
  ·omega
 refine ⟨by omega,by omega,by omega,hpt,fun i p r hp hr=>?_⟩;have:=hall (i + 1) r hr;have b:=hpt _ _ hr;by_cases hb:r.flow≤p.flow∨p.pres < r.pres;·rw [V3b hr za za (by simpa using hp) hb] at this;cases this
 ·omega
def Jka (p : XPoint) : List XPoint → Int → XSpan
 | [],_=>⟨p.pres,p.pres⟩
 | r :: rest,q=>if q≤r.flow then Yp p r q else Jka r rest q
def K3a (l:List XPoint) (q:Int):XSpan:=
 match l with
 | []=>⟨0,0⟩
 | p :: rest=>if q≤p.flow then ⟨p.pres,p.pres⟩ else Jka p rest q
def Z8f (s:XSpan):XSpan:=⟨-s.high,-s.low⟩
def J4a (l:List XPoint) (back:Bool) (q:Int):XSpan:=if back then Z8f (K3a l (-q)) else K3a l q
def Zh (f:XFan) (s q:Int):XSpan:=
 if s=1 then J4a f.curve.l f.back q else if s=2 then J4a f.curve.l (!f.back) q
 else if s= -1 then ⟨min (min 0 (J4a f.curve.l false q).low) (J4a f.curve.l true q).low,max (max 0 (J4a f.curve.l false q).high) (J4a f.curve.l true q).high⟩
 else ⟨0,0⟩
def Z2a {a b:XPoint} {q:Int} (hp:0≤b.pres∧b.pres≤a.pres∧a.pres≤2199023255552) (hf:-1048576≤a.flow∧a.flow≤q∧q≤b.flow∧a.flow < b.flow∧b.flow≤1048576):
 b.pres≤(Yp a b q).low∧(Yp a b q).low≤(Yp a b q).high∧(Yp a b q).high≤a.pres:=by
 unfold Yp;have d0:0≤(a.pres - b.pres) * (q - a.flow):=yba za za;have d1:(a.pres - b.pres) * (q - a.flow)≤(a.pres - b.pres) * (b.flow - a.flow):=yoa za za;generalize (a.pres - b.pres) * (q - a.flow)=N at *;have hw:0 < b.flow - a.flow:=by omega
 generalize b.flow - a.flow=w at *;have d2:0≤N / w:=yMb d0 za;have d3:N / w≤a.pres - b.pres:=Int.ediv_le_of_le_mul hw d1;have d4:=Int.mul_ediv_add_emod N w;have d5:0≤N % w:=Int.emod_nonneg _ za;dsimp only;split;·
  rename_i hr;have:N / w < a.pres - b.pres:=by
   rcases yua (N / w) (a.pres - b.pres) with h | h;·exact h
   ·(have e : N / w = a.pres - b.pres := by omega);rw [e] at d4;rw [Int.mul_comm] at d4;omega
  omega
 ·omega
def J1a:∀(l:List XPoint) (p:XPoint) (q:Int),CurveOk (p :: l)→p.flow≤q→
 0≤(Jka p l q).low∧(Jka p l q).low≤(Jka p l q).high∧(Jka p l q).high≤p.pres
 | [],p,q,h,_=>by have:=h.pt 0 p rfl;simp only [Jka];omega
 | r :: rest,p,q,h,hq=>by
  have h0:=h.pt 0 p rfl
  have h1:=h.pt 1 r rfl
  have h2:=h.st 0 p r rfl rfl
  unfold Jka
  split
  ·have := Z2a (a := p) (b := r) (q := q) za za
   omega
  ·have := J1a rest r q ⟨fun i => h.pt (i + 1), fun i => h.st (i + 1)⟩ za
   omega
def Vea {l:List XPoint} (h:CurveOk l) (q:Int):0≤(K3a l q).low∧(K3a l q).low≤(K3a l q).high∧(K3a l q).high≤2199023255552:=by
 cases l with
 | nil=>simp [K3a]
 | cons p rest=>
  have h0:=h.pt 0 p rfl;unfold K3a;dsimp only;split;·(first | omega | (dsimp only;omega))
  ·have := J1a rest p q h za;omega
def Kka {l:List XPoint} (h:CurveOk l) (back:Bool) (q:Int):-2199023255552≤(J4a l back q).low∧(J4a l back q).low≤(J4a l back q).high∧(J4a l back q).high≤2199023255552:=by have h1:=Vea h q;have h2:=Vea h (-q);unfold J4a Z8f;split <;> first | omega | (dsimp only;omega)
def V0a {f:XFan} (h:FanOk f) (s q:Int):-2199023255552≤(Zh f s q).low∧(Zh f s q).low≤(Zh f s q).high∧(Zh f s q).high≤2199023255552:=by
 have h1:=Kka h.ok f.back q;have h2:=Kka h.ok (!f.back) q;have h3:=Kka h.ok false q;have h4:=Kka h.ok true q;unfold Zh;split;·omega
 ·
  split;·omega
  ·(split <;> first | omega | (dsimp only;omega))
def K0e {N w:Int} (hw:0 < w):(-N) / w= -(N / w) - (if 0 < N % w then 1 else 0):=by
 have h1:=Int.mul_ediv_add_emod N w;have h2:=Int.emod_nonneg N (show w≠0 by omega);have h3:=Int.emod_lt_of_pos N hw;split;·have := (Int.ediv_emod_unique (a := -N) (b := w) (q := -(N / w) - 1) (r := w - N % w) hw).2 ⟨by rw [Int.mul_sub, Int.mul_neg]; omega, by omega, by omega⟩;exact this.1
 ·have := (Int.ediv_emod_unique (a := -N) (b := w) (q := -(N / w)) (r := 0) hw).2 ⟨by rw [Int.mul_neg]; omega, by omega, by omega⟩;rw [this.1];omega
end Go.Proofs.YtchfclmokpbldaaGreat
end
section
namespace Go.Proofs.YtchfclmokpbldaaGreat
open Go.Aw Go
set_option maxRecDepth 20000
attribute [local irreducible] CJ LJ DJ Tri YV Gives U0 J3 Kj Uz RV J5
def Zoc (f:XFan) (q:Int) (L:LB) (R:LS) (hm:InR f.sl R) (hf:FanOk f) (hq:-1048577≤q∧q≤1048577):
 Tri Tryz.prog 282 [f.val,.int .i64 q].toArray L R (fun v M U=>v=(K3a f.curve.l q).val∧L=M∧R=U):=by
 have hl1:=hf.len1;have hl8:=hf.len8;obtain ⟨p0,hp0⟩:=Ky (l:=f.curve.l) (k:=0) za;obtain ⟨pn,hpn⟩:=Ky (l:=f.curve.l) (k:=f.curve.l.length - 1) za;refine Jj 62 Tryz.call282 Tryz.func282 rfl rfl rfl ?_;apply (Xaf);intro b2;apply (qaq);intro b4;apply (qa4);refine Kp tb [0,1,2,3,4,5,6,7,8,9,10,11,12,13,14,15] _ K3 zc ye ?_;apply Xan∘qdu∘qdo∘Xan∘Xan;refine K2 zBb rfl rfl rfl ?_;apply (qb7);refine K2 (by first | exact Jf tb rfl rfl rfl rfl zt (i:=f.curve.l.length - 1) zk za | exact Jl tb rfl rfl rfl rfl (i:=f.curve.l.length - 1) zk za) rfl rfl rfl ?_;apply qdo∘qbr;intro b5;apply (qbr);intro b6;apply qbg∘qbg∘qc6∘qaa∘Xaa∘qbx∘qaf;refine q_c ?_ ?_<;>intro hc0;·apply qae∘Xbq∘qcd∘qak∘qbh;obtain ⟨rest,hrest⟩:∃rest,f.curve.l=p0 :: rest:=⟨_,by have:=Yva hp0;simpa using this⟩;refine q_r L R zDc ?_;exact ⟨by rw [hrest];simp only [K3a,if_pos hc0],rfl,rfl⟩
 apply qbo∘Xcc;refine Jp [(1,.int _ _),(2,.pointer _),(4,.pointer _),(6,.pointer _),(7,.int _ _)] zh fun tq0=>?_;refine q_s ([7]++rg 29 28) (fun g:{k:Nat // 1≤k∧k≤f.curve.l.length∧∃p,f.curve.l[k - 1]?=some p∧p.flow < q∧K3a f.curve.l q=Jka p (f.curve.l.drop k) q}=>[(7,.int .i64 ((g.1:Nat):Int))]) (fun g=>f.curve.l.length - g.1) (⟨1,by omega,by omega,p0,hp0,by omega,by have h:=Yva hp0;simp only [yAb,yCa] at h;rw [h];simp only [K3a,if_neg hc0,List.drop_one,List.tail_cons]⟩) ?_;rintro ⟨k,hk1,hk2,p,hp,hpq,hs⟩ junk;try dsimp only
 apply Xb1∘Xab∘Xbm;refine q_c ?_ ?_<;>intro hc1;·
  obtain ⟨r,hr⟩:=Ky (l:=f.curve.l) (k:=k) za;have hb1:=hf.ok.pt _ _ hp;have hb2:=hf.ok.pt _ _ hr;have hb3:=hf.ok.st (k - 1) p r hp (by rw [show k - 1 + 1=k by omega];exact hr);rw [Yva hr] at hs;simp only [Jka] at hs;apply Xa0∘Xam∘qa3∘Xbv∘qbx∘qaf;refine q_c ?_ ?_<;>intro hc2;·refine Jr ?_;refine Kh tb [] [0,1,2,3,4,5,6,7,8,9,10,11,12] [13] (_) _ K3 zc zi zja ?_;apply Xdc∘qcc;refine Ku zdb rfl rfl rfl rfl ?_;apply qd1∘Xdc∘qc5∘qd1∘qbf;refine Up rfl (Jed p r q _ _ za za) rfl rfl ?_;rintro v M U ⟨rfl,rfl,rfl⟩;refine ⟨zi,zw,?_⟩;apply (Xch);refine Jz (Jc (U4 (J8 (Ke (Yg (J8 (Ke ?_)))))));refine q_r L R zDc ?_;exact ⟨by rw [hs,if_pos hc2],rfl,rfl⟩
  apply qbj∘Xdf;exact q_k (⟨k + 1,by omega,by omega,r,by simpa using hr,by omega,by rw [hs,if_neg hc2]⟩)
 obtain rfl:k=f.curve.l.length:=by omega
 obtain rfl:p=pn:=by rw [hp] at hpn;exact yL hpn
 rw [ycb (yl _)] at hs;apply qbk∘Xbq∘qcd∘Xbr;refine q_r L R zDc ?_;exact ⟨by rw [hs];rfl,rfl,rfl⟩
def Kob (f:XFan) (back:Bool) (q:Int) (L:LB) (R:LS) (hm:InR f.sl R) (hf:FanOk f) (hq:-1048577≤q∧q≤1048577):
 Tri Tryz.prog 246 [f.val,.bool back,.int .i64 q].toArray L R (fun v M U=>v=(J4a f.curve.l back q).val∧L=M∧R=U):=by
 have hb1:=Vea hf.ok (-q);refine Jj 24 Tryz.call246 Tryz.func246 rfl rfl rfl ?_;apply (Xaf);intro b3;apply (qaq);intro b6;apply qaw∘qah∘Xbb;refine q_c ?_ ?_<;>intro hc0;·apply qae∘qa8∘qaa;refine q_l rfl (Zoc f q _ _ hm hf hq) ?_;apply qak∘qbh;refine q_r L R zDc ?_;exact ⟨by simp [J4a,hc0],rfl,rfl⟩
 apply qbv∘qa8∘qaa∘qcq;refine q_l rfl (Zoc f (-q) _ _ hm hf za) ?_;apply (qaq);intro b7;apply Xbx∘qcq∘Xaa∘qcq∘qcd∘Xbr;refine q_r L R zDc ?_;exact ⟨by simp [J4a,hc0,Z8f],rfl,rfl⟩
def Vid (f:XFan) (s q:Int) (L:LB) (R:LS) (hm:InR f.sl R) (hf:FanOk f) (hq:-1048577≤q∧q≤1048577):
 Tri Tryz.prog 193 [f.val,.int .i64 s,.int .i64 q].toArray L R (fun v M U=>v=(Zh f s q).val∧L=M∧R=U):=by
 refine Jj 45 Tryz.call193 Tryz.func193 rfl rfl rfl ?_;apply (Xaf);intro b3;apply (qaq);intro b6;apply qaw∘qaa;refine J6 (Jc (Km (Jr (Jh ?_))));apply (Xa4);refine q_c ?_ ?_<;>intro hc0;·apply qae∘qa8∘Xam;refine q_l rfl (Kob f f.back q _ _ hm hf hq) ?_;apply qak∘qdb;refine q_r L R zDc ?_;exact ⟨by rw [Zh,if_pos hc0],rfl,rfl⟩
 apply (Xbp);refine q_c ?_ ?_<;>intro hc1;·apply qae∘qa8∘Xaa∘qb4∘qaa;refine q_l rfl (Kob f (!f.back) q _ _ hm hf hq) ?_;apply qak∘qdb;refine q_r L R zDc ?_;exact ⟨by rw [Zh,if_neg hc0,if_pos hc1],rfl,rfl⟩
 apply (Xbp);refine q_c ?_ ?_<;>intro hc2;·refine Jr ?_;refine Kp tb [0,1,3,4,2,5,6,7,8,9] _ K3 zc ye ?_;apply qbc∘qao∘qbc∘qao;refine q_d rfl (Kob f false q _ _ hm hf hq) ?_;refine q_d rfl (Kob f true q _ _ hm hf hq) ?_;apply (qbr);intro b7;apply (qbr);intro b8;apply qbg∘qbg;refine Jz (Jc (Jr (Jh ?_)));apply (Xbq);refine Jx (Kwf rfl rfl rfl) rfl ?_;apply (Xbq);refine Jx (Ktf rfl rfl rfl) rfl ?_;apply qcd∘qak∘qdb;refine q_r L R zDc ?_;exact ⟨by rw [Zh,if_neg hc0,if_neg hc1,if_pos hc2],rfl,rfl⟩
 refine Ka (Jk (Jc (Jr (Jh ?_))));apply qck∘Xbr;refine q_r L R zDc ?_;exact ⟨by rw [Zh,if_neg hc0,if_neg hc1,if_neg hc2],rfl,rfl⟩
end Go.Proofs.YtchfclmokpbldaaGreat
end
section
namespace Go.Proofs.YtchfclmokpbldaaGreat
open Go.Aw Go
set_option maxRecDepth 20000
attribute [local irreducible] CJ LJ DJ Tri YV Gives U0 J3 Kj Uz RV J5
structure PipeOk (p:XPipe):Prop where
 rest:0≤p.road.rest.low∧p.road.rest.low≤p.road.rest.high∧p.road.rest.high≤4456448
 lift:-2199023255552≤p.road.lift.low∧p.road.lift.low≤p.road.lift.high∧p.road.lift.high≤2199023255552
 len:p.fans.l.length≤8
 fan:∀(i:Nat) (b:XBlow),p.fans.l[i]?=some b→FanOk b.fan
def Jga (p : XPipe) (q : Int) : Nat → XSpan
 | 0=>if q < 0 then ⟨-p.road.rest.high * (q * q) - p.road.lift.high,-p.road.rest.low * (q * q) - p.road.lift.low⟩ else ⟨p.road.rest.low * (q * q) - p.road.lift.high,p.road.rest.high * (q * q) - p.road.lift.low⟩
 | k + 1=>⟨(Jga p q k).low - (Zh (p.fans.l.getD k default).fan (p.fans.l.getD k default).state q).high,(Jga p q k).high - (Zh (p.fans.l.getD k default).fan (p.fans.l.getD k default).state q).low⟩
def Jdb (p:XPipe) (q:Int):XSpan:=Jga p q p.fans.l.length
def J8b {q:Int} (hq:-1048577≤q∧q≤1048577):0≤q * q∧q * q≤1099513724929:=by
 rcases yua q 0 with h | h;·have h1 := yba (show 0 ≤ -q by omega) (show 0 ≤ -q by omega);have h2:=yza (show -q≤1048577 by omega) (show -q≤1048577 by omega) za za;rw [Int.neg_mul_neg] at h1 h2;omega
 ·have h1 := yba h h;have h2:=yza hq.2 hq.2 h za;omega
def V2a {r s:Int} (hr:0≤r∧r≤4456448) (hs:0≤s∧s≤1099513724929):0≤r * s∧r * s≤4899925740432392192∧-r * s= -(r * s):=by have h1:=yba hr.1 hs.1;have h2:=yza hr.2 hs.2 hs.1 za;exact ⟨h1,by omega,Int.neg_mul r s⟩
def Ueb {p:XPipe} {q:Int} (h:q < 0):Jga p q 0=⟨-p.road.rest.high * (q * q) - p.road.lift.high,-p.road.rest.low * (q * q) - p.road.lift.low⟩:=if_pos h
def K7b {p:XPipe} {q:Int} (h:¬ q < 0):Jga p q 0=⟨p.road.rest.low * (q * q) - p.road.lift.high,p.road.rest.high * (q * q) - p.road.lift.low⟩:=if_neg h
def Vra {p:XPipe} (h:PipeOk p) {q:Int} (hq:-1048577≤q∧q≤1048577):∀(k:Nat),k≤p.fans.l.length→
 -4899925740432392192 - 2199023255552 * (k + 1)≤(Jga p q k).low∧(Jga p q k).low≤(Jga p q k).high∧(Jga p q k).high≤4899925740432392192 + 2199023255552 * (k + 1)
 | 0,_=>by
  have hs:=J8b hq
  have hr:=h.rest
  have hl:=h.lift
  have h1:=V2a (r:=p.road.rest.low) za hs
  have h2:=V2a (r:=p.road.rest.high) za hs
  have h3:p.road.rest.low * (q * q)≤p.road.rest.high * (q * q):=yXa hr.2.1 hs.1
  unfold Jga
  split <;> dsimp only <;> omega
 | k + 1,hk=>by
  have ih:=Vra h hq k za
  have hb:=V0a (h.fan k _ ztc) (p.fans.l.getD k default).state q
  simp only [Jga]
  omega
def Vqd (p:XPipe) (q:Int) (L:LB) (R:LS) (hm:InR p.sl R) (hp:PipeOk p) (hq:-1048577≤q∧q≤1048577):
 Tri Tryz.prog 114 [p.val,.int .i64 q].toArray L R (fun v M U=>v=(Jdb p q).val∧L=M∧R=U):=by
 have hs:=J8b hq;have hr:=hp.rest;have hl:=hp.lift;have hln:=hp.len;have h1:=V2a (r:=p.road.rest.low) za hs;have h2:=V2a (r:=p.road.rest.high) za hs;refine Jj 86 Tryz.call114 Tryz.func114 rfl rfl rfl ?_;apply (Xaf);intro b2;apply (qaq);intro b4;apply qam∘Xbg∘qcm∘Xag;iterate 3 apply (qab)
 apply qac∘Xc6;iterate 3 apply (qab)
 apply qac∘Xc6∘qcd∘qaq;intro b6;apply Xa8∘qaa∘Xbm;refine q_c ?_ ?_<;>intro hc0;·
  apply (qay);iterate 3 apply (qab)
  apply qac∘qcq∘Xc6;iterate 3 apply (qab)
  apply qac∘qcq∘Xc6∘qcd∘Xbx;exact uaj
 apply qbv∘Xaa;exact uaj
end Go.Proofs.YtchfclmokpbldaaGreat
end
section
namespace Go.Proofs.YtchfclmokpbldaaGreat
open Go.Aw Go
set_option maxRecDepth 20000
attribute [local irreducible] CJ LJ DJ Tri YV Gives U0 J3 Kj Uz RV J5
def Zca {x:Int} (h:0≤x):x.tdiv 2=x / 2:=yR h
def Jcd (f:Int→Int) (pr lo hi:Int):Int:=
 if h:lo < hi then (if f (lo + (hi - lo + 1).tdiv 2)≤pr then Jcd f pr (lo + (hi - lo + 1).tdiv 2) hi else Jcd f pr lo (lo + (hi - lo + 1).tdiv 2 - 1)) else lo
termination_by (hi - lo).toNat
decreasing_by all_goals (have:=Zca (x:=hi - lo + 1) za;omega)
def Zpa (f:Int→Int) (pr lo hi:Int):Int:=
 if h:lo < hi then (if pr≤f (lo + (hi - lo).tdiv 2) then Zpa f pr lo (lo + (hi - lo).tdiv 2) else Zpa f pr (lo + (hi - lo).tdiv 2 + 1) hi) else lo
termination_by (hi - lo).toNat
decreasing_by all_goals (have:=Zca (x:=hi - lo) za;omega)
def Kke {f:Int→Int} {pr lo hi:Int} (h:lo < hi) (hf:f (lo + (hi - lo + 1).tdiv 2)≤pr):Jcd f pr lo hi=Jcd f pr (lo + (hi - lo + 1).tdiv 2) hi:=by rw [Jcd,dif_pos h,if_pos hf]
def Uhe {f:Int→Int} {pr lo hi:Int} (h:lo < hi) (hf:¬ f (lo + (hi - lo + 1).tdiv 2)≤pr):Jcd f pr lo hi=Jcd f pr lo (lo + (hi - lo + 1).tdiv 2 - 1):=by rw [Jcd,dif_pos h,if_neg hf]
def Vvd {f:Int→Int} {pr lo hi:Int} (h:¬ lo < hi):Jcd f pr lo hi=lo:=by rw [Jcd,dif_neg h]
def V2d {f:Int→Int} {pr lo hi:Int} (h:lo < hi) (hf:pr≤f (lo + (hi - lo).tdiv 2)):Zpa f pr lo hi=Zpa f pr lo (lo + (hi - lo).tdiv 2):=by rw [Zpa,dif_pos h,if_pos hf]
def Uyd {f:Int→Int} {pr lo hi:Int} (h:lo < hi) (hf:¬ pr≤f (lo + (hi - lo).tdiv 2)):Zpa f pr lo hi=Zpa f pr (lo + (hi - lo).tdiv 2 + 1) hi:=by rw [Zpa,dif_pos h,if_neg hf]
def Z1c {f:Int→Int} {pr lo hi:Int} (h:¬ lo < hi):Zpa f pr lo hi=lo:=by rw [Zpa,dif_neg h]
def Vd (f:Int→XSpan) (pr:Int):Int:=Jcd (fun q=>(f q).high) pr (-1048577) 1048576
def Uj (f:Int→XSpan) (pr:Int):Int:=Zpa (fun q=>(f q).low) pr (-1048576) 1048577
def Jcb (p:XPipe) (pr:Int) (L:LB) (R:LS) (hm:InR p.sl R) (hp:PipeOk p):
 Tri Tryz.prog 190 [p.val,.int .i64 pr].toArray L R (fun v M U=>v=.int .i64 (Vd (Jdb p) pr)∧L=M∧R=U):=by
 refine Jj 28 Tryz.call190 Tryz.func190 rfl rfl rfl ?_;apply (Xaf);intro b2;apply Xag∘qad∘qad;refine J6 (Jc (Jr (Km ?_)));refine Jp [(1,.int _ _),(2,.pointer _),(5,.int _ _),(6,.int _ _)] zh fun tq0=>?_;refine q_s (rg 5 22) (fun g:{g:Int×Int // -1048577≤g.1∧g.1≤g.2∧g.2≤1048576∧Vd (Jdb p) pr=Jcd (fun q=>(Jdb p q).high) pr g.1 g.2}=>[(5,.int .i64 g.1.1),(6,.int .i64 g.1.2)]) (fun g=>(g.1.2 - g.1.1).toNat) (⟨(-1048577,1048576),by omega,by omega,by omega,rfl⟩) ?_;rintro ⟨⟨lo,hi⟩,h1,h2,h3,h4⟩ junk;try dsimp only
 apply qbi∘Xbg∘Xbm;refine q_c ?_ ?_<;>intro hc0;·
  dsimp only at h1 h2 h3 h4 hc0;have he:=Zca (x:=hi - lo + 1) za;refine Ka (Jc (Km (Jr (Jh ?_))));iterate 3 apply (qaa)
  apply qa9∘qar∘qdd∘qar∘Xag∘qdi∘qaa;refine q_l rfl (Vqd p (lo + (hi - lo + 1).tdiv 2) _ _ hm hp za) ?_;apply qcz∘qaa∘qbx∘qaf;refine q_c ?_ ?_<;>intro hc1;·have e:=h4.trans (Kke hc0 hc1);exact (Xa1) zMd
  have e:=h4.trans (Uhe hc0 hc1);exact (Xa1∘qa9) zMd
 dsimp only at h1 h2 h3 h4 hc0;apply Xc5∘Xah;refine q_i L R ?_;exact ⟨by rw [h4,Vvd hc0],rfl,rfl⟩
def Yoa (p:XPipe) (pr:Int) (L:LB) (R:LS) (hm:InR p.sl R) (hp:PipeOk p):
 Tri Tryz.prog 191 [p.val,.int .i64 pr].toArray L R (fun v M U=>v=.int .i64 (Uj (Jdb p) pr)∧L=M∧R=U):=by
 refine Jj 27 Tryz.call191 Tryz.func191 rfl rfl rfl ?_;apply (Xaf);intro b2;apply Xag∘qad∘qad;refine J6 (Jc (Jr (Km ?_)));refine Jp [(1,.int _ _),(2,.pointer _),(5,.int _ _),(6,.int _ _)] zh fun tq0=>?_;refine q_s (rg 5 21) (fun g:{g:Int×Int // -1048576≤g.1∧g.1≤g.2∧g.2≤1048577∧Uj (Jdb p) pr=Zpa (fun q=>(Jdb p q).low) pr g.1 g.2}=>[(5,.int .i64 g.1.1),(6,.int .i64 g.1.2)]) (fun g=>(g.1.2 - g.1.1).toNat) (⟨(-1048576,1048577),by omega,by omega,by omega,rfl⟩) ?_;rintro ⟨⟨lo,hi⟩,h1,h2,h3,h4⟩ junk;try dsimp only
 apply qbi∘Xbg∘Xbm;refine q_c ?_ ?_<;>intro hc0;·
  dsimp only at h1 h2 h3 h4 hc0;have he:=Zca (x:=hi - lo) za;refine Ka (Jc (Km (Jr (Jh ?_))));iterate 3 apply (qaa)
  apply qa9∘qdd∘qar∘Xag∘qdi∘qaa;refine q_l rfl (Vqd p (lo + (hi - lo).tdiv 2) _ _ hm hp za) ?_;apply qcz∘qaa∘Xcn;refine q_c ?_ ?_<;>intro hc1;·have e:=h4.trans (V2d hc0 hc1);exact (Xa1) zMd
  have e:=h4.trans (Uyd hc0 hc1);exact (Xa1∘qar) zMd
 dsimp only at h1 h2 h3 h4 hc0;apply Xc5∘Xah;refine q_i L R ?_;exact ⟨by rw [h4,Z1c hc0],rfl,rfl⟩
end Go.Proofs.YtchfclmokpbldaaGreat
end
section
namespace Go.Proofs.YtchfclmokpbldaaGreat
open Go.Aw Go
def Vs {α:Type} {f:α→Option Int} {l:List α} (hf:∀x e,f x=some e→e≠0) (h:(l.findSome? f).getD 0=0):∀x∈l,f x=none:=by
 have hn:l.findSome? f=none:=by
  cases hs:l.findSome? f with
  | none=>rfl
  | some e=>rw [hs] at h;obtain ⟨x,_,hx⟩:=yI hs;exact absurd h (hf x e hx)
 exact List.findSome?_eq_none_iff.1 hn
structure RoadOk (n:Nat) (r:XRoad):Prop where
 fr:0≤r.fr∧r.fr < n
 to:0≤r.to∧r.to < n
 ne:r.fr≠r.to
 rest:1≤r.rest.low∧r.rest.low≤r.rest.high∧r.rest.high≤262144
 lift:-2199023255552≤r.lift.low∧r.lift.low≤r.lift.high∧r.lift.high≤2199023255552
def Zec {s:XSpan} {lo hi:Int}:Z5b s lo hi=true↔lo≤s.low∧s.low≤s.high∧s.high≤hi:=by simp [Z5b]
structure MineOk (m:XMine):Prop where
 places:m.places.l.length≤64
 roads:m.roads.l.length≤128
 road:∀(i:Nat) (r:XRoad),m.roads.l[i]?=some r→RoadOk m.places.l.length r
def Vle {m:XMine} (h:Vv m=0):MineOk m:=by
 unfold Vv at h;split at h;·cases h
 rename_i hlen;split at h;·rename_i e he;subst h;obtain ⟨x,_,hx⟩:=yI he;unfold Vva at hx;split at hx <;> cases hx
 have hall:=Vs (f:=Zn m.places.l.length) (fun x e hx he=>by
  subst he;unfold Zn at hx;split at hx;·cases hx
  ·split at hx <;> cases hx) h
 refine ⟨by omega,by omega,fun i r hr=>?_⟩;have:=hall r (yj hr);unfold Zn at this;split at this;·cases this
 rename_i h1;split at this;·cases this
 rename_i h2;have e1:Z5b r.rest 1 262144=true:=by
  cases hb:Z5b r.rest 1 262144 with
  | true=>rfl
  | false=>exact absurd (.inr (.inr (.inr (.inr (.inl hb))))) h2
 have e2:Z5b r.lift (-2199023255552) 2199023255552=true:=by
  cases hb:Z5b r.lift (-2199023255552) 2199023255552 with
  | true=>rfl
  | false=>exact absurd (.inr (.inr (.inr (.inr (.inr hb))))) h2
 exact ⟨by omega,by omega,by omega,Zec.1 e1,Zec.1 e2⟩
structure DoorOk (d:XDoor):Prop where
 road:0≤d.road
 len:2≤d.rests.l.length∧d.rests.l.length≤6
 rest:∀(i:Nat) (x:Int),d.rests.l[i]?=some x→0≤x∧x≤262144
 falls:Klb d.rests.l d.rests.l.length=true
def Yud {l:List XDoor} (h:V8 l=0):l.length≤16∧∀(i:Nat) (d:XDoor),l[i]?=some d→DoorOk d∧¬ Kxb l i d:=by
 unfold V8 at h;split at h;·cases h
 rename_i hlen;have hre:∀(x:Int) (e:Int),Uab x=some e→e=1:=fun x e he=>by unfold Uab at he;split at he <;> cases he;rfl
 have hall:=Vs (f:=Joa l) (fun i e hx he=>by
  subst he;unfold Joa at hx;split at hx;·cases hx
  ·
   split at hx;·cases hx
   ·
    split at hx;·cases hx
    ·
     split at hx;·rename_i e' he';obtain ⟨x,_,hx'⟩:=yI he';have:=hre x _ hx';cases hx;cases this
     ·
      split at hx;·cases hx
      ·split at hx <;> cases hx) h
 refine ⟨by omega,fun i d hd=>?_⟩;obtain ⟨hi,_⟩:=List.getElem?_eq_some_iff.1 hd;have:=hall i (List.mem_range.2 hi);rw [Jsc hd] at this;split at this;·cases this
 rename_i h1;split at this;·cases this
 rename_i h2;split at this;·cases this
 rename_i h3;split at this;·cases this
 rename_i h4;split at this;·cases this
 rename_i h5;refine ⟨⟨by omega,by omega,fun k x hx=>?_,by simpa using h4⟩,h5⟩;have:=List.findSome?_eq_none_iff.1 h3 x (yj hx);unfold Uab at this;exact uaY
def Unb {l : List Int} (h : ∀ (i : Nat) (x : Int), l[i]? = some x → 0 ≤ x ∧ x ≤ 262144) : ∀ (k : Nat), k ≤ l.length → 1 ≤ l.length → 0 ≤ Zpc l k ∧ Zpc l k ≤ l.getD 0 0 ∧ l.getD 0 0 ≤ Y9c l k ∧ Y9c l k ≤ 262144
 | 0,_,hl=>by have:=h 0 _ (Jw 0 za);simp only [Zpc,Y9c];omega
 | k + 1,hk,hl=>by
  have ih:=Unb h k za hl
  have:=h k _ (Jw 0 za)
  simp only [Zpc,Y9c]
  omega
def U7b {d:XDoor} (h:DoorOk d) (s:Int):0≤(Zqa d s).low∧(Zqa d s).low≤(Zqa d s).high∧(Zqa d s).high≤262144:=by
 unfold Zqa;split;·simp
 ·
  rename_i hc;split;·have := Unb h.rest d.rests.l.length (yl _) za;dsimp only;omega
  ·have := h.rest s.toNat _ (Jw 0 za);dsimp only;omega
structure AirOk (a:XAir):Prop where
 mine:MineOk a.mine
 nfans:a.fans.l.length≤8
 fan:∀(i:Nat) (f:XFan),a.fans.l[i]?=some f→FanOk f∧f.road < a.mine.roads.l.length
 ndoors:a.doors.l.length≤16
 door:∀(i:Nat) (d:XDoor),a.doors.l[i]?=some d→DoorOk d∧d.road < a.mine.roads.l.length
def Zj {a:XAir} (h:K1 a=0):AirOk a:=by
 unfold K1 at h;split at h;·exact ua9
 rename_i h1;split at h;·cases h
 rename_i h2;split at h;·
  rename_i e he;subst h;obtain ⟨x,_,hx⟩:=yI he;unfold Z4d at hx;split at hx;·rename_i hne;exact absurd (yL hx) hne
  ·split at hx <;> cases hx
 rename_i hfn;split at h;·rename_i h3;exact absurd h h3
 rename_i h3;have hdo:=Yud (by simpa using h3);have hdi:=Vs (f:=J3c a.mine.roads.l.length) (fun x e hx he=>by subst he;unfold J3c at hx;split at hx <;> cases hx) h;refine ⟨Vle (by simpa using h1),by omega,fun i f hf=>?_,hdo.1,fun i d hd=>⟨(hdo.2 i d hd).1,?_⟩⟩;·
  have := List.findSome?_eq_none_iff.1 hfn f (yj hf);unfold Z4d at this;split at this;·cases this
  rename_i h4;split at this;·cases this
  exact ⟨Jjf (by simpa using h4),by omega⟩
 ·have := hdi d (yj hd);unfold J3c at this;exact uaY
structure FitOk (a:XAir) (s:XSetting):Prop where
 lf:s.fans.l.length=a.fans.l.length
 ld:s.doors.l.length=a.doors.l.length
 fan:∀(i:Nat) (x:Int),s.fans.l[i]?=some x→-1≤x∧x≤2
 door:∀(i:Nat) (x:Int) (d:XDoor),s.doors.l[i]?=some x→a.doors.l[i]?=some d→-1≤x∧x < d.rests.l.length
def Vsb {a:XAir} {s:XSetting} (h:Yfa a s=true):FitOk a s:=by
 unfold Yfa at h;split at h;·cases h
 rename_i h1;simp only [yn,Option.isNone_iff_eq_none] at h;refine ⟨by omega,by omega,fun i x hx=>?_,fun i x d hx hd=>?_⟩;·have := List.findSome?_eq_none_iff.1 h.1 x (yj hx);unfold J2b at this;exact uaY
 ·obtain ⟨hi, _⟩ := List.getElem?_eq_some_iff.1 hx;have:=List.findSome?_eq_none_iff.1 h.2 i (List.mem_range.2 hi);rw [Yja hx hd] at this;exact uaY
def V3d {a:XAir} {s:XSetting} (h:Vwe a s=true):AirOk a∧FitOk a s:=by simp only [Vwe,yn,decide_eq_true_eq] at h;exact ⟨Zj h.1,Vsb h.2⟩
end Go.Proofs.YtchfclmokpbldaaGreat
end
section
namespace Go.Proofs.YtchfclmokpbldaaGreat
open Go.Aw Go
set_option maxRecDepth 20000
attribute [local irreducible] CJ LJ DJ Tri YV Gives U0 J3 Kj Uz RV J5
def V0 (a : XAir) (s : XSetting) (r : Int) : Nat → XSpan
 | 0=>(a.mine.roads.l.getD r.toNat default).rest
 | k + 1=>if (a.doors.l.getD k default).road=r then ⟨(V0 a s r k).low + (Zqa (a.doors.l.getD k default) (s.doors.l.getD k 0)).low,(V0 a s r k).high + (Zqa (a.doors.l.getD k default) (s.doors.l.getD k 0)).high⟩ else V0 a s r k
def Yve (rest lift:XSpan) (q:Int):XSpan:=
 if q < 0 then ⟨-(rest.high * q * q) - lift.high,-(rest.low * q * q) - lift.low⟩ else ⟨rest.low * q * q - lift.high,rest.high * q * q - lift.low⟩
def innerTo (a : XAir) (s : XSetting) (r q : Int) : Nat → XSpan
 | 0=>Yve (V0 a s r a.doors.l.length) (a.mine.roads.l.getD r.toNat default).lift q
 | k + 1=>if (a.fans.l.getD k default).road=r then ⟨(innerTo a s r q k).low - (Zh (a.fans.l.getD k default) (s.fans.l.getD k 0) q).high,(innerTo a s r q k).high - (Zh (a.fans.l.getD k default) (s.fans.l.getD k 0) q).low⟩ else innerTo a s r q k
def K5 (a:XAir) (s:XSetting) (r q:Int):XSpan:=innerTo a s r q a.fans.l.length
def Z3 {a:XAir} {s:XSetting} (h:AirOk a) {r:Int} (hr:0≤r∧r < a.mine.roads.l.length):∀(k:Nat),k≤a.doors.l.length→
 1≤(V0 a s r k).low∧(V0 a s r k).low≤(V0 a s r k).high∧(V0 a s r k).high≤262144 * (k + 1)
 | 0,_=>by
  have:=(h.mine.road r.toNat _ ztc).rest
  simp only [V0];omega
 | k + 1,hk=>by
  have ih:=Z3 (s:=s) h hr k za
  have hb:=U7b (h.door k _ ztc).1 (s.doors.l.getD k 0)
  simp only [V0]
  split
  ·dsimp only;omega
  ·omega
def K3d {a:XAir} {s:XSetting} {r q:Int} (h:q < 0):innerTo a s r q 0=⟨-((V0 a s r a.doors.l.length).high * q * q) - (a.mine.roads.l.getD r.toNat default).lift.high,-((V0 a s r a.doors.l.length).low * q * q) - (a.mine.roads.l.getD r.toNat default).lift.low⟩:=if_pos h
def K7d {a:XAir} {s:XSetting} {r q:Int} (h:¬ q < 0):innerTo a s r q 0=⟨(V0 a s r a.doors.l.length).low * q * q - (a.mine.roads.l.getD r.toNat default).lift.high,(V0 a s r a.doors.l.length).high * q * q - (a.mine.roads.l.getD r.toNat default).lift.low⟩:=if_neg h
end Go.Proofs.YtchfclmokpbldaaGreat
end
section
namespace Go.Proofs.YtchfclmokpbldaaGreat
open Go.Aw Go
set_option maxRecDepth 20000
attribute [local irreducible] CJ LJ DJ Tri YV Gives U0 J3 Kj Uz RV J5
end Go.Proofs.YtchfclmokpbldaaGreat
end
