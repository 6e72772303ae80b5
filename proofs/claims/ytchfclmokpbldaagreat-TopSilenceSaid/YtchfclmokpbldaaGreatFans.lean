/-
  Fans: FanN, FanS, FanW, Pipe, Search, AirS, Inner, Ref09, in one text. By an AI agent; no person has read it.
-/
import Derived.Test.YtchfclmokpbldaaGreatChecks
set_option linter.all false
set_option maxHeartbeats 4000000
section
namespace Go.Proofs.YtchfclmokpbldaaGreat
open Go.Aw Go
set_option maxRecDepth 20000
attribute [local irreducible] CJ LJ DJ Tri YV Gives Uq J2 Km Ur RV J4
def Uce (x y:Int) (L:LB) (R:LS) (hx:0≤x) (hx2:x≤2199023255552) (hy:0≤y) (hy2:y≤4194304):
 Tri Tryz.prog 303 [.int .u64 x,.int .u64 y].toArray L R (fun v M U=>v=.tuple #[.int .u64 0,.int .u64 (x * y)]∧L=M∧R=U):=by
 have e1:y % 4294967296=y:=by omega
 have e2:y / 4294967296=0:=by omega
 have b0:0≤x % 4294967296 * y:=yT za hy;have b1:x % 4294967296 * y≤4294967296 * 4194304:=yma za hy2 hy za;have c0:0≤x / 4294967296 * y:=yT za hy;have c1:x / 4294967296 * y≤512 * 4194304:=yma za hy2 hy za;have d0:0≤x * y:=yT hx hy;have d1:x * y≤2199023255552 * 4194304:=yma hx2 hy2 hy za;refine Jd 51 Tryz.call303 Tryz.func303 rfl rfl rfl ?_;apply Xac∘Xav;refine Jy (Z5b rfl rfl za za) rfl ?_;apply (Xav);refine Jy (Kyb rfl rfl) rfl ?_;apply (Xav);refine Jy (Z5b rfl rfl za za) rfl ?_;apply (Xav);refine Jy (Kyb rfl rfl) rfl ?_;apply (Xcb);simp only [e1,e2];apply Xa9∘Xdn∘Xav∘Xdn∘qaa;refine Jy (Kyb rfl rfl) rfl ?_;apply qar∘Xav;refine Jy (Z5b rfl rfl za za) rfl ?_;apply (Xav);refine Jy (Kyb rfl rfl) rfl ?_;apply (Xag);iterate 3 apply (qaa)
 apply qcm∘qar∘Xav∘Xdn∘qaa∘Xad;refine Jy (Kyb rfl rfl) rfl ?_;apply qar∘Xav∘Xdn∘Xai;have key:(x / 4294967296 * y + x % 4294967296 * y / 4294967296) / 4294967296 + (x / 4294967296 * y + x % 4294967296 * y / 4294967296) % 4294967296 / 4294967296=0:=by omega
 refine q_r L R zed ?_;exact ⟨by simp [key],rfl,rfl⟩
def Yle (lo y:Int) (L:LB) (R:LS) (hx:0≤lo) (hx2:lo≤18446744073709551615) (hy:0 < y) (hy2:y≤18446744073709551615):
 Tri Tryz.prog 304 [.int .u64 0,.int .u64 lo,.int .u64 y].toArray L R (fun v M U=>v=.tuple #[.int .u64 (lo / y),.int .u64 (lo % y)]∧L=M∧R=U):=by refine Jd 135 Tryz.call304 Tryz.func304 rfl rfl rfl ?_;apply Xac∘Xby∘Xbm;refine Kmb zmb zD ?_;apply qbo∘Xcd∘qbx∘qaf;refine Kmb zmb zD ?_;apply qbo∘qaa∘Xbm;refine Uhe zmb zo ?_;refine Jp ?_;refine Kh tb [0,1,2,3,4,5,6,7] _ Kr zc ye ?_;apply qao∘qao;refine K0 zZa rfl rfl rfl ?_;apply qao∘qao;refine K0 (by first | exact V5e rfl rfl za za | exact V6e rfl rfl za) rfl rfl rfl ?_;apply (Xds);refine J1 (Jb (K6 (J6 ?_)));refine q_r L R zed ?_;exact zDd
def U7 (a b:XPoint) (q:Int):XSpan:=
 ⟨a.pres - (a.pres - b.pres) * (q - a.flow) / (b.flow - a.flow) - (if 0 < (a.pres - b.pres) * (q - a.flow) % (b.flow - a.flow) then 1 else 0),a.pres - (a.pres - b.pres) * (q - a.flow) / (b.flow - a.flow)⟩
def Kdd (a b:XPoint) (q:Int) (L:LB) (R:LS) (hp:0≤b.pres∧b.pres≤a.pres∧a.pres≤2199023255552) (hf:-1048576≤a.flow∧a.flow≤q∧q≤b.flow∧a.flow < b.flow∧b.flow≤1048576):
 Tri Tryz.prog 294 [a.val,b.val,.int .i64 q].toArray L R (fun v M U=>v=(U7 a b q).val∧L=M∧R=U):=by
 have d0:0≤(a.pres - b.pres) * (q - a.flow):=yT za za;have d1:(a.pres - b.pres) * (q - a.flow)≤2199023255552 * 4194304:=yma za za za za;have d2:0≤(a.pres - b.pres) * (q - a.flow) / (b.flow - a.flow):=ylb d0 za;have d3:(a.pres - b.pres) * (q - a.flow) / (b.flow - a.flow)≤a.pres - b.pres:=by refine Int.ediv_le_of_le_mul za ?_;exact yta za za
 refine Jd 57 Tryz.call294 Tryz.func294 rfl rfl rfl ?_;apply (Xaf);intro b3;apply (qax);intro b4;apply (qaq);intro b6;apply qam∘Xbe∘qa9∘qdg∘qaa∘Xaa∘qa9∘qdg;refine q_l rfl (Uce _ _ _ _ za za za za) ?_;refine Jy zPb rfl ?_;apply Xdc∘Xav∘qaa∘Xbe∘qa9∘qdg;refine q_l rfl (Yle _ _ _ _ za za za za) ?_;refine Jy zPb rfl ?_;apply Xdc∘Xag∘Xah∘qdg∘qa9∘Xah∘qdg∘qa9∘qcd∘qaq;intro b11;apply Xbc∘qaa∘Xca;refine q_c ?_ ?_<;>intro hc0;·apply qay∘Xaa∘qa9∘Xd7∘Xc5;refine q_r L R zTc ?_;exact ⟨by simp [U7,XSpan.val,hc0],rfl,rfl⟩
 apply qbv∘Xc5;refine q_r L R zTc ?_;exact ⟨by simp [U7,XSpan.val,hc0],rfl,rfl⟩
end Go.Proofs.YtchfclmokpbldaaGreat
end
section
namespace Go.Proofs.YtchfclmokpbldaaGreat
open Go.Aw Go
structure CurveOk (l:List XPoint):Prop where
 pt:∀(i:Nat) (p:XPoint),l[i]?=some p→-1048576≤p.flow∧p.flow≤1048576∧0≤p.pres∧p.pres≤2199023255552
 st:∀(i:Nat) (p r:XPoint),l[i]?=some p→l[i + 1]?=some r→p.flow < r.flow∧r.pres≤p.pres
structure FanOk (f:XFan):Prop where
 road:0≤f.road
 len1:1≤f.curve.l.length
 len8:f.curve.l.length≤8
 ok:CurveOk f.curve.l
def K3f {f:XFan} (h:Yla f=0):FanOk f:=by
 unfold Yla at h;split at h;·cases h
 rename_i h1;split at h;·cases h
 rename_i h2;have hn:(List.range f.curve.l.length).findSome? (Ym f.curve.l)=none:=by
  cases hf:(List.range f.curve.l.length).findSome? (Ym f.curve.l) with
  | none=>rfl
  | some e=>
   rw [hf] at h;simp only [ykc] at h;subst h;obtain ⟨i,_,hi⟩:=yy hf;unfold Ym at hi;split at hi;·cases hi
   ·
    split at hi;·cases hi
    ·
     split at hi;·cases hi
     ·
      split at hi;·cases hi
      ·split at hi <;> cases hi
 have hall:∀(i:Nat) (p:XPoint),f.curve.l[i]?=some p→Ym f.curve.l i=none:=fun i p hp=>by obtain ⟨hi,_⟩:=List.getElem?_eq_some_iff.1 hp;exact List.findSome?_eq_none_iff.1 hn i (List.mem_range.2 hi)
 have hpt:∀(i:Nat) (p:XPoint),f.curve.l[i]?=some p→-1048576≤p.flow∧p.flow≤1048576∧0≤p.pres∧p.pres≤2199023255552:=fun i p hp=>by
  have:=hall i p hp;by_cases hr:p.flow < -1048576∨1048576 < p.flow∨p.pres < 0∨2199023255552 < p.pres;·rw [Ucc hp hr] at this;cases this
  ·omega
 refine ⟨by omega,by omega,by omega,hpt,fun i p r hp hr=>?_⟩;have:=hall (i + 1) r hr;have b:=hpt _ _ hr;by_cases hb:r.flow≤p.flow∨p.pres < r.pres;·rw [Ztb hr za za (by simpa using hp) hb] at this;cases this
 ·omega
def Yy (p : XPoint) : List XPoint → Int → XSpan
 | [],_=>⟨p.pres,p.pres⟩
 | r :: rest,q=>if q≤r.flow then U7 p r q else Yy r rest q
def V5 (l:List XPoint) (q:Int):XSpan:=
 match l with
 | []=>⟨0,0⟩
 | p :: rest=>if q≤p.flow then ⟨p.pres,p.pres⟩ else Yy p rest q
def Yzf (s:XSpan):XSpan:=⟨-s.high,-s.low⟩
def Yh (l:List XPoint) (back:Bool) (q:Int):XSpan:=if back then Yzf (V5 l (-q)) else V5 l q
def Uk (f:XFan) (s q:Int):XSpan:=
 if s=1 then Yh f.curve.l f.back q else if s=2 then Yh f.curve.l (!f.back) q
 else if s= -1 then ⟨min (min 0 (Yh f.curve.l false q).low) (Yh f.curve.l true q).low,max (max 0 (Yh f.curve.l false q).high) (Yh f.curve.l true q).high⟩
 else ⟨0,0⟩
def Z9a {a b:XPoint} {q:Int} (hp:0≤b.pres∧b.pres≤a.pres∧a.pres≤2199023255552) (hf:-1048576≤a.flow∧a.flow≤q∧q≤b.flow∧a.flow < b.flow∧b.flow≤1048576):
 b.pres≤(U7 a b q).low∧(U7 a b q).low≤(U7 a b q).high∧(U7 a b q).high≤a.pres:=by
 unfold U7;have d0:0≤(a.pres - b.pres) * (q - a.flow):=yT za za;have d1:(a.pres - b.pres) * (q - a.flow)≤(a.pres - b.pres) * (b.flow - a.flow):=yta za za;generalize (a.pres - b.pres) * (q - a.flow)=N at *;have hw:0 < b.flow - a.flow:=by omega
 generalize b.flow - a.flow=w at *;have d2:0≤N / w:=ylb d0 za;have d3:N / w≤a.pres - b.pres:=Int.ediv_le_of_le_mul hw d1;have d4:=Int.mul_ediv_add_emod N w;have d5:0≤N % w:=Int.emod_nonneg _ za;dsimp only;split;·
  rename_i hr;have:N / w < a.pres - b.pres:=by
   rcases yua (N / w) (a.pres - b.pres) with h | h;·exact h
   ·(have e : N / w = a.pres - b.pres := by omega);rw [e] at d4;rw [Int.mul_comm] at d4;omega
  omega
 ·omega
def Zx:∀(l:List XPoint) (p:XPoint) (q:Int),CurveOk (p :: l)→p.flow≤q→
 0≤(Yy p l q).low∧(Yy p l q).low≤(Yy p l q).high∧(Yy p l q).high≤p.pres
 | [],p,q,h,_=>by have:=h.pt 0 p rfl;simp only [Yy];omega
 | r :: rest,p,q,h,hq=>by
  have h0:=h.pt 0 p rfl
  have h1:=h.pt 1 r rfl
  have h2:=h.st 0 p r rfl rfl
  unfold Yy
  split
  ·have := Z9a (a := p) (b := r) (q := q) za za
   omega
  ·have := Zx rest r q ⟨fun i => h.pt (i + 1), fun i => h.st (i + 1)⟩ za
   omega
def K1a {l:List XPoint} (h:CurveOk l) (q:Int):0≤(V5 l q).low∧(V5 l q).low≤(V5 l q).high∧(V5 l q).high≤2199023255552:=by
 cases l with
 | nil=>simp [V5]
 | cons p rest=>
  have h0:=h.pt 0 p rfl;unfold V5;dsimp only;split;·(first | omega | (dsimp only;omega))
  ·have := Zx rest p q h za;omega
def Kva {l:List XPoint} (h:CurveOk l) (back:Bool) (q:Int):-2199023255552≤(Yh l back q).low∧(Yh l back q).low≤(Yh l back q).high∧(Yh l back q).high≤2199023255552:=by have h1:=K1a h q;have h2:=K1a h (-q);unfold Yh Yzf;exact ubr
def Vra {f:XFan} (h:FanOk f) (s q:Int):-2199023255552≤(Uk f s q).low∧(Uk f s q).low≤(Uk f s q).high∧(Uk f s q).high≤2199023255552:=by
 have h1:=Kva h.ok f.back q;have h2:=Kva h.ok (!f.back) q;have h3:=Kva h.ok false q;have h4:=Kva h.ok true q;unfold Uk;split;·omega
 ·
  split;·omega
  ·exact ubr
def Uaf {a b:Int} (hb:0 < b):(if a.tmod b < 0 then a.tdiv b - 1 else a.tdiv b)=a / b:=by
 have h1:=Int.mul_tdiv_add_tmod a b;have h2:-b < a.tmod b:=by have:=Int.lt_tmod_of_pos a hb;omega
 have h3:a.tmod b < b:=yBb a hb;split;·have := (ysb (a := a) (b := b) (q := a.tdiv b - 1) (r := a.tmod b + b) hb).2 ⟨by rw [Int.mul_sub]; omega, by omega, by omega⟩;exact this.1.symm
 ·have := (ysb (a := a) (b := b) (q := a.tdiv b) (r := a.tmod b) hb).2 ⟨by omega, by omega, by omega⟩;exact this.1.symm
def Jic {N w:Int} (hw:0 < w):(-N) / w= -(N / w) - (if 0 < N % w then 1 else 0):=by
 have h1:=Int.mul_ediv_add_emod N w;have h2:=Int.emod_nonneg N (show w≠0 by omega);have h3:=Int.emod_lt_of_pos N hw;split;·have := (ysb (a := -N) (b := w) (q := -(N / w) - 1) (r := w - N % w) hw).2 ⟨by rw [Int.mul_sub, yRb]; omega, by omega, by omega⟩;exact this.1
 ·have := (ysb (a := -N) (b := w) (q := -(N / w)) (r := 0) hw).2 ⟨by rw [yRb]; omega, by omega, by omega⟩;rw [this.1];omega
def Vjd {a b:XPoint} {q:Int} (hw:a.flow < b.flow):
 (⟨a.pres + (b.pres - a.pres) * (q - a.flow) / (b.flow - a.flow),a.pres + -(-((b.pres - a.pres) * (q - a.flow)) / (b.flow - a.flow))⟩:XSpan)=U7 a b q:=by
 have e:(b.pres - a.pres) * (q - a.flow)= -((a.pres - b.pres) * (q - a.flow)):=by rw [← yHb];congr 1;omega
 rw [e,Int.neg_neg,Jic za];unfold U7;congr 1 <;> omega
def Vpa : ∀ (l : List XPoint) (r pn : XPoint), CurveOk (r :: l) → (r :: l)[l.length]? = some pn → r.flow ≤ pn.flow ∧ (l ≠ [] → r.flow < pn.flow)
 | [],r,pn,_,hn=>by simp at hn;subst hn;exact ⟨yF _,fun h=>absurd rfl h⟩
 | s :: l,r,pn,ok,hn=>by
  have hs:=ok.st 0 r s rfl rfl
  have:=Vpa l s pn ⟨fun i=>ok.pt (i + 1),fun i=>ok.st (i + 1)⟩ (by simpa using hn)
  exact ⟨by omega,fun _=>by omega⟩
def Vnb : ∀ (l : List XPoint) (p pn : XPoint) (q : Int), CurveOk (p :: l) → (p :: l)[l.length]? = some pn → pn.flow ≤ q → (l = [] ∨ p.flow < q) → Yy p l q = ⟨pn.pres, pn.pres⟩
 | [],p,pn,q,_,hn,_,_=>by simp at hn;subst hn;rfl
 | r :: rest,p,pn,q,h,hn,hq,_=>by
  have h2:=h.st 0 p r rfl rfl
  have hn':(r :: rest)[rest.length]?=some pn:=by simpa using hn
  have ok':CurveOk (r :: rest):=⟨fun i=>h.pt (i + 1),fun i=>h.st (i + 1)⟩
  have hle:=Vpa rest r pn ok' hn'
  unfold Yy
  split
  ·rename_i hqr
   have hre:rest=[]:=by
    rcases rest with _ | ⟨s,rest⟩
    ·rfl
    ·have:=hle.2 zo;omega
   subst hre
   simp at hn';subst hn'
   have hqe:q=r.flow:=by omega
   subst hqe
   unfold U7
   have hw:0 < r.flow - p.flow:=by omega
   rw [Int.mul_ediv_cancel _ za,Int.mul_emod_left]
   simp
   omega
  ·exact Vnb rest r pn q ok' hn' hq (.inr za)
def K0d {l:List XPoint} (h:CurveOk l) (h1:1≤l.length) {pn:XPoint} (hn:l[l.length - 1]?=some pn) (q:Int) (hq:pn.flow≤q):V5 l q=⟨pn.pres,pn.pres⟩:=by
 cases l with
 | nil=>simp at h1
 | cons p rest=>
  have hn':(p :: rest)[rest.length]?=some pn:=by simpa using hn
  unfold V5;dsimp only;split;·
   rename_i hp;have hre:rest=[]:=by
    rcases rest with _ | ⟨s,rest⟩;·rfl
    ·exfalso;have h2:=h.st 0 p s rfl rfl;have:=Vpa rest s pn ⟨fun i=>h.pt (i + 1),fun i=>h.st (i + 1)⟩ (by simpa using hn');omega
   subst hre;simp at hn';subst hn';rfl
  ·exact Vnb rest p pn q h hn' hq (.inr za)
def Ugc : ∀ (l : List XPoint) (p0 : XPoint) (k : Nat) (p r : XPoint) (q : Int), CurveOk (p0 :: l) → (p0 :: l)[k]? = some p → (p0 :: l)[k + 1]? = some r → p.flow ≤ q → q < r.flow → p0.flow < q → Yy p0 l q = U7 p r q
 | [],p0,k,p,r,q,_,_,hr,_,_,_=>by simp at hr
 | s :: rest,p0,0,p,r,q,h,hp,hr,h1,h2,h3=>by
  simp at hp hr;subst hp;subst hr
  unfold Yy
  rw [if_pos za]
 | s :: rest,p0,k + 1,p,r,q,h,hp,hr,h1,h2,h3=>by
  have ok':CurveOk (s :: rest):=⟨fun i=>h.pt (i + 1),fun i=>h.st (i + 1)⟩
  have h4:=h.st 0 p0 s rfl rfl
  have hp':(s :: rest)[k]?=some p:=by simpa using hp
  have hr':(s :: rest)[k + 1]?=some r:=by simpa using hr
  have hr2:=ok'.st k p r hp' hr'
  unfold Yy
  split
  ·rename_i hqs
   -- then the point at k is this one, and the flow is its own
   have mono:∀(j:Nat) (x y:XPoint),(s :: rest)[0]?=some x→(s :: rest)[j]?=some y→x.flow + j≤y.flow:=by
    intro j
    induction j with
    | zero=>intro x y hx hy;rw [hx] at hy;cases hy;omega
    | succ j ih=>
     intro x y hx hy
     obtain ⟨hj,_⟩:=List.getElem?_eq_some_iff.1 hy
     obtain ⟨z,hz⟩:=Kn (l:=s :: rest) (k:=j) za
     have:=ih x z hx hz
     have:=ok'.st j z y hz hy
     omega
   have hm:=mono k s p rfl hp'
   have hk:k=0:=by omega
   subst hk
   simp at hp';subst hp'
   have hqe:q=s.flow:=by omega
   subst hqe
   have hpr:=ok'.pt 0 s rfl
   unfold U7
   have hw:0 < s.flow - p0.flow:=by omega
   rw [Int.mul_ediv_cancel _ za,Int.mul_emod_left,Int.sub_self,ylc,Int.zero_ediv,Int.zero_emod]
   simp
   omega
  ·exact Ugc rest s k p r q ok' hp' hr' h1 h2 za
def Vte {l:List XPoint} (h:CurveOk l) {k:Nat} {p r:XPoint} {q:Int} (hp:l[k]?=some p) (hr:l[k + 1]?=some r) (h1:p.flow≤q) (h2:q < r.flow):V5 l q=U7 p r q:=by
 cases l with
 | nil=>simp at hp
 | cons p0 rest=>
  unfold V5;dsimp only;split;·
   rename_i hq;have mono:∀(j:Nat) (y:XPoint),(p0 :: rest)[j]?=some y→p0.flow + j≤y.flow:=by
    intro j;induction j with
    | zero=>intro y hy;simp at hy;subst hy;omega
    | succ j ih=>intro y hy;obtain ⟨hj,_⟩:=List.getElem?_eq_some_iff.1 hy;obtain ⟨z,hz⟩:=Kn (l:=p0 :: rest) (k:=j) za;have:=ih z hz;have:=h.st j z y hz hy;omega
   have hm:=mono k p hp;(have hk:k=0:=by omega);subst hk;simp at hp;subst hp;(have hqe:q=p0.flow:=by omega);subst hqe;unfold U7;rw [Int.sub_self,ylc,Int.zero_ediv,Int.zero_emod];simp
  ·exact Ugc rest p0 k p r q h hp hr h1 h2 za
end Go.Proofs.YtchfclmokpbldaaGreat
end
section
namespace Go.Proofs.YtchfclmokpbldaaGreat
open Go.Aw Go
set_option maxRecDepth 20000
attribute [local irreducible] CJ LJ DJ Tri YV Gives Uq J2 Km Ur RV J4
def Jwd (f:XFan) (q:Int) (L:LB) (R:LS) (hm:InR f.sl R) (hf:FanOk f) (hq:-1048577≤q∧q≤1048577):
 Tri Tryz.prog 282 [f.val,.int .i64 q].toArray L R (fun v M U=>v=(V5 f.curve.l q).val∧L=M∧R=U):=by
 have hl1:=hf.len1;have hl8:=hf.len8;obtain ⟨p0,hp0⟩:=Kn (l:=f.curve.l) (k:=0) za;obtain ⟨pn,hpn⟩:=Kn (l:=f.curve.l) (k:=f.curve.l.length - 1) za;refine Jd 62 Tryz.call282 Tryz.func282 rfl rfl rfl ?_;apply (Xaf);intro b2;apply (qaq);intro b4;apply (qa4);refine Kh tb [0,1,2,3,4,5,6,7,8,9,10,11,12,13,14,15] _ Kr zc ye ?_;apply Xak∘qdu∘qdo∘Xak∘Xak;refine K0 zKb rfl rfl rfl ?_;apply (qb7);refine K0 zGa rfl rfl rfl ?_;apply qdo∘qbr;intro b5;apply (qbr);intro b6;apply qbg∘qbg∘qc6∘qaa∘Xaa∘qbx∘qaf;refine q_c ?_ ?_<;>intro hc0;·apply qae∘Xbe∘qcd∘Xdt;obtain ⟨rest,hrest⟩:∃rest,f.curve.l=p0 :: rest:=⟨_,by have:=Vga hp0;simpa using this⟩;refine q_r L R zTc ?_;exact ⟨by rw [hrest];simp only [V5,if_pos hc0],rfl,rfl⟩
 apply qbo∘Xba;refine Jl [(1,.int _ _),(2,.pointer _),(4,.pointer _),(6,.pointer _),(7,.int _ _)] zh fun tq0=>?_;refine q_s ([7]++rg 29 28) (fun g:{k:Nat // 1≤k∧k≤f.curve.l.length∧∃p,f.curve.l[k - 1]?=some p∧p.flow < q∧V5 f.curve.l q=Yy p (f.curve.l.drop k) q}=>[(7,.int .i64 ((g.1:Nat):Int))]) (fun g=>f.curve.l.length - g.1) (⟨1,by omega,by omega,p0,hp0,by omega,by have h:=Vga hp0;simp only [ygb,yFa] at h;rw [h];simp only [V5,if_neg hc0,List.drop_one,List.tail_cons]⟩) ?_;rintro ⟨k,hk1,hk2,p,hp,hpq,hs⟩ junk;try dsimp only
 apply Xa1∘Xd8;refine q_c ?_ ?_<;>intro hc1;·
  obtain ⟨r,hr⟩:=Kn (l:=f.curve.l) (k:=k) za;have hb1:=hf.ok.pt _ _ hp;have hb2:=hf.ok.pt _ _ hr;have hb3:=hf.ok.st (k - 1) p r hp (by rw [show k - 1 + 1=k by omega];exact hr);rw [Vga hr] at hs;simp only [Yy] at hs;apply Xa4∘Xah∘qa3∘Xbx∘qbx∘qaf;refine q_c ?_ ?_<;>intro hc2;·refine Jp ?_;refine J5 tb [] [0,1,2,3,4,5,6,7,8,9,10,11,12] [13] (_) _ Kr zc zg zQ ?_;apply Xcf∘qcc;refine Kp zjb rfl rfl rfl rfl ?_;apply qd1∘Xcf∘qc5∘qd1∘qbf;refine Ks rfl (Kdd p r q _ _ za za) rfl rfl ?_;rintro v M U ⟨rfl,rfl,rfl⟩;refine ⟨zg,zq,?_⟩;apply (Xcm);refine J1 (Jb (K6 (J9 (J6 (Yb (J9 (J6 ?_)))))));refine q_r L R zTc ?_;exact ⟨by rw [hs,if_pos hc2],rfl,rfl⟩
  apply qbj∘Xbo;exact q_k (⟨k + 1,by omega,by omega,r,by simpa using hr,by omega,by rw [hs,if_neg hc2]⟩)
 obtain rfl:k=f.curve.l.length:=by omega
 obtain rfl:p=pn:=by rw [hp] at hpn;exact yL hpn
 rw [yhb (ym _)] at hs;apply qbk∘Xbe∘qcd∘Xbd;refine q_r L R zTc ?_;exact ⟨by rw [hs];rfl,rfl,rfl⟩
def Kbb (f:XFan) (back:Bool) (q:Int) (L:LB) (R:LS) (hm:InR f.sl R) (hf:FanOk f) (hq:-1048577≤q∧q≤1048577):
 Tri Tryz.prog 246 [f.val,.bool back,.int .i64 q].toArray L R (fun v M U=>v=(Yh f.curve.l back q).val∧L=M∧R=U):=by
 have hb1:=K1a hf.ok (-q);refine Jd 24 Tryz.call246 Tryz.func246 rfl rfl rfl ?_;apply (Xaf);intro b3;apply (qaq);intro b6;apply qaw∘qah∘Xbl;refine q_c ?_ ?_<;>intro hc0;·apply qae∘qa8∘qaa;refine q_l rfl (Jwd f q _ _ hm hf hq) ?_;apply (Xdt);refine q_r L R zTc ?_;exact ⟨by simp [Yh,hc0],rfl,rfl⟩
 apply qbv∘qa8∘qaa∘qcq;refine q_l rfl (Jwd f (-q) _ _ hm hf za) ?_;apply (qaq);intro b7;apply Xb9∘qcq∘Xaa∘qcq∘qcd∘Xbd;refine q_r L R zTc ?_;exact ⟨by simp [Yh,hc0,Yzf],rfl,rfl⟩
def Y8d (f:XFan) (s q:Int) (L:LB) (R:LS) (hm:InR f.sl R) (hf:FanOk f) (hq:-1048577≤q∧q≤1048577):
 Tri Tryz.prog 193 [f.val,.int .i64 s,.int .i64 q].toArray L R (fun v M U=>v=(Uk f s q).val∧L=M∧R=U):=by
 refine Jd 45 Tryz.call193 Tryz.func193 rfl rfl rfl ?_;apply (Xaf);intro b3;apply (qaq);intro b6;apply qaw∘qaa;refine J7 (Jb (Kc (Jp (Jh ?_))));apply (Xax);refine q_c ?_ ?_<;>intro hc0;·apply qae∘qa8∘Xah;refine q_l rfl (Kbb f f.back q _ _ hm hf hq) ?_;apply qak∘qdb;refine q_r L R zTc ?_;exact ⟨by rw [Uk,if_pos hc0],rfl,rfl⟩
 apply (Xbj);refine q_c ?_ ?_<;>intro hc1;·apply qae∘qa8∘Xaa∘qb4∘qaa;refine q_l rfl (Kbb f (!f.back) q _ _ hm hf hq) ?_;apply qak∘qdb;refine q_r L R zTc ?_;exact ⟨by rw [Uk,if_neg hc0,if_pos hc1],rfl,rfl⟩
 apply (Xbj);refine q_c ?_ ?_<;>intro hc2;·refine Jp ?_;refine Kh tb [0,1,3,4,2,5,6,7,8,9] _ Kr zc ye ?_;apply qbc∘qao∘qbc∘qao;refine q_d rfl (Kbb f false q _ _ hm hf hq) ?_;refine q_d rfl (Kbb f true q _ _ hm hf hq) ?_;apply (qbr);intro b7;apply (qbr);intro b8;apply qbg∘qbg;refine J1 (Jb (Jp (Jh ?_)));apply (Xbe);refine Jy (Vke rfl rfl rfl) rfl ?_;apply (Xbe);refine Jy (Vje rfl rfl rfl) rfl ?_;apply qcd∘qak∘qdb;refine q_r L R zTc ?_;exact ⟨by rw [Uk,if_neg hc0,if_neg hc1,if_pos hc2],rfl,rfl⟩
 refine J3 (Jf (Jb (Jp (Jh ?_))));apply qck∘Xbd;refine q_r L R zTc ?_;exact ⟨by rw [Uk,if_neg hc0,if_neg hc1,if_neg hc2],rfl,rfl⟩
def Zkc (a b:Int) (L:LB) (R:LS) (ha:-9223372036854775807≤a∧a≤9223372036854775807) (hb:0 < b∧b≤9223372036854775807):
 Tri Tryz.prog 291 [.int .i64 a,.int .i64 b].toArray L R (fun v M U=>v=.int .i64 (a / b)∧L=M∧R=U):=by
 have hfl:=Uaf (a:=a) hb.1;have hc:-9223372036854775807≤a / b∧a / b≤9223372036854775807:=by
  rcases yua a 0 with h | h;·have h1 : a / b ≤ 0 := yEb za hb.1;(have h2:a≤a / b:=by refine Int.le_ediv_of_mul_le hb.1 ?_;have:=Int.mul_le_mul_of_nonpos_left (a:=a) (b:=b) (c:=1) za za;omega);omega
  ·have h1 := ylb h (show 0 ≤ b by omega);have h2:=yub b h;omega
 have hd:-9223372036854775807≤a.tdiv b∧a.tdiv b≤9223372036854775807:=by
  split at hfl;·
   constructor;·omega
   ·
    have h1 := Int.mul_tdiv_add_tmod a b;rename_i h;have:a < 0:=by
     rcases yua a 0 with h' | h';·exact h'
     ·have:=ySb b h';omega
    have h3:a / b≤0:=yEb za hb.1;omega
  ·omega
 refine Jd 16 Tryz.call291 Tryz.func291 rfl rfl rfl ?_;apply Xac∘qam∘Xcd∘qdd∘Xby∘qaa∘qda∘Xbb;refine q_c ?_ ?_<;>intro hc0;·rw [if_pos hc0] at hfl;apply Xa9∘qa9∘Xav∘Xai;refine q_i L R ?_;exact ⟨by rw [hfl],rfl,rfl⟩
 rw [if_neg hc0] at hfl;apply Xc6∘Xai;refine q_i L R ?_;exact ⟨by rw [hfl],rfl,rfl⟩
def Khf (a b:Int) (L:LB) (R:LS) (ha:-9223372036854775807≤a∧a≤9223372036854775807) (hb:0 < b∧b≤9223372036854775807) (hq:-9223372036854775807≤(-a) / b∧(-a) / b≤9223372036854775807):
 Tri Tryz.prog 259 [.int .i64 a,.int .i64 b].toArray L R (fun v M U=>v=.int .i64 (-((-a) / b))∧L=M∧R=U):=by refine Jd 10 Tryz.call259 Tryz.func259 rfl rfl rfl ?_;apply Xac∘Xc9∘qcq∘qaa;refine q_l rfl (Zkc (-a) b _ _ za hb) ?_;apply qcq∘Xai;refine q_i L R ?_;exact zDd
def Zlc (f:XFan) (q:Int) (L:LB) (R:LS) (hm:InR f.sl R) (hf:FanOk f) (hq:-1048577≤q∧q≤1048577):
 Tri Tryz.prog 276 [f.val,.int .i64 q].toArray L R (fun v M U=>v=(V5 f.curve.l q).val∧L=M∧R=U):=by
 have hl1:=hf.len1;have hl8:=hf.len8;obtain ⟨p0,hp0⟩:=Kn (l:=f.curve.l) (k:=0) za;obtain ⟨pn,hpn⟩:=Kn (l:=f.curve.l) (k:=f.curve.l.length - 1) za;have hcl:=K0d hf.ok za hpn;have hc0':q≤p0.flow→V5 f.curve.l q=⟨p0.pres,p0.pres⟩:=fun h=>by have h':=Vga hp0;simp only [ygb,yFa] at h';rw [h'];simp only [V5,if_pos h]
 refine Jd 106 Tryz.call276 Tryz.func276 rfl rfl rfl ?_;apply (Xaf);intro b2;apply (qaq);intro b4;apply qam∘Xab∘Xby∘Xaa∘qdt∘Xbx∘qbx∘qaf;refine q_c ?_ ?_<;>intro hc0;·refine Jp ?_;refine J5 tb [] [0,1,2,3,4,5,6,7,8,9,10] [11] (_) _ Kr zc zg zQ ?_;apply Xaj∘qd2∘qcv∘qci∘Xaj∘qd2∘qcv∘qci∘qcw∘Xcm;refine J1 (Jb (K6 (J6 ?_)));refine q_r L R zTc ?_;exact ⟨by rw [hc0' hc0],rfl,rfl⟩
 apply qbo∘qaa∘Xct;refine Jy zGa rfl ?_;apply Xbx∘Xcw;refine q_c ?_ ?_<;>intro hc1;·refine Jp ?_;refine J5 tb [] [0,1,2,3,4,5,6,7,8,9,10,11,12,13,14] [15] (_) _ Kr zc zg zQ ?_;apply Xcf∘qcc∘qd3∘qcv∘qci∘Xcf∘qcc∘qd3∘qcv∘qci∘qcw∘Xcm;refine J1 (Jb (K6 (J6 ?_)));refine q_r L R zTc ?_;exact ⟨by rw [hcl q hc1],rfl,rfl⟩
 apply qbv∘qad;refine J7 (Jb (Jp (Kc ?_)));refine Jl [(1,.int _ _),(2,.pointer _),(4,.pointer _),(6,.int _ _)] zh fun tq0=>?_;refine q_s ([6]++rg 56 11) (fun g:{k:Nat // k + 1 < f.curve.l.length∧∃p,f.curve.l[k]?=some p∧p.flow≤q}=>[(6,.int .i64 ((g.1:Nat):Int))]) (fun g=>f.curve.l.length - g.1) (⟨0,by rcases yl 1 f.curve.l.length with h | h;exact h;exfalso;rw [show f.curve.l.length - 1=0 by omega,hp0] at hpn;cases hpn;omega,p0,hp0,by omega⟩) ?_;rintro ⟨k,hk,p,hp,hpq⟩ junk;try dsimp only
 refine Jp (Jp ?_);obtain ⟨r,hr⟩:=Kn (l:=f.curve.l) (k:=k + 1) za;apply qay∘Xah∘qar;refine Jy zkb rfl ?_;apply Xbx∘qaa∘qbx∘qaf;refine q_c ?_ ?_<;>intro hc2;·refine J3 (Jb (Kc (Jh ?_)));apply Xa2∘qad;refine J7 (Jf ?_);exact q_k (⟨k + 1,by rcases yl (k + 1 + 1) f.curve.l.length with h | h;exact h;exfalso;rw [show f.curve.l.length - 1=k + 1 by omega,hr] at hpn;cases hpn;omega,r,hr,by omega⟩)
 have hb1:=hf.ok.pt _ _ hp;have hb2:=hf.ok.pt _ _ hr;have hb3:=hf.ok.st k p r hp hr;have hcr:=Vte hf.ok hp hr hpq za;have d0:0≤(p.pres - r.pres) * (q - p.flow):=yT za za;have d1:(p.pres - r.pres) * (q - p.flow)≤2199023255552 * 2097153:=yma za za za za;have de:(r.pres - p.pres) * (q - p.flow)= -((p.pres - r.pres) * (q - p.flow)):=by rw [← yHb];congr 1;omega
 have d2:0≤(p.pres - r.pres) * (q - p.flow) / (r.flow - p.flow):=ylb d0 za;have d3:(p.pres - r.pres) * (q - p.flow) / (r.flow - p.flow)≤(p.pres - r.pres) * (q - p.flow):=yub _ d0;have d4:=Jic (N:=(p.pres - r.pres) * (q - p.flow)) (w:=r.flow - p.flow) za;have d7:-((p.pres - r.pres) * (q - p.flow)) - 1≤ -((p.pres - r.pres) * (q - p.flow)) / (r.flow - p.flow)∧-((p.pres - r.pres) * (q - p.flow)) / (r.flow - p.flow)≤0:=by split at d4 <;> omega
 have d5:-((r.pres - p.pres) * (q - p.flow)) / (r.flow - p.flow)=(p.pres - r.pres) * (q - p.flow) / (r.flow - p.flow):=by rw [de,Int.neg_neg]
 have d6:(r.pres - p.pres) * (q - p.flow) / (r.flow - p.flow)= -((p.pres - r.pres) * (q - p.flow)) / (r.flow - p.flow):=by rw [de]
 apply (qc3);refine Kh tb [0,1,2,3,4,5,6,7,8,9,10,11,12,13,14] _ Kr zc ye ?_;apply Xbv∘qds∘qdo∘Xbv∘qc2∘qdy∘qdo∘qbr;intro b7;apply (qbr);intro b8;apply qbg∘qbg∘qb9;refine Kh tb [0,1,2,3,4,5,6,7,8,9,10,11,12,13,14,15,16] _ Kr zc ye ?_;apply Xak∘Xak∘qb7∘qao∘Xak∘qb7∘qdh∘Xak∘Xak∘qb7∘Xds∘qb9;refine J5 tb [] [0,1,2,3,6,7,8,9,4,5,10,11,12] [13] (_) _ Kr zc zg zQ ?_;apply Xcf∘qbf∘Xcf∘qbf;refine Ks rfl (Zkc _ _ _ _ za za) rfl rfl ?_;rintro v M U ⟨rfl,rfl,rfl⟩;refine ⟨zg,zq,?_⟩;apply (qcj);refine Ks rfl (Khf _ _ _ _ za za za) rfl rfl ?_;rintro v M U ⟨rfl,rfl,rfl⟩;refine ⟨zg,zq,?_⟩;apply qcj∘qcw∘Xcm;refine J1 (Jb (K6 ?_));refine q_r L R zTc ?_;exact ⟨by rw [hcr,← Vjd za],rfl,rfl⟩
def V9a (f:XFan) (back:Bool) (q:Int) (L:LB) (R:LS) (hm:InR f.sl R) (hf:FanOk f) (hq:-1048577≤q∧q≤1048577):
 Tri Tryz.prog 236 [f.val,.bool back,.int .i64 q].toArray L R (fun v M U=>v=(Yh f.curve.l back q).val∧L=M∧R=U):=by
 have hb1:=K1a hf.ok (-q);refine Jd 23 Tryz.call236 Tryz.func236 rfl rfl rfl ?_;apply (Xaf);intro b3;apply (qaq);intro b6;apply qaw∘qah∘qaf;refine q_c ?_ ?_<;>intro hc0;·apply qae∘qa8∘qaa∘qcq;refine q_l rfl (Zlc f (-q) _ _ hm hf za) ?_;apply (qaq);intro b7;apply Xb9∘qcq∘Xaa∘qcq∘qcd∘Xdt;refine q_r L R zTc ?_;exact ⟨by simp [Yh,hc0,Yzf],rfl,rfl⟩
 apply qbv∘qa8∘qaa;refine q_l rfl (Zlc f q _ _ hm hf hq) ?_;apply (Xbd);refine q_r L R zTc ?_;exact ⟨by simp [Yh,hc0],rfl,rfl⟩
def Uld (f:XFan) (s q:Int) (L:LB) (R:LS) (hm:InR f.sl R) (hf:FanOk f) (hq:-1048577≤q∧q≤1048577) (hs:-1≤s∧s≤2):
 Tri Tryz.prog 182 [f.val,.int .i64 s,.int .i64 q].toArray L R (fun v M U=>v=(Uk f s q).val∧L=M∧R=U):=by
 refine Jd 45 Tryz.call182 Tryz.func182 rfl rfl rfl ?_;apply (Xaf);intro b3;apply (qaq);intro b6;apply qaw∘qaa;refine J7 (Jb (Kc (Jp (Jh ?_))));apply (Xax);refine q_c ?_ ?_<;>intro hc0;·apply qae∘qck∘qak∘qdb;refine q_r L R zTc ?_;exact ⟨by rw [Uk,if_neg za,if_neg za,if_neg za],rfl,rfl⟩
 apply (Xbj);refine q_c ?_ ?_<;>intro hc1;·apply qae∘qa8∘Xah;refine q_l rfl (V9a f f.back q _ _ hm hf hq) ?_;apply qak∘qdb;refine q_r L R zTc ?_;exact ⟨by rw [Uk,if_pos hc1],rfl,rfl⟩
 apply (Xbj);refine q_c ?_ ?_<;>intro hc2;·apply qae∘qa8∘Xaa∘qb4∘qaa;refine q_l rfl (V9a f (!f.back) q _ _ hm hf hq) ?_;apply qak∘qdb;refine q_r L R zTc ?_;exact ⟨by rw [Uk,if_neg hc1,if_pos hc2],rfl,rfl⟩
 refine J3 (Jf (Jb (Jp ?_)));refine Kh tb [0,1,3,4,2,5,6,7,8,9] _ Kr zc ye ?_;apply qbc∘qao∘qbc∘qao;refine q_d rfl (V9a f false q _ _ hm hf hq) ?_;refine q_d rfl (V9a f true q _ _ hm hf hq) ?_;apply (qbr);intro b7;apply (qbr);intro b8;apply qbg∘qbg;refine J1 (Jb (Jp (Jh ?_)));apply (Xbe);refine Jy (Vke rfl rfl rfl) rfl ?_;apply (Xbe);refine Jy (Vje rfl rfl rfl) rfl ?_;apply qcd∘Xbd;refine q_r L R zTc ?_;exact ⟨by rw [Uk,if_neg hc1,if_neg hc2,if_pos za,Int.min_comm 0,Int.max_comm 0];simp only [Int.min_assoc,Int.max_assoc,Int.min_comm 0,Int.max_comm 0],rfl,rfl⟩
end Go.Proofs.YtchfclmokpbldaaGreat
end
section
namespace Go.Proofs.YtchfclmokpbldaaGreat
open Go.Aw Go
set_option maxRecDepth 20000
attribute [local irreducible] CJ LJ DJ Tri YV Gives Uq J2 Km Ur RV J4
structure PipeOk (p:XPipe):Prop where
 rest:0≤p.road.rest.low∧p.road.rest.low≤p.road.rest.high∧p.road.rest.high≤4456448
 lift:-2199023255552≤p.road.lift.low∧p.road.lift.low≤p.road.lift.high∧p.road.lift.high≤2199023255552
 len:p.fans.l.length≤8
 fan:∀(i:Nat) (b:XBlow),p.fans.l[i]?=some b→FanOk b.fan
def Jqa (p : XPipe) (q : Int) : Nat → XSpan
 | 0=>if q < 0 then ⟨-p.road.rest.high * (q * q) - p.road.lift.high,-p.road.rest.low * (q * q) - p.road.lift.low⟩ else ⟨p.road.rest.low * (q * q) - p.road.lift.high,p.road.rest.high * (q * q) - p.road.lift.low⟩
 | k + 1=>⟨(Jqa p q k).low - (Uk (p.fans.l.getD k default).fan (p.fans.l.getD k default).state q).high,(Jqa p q k).high - (Uk (p.fans.l.getD k default).fan (p.fans.l.getD k default).state q).low⟩
def Jeb (p:XPipe) (q:Int):XSpan:=Jqa p q p.fans.l.length
def J2b {q:Int} (hq:-1048577≤q∧q≤1048577):0≤q * q∧q * q≤1099513724929:=by
 rcases yua q 0 with h | h;·have h1 := yT zzc zzc;have h2:=yma (show -q≤1048577 by omega) (show -q≤1048577 by omega) za za;rw [Int.neg_mul_neg] at h1 h2;omega
 ·have h1 := yT h h;have h2:=yma hq.2 hq.2 h za;omega
def Voa {r s:Int} (hr:0≤r∧r≤4456448) (hs:0≤s∧s≤1099513724929):0≤r * s∧r * s≤4899925740432392192∧-r * s= -(r * s):=by have h1:=yT hr.1 hs.1;have h2:=yma hr.2 hs.2 hs.1 za;exact ⟨h1,by omega,yHb r s⟩
def Uub {p:XPipe} {q:Int} (h:q < 0):Jqa p q 0=⟨-p.road.rest.high * (q * q) - p.road.lift.high,-p.road.rest.low * (q * q) - p.road.lift.low⟩:=if_pos h
def Ufb {p:XPipe} {q:Int} (h:¬ q < 0):Jqa p q 0=⟨p.road.rest.low * (q * q) - p.road.lift.high,p.road.rest.high * (q * q) - p.road.lift.low⟩:=if_neg h
def Yfa {p:XPipe} (h:PipeOk p) {q:Int} (hq:-1048577≤q∧q≤1048577):∀(k:Nat),k≤p.fans.l.length→
 -4899925740432392192 - 2199023255552 * (k + 1)≤(Jqa p q k).low∧(Jqa p q k).low≤(Jqa p q k).high∧(Jqa p q k).high≤4899925740432392192 + 2199023255552 * (k + 1)
 | 0,_=>by
  have hs:=J2b hq
  have hr:=h.rest
  have hl:=h.lift
  have h1:=Voa (r:=p.road.rest.low) za hs
  have h2:=Voa (r:=p.road.rest.high) za hs
  have h3:p.road.rest.low * (q * q)≤p.road.rest.high * (q * q):=yEa hr.2.1 hs.1
  unfold Jqa
  split <;> dsimp only <;> omega
 | k + 1,hk=>by
  have ih:=Yfa h hq k za
  have hb:=Vra (h.fan k _ zBc) (p.fans.l.getD k default).state q
  simp only [Jqa]
  omega
def Zcd (p:XPipe) (q:Int) (L:LB) (R:LS) (hm:InR p.sl R) (hp:PipeOk p) (hq:-1048577≤q∧q≤1048577):
 Tri Tryz.prog 114 [p.val,.int .i64 q].toArray L R (fun v M U=>v=(Jeb p q).val∧L=M∧R=U):=by
 have hs:=J2b hq;have hr:=hp.rest;have hl:=hp.lift;have hln:=hp.len;have h1:=Voa (r:=p.road.rest.low) za hs;have h2:=Voa (r:=p.road.rest.high) za hs;refine Jd 86 Tryz.call114 Tryz.func114 rfl rfl rfl ?_;apply (Xaf);intro b2;apply (qaq);intro b4;apply qam∘Xcd∘qcm∘Xag;iterate 3 apply (qab)
 apply qac∘Xdn;iterate 3 apply (qab)
 apply qac∘Xdn∘qcd∘qaq;intro b6;apply Xbc∘qaa∘Xbb;refine q_c ?_ ?_<;>intro hc0;·
  apply (qay);iterate 3 apply (qab)
  apply qac∘qcq∘Xdn;iterate 3 apply (qab)
  apply qac∘qcq∘Xdn∘qcd∘Xb9;exact uaf
 apply qbv∘Xaa;exact uaf
end Go.Proofs.YtchfclmokpbldaaGreat
end
section
namespace Go.Proofs.YtchfclmokpbldaaGreat
open Go.Aw Go
set_option maxRecDepth 20000
attribute [local irreducible] CJ LJ DJ Tri YV Gives Uq J2 Km Ur RV J4
def Zca {x:Int} (h:0≤x):x.tdiv 2=x / 2:=yaa h
def Kad (f:Int→Int) (pr lo hi:Int):Int:=
 if h:lo < hi then (if f (lo + (hi - lo + 1).tdiv 2)≤pr then Kad f pr (lo + (hi - lo + 1).tdiv 2) hi else Kad f pr lo (lo + (hi - lo + 1).tdiv 2 - 1)) else lo
termination_by (hi - lo).toNat
decreasing_by all_goals (have:=Zca (x:=hi - lo + 1) za;omega)
def Zua (f:Int→Int) (pr lo hi:Int):Int:=
 if h:lo < hi then (if pr≤f (lo + (hi - lo).tdiv 2) then Zua f pr lo (lo + (hi - lo).tdiv 2) else Zua f pr (lo + (hi - lo).tdiv 2 + 1) hi) else lo
termination_by (hi - lo).toNat
decreasing_by all_goals (have:=Zca (x:=hi - lo) za;omega)
def Kwe {f:Int→Int} {pr lo hi:Int} (h:lo < hi) (hf:f (lo + (hi - lo + 1).tdiv 2)≤pr):Kad f pr lo hi=Kad f pr (lo + (hi - lo + 1).tdiv 2) hi:=by rw [Kad,dif_pos h,if_pos hf]
def Yje {f:Int→Int} {pr lo hi:Int} (h:lo < hi) (hf:¬ f (lo + (hi - lo + 1).tdiv 2)≤pr):Kad f pr lo hi=Kad f pr lo (lo + (hi - lo + 1).tdiv 2 - 1):=by rw [Kad,dif_pos h,if_neg hf]
def V4d {f:Int→Int} {pr lo hi:Int} (h:¬ lo < hi):Kad f pr lo hi=lo:=by rw [Kad,dif_neg h]
def Ycd {f:Int→Int} {pr lo hi:Int} (h:lo < hi) (hf:pr≤f (lo + (hi - lo).tdiv 2)):Zua f pr lo hi=Zua f pr lo (lo + (hi - lo).tdiv 2):=by rw [Zua,dif_pos h,if_pos hf]
def Yjd {f:Int→Int} {pr lo hi:Int} (h:lo < hi) (hf:¬ pr≤f (lo + (hi - lo).tdiv 2)):Zua f pr lo hi=Zua f pr (lo + (hi - lo).tdiv 2 + 1) hi:=by rw [Zua,dif_pos h,if_neg hf]
def Jud {f:Int→Int} {pr lo hi:Int} (h:¬ lo < hi):Zua f pr lo hi=lo:=by rw [Zua,dif_neg h]
def Vm (f:Int→XSpan) (pr:Int):Int:=Kad (fun q=>(f q).high) pr (-1048577) 1048576
def Um (f:Int→XSpan) (pr:Int):Int:=Zua (fun q=>(f q).low) pr (-1048576) 1048577
def Job (p:XPipe) (pr:Int) (L:LB) (R:LS) (hm:InR p.sl R) (hp:PipeOk p):
 Tri Tryz.prog 190 [p.val,.int .i64 pr].toArray L R (fun v M U=>v=.int .i64 (Vm (Jeb p) pr)∧L=M∧R=U):=by
 refine Jd 28 Tryz.call190 Tryz.func190 rfl rfl rfl ?_;apply (Xaf);intro b2;apply Xag∘qad∘qad;refine J7 (Jb (Jp (Kc ?_)));refine Jl [(1,.int _ _),(2,.pointer _),(5,.int _ _),(6,.int _ _)] zh fun tq0=>?_;refine q_s (rg 5 22) (fun g:{g:Int×Int // -1048577≤g.1∧g.1≤g.2∧g.2≤1048576∧Vm (Jeb p) pr=Kad (fun q=>(Jeb p q).high) pr g.1 g.2}=>[(5,.int .i64 g.1.1),(6,.int .i64 g.1.2)]) (fun g=>(g.1.2 - g.1.1).toNat) (⟨(-1048577,1048576),by omega,by omega,by omega,rfl⟩) ?_;rintro ⟨⟨lo,hi⟩,h1,h2,h3,h4⟩ junk;try dsimp only
 apply Xd0∘Xbb;refine q_c ?_ ?_<;>intro hc0;·
  dsimp only at h1 h2 h3 h4 hc0;have he:=Zca (x:=hi - lo + 1) za;refine J3 (Jb (Kc (Jp (Jh ?_))));iterate 3 apply (qaa)
  apply qa9∘qar∘qdd∘qar∘Xag∘qdi∘qaa;refine q_l rfl (Zcd p (lo + (hi - lo + 1).tdiv 2) _ _ hm hp za) ?_;apply qcz∘qaa∘qbx∘qaf;refine q_c ?_ ?_<;>intro hc1;·have e:=h4.trans (Kwe hc0 hc1);exact (Xa9) zbe
  have e:=h4.trans (Yje hc0 hc1);exact (Xa9∘qa9) zbe
 dsimp only at h1 h2 h3 h4 hc0;apply (Xd3);refine q_i L R ?_;exact ⟨by rw [h4,V4d hc0],rfl,rfl⟩
def Zba (p:XPipe) (pr:Int) (L:LB) (R:LS) (hm:InR p.sl R) (hp:PipeOk p):
 Tri Tryz.prog 191 [p.val,.int .i64 pr].toArray L R (fun v M U=>v=.int .i64 (Um (Jeb p) pr)∧L=M∧R=U):=by
 refine Jd 27 Tryz.call191 Tryz.func191 rfl rfl rfl ?_;apply (Xaf);intro b2;apply Xag∘qad∘qad;refine J7 (Jb (Jp (Kc ?_)));refine Jl [(1,.int _ _),(2,.pointer _),(5,.int _ _),(6,.int _ _)] zh fun tq0=>?_;refine q_s (rg 5 21) (fun g:{g:Int×Int // -1048576≤g.1∧g.1≤g.2∧g.2≤1048577∧Um (Jeb p) pr=Zua (fun q=>(Jeb p q).low) pr g.1 g.2}=>[(5,.int .i64 g.1.1),(6,.int .i64 g.1.2)]) (fun g=>(g.1.2 - g.1.1).toNat) (⟨(-1048576,1048577),by omega,by omega,by omega,rfl⟩) ?_;rintro ⟨⟨lo,hi⟩,h1,h2,h3,h4⟩ junk;try dsimp only
 apply Xd0∘Xbb;refine q_c ?_ ?_<;>intro hc0;·
  dsimp only at h1 h2 h3 h4 hc0;have he:=Zca (x:=hi - lo) za;refine J3 (Jb (Kc (Jp (Jh ?_))));iterate 3 apply (qaa)
  apply qa9∘qdd∘qar∘Xag∘qdi∘qaa;refine q_l rfl (Zcd p (lo + (hi - lo).tdiv 2) _ _ hm hp za) ?_;apply qcz∘qaa∘Xcw;refine q_c ?_ ?_<;>intro hc1;·have e:=h4.trans (Ycd hc0 hc1);exact (Xa9) zbe
  have e:=h4.trans (Yjd hc0 hc1);exact (qay∘Xa2) zbe
 dsimp only at h1 h2 h3 h4 hc0;apply (Xd3);refine q_i L R ?_;exact ⟨by rw [h4,Jud hc0],rfl,rfl⟩
end Go.Proofs.YtchfclmokpbldaaGreat
end
section
namespace Go.Proofs.YtchfclmokpbldaaGreat
open Go.Aw Go
def Vy {α:Type} {f:α→Option Int} {l:List α} (hf:∀x e,f x=some e→e≠0) (h:(l.findSome? f).getD 0=0):∀x∈l,f x=none:=by
 have hn:l.findSome? f=none:=by
  cases hs:l.findSome? f with
  | none=>rfl
  | some e=>rw [hs] at h;obtain ⟨x,_,hx⟩:=yy hs;exact absurd h (hf x e hx)
 exact List.findSome?_eq_none_iff.1 hn
structure RoadOk (n:Nat) (r:XRoad):Prop where
 fr:0≤r.fr∧r.fr < n
 to:0≤r.to∧r.to < n
 ne:r.fr≠r.to
 rest:1≤r.rest.low∧r.rest.low≤r.rest.high∧r.rest.high≤262144
 lift:-2199023255552≤r.lift.low∧r.lift.low≤r.lift.high∧r.lift.high≤2199023255552
def K0b {s:XSpan} {lo hi:Int}:Kbc s lo hi=true↔lo≤s.low∧s.low≤s.high∧s.high≤hi:=by simp [Kbc]
structure MineOk (m:XMine):Prop where
 places:m.places.l.length≤64
 roads:m.roads.l.length≤128
 road:∀(i:Nat) (r:XRoad),m.roads.l[i]?=some r→RoadOk m.places.l.length r
def Yqe {m:XMine} (h:Un m=0):MineOk m:=by
 unfold Un at h;split at h;·cases h
 rename_i hlen;split at h;·rename_i e he;subst h;obtain ⟨x,_,hx⟩:=yy he;unfold Jia at hx;split at hx <;> cases hx
 have hall:=Vy (f:=V3 m.places.l.length) (fun x e hx he=>by
  subst he;unfold V3 at hx;split at hx;·cases hx
  ·split at hx <;> cases hx) h
 refine ⟨by omega,by omega,fun i r hr=>?_⟩;have:=hall r (yi hr);unfold V3 at this;split at this;·cases this
 rename_i h1;split at this;·cases this
 rename_i h2;have e1:Kbc r.rest 1 262144=true:=by
  cases hb:Kbc r.rest 1 262144 with
  | true=>rfl
  | false=>exact absurd (.inr (.inr (.inr (.inr (.inl hb))))) h2
 have e2:Kbc r.lift (-2199023255552) 2199023255552=true:=by
  cases hb:Kbc r.lift (-2199023255552) 2199023255552 with
  | true=>rfl
  | false=>exact absurd (.inr (.inr (.inr (.inr (.inr hb))))) h2
 exact ⟨by omega,by omega,by omega,K0b.1 e1,K0b.1 e2⟩
structure DoorOk (d:XDoor):Prop where
 road:0≤d.road
 len:2≤d.rests.l.length∧d.rests.l.length≤6
 rest:∀(i:Nat) (x:Int),d.rests.l[i]?=some x→0≤x∧x≤262144
 falls:Uka d.rests.l d.rests.l.length=true
def J9e {l:List XDoor} (h:Vw l=0):l.length≤16∧∀(i:Nat) (d:XDoor),l[i]?=some d→DoorOk d∧¬ Usb l i d:=by
 unfold Vw at h;split at h;·cases h
 rename_i hlen;have hre:∀(x:Int) (e:Int),Jfb x=some e→e=1:=fun x e he=>by unfold Jfb at he;split at he <;> cases he;rfl
 have hall:=Vy (f:=J2a l) (fun i e hx he=>by
  subst he;unfold J2a at hx;split at hx;·cases hx
  ·
   split at hx;·cases hx
   ·
    split at hx;·cases hx
    ·
     split at hx;·rename_i e' he';obtain ⟨x,_,hx'⟩:=yy he';have:=hre x _ hx';cases hx;cases this
     ·
      split at hx;·cases hx
      ·split at hx <;> cases hx) h
 refine ⟨by omega,fun i d hd=>?_⟩;obtain ⟨hi,_⟩:=List.getElem?_eq_some_iff.1 hd;have:=hall i (List.mem_range.2 hi);rw [Uib hd] at this;split at this;·cases this
 rename_i h1;split at this;·cases this
 rename_i h2;split at this;·cases this
 rename_i h3;split at this;·cases this
 rename_i h4;split at this;·cases this
 rename_i h5;refine ⟨⟨by omega,by omega,fun k x hx=>?_,by simpa using h4⟩,h5⟩;have:=List.findSome?_eq_none_iff.1 h3 x (yi hx);unfold Jfb at this;exact uaL
def U3b {l : List Int} (h : ∀ (i : Nat) (x : Int), l[i]? = some x → 0 ≤ x ∧ x ≤ 262144) : ∀ (k : Nat), k ≤ l.length → 1 ≤ l.length → 0 ≤ Yqb l k ∧ Yqb l k ≤ l.getD 0 0 ∧ l.getD 0 0 ≤ Zgb l k ∧ Zgb l k ≤ 262144
 | 0,_,hl=>by have:=h 0 _ (Jt 0 za);simp only [Yqb,Zgb];omega
 | k + 1,hk,hl=>by
  have ih:=U3b h k za hl
  have:=h k _ (Jt 0 za)
  simp only [Yqb,Zgb]
  omega
def U4b {d:XDoor} (h:DoorOk d) (s:Int):0≤(Z2 d s).low∧(Z2 d s).low≤(Z2 d s).high∧(Z2 d s).high≤262144:=by
 unfold Z2;split;·simp
 ·
  rename_i hc;split;·have := U3b h.rest d.rests.l.length (ym _) za;dsimp only;omega
  ·have := h.rest s.toNat _ (Jt 0 za);dsimp only;omega
structure AirOk (a:XAir):Prop where
 mine:MineOk a.mine
 nfans:a.fans.l.length≤8
 fan:∀(i:Nat) (f:XFan),a.fans.l[i]?=some f→FanOk f∧f.road < a.mine.roads.l.length
 ndoors:a.doors.l.length≤16
 door:∀(i:Nat) (d:XDoor),a.doors.l[i]?=some d→DoorOk d∧d.road < a.mine.roads.l.length
def Y0 {a:XAir} (h:Kx a=0):AirOk a:=by
 unfold Kx at h;split at h;·exact ubc
 rename_i h1;split at h;·cases h
 rename_i h2;split at h;·
  rename_i e he;subst h;obtain ⟨x,_,hx⟩:=yy he;unfold Khd at hx;split at hx;·rename_i hne;exact absurd (yL hx) hne
  ·split at hx <;> cases hx
 rename_i hfn;split at h;·rename_i h3;exact absurd h h3
 rename_i h3;have hdo:=J9e (by simpa using h3);have hdi:=Vy (f:=Jkc a.mine.roads.l.length) (fun x e hx he=>by subst he;unfold Jkc at hx;split at hx <;> cases hx) h;refine ⟨Yqe (by simpa using h1),by omega,fun i f hf=>?_,hdo.1,fun i d hd=>⟨(hdo.2 i d hd).1,?_⟩⟩;·
  have := List.findSome?_eq_none_iff.1 hfn f (yi hf);unfold Khd at this;split at this;·cases this
  rename_i h4;split at this;·cases this
  exact ⟨K3f (by simpa using h4),by omega⟩
 ·have := hdi d (yi hd);unfold Jkc at this;exact uaL
structure FitOk (a:XAir) (s:XSetting):Prop where
 lf:s.fans.l.length=a.fans.l.length
 ld:s.doors.l.length=a.doors.l.length
 fan:∀(i:Nat) (x:Int),s.fans.l[i]?=some x→-1≤x∧x≤2
 door:∀(i:Nat) (x:Int) (d:XDoor),s.doors.l[i]?=some x→a.doors.l[i]?=some d→-1≤x∧x < d.rests.l.length
def V5b {a:XAir} {s:XSetting} (h:Uza a s=true):FitOk a s:=by
 unfold Uza at h;split at h;·cases h
 rename_i h1;simp only [yq,Option.isNone_iff_eq_none] at h;refine ⟨by omega,by omega,fun i x hx=>?_,fun i x d hx hd=>?_⟩;·have := List.findSome?_eq_none_iff.1 h.1 x (yi hx);unfold Kob at this;exact uaL
 ·obtain ⟨hi, _⟩ := List.getElem?_eq_some_iff.1 hx;have:=List.findSome?_eq_none_iff.1 h.2 i (List.mem_range.2 hi);rw [Yya hx hd] at this;exact uaL
def V6d {a:XAir} {s:XSetting} (h:U8e a s=true):AirOk a∧FitOk a s:=by simp only [U8e,yq,decide_eq_true_eq] at h;exact ⟨Y0 h.1,V5b h.2⟩
end Go.Proofs.YtchfclmokpbldaaGreat
end
section
namespace Go.Proofs.YtchfclmokpbldaaGreat
open Go.Aw Go
set_option maxRecDepth 20000
attribute [local irreducible] CJ LJ DJ Tri YV Gives Uq J2 Km Ur RV J4
def U4 (a : XAir) (s : XSetting) (r : Int) : Nat → XSpan
 | 0=>(a.mine.roads.l.getD r.toNat default).rest
 | k + 1=>if (a.doors.l.getD k default).road=r then ⟨(U4 a s r k).low + (Z2 (a.doors.l.getD k default) (s.doors.l.getD k 0)).low,(U4 a s r k).high + (Z2 (a.doors.l.getD k default) (s.doors.l.getD k 0)).high⟩ else U4 a s r k
def J9c (rest lift:XSpan) (q:Int):XSpan:=
 if q < 0 then ⟨-(rest.high * q * q) - lift.high,-(rest.low * q * q) - lift.low⟩ else ⟨rest.low * q * q - lift.high,rest.high * q * q - lift.low⟩
def innerTo (a : XAir) (s : XSetting) (r q : Int) : Nat → XSpan
 | 0=>J9c (U4 a s r a.doors.l.length) (a.mine.roads.l.getD r.toNat default).lift q
 | k + 1=>if (a.fans.l.getD k default).road=r then ⟨(innerTo a s r q k).low - (Uk (a.fans.l.getD k default) (s.fans.l.getD k 0) q).high,(innerTo a s r q k).high - (Uk (a.fans.l.getD k default) (s.fans.l.getD k 0) q).low⟩ else innerTo a s r q k
def K3 (a:XAir) (s:XSetting) (r q:Int):XSpan:=innerTo a s r q a.fans.l.length
def Jaa {a:XAir} {s:XSetting} (h:AirOk a) {r:Int} (hr:0≤r∧r < a.mine.roads.l.length):∀(k:Nat),k≤a.doors.l.length→
 1≤(U4 a s r k).low∧(U4 a s r k).low≤(U4 a s r k).high∧(U4 a s r k).high≤262144 * (k + 1)
 | 0,_=>by
  have:=(h.mine.road r.toNat _ zBc).rest
  simp only [U4];omega
 | k + 1,hk=>by
  have ih:=Jaa (s:=s) h hr k za
  have hb:=U4b (h.door k _ zBc).1 (s.doors.l.getD k 0)
  simp only [U4]
  split
  ·dsimp only;omega
  ·omega
def Uwd {a:XAir} {s:XSetting} {r q:Int} (h:q < 0):innerTo a s r q 0=⟨-((U4 a s r a.doors.l.length).high * q * q) - (a.mine.roads.l.getD r.toNat default).lift.high,-((U4 a s r a.doors.l.length).low * q * q) - (a.mine.roads.l.getD r.toNat default).lift.low⟩:=if_pos h
def Vid {a:XAir} {s:XSetting} {r q:Int} (h:¬ q < 0):innerTo a s r q 0=⟨(U4 a s r a.doors.l.length).low * q * q - (a.mine.roads.l.getD r.toNat default).lift.high,(U4 a s r a.doors.l.length).high * q * q - (a.mine.roads.l.getD r.toNat default).lift.low⟩:=if_neg h
end Go.Proofs.YtchfclmokpbldaaGreat
end
section
namespace Go.Proofs.YtchfclmokpbldaaGreat
open Go.Aw Go
set_option maxRecDepth 20000
attribute [local irreducible] CJ LJ DJ Tri YV Gives Uq J2 Km Ur RV J4
end Go.Proofs.YtchfclmokpbldaaGreat
end
