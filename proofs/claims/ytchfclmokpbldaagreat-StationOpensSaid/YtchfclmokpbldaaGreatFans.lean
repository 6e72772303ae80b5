/-
  Fans: FanN, FanS, FanW, Pipe, Search, AirS, Inner, Ref09, in one text. By an AI agent; no person has read it.
-/
import Derived.Test.YtchfclmokpbldaaGreatChecks
set_option linter.all false
set_option maxHeartbeats 4000000
section
variable {A B:Prop}
def Yaf(h:A→B:=by exact Kh tb [92,93,94,95] [0,1,2,3,4,5,6,7,8,9,10,11,12] [13,14,15] (_) _ Kn zf zk zZa):=h
def J0g(h:A→B:=by exact Kh tb [132,133,134] [0,1,2,3,4,5,6,7,8,9,10] [11,12,13] (_) _ Kn zf zk zZa):=h
end
section
namespace Go.Proofs.YtchfclmokpbldaaGreat
open Go.Aw Go
set_option maxRecDepth 20000
attribute [local irreducible] CJ LJ DJ Tri YV Gives U7 Kb Kp U8 RV Ke
def Z8d (x y:Int) (L:LB) (R:LS) (hx:0≤x) (hx2:x≤2199023255552) (hy:0≤y) (hy2:y≤4194304):
 Tri Tryz.prog 303 [.int .u64 x,.int .u64 y].toArray L R (fun v M U=>v=.tuple #[.int .u64 0,.int .u64 (x * y)]∧L=M∧R=U):=by
 have e1:y % 4294967296=y:=by omega
 have e2:y / 4294967296=0:=by omega
 have b0:0≤x % 4294967296 * y:=yR zc hy;have b1:x % 4294967296 * y≤4294967296 * 4194304:=yea zc hy2 hy zc;have c0:0≤x / 4294967296 * y:=yR zc hy;have c1:x / 4294967296 * y≤512 * 4194304:=yea zc hy2 hy zc;have d0:0≤x * y:=yR hx hy;have d1:x * y≤2199023255552 * 4194304:=yea hx2 hy2 hy zc;refine Jd 51 Tryz.call303 Tryz.func303 rfl rfl rfl ?_;apply Xac∘Xa2;refine J0 (Zdb rfl rfl zc zc) rfl ?_;apply (Xa2);refine J0 (J7b rfl rfl) rfl ?_;apply (Xa2);refine J0 (Zdb rfl rfl zc zc) rfl ?_;apply (Xa2);refine J0 (J7b rfl rfl) rfl ?_;apply (Xdf);simp only [e1,e2];apply qay∘Xbu∘qcm∘Xa2∘Xed∘qaa;refine J0 (J7b rfl rfl) rfl ?_;apply Xad∘Xdr;refine J0 (Zdb rfl rfl zc zc) rfl ?_;apply (Xa2);refine J0 (J7b rfl rfl) rfl ?_;apply (Xar);iterate 3 apply (qaa)
 apply qcm∘Xad∘qam∘Xbu∘qcm∘qaa∘Xal;refine J0 (J7b rfl rfl) rfl ?_;apply Xad∘qam∘Xbu∘qcm∘Xam;have key:(x / 4294967296 * y + x % 4294967296 * y / 4294967296) / 4294967296 + (x / 4294967296 * y + x % 4294967296 * y / 4294967296) % 4294967296 / 4294967296=0:=by omega
 refine q_r L R zAd ?_;exact ⟨by simp [key],rfl,rfl⟩
def Jue (lo y:Int) (L:LB) (R:LS) (hx:0≤lo) (hx2:lo≤18446744073709551615) (hy:0 < y) (hy2:y≤18446744073709551615):
 Tri Tryz.prog 304 [.int .u64 0,.int .u64 lo,.int .u64 y].toArray L R (fun v M U=>v=.tuple #[.int .u64 (lo / y),.int .u64 (lo % y)]∧L=M∧R=U):=by refine Jd 135 Tryz.call304 Tryz.func304 rfl rfl rfl ?_;apply Xac∘Xau∘qaa∘Xa6;refine Kkb ztb zH ?_;apply qbo∘Xbu∘Xeq;refine Kkb ztb zH ?_;apply qbo∘qaa∘Xa6;refine Kle ztb zq ?_;refine Ji ?_;refine Kg tb [0,1,2,3,4,5,6,7] _ Kn zf ye ?_;apply qao∘qao;refine Kq zhb rfl rfl rfl ?_;apply qao∘qao;refine Kq (by first | exact Z5d rfl rfl zc zc | exact Kqe rfl rfl zc) rfl rfl rfl ?_;apply (Xeu);refine J9 (Ja (Ud (J1 ?_)));refine q_r L R zAd ?_;exact zRd
def Vf (a b:XPoint) (q:Int):XSpan:=
 ⟨a.pres - (a.pres - b.pres) * (q - a.flow) / (b.flow - a.flow) - (if 0 < (a.pres - b.pres) * (q - a.flow) % (b.flow - a.flow) then 1 else 0),a.pres - (a.pres - b.pres) * (q - a.flow) / (b.flow - a.flow)⟩
def Kdd (a b:XPoint) (q:Int) (L:LB) (R:LS) (hp:0≤b.pres∧b.pres≤a.pres∧a.pres≤2199023255552) (hf:-1048576≤a.flow∧a.flow≤q∧q≤b.flow∧a.flow < b.flow∧b.flow≤1048576):
 Tri Tryz.prog 294 [a.val,b.val,.int .i64 q].toArray L R (fun v M U=>v=(Vf a b q).val∧L=M∧R=U):=by
 have d0:0≤(a.pres - b.pres) * (q - a.flow):=yR zc zc;have d1:(a.pres - b.pres) * (q - a.flow)≤2199023255552 * 4194304:=yea zc zc zc zc;have d2:0≤(a.pres - b.pres) * (q - a.flow) / (b.flow - a.flow):=yob d0 zc;have d3:(a.pres - b.pres) * (q - a.flow) / (b.flow - a.flow)≤a.pres - b.pres:=by refine Int.ediv_le_of_le_mul zc ?_;exact ypa zc zc
 refine Jd 57 Tryz.call294 Tryz.func294 rfl rfl rfl ?_;apply (Xag);intro b3;apply (qax);intro b4;apply (qaq);intro b6;apply qam∘Xbl∘qa9∘qdg∘qaa∘Xaa∘qa9∘qdg;refine q_l rfl (Z8d _ _ _ _ zc zc zc zc) ?_;refine J0 zcc rfl ?_;apply Xep∘Xa2∘qaa∘Xbl∘qa9∘qdg;refine q_l rfl (Jue _ _ _ _ zc zc zc zc) ?_;refine J0 zcc rfl ?_;apply Xep∘Xar∘Xaf∘qdg∘qa9∘Xaf∘qdg∘qa9∘qcd∘qaq;intro b11;apply Xbi∘Xcu∘qaf;refine q_c ?_ ?_<;>intro hc0;·apply qay∘Xaa∘Xe5∘qam∘Xcs;refine q_r L R zfd ?_;exact ⟨by simp [Vf,XSpan.val,hc0],rfl,rfl⟩
 apply qbv∘Xcs;refine q_r L R zfd ?_;exact ⟨by simp [Vf,XSpan.val,hc0],rfl,rfl⟩
end Go.Proofs.YtchfclmokpbldaaGreat
end
section
namespace Go.Proofs.YtchfclmokpbldaaGreat
open Go.Aw Go
structure CurveOk (l:List XPoint):Prop where
 pt:∀(i:Nat) (p:XPoint),l[i]?=some p→-1048576≤p.flow∧p.flow≤1048576∧0≤p.pres∧p.pres≤2199023255552
 st:∀(i:Nat) (p r:XPoint),l[i]?=some p→l[i + 1]?=some r→p.flow < r.flow∧r.pres≤p.pres
structure FanOk (f:XFan):Prop where
 road:0≤f.road
 len1:1≤f.curve.l.length
 len8:f.curve.l.length≤8
 ok:CurveOk f.curve.l
def Yde {f:XFan} (h:Kea f=0):FanOk f:=by
 unfold Kea at h;split at h;·cases h
 rename_i h1;split at h;·cases h
 rename_i h2;have hn:(List.range f.curve.l.length).findSome? (Yn f.curve.l)=none:=by
  cases hf:(List.range f.curve.l.length).findSome? (Yn f.curve.l) with
  | none=>rfl
  | some e=>
   rw [hf] at h;simp only [ybc] at h;subst h;obtain ⟨i,_,hi⟩:=yw hf;unfold Yn at hi;split at hi;·cases hi
   ·
    split at hi;·cases hi
    ·
     split at hi;·cases hi
     ·
      split at hi;·cases hi
      ·split at hi <;> cases hi
 have hall:∀(i:Nat) (p:XPoint),f.curve.l[i]?=some p→Yn f.curve.l i=none:=fun i p hp=>by obtain ⟨hi,_⟩:=List.getElem?_eq_some_iff.1 hp;exact List.findSome?_eq_none_iff.1 hn i (List.mem_range.2 hi)
 have hpt:∀(i:Nat) (p:XPoint),f.curve.l[i]?=some p→-1048576≤p.flow∧p.flow≤1048576∧0≤p.pres∧p.pres≤2199023255552:=fun i p hp=>by
  have:=hall i p hp;by_cases hr:p.flow < -1048576∨1048576 < p.flow∨p.pres < 0∨2199023255552 < p.pres;·rw [Khc hp hr] at this;cases this
  ·omega
 refine ⟨by omega,by omega,by omega,hpt,fun i p r hp hr=>?_⟩;have:=hall (i + 1) r hr;have b:=hpt _ _ hr;by_cases hb:r.flow≤p.flow∨p.pres < r.pres;·rw [Vrb hr zc zc (by simpa using hp) hb] at this;cases this
 ·omega
def Y7 (p : XPoint) : List XPoint → Int → XSpan
 | [],_=>⟨p.pres,p.pres⟩
 | r :: rest,q=>if q≤r.flow then Vf p r q else Y7 r rest q
def Yl (l:List XPoint) (q:Int):XSpan:=
 match l with
 | []=>⟨0,0⟩
 | p :: rest=>if q≤p.flow then ⟨p.pres,p.pres⟩ else Y7 p rest q
def Jof (s:XSpan):XSpan:=⟨-s.high,-s.low⟩
def Yy (l:List XPoint) (back:Bool) (q:Int):XSpan:=if back then Jof (Yl l (-q)) else Yl l q
def Uy (f:XFan) (s q:Int):XSpan:=
 if s=1 then Yy f.curve.l f.back q else if s=2 then Yy f.curve.l (!f.back) q
 else if s= -1 then ⟨min (min 0 (Yy f.curve.l false q).low) (Yy f.curve.l true q).low,max (max 0 (Yy f.curve.l false q).high) (Yy f.curve.l true q).high⟩
 else ⟨0,0⟩
def Z6a {a b:XPoint} {q:Int} (hp:0≤b.pres∧b.pres≤a.pres∧a.pres≤2199023255552) (hf:-1048576≤a.flow∧a.flow≤q∧q≤b.flow∧a.flow < b.flow∧b.flow≤1048576):
 b.pres≤(Vf a b q).low∧(Vf a b q).low≤(Vf a b q).high∧(Vf a b q).high≤a.pres:=by
 unfold Vf;have d0:0≤(a.pres - b.pres) * (q - a.flow):=yR zc zc;have d1:(a.pres - b.pres) * (q - a.flow)≤(a.pres - b.pres) * (b.flow - a.flow):=ypa zc zc;generalize (a.pres - b.pres) * (q - a.flow)=N at *;have hw:0 < b.flow - a.flow:=by omega
 generalize b.flow - a.flow=w at *;have d2:0≤N / w:=yob d0 zc;have d3:N / w≤a.pres - b.pres:=Int.ediv_le_of_le_mul hw d1;have d4:=Int.mul_ediv_add_emod N w;have d5:0≤N % w:=Int.emod_nonneg _ zc;dsimp only;split;·
  rename_i hr;have:N / w < a.pres - b.pres:=by
   rcases yka (N / w) (a.pres - b.pres) with h | h;·exact h
   ·(have e : N / w = a.pres - b.pres := by omega);rw [e] at d4;rw [Int.mul_comm] at d4;omega
  omega
 ·omega
def Z0:∀(l:List XPoint) (p:XPoint) (q:Int),CurveOk (p :: l)→p.flow≤q→
 0≤(Y7 p l q).low∧(Y7 p l q).low≤(Y7 p l q).high∧(Y7 p l q).high≤p.pres
 | [],p,q,h,_=>by have:=h.pt 0 p rfl;simp only [Y7];omega
 | r :: rest,p,q,h,hq=>by
  have h0:=h.pt 0 p rfl
  have h1:=h.pt 1 r rfl
  have h2:=h.st 0 p r rfl rfl
  unfold Y7
  split
  ·have := Z6a (a := p) (b := r) (q := q) zc zc
   omega
  ·have := Z0 rest r q ⟨fun i => h.pt (i + 1), fun i => h.st (i + 1)⟩ zc
   omega
def Kha {l:List XPoint} (h:CurveOk l) (q:Int):0≤(Yl l q).low∧(Yl l q).low≤(Yl l q).high∧(Yl l q).high≤2199023255552:=by
 cases l with
 | nil=>simp [Yl]
 | cons p rest=>
  have h0:=h.pt 0 p rfl;unfold Yl;dsimp only;split;·(first | omega | (dsimp only;omega))
  ·have := Z0 rest p q h zc;omega
def Kja {l:List XPoint} (h:CurveOk l) (back:Bool) (q:Int):-2199023255552≤(Yy l back q).low∧(Yy l back q).low≤(Yy l back q).high∧(Yy l back q).high≤2199023255552:=by have h1:=Kha h q;have h2:=Kha h (-q);unfold Yy Jof;exact ubQ
def Zu {f:XFan} (h:FanOk f) (s q:Int):-2199023255552≤(Uy f s q).low∧(Uy f s q).low≤(Uy f s q).high∧(Uy f s q).high≤2199023255552:=by
 have h1:=Kja h.ok f.back q;have h2:=Kja h.ok (!f.back) q;have h3:=Kja h.ok false q;have h4:=Kja h.ok true q;unfold Uy;split;·omega
 ·
  split;·omega
  ·exact ubQ
def Umc {a b:Int} (hb:0 < b):(if a.tmod b < 0 then a.tdiv b - 1 else a.tdiv b)=a / b:=by
 have h1:=Int.mul_tdiv_add_tmod a b;have h2:-b < a.tmod b:=by have:=Int.lt_tmod_of_pos a hb;omega
 have h3:a.tmod b < b:=ypb a hb;split;·have := (yhb (a := a) (b := b) (q := a.tdiv b - 1) (r := a.tmod b + b) hb).2 ⟨by rw [Int.mul_sub]; omega, by omega, by omega⟩;exact this.1.symm
 ·have := (yhb (a := a) (b := b) (q := a.tdiv b) (r := a.tmod b) hb).2 ⟨by omega, by omega, by omega⟩;exact this.1.symm
def Vzb {N w:Int} (hw:0 < w):(-N) / w= -(N / w) - (if 0 < N % w then 1 else 0):=by
 have h1:=Int.mul_ediv_add_emod N w;have h2:=Int.emod_nonneg N (show w≠0 by omega);have h3:=Int.emod_lt_of_pos N hw;split;·have := (yhb (a := -N) (b := w) (q := -(N / w) - 1) (r := w - N % w) hw).2 ⟨by rw [Int.mul_sub, yub]; omega, by omega, by omega⟩;exact this.1
 ·have := (yhb (a := -N) (b := w) (q := -(N / w)) (r := 0) hw).2 ⟨by rw [yub]; omega, by omega, by omega⟩;rw [this.1];omega
def Jtd {a b:XPoint} {q:Int} (hw:a.flow < b.flow):
 (⟨a.pres + (b.pres - a.pres) * (q - a.flow) / (b.flow - a.flow),a.pres + -(-((b.pres - a.pres) * (q - a.flow)) / (b.flow - a.flow))⟩:XSpan)=Vf a b q:=by
 have e:(b.pres - a.pres) * (q - a.flow)= -((a.pres - b.pres) * (q - a.flow)):=by rw [← yvb];congr 1;omega
 rw [e,Int.neg_neg,Vzb zc];unfold Vf;congr 1 <;> omega
def Vsa : ∀ (l : List XPoint) (r pn : XPoint), CurveOk (r :: l) → (r :: l)[l.length]? = some pn → r.flow ≤ pn.flow ∧ (l ≠ [] → r.flow < pn.flow)
 | [],r,pn,_,hn=>by simp at hn;subst hn;exact ⟨yI _,fun h=>absurd rfl h⟩
 | s :: l,r,pn,ok,hn=>by
  have hs:=ok.st 0 r s rfl rfl
  have:=Vsa l s pn ⟨fun i=>ok.pt (i + 1),fun i=>ok.st (i + 1)⟩ (by simpa using hn)
  exact ⟨by omega,fun _=>by omega⟩
def Uvb : ∀ (l : List XPoint) (p pn : XPoint) (q : Int), CurveOk (p :: l) → (p :: l)[l.length]? = some pn → pn.flow ≤ q → (l = [] ∨ p.flow < q) → Y7 p l q = ⟨pn.pres, pn.pres⟩
 | [],p,pn,q,_,hn,_,_=>by simp at hn;subst hn;rfl
 | r :: rest,p,pn,q,h,hn,hq,_=>by
  have h2:=h.st 0 p r rfl rfl
  have hn':(r :: rest)[rest.length]?=some pn:=by simpa using hn
  have ok':CurveOk (r :: rest):=⟨fun i=>h.pt (i + 1),fun i=>h.st (i + 1)⟩
  have hle:=Vsa rest r pn ok' hn'
  unfold Y7
  split
  ·rename_i hqr
   have hre:rest=[]:=by
    rcases rest with _ | ⟨s,rest⟩
    ·rfl
    ·have:=hle.2 zq;omega
   subst hre
   simp at hn';subst hn'
   have hqe:q=r.flow:=by omega
   subst hqe
   unfold Vf
   have hw:0 < r.flow - p.flow:=by omega
   rw [Int.mul_ediv_cancel _ zc,Int.mul_emod_left]
   simp
   omega
  ·exact Uvb rest r pn q ok' hn' hq (.inr zc)
def Ued {l:List XPoint} (h:CurveOk l) (h1:1≤l.length) {pn:XPoint} (hn:l[l.length - 1]?=some pn) (q:Int) (hq:pn.flow≤q):Yl l q=⟨pn.pres,pn.pres⟩:=by
 cases l with
 | nil=>simp at h1
 | cons p rest=>
  have hn':(p :: rest)[rest.length]?=some pn:=by simpa using hn
  unfold Yl;dsimp only;split;·
   rename_i hp;have hre:rest=[]:=by
    rcases rest with _ | ⟨s,rest⟩;·rfl
    ·exfalso;have h2:=h.st 0 p s rfl rfl;have:=Vsa rest s pn ⟨fun i=>h.pt (i + 1),fun i=>h.st (i + 1)⟩ (by simpa using hn');omega
   subst hre;simp at hn';subst hn';rfl
  ·exact Uvb rest p pn q h hn' hq (.inr zc)
def Kgc : ∀ (l : List XPoint) (p0 : XPoint) (k : Nat) (p r : XPoint) (q : Int), CurveOk (p0 :: l) → (p0 :: l)[k]? = some p → (p0 :: l)[k + 1]? = some r → p.flow ≤ q → q < r.flow → p0.flow < q → Y7 p0 l q = Vf p r q
 | [],p0,k,p,r,q,_,_,hr,_,_,_=>by simp at hr
 | s :: rest,p0,0,p,r,q,h,hp,hr,h1,h2,h3=>by
  simp at hp hr;subst hp;subst hr
  unfold Y7
  rw [if_pos zc]
 | s :: rest,p0,k + 1,p,r,q,h,hp,hr,h1,h2,h3=>by
  have ok':CurveOk (s :: rest):=⟨fun i=>h.pt (i + 1),fun i=>h.st (i + 1)⟩
  have h4:=h.st 0 p0 s rfl rfl
  have hp':(s :: rest)[k]?=some p:=by simpa using hp
  have hr':(s :: rest)[k + 1]?=some r:=by simpa using hr
  have hr2:=ok'.st k p r hp' hr'
  unfold Y7
  split
  ·rename_i hqs
   -- then the point at k is this one, and the flow is its own
   have mono:∀(j:Nat) (x y:XPoint),(s :: rest)[0]?=some x→(s :: rest)[j]?=some y→x.flow + j≤y.flow:=by
    intro j
    induction j with
    | zero=>intro x y hx hy;rw [hx] at hy;cases hy;omega
    | succ j ih=>
     intro x y hx hy
     obtain ⟨hj,_⟩:=List.getElem?_eq_some_iff.1 hy
     obtain ⟨z,hz⟩:=Ki (l:=s :: rest) (k:=j) zc
     have:=ih x z hx hz
     have:=ok'.st j z y hz hy
     omega
   have hm:=mono k s p rfl hp'
   have hk:k=0:=by omega
   subst hk
   simp at hp';subst hp'
   have hqe:q=s.flow:=by omega
   subst hqe
   have hpr:=ok'.pt 0 s rfl
   unfold Vf
   have hw:0 < s.flow - p0.flow:=by omega
   rw [Int.mul_ediv_cancel _ zc,Int.mul_emod_left,Int.sub_self,ydc,Int.zero_ediv,Int.zero_emod]
   simp
   omega
  ·exact Kgc rest s k p r q ok' hp' hr' h1 h2 zc
def K0e {l:List XPoint} (h:CurveOk l) {k:Nat} {p r:XPoint} {q:Int} (hp:l[k]?=some p) (hr:l[k + 1]?=some r) (h1:p.flow≤q) (h2:q < r.flow):Yl l q=Vf p r q:=by
 cases l with
 | nil=>simp at hp
 | cons p0 rest=>
  unfold Yl;dsimp only;split;·
   rename_i hq;have mono:∀(j:Nat) (y:XPoint),(p0 :: rest)[j]?=some y→p0.flow + j≤y.flow:=by
    intro j;induction j with
    | zero=>intro y hy;simp at hy;subst hy;omega
    | succ j ih=>intro y hy;obtain ⟨hj,_⟩:=List.getElem?_eq_some_iff.1 hy;obtain ⟨z,hz⟩:=Ki (l:=p0 :: rest) (k:=j) zc;have:=ih z hz;have:=h.st j z y hz hy;omega
   have hm:=mono k p hp;(have hk:k=0:=by omega);subst hk;simp at hp;subst hp;(have hqe:q=p0.flow:=by omega);subst hqe;unfold Vf;rw [Int.sub_self,ydc,Int.zero_ediv,Int.zero_emod];simp
  ·exact Kgc rest p0 k p r q h hp hr h1 h2 zc
end Go.Proofs.YtchfclmokpbldaaGreat
end
section
namespace Go.Proofs.YtchfclmokpbldaaGreat
open Go.Aw Go
set_option maxRecDepth 20000
attribute [local irreducible] CJ LJ DJ Tri YV Gives U7 Kb Kp U8 RV Ke
def Zbc (f:XFan) (q:Int) (L:LB) (R:LS) (hm:InR f.sl R) (hf:FanOk f) (hq:-1048577≤q∧q≤1048577):
 Tri Tryz.prog 282 [f.val,.int .i64 q].toArray L R (fun v M U=>v=(Yl f.curve.l q).val∧L=M∧R=U):=by
 have hl1:=hf.len1;have hl8:=hf.len8;obtain ⟨p0,hp0⟩:=Ki (l:=f.curve.l) (k:=0) zc;obtain ⟨pn,hpn⟩:=Ki (l:=f.curve.l) (k:=f.curve.l.length - 1) zc;refine Jd 62 Tryz.call282 Tryz.func282 rfl rfl rfl ?_;apply (Xag);intro b2;apply (qaq);intro b4;apply (qa4);refine Kg tb [0,1,2,3,4,5,6,7,8,9,10,11,12,13,14,15] _ Kn zf ye ?_;apply Xae∘qdu∘qdo∘Xae∘Xae;refine Kq zHb rfl rfl rfl ?_;apply (qb7);refine Kq zQa rfl rfl rfl ?_;apply qdo∘qbr;intro b5;apply (qbr);intro b6;apply qbg∘qbg∘qc6∘qaa∘Xaa∘Xeq;refine q_c ?_ ?_<;>intro hc0;·apply qae∘Xbl∘qcd∘Xdj;obtain ⟨rest,hrest⟩:∃rest,f.curve.l=p0 :: rest:=⟨_,by have:=Uma hp0;simpa using this⟩;refine q_r L R zfd ?_;exact ⟨by rw [hrest];simp only [Yl,if_pos hc0],rfl,rfl⟩
 apply (Xcj);refine Jh [(1,.int _ _),(2,.pointer _),(4,.pointer _),(6,.pointer _),(7,.int _ _)] zg fun tq0=>?_;refine q_s ([7]++rg 29 28) (fun g:{k:Nat // 1≤k∧k≤f.curve.l.length∧∃p,f.curve.l[k - 1]?=some p∧p.flow < q∧Yl f.curve.l q=Y7 p (f.curve.l.drop k) q}=>[(7,.int .i64 ((g.1:Nat):Int))]) (fun g=>f.curve.l.length - g.1) (⟨1,by omega,by omega,p0,hp0,by omega,by have h:=Uma hp0;simp only [yib,yBa] at h;rw [h];simp only [Yl,if_neg hc0,List.drop_one,List.tail_cons]⟩) ?_;rintro ⟨k,hk1,hk2,p,hp,hpq,hs⟩ junk;try dsimp only
 apply (Xbm);refine q_c ?_ ?_<;>intro hc1;·
  obtain ⟨r,hr⟩:=Ki (l:=f.curve.l) (k:=k) zc;have hb1:=hf.ok.pt _ _ hp;have hb2:=hf.ok.pt _ _ hr;have hb3:=hf.ok.st (k - 1) p r hp (by rw [show k - 1 + 1=k by omega];exact hr);rw [Uma hr] at hs;simp only [Y7] at hs;apply Xbv∘Xaf∘qa3∘Xbd∘Xeq;refine q_c ?_ ?_<;>intro hc2;·refine Ji ?_;refine Kh tb [] [0,1,2,3,4,5,6,7,8,9,10,11,12] [13] (_) _ Kn zf zk zV ?_;apply Xcy∘qcc;refine Kz zUa rfl rfl rfl rfl ?_;apply qd1∘Xcy∘qc5∘qd1∘qbf;refine Kv rfl (Kdd p r q _ _ zc zc) rfl rfl ?_;rintro v M U ⟨rfl,rfl,rfl⟩;refine ⟨zk,zu,?_⟩;apply (Xd4);refine J9 (Ja (Ud (Jv (J1 (K9 (Jv (J1 ?_)))))));refine q_r L R zfd ?_;exact ⟨by rw [hs,if_pos hc2],rfl,rfl⟩
  apply (Xa4);exact q_k (⟨k + 1,by omega,by omega,r,by simpa using hr,by omega,by rw [hs,if_neg hc2]⟩)
 obtain rfl:k=f.curve.l.length:=by omega
 obtain rfl:p=pn:=by rw [hp] at hpn;exact yH hpn
 rw [yVa (yn _)] at hs;apply qbk∘Xbl∘qcd∘Xbf;refine q_r L R zfd ?_;exact ⟨by rw [hs];rfl,rfl,rfl⟩
def Ksb (f:XFan) (back:Bool) (q:Int) (L:LB) (R:LS) (hm:InR f.sl R) (hf:FanOk f) (hq:-1048577≤q∧q≤1048577):
 Tri Tryz.prog 246 [f.val,.bool back,.int .i64 q].toArray L R (fun v M U=>v=(Yy f.curve.l back q).val∧L=M∧R=U):=by
 have hb1:=Kha hf.ok (-q);refine Jd 24 Tryz.call246 Tryz.func246 rfl rfl rfl ?_;apply (Xag);intro b3;apply (qaq);intro b6;apply qaw∘Xec;refine q_c ?_ ?_<;>intro hc0;·apply qae∘qa8∘qaa;refine q_l rfl (Zbc f q _ _ hm hf hq) ?_;apply (Xdj);refine q_r L R zfd ?_;exact ⟨by simp [Yy,hc0],rfl,rfl⟩
 apply qbv∘qa8∘qaa∘qcq;refine q_l rfl (Zbc f (-q) _ _ hm hf zc) ?_;apply (qaq);intro b7;apply Xcv∘qcq∘Xaa∘qcq∘qcd∘Xbf;refine q_r L R zfd ?_;exact ⟨by simp [Yy,hc0,Jof],rfl,rfl⟩
def V7d (f:XFan) (s q:Int) (L:LB) (R:LS) (hm:InR f.sl R) (hf:FanOk f) (hq:-1048577≤q∧q≤1048577):
 Tri Tryz.prog 193 [f.val,.int .i64 s,.int .i64 q].toArray L R (fun v M U=>v=(Uy f s q).val∧L=M∧R=U):=by
 refine Jd 45 Tryz.call193 Tryz.func193 rfl rfl rfl ?_;apply (Xag);intro b3;apply (qaq);intro b6;apply qaw∘qaa;refine J6 (Ja (Jy (Ji (Je ?_))));apply (Xba);refine q_c ?_ ?_<;>intro hc0;·apply qae∘qa8∘Xaf;refine q_l rfl (Ksb f f.back q _ _ hm hf hq) ?_;apply qak∘qdb;refine q_r L R zfd ?_;exact ⟨by rw [Uy,if_pos hc0],rfl,rfl⟩
 apply (Xbx);refine q_c ?_ ?_<;>intro hc1;·apply qae∘qa8∘Xaa∘qb4∘qaa;refine q_l rfl (Ksb f (!f.back) q _ _ hm hf hq) ?_;apply qak∘qdb;refine q_r L R zfd ?_;exact ⟨by rw [Uy,if_neg hc0,if_pos hc1],rfl,rfl⟩
 apply (Xbx);refine q_c ?_ ?_<;>intro hc2;·refine Ji ?_;refine Kg tb [0,1,3,4,2,5,6,7,8,9] _ Kn zf ye ?_;apply qbc∘qao∘qbc∘qao;refine q_d rfl (Ksb f false q _ _ hm hf hq) ?_;refine q_d rfl (Ksb f true q _ _ hm hf hq) ?_;apply (qbr);intro b7;apply (qbr);intro b8;apply qbg∘qbg;refine J9 (Ja (Ji (Je ?_)));apply (Xbl);refine J0 (Uee rfl rfl rfl) rfl ?_;apply (Xbl);refine J0 (Uae rfl rfl rfl) rfl ?_;apply qcd∘qak∘qdb;refine q_r L R zfd ?_;exact ⟨by rw [Uy,if_neg hc0,if_neg hc1,if_pos hc2],rfl,rfl⟩
 refine Jt (Jg (Ja (Ji (Je ?_))));apply qck∘Xbf;refine q_r L R zfd ?_;exact ⟨by rw [Uy,if_neg hc0,if_neg hc1,if_neg hc2],rfl,rfl⟩
def Yxc (a b:Int) (L:LB) (R:LS) (ha:-9223372036854775807≤a∧a≤9223372036854775807) (hb:0 < b∧b≤9223372036854775807):
 Tri Tryz.prog 291 [.int .i64 a,.int .i64 b].toArray L R (fun v M U=>v=.int .i64 (a / b)∧L=M∧R=U):=by
 have hfl:=Umc (a:=a) hb.1;have hc:-9223372036854775807≤a / b∧a / b≤9223372036854775807:=by
  rcases yka a 0 with h | h;·have h1 : a / b ≤ 0 := yrb zc hb.1;(have h2:a≤a / b:=by refine Int.le_ediv_of_mul_le hb.1 ?_;have:=Int.mul_le_mul_of_nonpos_left (a:=a) (b:=b) (c:=1) zc zc;omega);omega
  ·have h1 := yob h (show 0 ≤ b by omega);have h2:=yzb b h;omega
 have hd:-9223372036854775807≤a.tdiv b∧a.tdiv b≤9223372036854775807:=by
  split at hfl;·
   constructor;·omega
   ·
    have h1 := Int.mul_tdiv_add_tmod a b;rename_i h;have:a < 0:=by
     rcases yka a 0 with h' | h';·exact h'
     ·have:=yHb b h';omega
    have h3:a / b≤0:=yrb zc hb.1;omega
  ·omega
 refine Jd 16 Tryz.call291 Tryz.func291 rfl rfl rfl ?_;apply Xac∘qam∘Xbu∘qdd∘Xau∘Xbu∘qda∘Xao;refine q_c ?_ ?_<;>intro hc0;·rw [if_pos hc0] at hfl;apply Xb0∘qa9∘Xa2∘Xam;refine q_i L R ?_;exact ⟨by rw [hfl],rfl,rfl⟩
 rw [if_neg hc0] at hfl;apply qbv∘qaa∘Xam;refine q_i L R ?_;exact ⟨by rw [hfl],rfl,rfl⟩
def Zge (a b:Int) (L:LB) (R:LS) (ha:-9223372036854775807≤a∧a≤9223372036854775807) (hb:0 < b∧b≤9223372036854775807) (hq:-9223372036854775807≤(-a) / b∧(-a) / b≤9223372036854775807):
 Tri Tryz.prog 259 [.int .i64 a,.int .i64 b].toArray L R (fun v M U=>v=.int .i64 (-((-a) / b))∧L=M∧R=U):=by refine Jd 10 Tryz.call259 Tryz.func259 rfl rfl rfl ?_;apply Xac∘Xdr∘qcq∘qaa;refine q_l rfl (Yxc (-a) b _ _ zc hb) ?_;exact (qcq∘Xam) zRf
def Y1c (f:XFan) (q:Int) (L:LB) (R:LS) (hm:InR f.sl R) (hf:FanOk f) (hq:-1048577≤q∧q≤1048577):
 Tri Tryz.prog 276 [f.val,.int .i64 q].toArray L R (fun v M U=>v=(Yl f.curve.l q).val∧L=M∧R=U):=by
 have hl1:=hf.len1;have hl8:=hf.len8;obtain ⟨p0,hp0⟩:=Ki (l:=f.curve.l) (k:=0) zc;obtain ⟨pn,hpn⟩:=Ki (l:=f.curve.l) (k:=f.curve.l.length - 1) zc;have hcl:=Ued hf.ok zc hpn;have hc0':q≤p0.flow→Yl f.curve.l q=⟨p0.pres,p0.pres⟩:=fun h=>by have h':=Uma hp0;simp only [yib,yBa] at h';rw [h'];simp only [Yl,if_pos h]
 refine Jd 106 Tryz.call276 Tryz.func276 rfl rfl rfl ?_;apply (Xag);intro b2;apply (qaq);intro b4;apply qam∘Xab∘Xau∘qaa∘Xaa∘qdt∘Xbd∘Xeq;refine q_c ?_ ?_<;>intro hc0;·refine Ji ?_;refine Kh tb [] [0,1,2,3,4,5,6,7,8,9,10] [11] (_) _ Kn zf zk zV ?_;apply Xah∘qd2∘qcv∘qci∘Xah∘qd2∘qcv∘qci∘qcw∘Xd4;refine J9 (Ja (Ud (J1 ?_)));refine q_r L R zfd ?_;exact ⟨by rw [hc0' hc0],rfl,rfl⟩
 apply qbo∘qaa∘Xd5;refine J0 zQa rfl ?_;apply Xbd∘Xdg;refine q_c ?_ ?_<;>intro hc1;·refine Ji ?_;refine Kh tb [] [0,1,2,3,4,5,6,7,8,9,10,11,12,13,14] [15] (_) _ Kn zf zk zV ?_;apply Xcy∘qcc∘qd3∘qcv∘qci∘Xcy∘qcc∘qd3∘qcv∘qci∘qcw∘Xd4;refine J9 (Ja (Ud (J1 ?_)));refine q_r L R zfd ?_;exact ⟨by rw [hcl q hc1],rfl,rfl⟩
 apply qbv∘qad;refine J6 (Ja (Ji (Jy ?_)));refine Jh [(1,.int _ _),(2,.pointer _),(4,.pointer _),(6,.int _ _)] zg fun tq0=>?_;refine q_s ([6]++rg 56 11) (fun g:{k:Nat // k + 1 < f.curve.l.length∧∃p,f.curve.l[k]?=some p∧p.flow≤q}=>[(6,.int .i64 ((g.1:Nat):Int))]) (fun g=>f.curve.l.length - g.1) (⟨0,by rcases yk 1 f.curve.l.length with h | h;exact h;exfalso;rw [show f.curve.l.length - 1=0 by omega,hp0] at hpn;cases hpn;omega,p0,hp0,by omega⟩) ?_;rintro ⟨k,hk,p,hp,hpq⟩ junk;try dsimp only
 refine Ji (Ji ?_);obtain ⟨r,hr⟩:=Ki (l:=f.curve.l) (k:=k + 1) zc;apply qay∘Xaf∘qar;refine J0 zsb rfl ?_;apply Xdt∘Xeq;refine q_c ?_ ?_<;>intro hc2;·refine Jt (Ja (Jy (Je ?_)));apply (Xai);refine J6 (Jg ?_);exact q_k (⟨k + 1,by rcases yk (k + 1 + 1) f.curve.l.length with h | h;exact h;exfalso;rw [show f.curve.l.length - 1=k + 1 by omega,hr] at hpn;cases hpn;omega,r,hr,by omega⟩)
 have hb1:=hf.ok.pt _ _ hp;have hb2:=hf.ok.pt _ _ hr;have hb3:=hf.ok.st k p r hp hr;have hcr:=K0e hf.ok hp hr hpq zc;have d0:0≤(p.pres - r.pres) * (q - p.flow):=yR zc zc;have d1:(p.pres - r.pres) * (q - p.flow)≤2199023255552 * 2097153:=yea zc zc zc zc;have de:(r.pres - p.pres) * (q - p.flow)= -((p.pres - r.pres) * (q - p.flow)):=by rw [← yvb];congr 1;omega
 have d2:0≤(p.pres - r.pres) * (q - p.flow) / (r.flow - p.flow):=yob d0 zc;have d3:(p.pres - r.pres) * (q - p.flow) / (r.flow - p.flow)≤(p.pres - r.pres) * (q - p.flow):=yzb _ d0;have d4:=Vzb (N:=(p.pres - r.pres) * (q - p.flow)) (w:=r.flow - p.flow) zc;have d7:-((p.pres - r.pres) * (q - p.flow)) - 1≤ -((p.pres - r.pres) * (q - p.flow)) / (r.flow - p.flow)∧-((p.pres - r.pres) * (q - p.flow)) / (r.flow - p.flow)≤0:=by split at d4 <;> omega
 have d5:-((r.pres - p.pres) * (q - p.flow)) / (r.flow - p.flow)=(p.pres - r.pres) * (q - p.flow) / (r.flow - p.flow):=by rw [de,Int.neg_neg]
 have d6:(r.pres - p.pres) * (q - p.flow) / (r.flow - p.flow)= -((p.pres - r.pres) * (q - p.flow)) / (r.flow - p.flow):=by rw [de]
 apply (qc3);refine Kg tb [0,1,2,3,4,5,6,7,8,9,10,11,12,13,14] _ Kn zf ye ?_;apply Xev∘qdo∘Xa8∘qc2∘qdy∘qdo∘qbr;intro b7;apply (qbr);intro b8;apply qbg∘qbg∘qb9;refine Kg tb [0,1,2,3,4,5,6,7,8,9,10,11,12,13,14,15,16] _ Kn zf ye ?_;apply Xae∘Xae∘qb7∘qao∘Xae∘qb7∘qdh∘Xae∘Xae∘qb7∘Xeu∘qb9;refine Kh tb [] [0,1,2,3,6,7,8,9,4,5,10,11,12] [13] (_) _ Kn zf zk zV ?_;apply Xcy∘qbf∘Xcy∘qbf;refine Kv rfl (Yxc _ _ _ _ zc zc) rfl rfl ?_;rintro v M U ⟨rfl,rfl,rfl⟩;refine ⟨zk,zu,?_⟩;apply (qcj);refine Kv rfl (Zge _ _ _ _ zc zc zc) rfl rfl ?_;rintro v M U ⟨rfl,rfl,rfl⟩;refine ⟨zk,zu,?_⟩;apply qcj∘qcw∘Xd4;refine J9 (Ja (Ud ?_));refine q_r L R zfd ?_;exact ⟨by rw [hcr,← Jtd zc],rfl,rfl⟩
def Vma (f:XFan) (back:Bool) (q:Int) (L:LB) (R:LS) (hm:InR f.sl R) (hf:FanOk f) (hq:-1048577≤q∧q≤1048577):
 Tri Tryz.prog 236 [f.val,.bool back,.int .i64 q].toArray L R (fun v M U=>v=(Yy f.curve.l back q).val∧L=M∧R=U):=by
 have hb1:=Kha hf.ok (-q);refine Jd 23 Tryz.call236 Tryz.func236 rfl rfl rfl ?_;apply (Xag);intro b3;apply (qaq);intro b6;apply qaw∘qah∘qaf;refine q_c ?_ ?_<;>intro hc0;·apply qae∘qa8∘qaa∘qcq;refine q_l rfl (Y1c f (-q) _ _ hm hf zc) ?_;apply (qaq);intro b7;apply Xcv∘qcq∘Xaa∘qcq∘qcd∘Xdj;refine q_r L R zfd ?_;exact ⟨by simp [Yy,hc0,Jof],rfl,rfl⟩
 apply qbv∘qa8∘qaa;refine q_l rfl (Y1c f q _ _ hm hf hq) ?_;apply (Xbf);refine q_r L R zfd ?_;exact ⟨by simp [Yy,hc0],rfl,rfl⟩
def Jnb (f:XFan) (s q:Int) (L:LB) (R:LS) (hm:InR f.sl R) (hf:FanOk f) (hq:-1048577≤q∧q≤1048577) (hs:-1≤s∧s≤2):
 Tri Tryz.prog 182 [f.val,.int .i64 s,.int .i64 q].toArray L R (fun v M U=>v=(Uy f s q).val∧L=M∧R=U):=by
 refine Jd 45 Tryz.call182 Tryz.func182 rfl rfl rfl ?_;apply (Xag);intro b3;apply (qaq);intro b6;apply qaw∘qaa;refine J6 (Ja (Jy (Ji (Je ?_))));apply (Xba);refine q_c ?_ ?_<;>intro hc0;·apply Xe4∘qak∘qdb;refine q_r L R zfd ?_;exact ⟨by rw [Uy,if_neg zc,if_neg zc,if_neg zc],rfl,rfl⟩
 apply (Xbx);refine q_c ?_ ?_<;>intro hc1;·apply qae∘qa8∘Xaf;refine q_l rfl (Vma f f.back q _ _ hm hf hq) ?_;apply qak∘qdb;refine q_r L R zfd ?_;exact ⟨by rw [Uy,if_pos hc1],rfl,rfl⟩
 apply (Xbx);refine q_c ?_ ?_<;>intro hc2;·apply qae∘qa8∘Xaa∘qb4∘qaa;refine q_l rfl (Vma f (!f.back) q _ _ hm hf hq) ?_;apply qak∘qdb;refine q_r L R zfd ?_;exact ⟨by rw [Uy,if_neg hc1,if_pos hc2],rfl,rfl⟩
 refine Jt (Jg (Ja (Ji ?_)));refine Kg tb [0,1,3,4,2,5,6,7,8,9] _ Kn zf ye ?_;apply qbc∘qao∘qbc∘qao;refine q_d rfl (Vma f false q _ _ hm hf hq) ?_;refine q_d rfl (Vma f true q _ _ hm hf hq) ?_;apply (qbr);intro b7;apply (qbr);intro b8;apply qbg∘qbg;refine J9 (Ja (Ji (Je ?_)));apply (Xbl);refine J0 (Uee rfl rfl rfl) rfl ?_;apply (Xbl);refine J0 (Uae rfl rfl rfl) rfl ?_;apply qcd∘Xbf;refine q_r L R zfd ?_;exact ⟨by rw [Uy,if_neg hc1,if_neg hc2,if_pos zc,Int.min_comm 0,Int.max_comm 0];simp only [Int.min_assoc,Int.max_assoc,Int.min_comm 0,Int.max_comm 0],rfl,rfl⟩
end Go.Proofs.YtchfclmokpbldaaGreat
end
section
namespace Go.Proofs.YtchfclmokpbldaaGreat
open Go.Aw Go
set_option maxRecDepth 20000
attribute [local irreducible] CJ LJ DJ Tri YV Gives U7 Kb Kp U8 RV Ke
structure PipeOk (p:XPipe):Prop where
 rest:0≤p.road.rest.low∧p.road.rest.low≤p.road.rest.high∧p.road.rest.high≤4456448
 lift:-2199023255552≤p.road.lift.low∧p.road.lift.low≤p.road.lift.high∧p.road.lift.high≤2199023255552
 len:p.fans.l.length≤8
 fan:∀(i:Nat) (b:XBlow),p.fans.l[i]?=some b→FanOk b.fan
def Joa (p : XPipe) (q : Int) : Nat → XSpan
 | 0=>if q < 0 then ⟨-p.road.rest.high * (q * q) - p.road.lift.high,-p.road.rest.low * (q * q) - p.road.lift.low⟩ else ⟨p.road.rest.low * (q * q) - p.road.lift.high,p.road.rest.high * (q * q) - p.road.lift.low⟩
 | k + 1=>⟨(Joa p q k).low - (Uy (p.fans.l.getD k default).fan (p.fans.l.getD k default).state q).high,(Joa p q k).high - (Uy (p.fans.l.getD k default).fan (p.fans.l.getD k default).state q).low⟩
def Jdb (p:XPipe) (q:Int):XSpan:=Joa p q p.fans.l.length
def Kla {q:Int} (hq:-1048577≤q∧q≤1048577):0≤q * q∧q * q≤1099513724929:=by
 rcases yka q 0 with h | h;·have h1 := yR zLc zLc;have h2:=yea (show -q≤1048577 by omega) (show -q≤1048577 by omega) zc zc;rw [Int.neg_mul_neg] at h1 h2;omega
 ·have h1 := yR h h;have h2:=yea hq.2 hq.2 h zc;omega
def Zn {r s:Int} (hr:0≤r∧r≤4456448) (hs:0≤s∧s≤1099513724929):0≤r * s∧r * s≤4899925740432392192∧-r * s= -(r * s):=by have h1:=yR hr.1 hs.1;have h2:=yea hr.2 hs.2 hs.1 zc;exact ⟨h1,by omega,yvb r s⟩
def Ueb {p:XPipe} {q:Int} (h:q < 0):Joa p q 0=⟨-p.road.rest.high * (q * q) - p.road.lift.high,-p.road.rest.low * (q * q) - p.road.lift.low⟩:=if_pos h
def Kyb {p:XPipe} {q:Int} (h:¬ q < 0):Joa p q 0=⟨p.road.rest.low * (q * q) - p.road.lift.high,p.road.rest.high * (q * q) - p.road.lift.low⟩:=if_neg h
def Voa {p:XPipe} (h:PipeOk p) {q:Int} (hq:-1048577≤q∧q≤1048577):∀(k:Nat),k≤p.fans.l.length→
 -4899925740432392192 - 2199023255552 * (k + 1)≤(Joa p q k).low∧(Joa p q k).low≤(Joa p q k).high∧(Joa p q k).high≤4899925740432392192 + 2199023255552 * (k + 1)
 | 0,_=>by
  have hs:=Kla hq
  have hr:=h.rest
  have hl:=h.lift
  have h1:=Zn (r:=p.road.rest.low) zc hs
  have h2:=Zn (r:=p.road.rest.high) zc hs
  have h3:p.road.rest.low * (q * q)≤p.road.rest.high * (q * q):=yQa hr.2.1 hs.1
  unfold Joa
  split <;> dsimp only <;> omega
 | k + 1,hk=>by
  have ih:=Voa h hq k zc
  have hb:=Zu (h.fan k _ zwc) (p.fans.l.getD k default).state q
  simp only [Joa]
  omega
def Uyd (p:XPipe) (q:Int) (L:LB) (R:LS) (hm:InR p.sl R) (hp:PipeOk p) (hq:-1048577≤q∧q≤1048577):
 Tri Tryz.prog 114 [p.val,.int .i64 q].toArray L R (fun v M U=>v=(Jdb p q).val∧L=M∧R=U):=by
 have hs:=Kla hq;have hr:=hp.rest;have hl:=hp.lift;have hln:=hp.len;have h1:=Zn (r:=p.road.rest.low) zc hs;have h2:=Zn (r:=p.road.rest.high) zc hs;refine Jd 86 Tryz.call114 Tryz.func114 rfl rfl rfl ?_;apply (Xag);intro b2;apply (qaq);intro b4;apply qam∘Xbu∘qcm∘Xar;iterate 3 apply (qab)
 apply qac∘Xed;iterate 3 apply (qab)
 apply qac∘Xed∘qcd∘qaq;intro b6;apply Xbi∘Xdc;refine q_c ?_ ?_<;>intro hc0;·
  apply (qay);iterate 3 apply (qab)
  apply qac∘qcq∘Xed;iterate 3 apply (qab)
  apply qac∘qcq∘Xed∘qcd∘Xcv;exact uai
 apply qbv∘Xaa;exact uai
end Go.Proofs.YtchfclmokpbldaaGreat
end
section
namespace Go.Proofs.YtchfclmokpbldaaGreat
open Go.Aw Go
set_option maxRecDepth 20000
attribute [local irreducible] CJ LJ DJ Tri YV Gives U7 Kb Kp U8 RV Ke
def Uia {x:Int} (h:0≤x):x.tdiv 2=x / 2:=yO h
def Ybc (f:Int→Int) (pr lo hi:Int):Int:=
 if h:lo < hi then (if f (lo + (hi - lo + 1).tdiv 2)≤pr then Ybc f pr (lo + (hi - lo + 1).tdiv 2) hi else Ybc f pr lo (lo + (hi - lo + 1).tdiv 2 - 1)) else lo
termination_by (hi - lo).toNat
decreasing_by all_goals (have:=Uia (x:=hi - lo + 1) zc;omega)
def Yra (f:Int→Int) (pr lo hi:Int):Int:=
 if h:lo < hi then (if pr≤f (lo + (hi - lo).tdiv 2) then Yra f pr lo (lo + (hi - lo).tdiv 2) else Yra f pr (lo + (hi - lo).tdiv 2 + 1) hi) else lo
termination_by (hi - lo).toNat
decreasing_by all_goals (have:=Uia (x:=hi - lo) zc;omega)
def Uhd {f:Int→Int} {pr lo hi:Int} (h:lo < hi) (hf:f (lo + (hi - lo + 1).tdiv 2)≤pr):Ybc f pr lo hi=Ybc f pr (lo + (hi - lo + 1).tdiv 2) hi:=by rw [Ybc,dif_pos h,if_pos hf]
def K4d {f:Int→Int} {pr lo hi:Int} (h:lo < hi) (hf:¬ f (lo + (hi - lo + 1).tdiv 2)≤pr):Ybc f pr lo hi=Ybc f pr lo (lo + (hi - lo + 1).tdiv 2 - 1):=by rw [Ybc,dif_pos h,if_neg hf]
def Vac {f:Int→Int} {pr lo hi:Int} (h:¬ lo < hi):Ybc f pr lo hi=lo:=by rw [Ybc,dif_neg h]
def Uyc {f:Int→Int} {pr lo hi:Int} (h:lo < hi) (hf:pr≤f (lo + (hi - lo).tdiv 2)):Yra f pr lo hi=Yra f pr lo (lo + (hi - lo).tdiv 2):=by rw [Yra,dif_pos h,if_pos hf]
def Vrc {f:Int→Int} {pr lo hi:Int} (h:lo < hi) (hf:¬ pr≤f (lo + (hi - lo).tdiv 2)):Yra f pr lo hi=Yra f pr (lo + (hi - lo).tdiv 2 + 1) hi:=by rw [Yra,dif_pos h,if_neg hf]
def V0b {f:Int→Int} {pr lo hi:Int} (h:¬ lo < hi):Yra f pr lo hi=lo:=by rw [Yra,dif_neg h]
def Uv (f:Int→XSpan) (pr:Int):Int:=Ybc (fun q=>(f q).high) pr (-1048577) 1048576
def Ub (f:Int→XSpan) (pr:Int):Int:=Yra (fun q=>(f q).low) pr (-1048576) 1048577
def Jeb (p:XPipe) (pr:Int) (L:LB) (R:LS) (hm:InR p.sl R) (hp:PipeOk p):
 Tri Tryz.prog 190 [p.val,.int .i64 pr].toArray L R (fun v M U=>v=.int .i64 (Uv (Jdb p) pr)∧L=M∧R=U):=by
 refine Jd 28 Tryz.call190 Tryz.func190 rfl rfl rfl ?_;apply (Xag);intro b2;apply Xar∘qad∘qad;refine J6 (Ja (Ji (Jy ?_)));refine Jh [(1,.int _ _),(2,.pointer _),(5,.int _ _),(6,.int _ _)] zg fun tq0=>?_;refine q_s (rg 5 22) (fun g:{g:Int×Int // -1048577≤g.1∧g.1≤g.2∧g.2≤1048576∧Uv (Jdb p) pr=Ybc (fun q=>(Jdb p q).high) pr g.1 g.2}=>[(5,.int .i64 g.1.1),(6,.int .i64 g.1.2)]) (fun g=>(g.1.2 - g.1.1).toNat) (⟨(-1048577,1048576),by omega,by omega,by omega,rfl⟩) ?_;rintro ⟨⟨lo,hi⟩,h1,h2,h3,h4⟩ junk;try dsimp only
 apply (Xea);refine q_c ?_ ?_<;>intro hc0;·
  dsimp only at h1 h2 h3 h4 hc0;have he:=Uia (x:=hi - lo + 1) zc;refine Jt (Ja (Jy (Ji (Je ?_))));iterate 3 apply (qaa)
  apply qa9∘qar∘qdd∘Xad∘qam∘qdi∘qaa;refine q_l rfl (Uyd p (lo + (hi - lo + 1).tdiv 2) _ _ hm hp zc) ?_;exact ua7
 exact zif
def Yga (p:XPipe) (pr:Int) (L:LB) (R:LS) (hm:InR p.sl R) (hp:PipeOk p):
 Tri Tryz.prog 191 [p.val,.int .i64 pr].toArray L R (fun v M U=>v=.int .i64 (Ub (Jdb p) pr)∧L=M∧R=U):=by
 refine Jd 27 Tryz.call191 Tryz.func191 rfl rfl rfl ?_;apply (Xag);intro b2;apply Xar∘qad∘qad;refine J6 (Ja (Ji (Jy ?_)));refine Jh [(1,.int _ _),(2,.pointer _),(5,.int _ _),(6,.int _ _)] zg fun tq0=>?_;refine q_s (rg 5 21) (fun g:{g:Int×Int // -1048576≤g.1∧g.1≤g.2∧g.2≤1048577∧Ub (Jdb p) pr=Yra (fun q=>(Jdb p q).low) pr g.1 g.2}=>[(5,.int .i64 g.1.1),(6,.int .i64 g.1.2)]) (fun g=>(g.1.2 - g.1.1).toNat) (⟨(-1048576,1048577),by omega,by omega,by omega,rfl⟩) ?_;rintro ⟨⟨lo,hi⟩,h1,h2,h3,h4⟩ junk;try dsimp only
 apply (Xea);refine q_c ?_ ?_<;>intro hc0;·
  dsimp only at h1 h2 h3 h4 hc0;have he:=Uia (x:=hi - lo) zc;refine Jt (Ja (Jy (Ji (Je ?_))));iterate 3 apply (qaa)
  apply qa9∘qdd∘Xad∘qam∘qdi∘qaa;refine q_l rfl (Uyd p (lo + (hi - lo).tdiv 2) _ _ hm hp zc) ?_;exact uaY
 exact zjf
end Go.Proofs.YtchfclmokpbldaaGreat
end
section
namespace Go.Proofs.YtchfclmokpbldaaGreat
open Go.Aw Go
def Yg {α:Type} {f:α→Option Int} {l:List α} (hf:∀x e,f x=some e→e≠0) (h:(l.findSome? f).getD 0=0):∀x∈l,f x=none:=by
 have hn:l.findSome? f=none:=by
  cases hs:l.findSome? f with
  | none=>rfl
  | some e=>rw [hs] at h;obtain ⟨x,_,hx⟩:=yw hs;exact absurd h (hf x e hx)
 exact List.findSome?_eq_none_iff.1 hn
structure RoadOk (n:Nat) (r:XRoad):Prop where
 fr:0≤r.fr∧r.fr < n
 to:0≤r.to∧r.to < n
 ne:r.fr≠r.to
 rest:1≤r.rest.low∧r.rest.low≤r.rest.high∧r.rest.high≤262144
 lift:-2199023255552≤r.lift.low∧r.lift.low≤r.lift.high∧r.lift.high≤2199023255552
def Krb {s:XSpan} {lo hi:Int}:Vab s lo hi=true↔lo≤s.low∧s.low≤s.high∧s.high≤hi:=by simp [Vab]
structure MineOk (m:XMine):Prop where
 places:m.places.l.length≤64
 roads:m.roads.l.length≤128
 road:∀(i:Nat) (r:XRoad),m.roads.l[i]?=some r→RoadOk m.places.l.length r
def Kne {m:XMine} (h:Ui m=0):MineOk m:=by
 unfold Ui at h;split at h;·cases h
 rename_i hlen;split at h;·rename_i e he;subst h;obtain ⟨x,_,hx⟩:=yw he;unfold Y1 at hx;split at hx <;> cases hx
 have hall:=Yg (f:=Vb m.places.l.length) (fun x e hx he=>by
  subst he;unfold Vb at hx;split at hx;·cases hx
  ·split at hx <;> cases hx) h
 refine ⟨by omega,by omega,fun i r hr=>?_⟩;have:=hall r (yi hr);unfold Vb at this;split at this;·cases this
 rename_i h1;split at this;·cases this
 rename_i h2;have e1:Vab r.rest 1 262144=true:=by
  cases hb:Vab r.rest 1 262144 with
  | true=>rfl
  | false=>exact absurd (.inr (.inr (.inr (.inr (.inl hb))))) h2
 have e2:Vab r.lift (-2199023255552) 2199023255552=true:=by
  cases hb:Vab r.lift (-2199023255552) 2199023255552 with
  | true=>rfl
  | false=>exact absurd (.inr (.inr (.inr (.inr (.inr hb))))) h2
 exact ⟨by omega,by omega,by omega,Krb.1 e1,Krb.1 e2⟩
structure DoorOk (d:XDoor):Prop where
 road:0≤d.road
 len:2≤d.rests.l.length∧d.rests.l.length≤6
 rest:∀(i:Nat) (x:Int),d.rests.l[i]?=some x→0≤x∧x≤262144
 falls:Yv d.rests.l d.rests.l.length=true
def Yud {l:List XDoor} (h:Vo l=0):l.length≤16∧∀(i:Nat) (d:XDoor),l[i]?=some d→DoorOk d∧¬ Kxb l i d:=by
 unfold Vo at h;split at h;·cases h
 rename_i hlen;have hre:∀(x:Int) (e:Int),Yla x=some e→e=1:=fun x e he=>by unfold Yla at he;split at he <;> cases he;rfl
 have hall:=Yg (f:=Jga l) (fun i e hx he=>by
  subst he;unfold Jga at hx;split at hx;·cases hx
  ·
   split at hx;·cases hx
   ·
    split at hx;·cases hx
    ·
     split at hx;·rename_i e' he';obtain ⟨x,_,hx'⟩:=yw he';have:=hre x _ hx';cases hx;cases this
     ·
      split at hx;·cases hx
      ·split at hx <;> cases hx) h
 refine ⟨by omega,fun i d hd=>?_⟩;obtain ⟨hi,_⟩:=List.getElem?_eq_some_iff.1 hd;have:=hall i (List.mem_range.2 hi);rw [Yya hd] at this;split at this;·cases this
 rename_i h1;split at this;·cases this
 rename_i h2;split at this;·cases this
 rename_i h3;split at this;·cases this
 rename_i h4;split at this;·cases this
 rename_i h5;refine ⟨⟨by omega,by omega,fun k x hx=>?_,by simpa using h4⟩,h5⟩;have:=List.findSome?_eq_none_iff.1 h3 x (yi hx);unfold Yla at this;exact ua2
def Uub {l : List Int} (h : ∀ (i : Nat) (x : Int), l[i]? = some x → 0 ≤ x ∧ x ≤ 262144) : ∀ (k : Nat), k ≤ l.length → 1 ≤ l.length → 0 ≤ Zib l k ∧ Zib l k ≤ l.getD 0 0 ∧ l.getD 0 0 ≤ Yfb l k ∧ Yfb l k ≤ 262144
 | 0,_,hl=>by have:=h 0 _ (Js 0 zc);simp only [Zib,Yfb];omega
 | k + 1,hk,hl=>by
  have ih:=Uub h k zc hl
  have:=h k _ (Js 0 zc)
  simp only [Zib,Yfb]
  omega
def Ysa {d:XDoor} (h:DoorOk d) (s:Int):0≤(Z9 d s).low∧(Z9 d s).low≤(Z9 d s).high∧(Z9 d s).high≤262144:=by
 unfold Z9;split;·simp
 ·
  rename_i hc;split;·have := Uub h.rest d.rests.l.length (yn _) zc;dsimp only;omega
  ·have := h.rest s.toNat _ (Js 0 zc);dsimp only;omega
structure AirOk (a:XAir):Prop where
 mine:MineOk a.mine
 nfans:a.fans.l.length≤8
 fan:∀(i:Nat) (f:XFan),a.fans.l[i]?=some f→FanOk f∧f.road < a.mine.roads.l.length
 ndoors:a.doors.l.length≤16
 door:∀(i:Nat) (d:XDoor),a.doors.l[i]?=some d→DoorOk d∧d.road < a.mine.roads.l.length
def Ve {a:XAir} (h:Ko a=0):AirOk a:=by
 unfold Ko at h;split at h;·exact ubv
 rename_i h1;split at h;·cases h
 rename_i h2;split at h;·
  rename_i e he;subst h;obtain ⟨x,_,hx⟩:=yw he;unfold Y0c at hx;split at hx;·rename_i hne;exact absurd (yH hx) hne
  ·split at hx <;> cases hx
 rename_i hfn;split at h;·rename_i h3;exact absurd h h3
 rename_i h3;have hdo:=Yud (by simpa using h3);have hdi:=Yg (f:=Uib a.mine.roads.l.length) (fun x e hx he=>by subst he;unfold Uib at hx;split at hx <;> cases hx) h;refine ⟨Kne zta,by omega,fun i f hf=>?_,hdo.1,fun i d hd=>⟨(hdo.2 i d hd).1,?_⟩⟩;·
  have := List.findSome?_eq_none_iff.1 hfn f (yi hf);unfold Y0c at this;split at this;·cases this
  rename_i h4;split at this;·cases this
  exact ⟨Yde (by simpa using h4),by omega⟩
 ·have := hdi d (yi hd);unfold Uib at this;exact ua2
structure FitOk (a:XAir) (s:XSetting):Prop where
 lf:s.fans.l.length=a.fans.l.length
 ld:s.doors.l.length=a.doors.l.length
 fan:∀(i:Nat) (x:Int),s.fans.l[i]?=some x→-1≤x∧x≤2
 door:∀(i:Nat) (x:Int) (d:XDoor),s.doors.l[i]?=some x→a.doors.l[i]?=some d→-1≤x∧x < d.rests.l.length
def Zea {a:XAir} {s:XSetting} (h:J8a a s=true):FitOk a s:=by
 unfold J8a at h;split at h;·cases h
 rename_i h1;simp only [yo,Option.isNone_iff_eq_none] at h;refine ⟨by omega,by omega,fun i x hx=>?_,fun i x d hx hd=>?_⟩;·have := List.findSome?_eq_none_iff.1 h.1 x (yi hx);unfold Y9a at this;exact ua2
 ·obtain ⟨hi, _⟩ := List.getElem?_eq_some_iff.1 hx;have:=List.findSome?_eq_none_iff.1 h.2 i (List.mem_range.2 hi);rw [K3a hx hd] at this;exact ua2
end Go.Proofs.YtchfclmokpbldaaGreat
end
section
namespace Go.Proofs.YtchfclmokpbldaaGreat
open Go.Aw Go
set_option maxRecDepth 20000
attribute [local irreducible] CJ LJ DJ Tri YV Gives U7 Kb Kp U8 RV Ke
def Uj (a : XAir) (s : XSetting) (r : Int) : Nat → XSpan
 | 0=>(a.mine.roads.l.getD r.toNat default).rest
 | k + 1=>if (a.doors.l.getD k default).road=r then ⟨(Uj a s r k).low + (Z9 (a.doors.l.getD k default) (s.doors.l.getD k 0)).low,(Uj a s r k).high + (Z9 (a.doors.l.getD k default) (s.doors.l.getD k 0)).high⟩ else Uj a s r k
def Jkc (rest lift:XSpan) (q:Int):XSpan:=
 if q < 0 then ⟨-(rest.high * q * q) - lift.high,-(rest.low * q * q) - lift.low⟩ else ⟨rest.low * q * q - lift.high,rest.high * q * q - lift.low⟩
def innerTo (a : XAir) (s : XSetting) (r q : Int) : Nat → XSpan
 | 0=>Jkc (Uj a s r a.doors.l.length) (a.mine.roads.l.getD r.toNat default).lift q
 | k + 1=>if (a.fans.l.getD k default).road=r then ⟨(innerTo a s r q k).low - (Uy (a.fans.l.getD k default) (s.fans.l.getD k 0) q).high,(innerTo a s r q k).high - (Uy (a.fans.l.getD k default) (s.fans.l.getD k 0) q).low⟩ else innerTo a s r q k
def Uc (a:XAir) (s:XSetting) (r q:Int):XSpan:=innerTo a s r q a.fans.l.length
def Yf {a:XAir} {s:XSetting} (h:AirOk a) {r:Int} (hr:0≤r∧r < a.mine.roads.l.length):∀(k:Nat),k≤a.doors.l.length→
 1≤(Uj a s r k).low∧(Uj a s r k).low≤(Uj a s r k).high∧(Uj a s r k).high≤262144 * (k + 1)
 | 0,_=>by
  have:=(h.mine.road r.toNat _ zwc).rest
  simp only [Uj];omega
 | k + 1,hk=>by
  have ih:=Yf (s:=s) h hr k zc
  have hb:=Ysa (h.door k _ zwc).1 (s.doors.l.getD k 0)
  simp only [Uj]
  split
  ·dsimp only;omega
  ·omega
def Jwc {r q:Int} (hr:0≤r∧r≤4456448) (hq:-1048577≤q∧q≤1048577):-4672928874496≤r * q∧r * q≤4672928874496:=by
 rcases yka q 0 with h | h;·have h1 := yea hr.2 (show -q ≤ 1048577 by omega) zc zc;have h2:=yR hr.1 (show 0≤ -q by omega);rw [yub] at h1 h2;omega
 ·have h1 := yea hr.2 hq.2 h zc;have h2:=yR hr.1 h;omega
def U9a {a:XAir} {s:XSetting} {r q:Int} (h:q < 0):innerTo a s r q 0=⟨-((Uj a s r a.doors.l.length).high * q * q) - (a.mine.roads.l.getD r.toNat default).lift.high,-((Uj a s r a.doors.l.length).low * q * q) - (a.mine.roads.l.getD r.toNat default).lift.low⟩:=if_pos h
def Vfa {a:XAir} {s:XSetting} {r q:Int} (h:¬ q < 0):innerTo a s r q 0=⟨(Uj a s r a.doors.l.length).low * q * q - (a.mine.roads.l.getD r.toNat default).lift.high,(Uj a s r a.doors.l.length).high * q * q - (a.mine.roads.l.getD r.toNat default).lift.low⟩:=if_neg h
def Uba {a:XAir} {s:XSetting} (h:AirOk a) {r q:Int} (hr:0≤r∧r < a.mine.roads.l.length) (hq:-1048577≤q∧q≤1048577):∀(k:Nat),k≤a.fans.l.length→
 -4899925740432392192 - 2199023255552 * (k + 1)≤(innerTo a s r q k).low∧(innerTo a s r q k).low≤(innerTo a s r q k).high∧(innerTo a s r q k).high≤4899925740432392192 + 2199023255552 * (k + 1)
 | 0,_=>by
  have hs:=Kla hq
  have hn:=h.ndoors
  have hrb:=Yf (s:=s) h hr a.doors.l.length (yn _)
  have hl:=(h.mine.road r.toNat _ zwc).lift
  have h1:=Zn (r:=(Uj a s r a.doors.l.length).low) zc hs
  have h2:=Zn (r:=(Uj a s r a.doors.l.length).high) zc hs
  have h3:(Uj a s r a.doors.l.length).low * (q * q)≤(Uj a s r a.doors.l.length).high * (q * q):=yQa hrb.2.1 hs.1
  rcases yka q 0 with h' | h'
  ·rw [U9a h',yua,yua];dsimp only;omega
  ·rw [Vfa zc,yua,yua];dsimp only;omega
 | k + 1,hk=>by
  have ih:=Uba (s:=s) h hr hq k zc
  have hb:=Zu (h.fan k _ zwc).1 (s.fans.l.getD k 0) q
  simp only [innerTo]
  split
  ·dsimp only;omega
  ·omega
def Zbb (a:XAir) (s:XSetting) (r q:Int) (L:LB) (R:LS) (hm:AirR a R) (hs:SetR s R) (ha:AirOk a) (hf:FitOk a s) (hr:0≤r∧r < a.mine.roads.l.length) (hq:-1048577≤q∧q≤1048577):
 Tri Tryz.prog 290 [a.val,s.val,.int .i64 r,.int .i64 q].toArray L R (fun v M U=>v=(Uc a s r q).val∧L=M∧R=U):=by
 have hmr:=hm.roads;have hfa:=hm.fans;have hdo:=hm.doors;have hsf:=hs.fans;have hsd:=hs.doors;have hnd:=ha.ndoors;have hnf:=ha.nfans;have hlf:=hf.lf;have hld:=hf.ld;have hro:=Js (l:=a.mine.roads.l) (k:=r.toNat) default zc;have hrl:=(ha.mine.road _ _ hro).lift;have hsq:=Kla hq;refine Jd 138 Tryz.call290 Tryz.func290 rfl rfl rfl ?_;apply (Xag);intro b4;apply (qax);intro b5;apply (qaq);intro b8;apply qam∘Xc3;refine J0 (by first | exact Jf tb rfl rfl rfl rfl zB (i:=r.toNat) zo zc | exact Jm tb rfl rfl rfl rfl (i:=r.toNat) zo zc) rfl ?_;apply (Xeo);intro b9;apply Xbe∘Xc4∘qaq;intro b10;apply Xbi∘Xat;refine Jh [(2,.int _ _),(3,.int _ _),(4,.pointer _),(5,.pointer _),(8,.pointer _),(9,.pointer _),(10,.pointer _),(11,.int _ _)] zg fun tq0=>?_;refine q_p ([11,12]++rg 24 38) ((⟨fun g=>[(11,.int .i64 ((g.1:Nat):Int))],fun g=>⟨b10,[.int .i64 (Uj a s r g.1).low,.int .i64 (Uj a s r g.1).high],90⟩ :: ⟨b9,(a.mine.roads.l.getD r.toNat default).cells,157⟩ :: ⟨b8,[.int .i64 0,.int .i64 0],90⟩ :: ⟨b5,s.cells,80⟩ :: ⟨b4,a.cells,32⟩ :: L,fun _=>R,fun g=>a.doors.l.length - g.1⟩:Head {k:Nat // k≤a.doors.l.length})) (⟨0,by omega⟩) ?_;rintro ⟨k,hk⟩ junk;try dsimp only
 apply (Xbm);refine q_c ?_ ?_<;>intro hc0;·
  have hx:=Js (l:=a.doors.l) (k:=k) default zc;have hy:=Js (l:=s.doors.l) (k:=k) 0 zc;have hrb:=Yf (s:=s) ha hr k zc;have hdb:=Ysa (ha.door _ _ hx).1 (s.doors.l.getD k 0);apply Xcz∘qa3∘Xdt∘Xa6;refine q_c ?_ ?_<;>intro hc1;·have e:Uj a s r (k + 1)=_:=if_pos hc1;refine Ji ?_;refine Kg tb [0,1,2,3,4,5,6,7,8,9,10,11,12] _ Kn zf ye ?_;apply Xd6∘qdv∘Xd6∘qbl;refine q_d rfl (Kab (a.doors.l.getD k default) (s.doors.l.getD k 0) _ _ (hdo.door hx)) ?_;apply (qbr);intro b12;apply qbg∘qbu;refine Kh tb [57,58,59] [0,1,2,3,4,5,6,7,8,9,10] [11,12,13] (_) _ Kn zf zk (by (repeat (first | apply List.Sublist.cons (a:=Blk.mk b10 _ _) | apply List.Sublist.cons_cons));exact yu _) ?_;apply Xdv∘qcj∘Xah∘Xcw;refine V6 zva rfl rfl rfl rfl ?_;exact (Xd7∘qal∘qb6∘Xcd) zse
  have e:Uj a s r (k + 1)=_:=if_neg hc1;exact (Xa4) zse
 obtain rfl:k=a.doors.l.length:=by omega
 have hrb:=Yf (s:=s) ha hr a.doors.l.length (yn _);have g1:=Zn (r:=(Uj a s r a.doors.l.length).low) zc hsq;have g2:=Zn (r:=(Uj a s r a.doors.l.length).high) zc hsq;have g3:=Jwc (r:=(Uj a s r a.doors.l.length).low) zc hq;have g4:=Jwc (r:=(Uj a s r a.doors.l.length).high) zc hq;rw [← yua] at g1 g2;apply qbk∘Xaf∘qcm∘Xed∘Xaf∘qcm∘Xed∘qcd∘qaq;intro b13;apply Xbi∘Xdc;refine q_c ?_ ?_<;>intro hc2;·apply qay∘Xaa∘qcq∘Xaa∘qcq∘qcd∘Xem∘Yaf∘Xah∘qan∘Xah∘qcc∘Xah∘qcp∘Xcw∘qdj∘Xd7∘qal∘qb6∘qc6∘Xat;exact uaf
 apply qcl∘Yaf∘Xah∘qan∘Xah∘qcc∘Xah∘qcp∘Xcw∘qdj∘Xd7∘qal∘qb6∘qc6∘Xat;exact uaf
end Go.Proofs.YtchfclmokpbldaaGreat
end
section
namespace Go.Proofs.YtchfclmokpbldaaGreat
open Go.Aw Go
set_option maxRecDepth 20000
attribute [local irreducible] CJ LJ DJ Tri YV Gives U7 Kb Kp U8 RV Ke
def Zha (a:XAir) (s:XSetting) (r pr:Int) (L:LB) (R:LS) (hm:AirR a R) (hs:SetR s R) (ha:AirOk a) (hf:FitOk a s) (hr:0≤r∧r < a.mine.roads.l.length):
 Tri Tryz.prog 257 [a.val,s.val,.int .i64 r,.int .i64 pr].toArray L R (fun v M U=>v=.int .i64 (Uv (Uc a s r) pr)∧L=M∧R=U):=by
 refine Jd 34 Tryz.call257 Tryz.func257 rfl rfl rfl ?_;apply (Xag);intro b4;apply (qax);intro b5;apply Xar∘qad∘qad;refine J6 (Ja (Ji (Jy ?_)));refine Jh [(2,.int _ _),(3,.int _ _),(4,.pointer _),(5,.pointer _),(9,.int _ _),(10,.int _ _)] zg fun tq0=>?_;refine q_s (rg 9 24) (fun g:{g:Int×Int // -1048577≤g.1∧g.1≤g.2∧g.2≤1048576∧Uv (Uc a s r) pr=Ybc (fun q=>(Uc a s r q).high) pr g.1 g.2}=>[(9,.int .i64 g.1.1),(10,.int .i64 g.1.2)]) (fun g=>(g.1.2 - g.1.1).toNat) (⟨(-1048577,1048576),by omega,by omega,by omega,rfl⟩) ?_;rintro ⟨⟨lo,hi⟩,h1,h2,h3,h4⟩ junk;try dsimp only
 apply (Xea);refine q_c ?_ ?_<;>intro hc0;·
  dsimp only at h1 h2 h3 h4 hc0;have he:=Uia (x:=hi - lo + 1) zc;refine Jt (Ja (Jy (Ji (Je ?_))));iterate 3 apply (qaa)
  apply qa9∘qar∘qdd∘Xad∘qam∘Xbp∘Xbu;refine q_l rfl (Zbb a s r (lo + (hi - lo + 1).tdiv 2) _ _ hm hs ha hf hr zc) ?_;exact ua7
 exact zif
def Vla (a:XAir) (s:XSetting) (r pr:Int) (L:LB) (R:LS) (hm:AirR a R) (hs:SetR s R) (ha:AirOk a) (hf:FitOk a s) (hr:0≤r∧r < a.mine.roads.l.length):
 Tri Tryz.prog 258 [a.val,s.val,.int .i64 r,.int .i64 pr].toArray L R (fun v M U=>v=.int .i64 (Ub (Uc a s r) pr)∧L=M∧R=U):=by
 refine Jd 33 Tryz.call258 Tryz.func258 rfl rfl rfl ?_;apply (Xag);intro b4;apply (qax);intro b5;apply Xar∘qad∘qad;refine J6 (Ja (Ji (Jy ?_)));refine Jh [(2,.int _ _),(3,.int _ _),(4,.pointer _),(5,.pointer _),(9,.int _ _),(10,.int _ _)] zg fun tq0=>?_;refine q_s (rg 9 23) (fun g:{g:Int×Int // -1048576≤g.1∧g.1≤g.2∧g.2≤1048577∧Ub (Uc a s r) pr=Yra (fun q=>(Uc a s r q).low) pr g.1 g.2}=>[(9,.int .i64 g.1.1),(10,.int .i64 g.1.2)]) (fun g=>(g.1.2 - g.1.1).toNat) (⟨(-1048576,1048577),by omega,by omega,by omega,rfl⟩) ?_;rintro ⟨⟨lo,hi⟩,h1,h2,h3,h4⟩ junk;try dsimp only
 apply (Xea);refine q_c ?_ ?_<;>intro hc0;·
  dsimp only at h1 h2 h3 h4 hc0;have he:=Uia (x:=hi - lo) zc;refine Jt (Ja (Jy (Ji (Je ?_))));iterate 3 apply (qaa)
  apply qa9∘qdd∘Xad∘qam∘Xbp∘Xbu;refine q_l rfl (Zbb a s r (lo + (hi - lo).tdiv 2) _ _ hm hs ha hf hr zc) ?_;exact uaY
 exact zjf
end Go.Proofs.YtchfclmokpbldaaGreat
end
