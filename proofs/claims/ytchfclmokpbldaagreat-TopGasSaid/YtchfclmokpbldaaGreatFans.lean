/-
  Fans: FanN, FanS, FanW, Pipe, Search, AirS, Inner, Ref09, in one text. By an AI agent; no person has read it.
-/
import Derived.Test.YtchfclmokpbldaaGreatChecks
set_option linter.all false
set_option maxHeartbeats 4000000
section
namespace Go.Proofs.YtchfclmokpbldaaGreat
open Go.Aw Go
set_option maxRecDepth 20000
attribute [local irreducible] CJ LJ DJ Tri YV Gives Uq J2 Kj Ut RV J3
def Kye (x y:Int) (L:LB) (R:LS) (hx:0≤x) (hx2:x≤2199023255552) (hy:0≤y) (hy2:y≤4194304):
 Tri Tryz.prog 303 [.int .u64 x,.int .u64 y].toArray L R (fun v U J=>v=.tuple #[.int .u64 0,.int .u64 (x * y)]∧L=U∧R=J):=by
 have e1:y % 4294967296=y:=by omega
 have e2:y / 4294967296=0:=by omega
 have b0:0≤x % 4294967296 * y:=yQ za hy;have b1:x % 4294967296 * y≤4294967296 * 4194304:=yka za hy2 hy za;have c0:0≤x / 4294967296 * y:=yQ za hy;have c1:x / 4294967296 * y≤512 * 4194304:=yka za hy2 hy za;have d0:0≤x * y:=yQ hx hy;have d1:x * y≤2199023255552 * 4194304:=yka hx2 hy2 hy za;refine Je 51 Tryz.call303 Tryz.func303 rfl rfl rfl ?_;apply Xae∘Xau;refine Jw (Yob rfl rfl za za) rfl ?_;apply (Xau);refine Jw (Kyb rfl rfl) rfl ?_;apply (Xau);refine Jw (Yob rfl rfl za za) rfl ?_;apply (Xau);refine Jw (Kyb rfl rfl) rfl ?_;apply (Xca);simp only [e1,e2];apply Xa5∘Xdh∘Xau∘Xdh∘qaa;refine Jw (Kyb rfl rfl) rfl ?_;apply qar∘Xau;refine Jw (Yob rfl rfl za za) rfl ?_;apply (Xau);refine Jw (Kyb rfl rfl) rfl ?_;apply (Xag);iterate 3 apply (qaa)
 apply qcm∘qar∘Xau∘Xdh∘qaa∘Xac;refine Jw (Kyb rfl rfl) rfl ?_;apply qar∘Xau∘Xdh∘Xam;have key:(x / 4294967296 * y + x % 4294967296 * y / 4294967296) / 4294967296 + (x / 4294967296 * y + x % 4294967296 * y / 4294967296) % 4294967296 / 4294967296=0:=by omega
 refine q_r L R zid ?_;exact ⟨by simp [key],rfl,rfl⟩
def Vte (lo y:Int) (L:LB) (R:LS) (hx:0≤lo) (hx2:lo≤18446744073709551615) (hy:0 < y) (hy2:y≤18446744073709551615):
 Tri Tryz.prog 304 [.int .u64 0,.int .u64 lo,.int .u64 y].toArray L R (fun v U J=>v=.tuple #[.int .u64 (lo / y),.int .u64 (lo % y)]∧L=U∧R=J):=by refine Je 135 Tryz.call304 Tryz.func304 rfl rfl rfl ?_;apply Xae∘Xc5∘Xbu;refine Kib zmb zE ?_;apply qbo∘Xb4∘qbx∘qaf;refine Kib zmb zE ?_;apply qbo∘qaa∘Xbu;refine Vue zmb zo ?_;refine Jq ?_;refine Ke tb [0,1,2,3,4,5,6,7] _ Ko zc ye ?_;apply (Xdo);refine Ks zGa rfl rfl rfl ?_;apply (Xdo);refine Ks zIa rfl rfl rfl ?_;apply (Xc6);refine J1 (Jb (Uk (Kh ?_)));refine q_r L R zid ?_;exact zDd
def U7 (a b:XPoint) (q:Int):XSpan:=
 ⟨a.pres - (a.pres - b.pres) * (q - a.flow) / (b.flow - a.flow) - (if 0 < (a.pres - b.pres) * (q - a.flow) % (b.flow - a.flow) then 1 else 0),a.pres - (a.pres - b.pres) * (q - a.flow) / (b.flow - a.flow)⟩
def Uqd (a b:XPoint) (q:Int) (L:LB) (R:LS) (hp:0≤b.pres∧b.pres≤a.pres∧a.pres≤2199023255552) (hf:-1048576≤a.flow∧a.flow≤q∧q≤b.flow∧a.flow < b.flow∧b.flow≤1048576):
 Tri Tryz.prog 294 [a.val,b.val,.int .i64 q].toArray L R (fun v U J=>v=(U7 a b q).val∧L=U∧R=J):=by
 have d0:0≤(a.pres - b.pres) * (q - a.flow):=yQ za za;have d1:(a.pres - b.pres) * (q - a.flow)≤2199023255552 * 4194304:=yka za za za za;have d2:0≤(a.pres - b.pres) * (q - a.flow) / (b.flow - a.flow):=ySa d0 za;have d3:(a.pres - b.pres) * (q - a.flow) / (b.flow - a.flow)≤a.pres - b.pres:=by refine Int.ediv_le_of_le_mul za ?_;exact yia za za
 refine Je 57 Tryz.call294 Tryz.func294 rfl rfl rfl ?_;apply (Xaf);intro b3;apply (qax);intro b4;apply (qaq);intro b6;apply qam∘Xa0∘qa9∘qdg∘qaa∘Xaa∘qa9∘qdg;refine q_l rfl (Kye _ _ _ _ za za za za) ?_;refine Jw zRb rfl ?_;apply Xba∘qad∘Xau∘qaa∘Xa0∘qa9∘qdg;refine q_l rfl (Vte _ _ _ _ za za za za) ?_;refine Jw zRb rfl ?_;apply Xba∘qad∘Xag∘Xah∘qdg∘qa9∘Xah∘qdg∘qa9∘qcd∘qaq;intro b11;apply Xa9∘qaa∘Xb6;refine q_c ?_ ?_<;>intro hc0;·apply qay∘Xaa∘Xd1∘qam∘Xcz;refine q_r L R zQc ?_;exact ⟨by simp [U7,XSpan.val,hc0],rfl,rfl⟩
 apply qbv∘Xcz;refine q_r L R zQc ?_;exact ⟨by simp [U7,XSpan.val,hc0],rfl,rfl⟩
end Go.Proofs.YtchfclmokpbldaaGreat
end
section
namespace Go.Proofs.YtchfclmokpbldaaGreat
open Go.Aw Go
structure CurveOk (l:List XPoint):Prop where
 pt:∀(i:Nat) (p:XPoint),l[i]?=some p→-1048576≤p.flow∧p.flow≤1048576∧0≤p.pres∧p.pres≤2199023255552
 st:∀(i:Nat) (p r:XPoint),l[i]?=some p→l[i + 1]?=some r→p.flow < r.flow∧r.pres≤p.pres
structure FanOk (f:XFan):Prop where
 road:0≤f.road
 len1:1≤f.curve.l.length
 len8:f.curve.l.length≤8
 ok:CurveOk f.curve.l
def Y3e {f:XFan} (h:Yca f=0):FanOk f:=by
 unfold Yca at h;split at h;·cases h
 rename_i h1;split at h;·cases h
 rename_i h2;have hn:(List.range f.curve.l.length).findSome? (Yg f.curve.l)=none:=by
  cases hf:(List.range f.curve.l.length).findSome? (Yg f.curve.l) with
  | none=>rfl
  | some e=>
   rw [hf] at h;simp only [ylc] at h;subst h;obtain ⟨i,_,hi⟩:=yy hf;unfold Yg at hi;split at hi;·cases hi
   ·
    split at hi;·cases hi
    ·
     split at hi;·cases hi
     ·
      split at hi;·cases hi
      ·split at hi <;> cases hi
 have hall:∀(i:Nat) (p:XPoint),f.curve.l[i]?=some p→Yg f.curve.l i=none:=fun i p hp=>by obtain ⟨hi,_⟩:=List.getElem?_eq_some_iff.1 hp;exact List.findSome?_eq_none_iff.1 hn i (List.mem_range.2 hi)
 have hpt:∀(i:Nat) (p:XPoint),f.curve.l[i]?=some p→-1048576≤p.flow∧p.flow≤1048576∧0≤p.pres∧p.pres≤2199023255552:=fun i p hp=>by
  have:=hall i p hp;by_cases hr:p.flow < -1048576∨1048576 < p.flow∨p.pres < 0∨2199023255552 < p.pres;·rw [Khc hp hr] at this;cases this
  ·omega
 refine ⟨by omega,by omega,by omega,hpt,fun i p r hp hr=>?_⟩;have:=hall (i + 1) r hr;have b:=hpt _ _ hr;by_cases hb:r.flow≤p.flow∨p.pres < r.pres;·rw [Y6b hr za za (by simpa using hp) hb] at this;cases this
 ·omega
def Yt (p : XPoint) : List XPoint → Int → XSpan
 | [],_=>⟨p.pres,p.pres⟩
 | r :: rest,q=>if q≤r.flow then U7 p r q else Yt r rest q
def V7 (l:List XPoint) (q:Int):XSpan:=
 match l with
 | []=>⟨0,0⟩
 | p :: rest=>if q≤p.flow then ⟨p.pres,p.pres⟩ else Yt p rest q
def U1f (s:XSpan):XSpan:=⟨-s.high,-s.low⟩
def Yd (l:List XPoint) (back:Bool) (q:Int):XSpan:=if back then U1f (V7 l (-q)) else V7 l q
def Un (f:XFan) (s q:Int):XSpan:=
 if s=1 then Yd f.curve.l f.back q else if s=2 then Yd f.curve.l (!f.back) q
 else if s= -1 then ⟨min (min 0 (Yd f.curve.l false q).low) (Yd f.curve.l true q).low,max (max 0 (Yd f.curve.l false q).high) (Yd f.curve.l true q).high⟩
 else ⟨0,0⟩
def Z5a {a b:XPoint} {q:Int} (hp:0≤b.pres∧b.pres≤a.pres∧a.pres≤2199023255552) (hf:-1048576≤a.flow∧a.flow≤q∧q≤b.flow∧a.flow < b.flow∧b.flow≤1048576):
 b.pres≤(U7 a b q).low∧(U7 a b q).low≤(U7 a b q).high∧(U7 a b q).high≤a.pres:=by
 unfold U7;have d0:0≤(a.pres - b.pres) * (q - a.flow):=yQ za za;have d1:(a.pres - b.pres) * (q - a.flow)≤(a.pres - b.pres) * (b.flow - a.flow):=yia za za;generalize (a.pres - b.pres) * (q - a.flow)=N at *;have hw:0 < b.flow - a.flow:=by omega
 generalize b.flow - a.flow=w at *;have d2:0≤N / w:=ySa d0 za;have d3:N / w≤a.pres - b.pres:=Int.ediv_le_of_le_mul hw d1;have d4:=Int.mul_ediv_add_emod N w;have d5:0≤N % w:=yAb _ za;dsimp only;split;·
  rename_i hr;have:N / w < a.pres - b.pres:=by
   rcases yla (N / w) (a.pres - b.pres) with h | h;·exact h
   ·(have e : N / w = a.pres - b.pres := by omega);rw [e] at d4;rw [Int.mul_comm] at d4;omega
  omega
 ·omega
def Zh:∀(l:List XPoint) (p:XPoint) (q:Int),CurveOk (p :: l)→p.flow≤q→
 0≤(Yt p l q).low∧(Yt p l q).low≤(Yt p l q).high∧(Yt p l q).high≤p.pres
 | [],p,q,h,_=>by have:=h.pt 0 p rfl;simp only [Yt];omega
 | r :: rest,p,q,h,hq=>by
  have h0:=h.pt 0 p rfl
  have h1:=h.pt 1 r rfl
  have h2:=h.st 0 p r rfl rfl
  unfold Yt
  split
  ·have := Z5a (a := p) (b := r) (q := q) za za
   omega
  ·have := Zh rest r q ⟨fun i => h.pt (i + 1), fun i => h.st (i + 1)⟩ za
   omega
def Kna {l:List XPoint} (h:CurveOk l) (q:Int):0≤(V7 l q).low∧(V7 l q).low≤(V7 l q).high∧(V7 l q).high≤2199023255552:=by
 cases l with
 | nil=>simp [V7]
 | cons p rest=>
  have h0:=h.pt 0 p rfl;unfold V7;dsimp only;split;·(first | omega | (dsimp only;omega))
  ·have := Zh rest p q h za;omega
def Kqa {l:List XPoint} (h:CurveOk l) (back:Bool) (q:Int):-2199023255552≤(Yd l back q).low∧(Yd l back q).low≤(Yd l back q).high∧(Yd l back q).high≤2199023255552:=by have h1:=Kna h q;have h2:=Kna h (-q);unfold Yd U1f;exact ubt
def V0a {f:XFan} (h:FanOk f) (s q:Int):-2199023255552≤(Un f s q).low∧(Un f s q).low≤(Un f s q).high∧(Un f s q).high≤2199023255552:=by
 have h1:=Kqa h.ok f.back q;have h2:=Kqa h.ok (!f.back) q;have h3:=Kqa h.ok false q;have h4:=Kqa h.ok true q;unfold Un;split;·omega
 ·
  split;·omega
  ·exact ubt
def Zge {a b:Int} (hb:0 < b):(if a.tmod b < 0 then a.tdiv b - 1 else a.tdiv b)=a / b:=by
 have h1:=Int.mul_tdiv_add_tmod a b;have h2:-b < a.tmod b:=by have:=Int.lt_tmod_of_pos a hb;omega
 have h3:a.tmod b < b:=yBb a hb;split;·have := (yqb (a := a) (b := b) (q := a.tdiv b - 1) (r := a.tmod b + b) hb).2 ⟨by rw [Int.mul_sub]; omega, by omega, by omega⟩;exact this.1.symm
 ·have := (yqb (a := a) (b := b) (q := a.tdiv b) (r := a.tmod b) hb).2 ⟨by omega, by omega, by omega⟩;exact this.1.symm
def Y8b {N w:Int} (hw:0 < w):(-N) / w= -(N / w) - (if 0 < N % w then 1 else 0):=by
 have h1:=Int.mul_ediv_add_emod N w;have h2:=yAb N (show w≠0 by omega);have h3:=Int.emod_lt_of_pos N hw;split;·have := (yqb (a := -N) (b := w) (q := -(N / w) - 1) (r := w - N % w) hw).2 ⟨by rw [Int.mul_sub, yVb]; omega, by omega, by omega⟩;exact this.1
 ·have := (yqb (a := -N) (b := w) (q := -(N / w)) (r := 0) hw).2 ⟨by rw [yVb]; omega, by omega, by omega⟩;rw [this.1];omega
def Kcd {a b:XPoint} {q:Int} (hw:a.flow < b.flow):
 (⟨a.pres + (b.pres - a.pres) * (q - a.flow) / (b.flow - a.flow),a.pres + -(-((b.pres - a.pres) * (q - a.flow)) / (b.flow - a.flow))⟩:XSpan)=U7 a b q:=by
 have e:(b.pres - a.pres) * (q - a.flow)= -((a.pres - b.pres) * (q - a.flow)):=by rw [← yJb];congr 1;omega
 rw [e,Int.neg_neg,Y8b za];unfold U7;congr 1 <;> omega
def Vqa : ∀ (l : List XPoint) (r pn : XPoint), CurveOk (r :: l) → (r :: l)[l.length]? = some pn → r.flow ≤ pn.flow ∧ (l ≠ [] → r.flow < pn.flow)
 | [],r,pn,_,hn=>by simp at hn;subst hn;exact ⟨yz _,fun h=>absurd rfl h⟩
 | s :: l,r,pn,ok,hn=>by
  have hs:=ok.st 0 r s rfl rfl
  have:=Vqa l s pn ⟨fun i=>ok.pt (i + 1),fun i=>ok.st (i + 1)⟩ (by simpa using hn)
  exact ⟨by omega,fun _=>by omega⟩
def U0b : ∀ (l : List XPoint) (p pn : XPoint) (q : Int), CurveOk (p :: l) → (p :: l)[l.length]? = some pn → pn.flow ≤ q → (l = [] ∨ p.flow < q) → Yt p l q = ⟨pn.pres, pn.pres⟩
 | [],p,pn,q,_,hn,_,_=>by simp at hn;subst hn;rfl
 | r :: rest,p,pn,q,h,hn,hq,_=>by
  have h2:=h.st 0 p r rfl rfl
  have hn':(r :: rest)[rest.length]?=some pn:=by simpa using hn
  have ok':CurveOk (r :: rest):=⟨fun i=>h.pt (i + 1),fun i=>h.st (i + 1)⟩
  have hle:=Vqa rest r pn ok' hn'
  unfold Yt
  split
  ·rename_i hqr
   have hre:rest=[]:=by
    rcases rest with _ | ⟨s,rest⟩
    ·rfl
    ·have:=hle.2 zo;omega
   subst hre
   simp at hn';subst hn'
   have hqe:q=r.flow:=by omega
   subst hqe
   unfold U7
   have hw:0 < r.flow - p.flow:=by omega
   rw [Int.mul_ediv_cancel _ za,Int.mul_emod_left]
   simp
   omega
  ·exact U0b rest r pn q ok' hn' hq (.inr za)
def Kxd {l:List XPoint} (h:CurveOk l) (h1:1≤l.length) {pn:XPoint} (hn:l[l.length - 1]?=some pn) (q:Int) (hq:pn.flow≤q):V7 l q=⟨pn.pres,pn.pres⟩:=by
 cases l with
 | nil=>simp at h1
 | cons p rest=>
  have hn':(p :: rest)[rest.length]?=some pn:=by simpa using hn
  unfold V7;dsimp only;split;·
   rename_i hp;have hre:rest=[]:=by
    rcases rest with _ | ⟨s,rest⟩;·rfl
    ·exfalso;have h2:=h.st 0 p s rfl rfl;have:=Vqa rest s pn ⟨fun i=>h.pt (i + 1),fun i=>h.st (i + 1)⟩ (by simpa using hn');omega
   subst hre;simp at hn';subst hn';rfl
  ·exact U0b rest p pn q h hn' hq (.inr za)
def Ufc : ∀ (l : List XPoint) (p0 : XPoint) (k : Nat) (p r : XPoint) (q : Int), CurveOk (p0 :: l) → (p0 :: l)[k]? = some p → (p0 :: l)[k + 1]? = some r → p.flow ≤ q → q < r.flow → p0.flow < q → Yt p0 l q = U7 p r q
 | [],p0,k,p,r,q,_,_,hr,_,_,_=>by simp at hr
 | s :: rest,p0,0,p,r,q,h,hp,hr,h1,h2,h3=>by
  simp at hp hr;subst hp;subst hr
  unfold Yt
  rw [if_pos za]
 | s :: rest,p0,k + 1,p,r,q,h,hp,hr,h1,h2,h3=>by
  have ok':CurveOk (s :: rest):=⟨fun i=>h.pt (i + 1),fun i=>h.st (i + 1)⟩
  have h4:=h.st 0 p0 s rfl rfl
  have hp':(s :: rest)[k]?=some p:=by simpa using hp
  have hr':(s :: rest)[k + 1]?=some r:=by simpa using hr
  have hr2:=ok'.st k p r hp' hr'
  unfold Yt
  split
  ·rename_i hqs
   -- then the point at k is this one, and the flow is its own
   have mono:∀(j:Nat) (x y:XPoint),(s :: rest)[0]?=some x→(s :: rest)[j]?=some y→x.flow + j≤y.flow:=by
    intro j
    induction j with
    | zero=>intro x y hx hy;rw [hx] at hy;cases hy;omega
    | succ j ih=>
     intro x y hx hy
     obtain ⟨hj,_⟩:=List.getElem?_eq_some_iff.1 hy
     obtain ⟨z,hz⟩:=Kn (l:=s :: rest) (k:=j) za
     have:=ih x z hx hz
     have:=ok'.st j z y hz hy
     omega
   have hm:=mono k s p rfl hp'
   have hk:k=0:=by omega
   subst hk
   simp at hp';subst hp'
   have hqe:q=s.flow:=by omega
   subst hqe
   have hpr:=ok'.pt 0 s rfl
   unfold U7
   have hw:0 < s.flow - p0.flow:=by omega
   rw [Int.mul_ediv_cancel _ za,Int.mul_emod_left,Int.sub_self,ypc,Int.zero_ediv,Int.zero_emod]
   simp
   omega
  ·exact Ufc rest s k p r q ok' hp' hr' h1 h2 za
def Vpe {l:List XPoint} (h:CurveOk l) {k:Nat} {p r:XPoint} {q:Int} (hp:l[k]?=some p) (hr:l[k + 1]?=some r) (h1:p.flow≤q) (h2:q < r.flow):V7 l q=U7 p r q:=by
 cases l with
 | nil=>simp at hp
 | cons p0 rest=>
  unfold V7;dsimp only;split;·
   rename_i hq;have mono:∀(j:Nat) (y:XPoint),(p0 :: rest)[j]?=some y→p0.flow + j≤y.flow:=by
    intro j;induction j with
    | zero=>intro y hy;simp at hy;subst hy;omega
    | succ j ih=>intro y hy;obtain ⟨hj,_⟩:=List.getElem?_eq_some_iff.1 hy;obtain ⟨z,hz⟩:=Kn (l:=p0 :: rest) (k:=j) za;have:=ih z hz;have:=h.st j z y hz hy;omega
   have hm:=mono k p hp;(have hk:k=0:=by omega);subst hk;simp at hp;subst hp;(have hqe:q=p0.flow:=by omega);subst hqe;unfold U7;rw [Int.sub_self,ypc,Int.zero_ediv,Int.zero_emod];simp
  ·exact Ufc rest p0 k p r q h hp hr h1 h2 za
end Go.Proofs.YtchfclmokpbldaaGreat
end
section
namespace Go.Proofs.YtchfclmokpbldaaGreat
open Go.Aw Go
set_option maxRecDepth 20000
attribute [local irreducible] CJ LJ DJ Tri YV Gives Uq J2 Kj Ut RV J3
def Yrc (f:XFan) (q:Int) (L:LB) (R:LS) (hm:InR f.sl R) (hf:FanOk f) (hq:-1048577≤q∧q≤1048577):
 Tri Tryz.prog 282 [f.val,.int .i64 q].toArray L R (fun v U J=>v=(V7 f.curve.l q).val∧L=U∧R=J):=by
 have hl1:=hf.len1;have hl8:=hf.len8;obtain ⟨p0,hp0⟩:=Kn (l:=f.curve.l) (k:=0) za;obtain ⟨pn,hpn⟩:=Kn (l:=f.curve.l) (k:=f.curve.l.length - 1) za;refine Je 62 Tryz.call282 Tryz.func282 rfl rfl rfl ?_;apply (Xaf);intro b2;apply (qaq);intro b4;apply (qa4);refine Ke tb [0,1,2,3,4,5,6,7,8,9,10,11,12,13,14,15] _ Ko zc ye ?_;apply Xal∘qdu∘qdo∘Xal∘Xal;refine Ks zPb rfl rfl rfl ?_;apply (qb7);refine Ks zKa rfl rfl rfl ?_;apply qdo∘qbr;intro b5;apply (qbr);intro b6;apply qbg∘qbg∘qc6∘qaa∘Xaa∘qbx∘qaf;refine q_c ?_ ?_<;>intro hc0;·apply qae∘Xa0∘qcd∘Xdb;obtain ⟨rest,hrest⟩:∃rest,f.curve.l=p0 :: rest:=⟨_,by have:=Uya hp0;simpa using this⟩;refine q_r L R zQc ?_;exact ⟨by rw [hrest];simp only [V7,if_pos hc0],rfl,rfl⟩
 apply qbo∘Xbq;refine Jm [(1,.int _ _),(2,.pointer _),(4,.pointer _),(6,.pointer _),(7,.int _ _)] zh fun tq0=>?_;refine q_s ([7]++rg 29 28) (fun g:{k:Nat // 1≤k∧k≤f.curve.l.length∧∃p,f.curve.l[k - 1]?=some p∧p.flow < q∧V7 f.curve.l q=Yt p (f.curve.l.drop k) q}=>[(7,.int .i64 ((g.1:Nat):Int))]) (fun g=>f.curve.l.length - g.1) (⟨1,by omega,by omega,p0,hp0,by omega,by have h:=Uya hp0;simp only [ysb,yNa] at h;rw [h];simp only [V7,if_neg hc0,List.drop_one,List.tail_cons]⟩) ?_;rintro ⟨k,hk1,hk2,p,hp,hpq,hs⟩ junk;try dsimp only
 apply Xa6∘Xab∘Xbd;refine q_c ?_ ?_<;>intro hc1;·
  obtain ⟨r,hr⟩:=Kn (l:=f.curve.l) (k:=k) za;have hb1:=hf.ok.pt _ _ hp;have hb2:=hf.ok.pt _ _ hr;have hb3:=hf.ok.st (k - 1) p r hp (by rw [show k - 1 + 1=k by omega];exact hr);rw [Uya hr] at hs;simp only [Yt] at hs;apply Xa1∘Xah∘qa3∘Xbc∘qbx∘qaf;refine q_c ?_ ?_<;>intro hc2;·refine Jq ?_;refine J7 tb [] [0,1,2,3,4,5,6,7,8,9,10,11,12] [13] (_) _ Ko zc zi zQ ?_;apply Xcb∘qcc;refine Ku zjb rfl rfl rfl rfl ?_;apply qd1∘Xcb∘qc5∘qd1∘qbf;refine K7 rfl (Uqd p r q _ _ za za) rfl rfl ?_;rintro v U J ⟨rfl,rfl,rfl⟩;refine ⟨zi,zt,?_⟩;apply (Xcs);refine J1 (Jb (Uk (Kd (Kh (Ym (Kd (Kh ?_)))))));refine q_r L R zQc ?_;exact ⟨by rw [hs,if_pos hc2],rfl,rfl⟩
  apply qbj∘Xbw;exact q_k (⟨k + 1,by omega,by omega,r,by simpa using hr,by omega,by rw [hs,if_neg hc2]⟩)
 obtain rfl:k=f.curve.l.length:=by omega
 obtain rfl:p=pn:=by rw [hp] at hpn;exact yG hpn
 rw [yjb (ym _)] at hs;apply qbk∘Xa0∘qcd∘Xbl;refine q_r L R zQc ?_;exact ⟨by rw [hs];rfl,rfl,rfl⟩
def Ktb (f:XFan) (back:Bool) (q:Int) (L:LB) (R:LS) (hm:InR f.sl R) (hf:FanOk f) (hq:-1048577≤q∧q≤1048577):
 Tri Tryz.prog 246 [f.val,.bool back,.int .i64 q].toArray L R (fun v U J=>v=(Yd f.curve.l back q).val∧L=U∧R=J):=by
 have hb1:=Kna hf.ok (-q);refine Je 24 Tryz.call246 Tryz.func246 rfl rfl rfl ?_;apply (Xaf);intro b3;apply (qaq);intro b6;apply qaw∘qah∘Xbj;refine q_c ?_ ?_<;>intro hc0;·apply qae∘qa8∘qaa;refine q_l rfl (Yrc f q _ _ hm hf hq) ?_;apply (Xdb);refine q_r L R zQc ?_;exact ⟨by simp [Yd,hc0],rfl,rfl⟩
 apply qbv∘qa8∘qaa∘qcq;refine q_l rfl (Yrc f (-q) _ _ hm hf za) ?_;apply (qaq);intro b7;apply Xb9∘qcq∘Xaa∘qcq∘qcd∘Xbl;refine q_r L R zQc ?_;exact ⟨by simp [Yd,hc0,U1f],rfl,rfl⟩
def Vkd (f:XFan) (s q:Int) (L:LB) (R:LS) (hm:InR f.sl R) (hf:FanOk f) (hq:-1048577≤q∧q≤1048577):
 Tri Tryz.prog 193 [f.val,.int .i64 s,.int .i64 q].toArray L R (fun v U J=>v=(Un f s q).val∧L=U∧R=J):=by
 refine Je 45 Tryz.call193 Tryz.func193 rfl rfl rfl ?_;apply (Xaf);intro b3;apply (qaq);intro b6;apply qaw∘qaa;refine J9 (Jb (Ki (Jq (Jg ?_))));apply (Xa2);refine q_c ?_ ?_<;>intro hc0;·apply qae∘qa8∘Xah;refine q_l rfl (Ktb f f.back q _ _ hm hf hq) ?_;apply qak∘qdb;refine q_r L R zQc ?_;exact ⟨by rw [Un,if_pos hc0],rfl,rfl⟩
 apply (Xbv);refine q_c ?_ ?_<;>intro hc1;·apply qae∘qa8∘Xaa∘qb4∘qaa;refine q_l rfl (Ktb f (!f.back) q _ _ hm hf hq) ?_;apply qak∘qdb;refine q_r L R zQc ?_;exact ⟨by rw [Un,if_neg hc0,if_pos hc1],rfl,rfl⟩
 apply (Xbv);refine q_c ?_ ?_<;>intro hc2;·refine Jq ?_;refine Ke tb [0,1,3,4,2,5,6,7,8,9] _ Ko zc ye ?_;apply qbc∘qao∘qbc∘qao;refine q_d rfl (Ktb f false q _ _ hm hf hq) ?_;refine q_d rfl (Ktb f true q _ _ hm hf hq) ?_;apply (qbr);intro b7;apply (qbr);intro b8;apply qbg∘qbg;refine J1 (Jb (Jq (Jg ?_)));apply (Xa0);refine Jw (J4e rfl rfl rfl) rfl ?_;apply (Xa0);refine Jw (Vce rfl rfl rfl) rfl ?_;apply qcd∘qak∘qdb;refine q_r L R zQc ?_;exact ⟨by rw [Un,if_neg hc0,if_neg hc1,if_pos hc2],rfl,rfl⟩
 refine J5 (Jh (Jb (Jq (Jg ?_))));apply qck∘Xbl;refine q_r L R zQc ?_;exact ⟨by rw [Un,if_neg hc0,if_neg hc1,if_neg hc2],rfl,rfl⟩
def Zrc (a b:Int) (L:LB) (R:LS) (ha:-9223372036854775807≤a∧a≤9223372036854775807) (hb:0 < b∧b≤9223372036854775807):
 Tri Tryz.prog 291 [.int .i64 a,.int .i64 b].toArray L R (fun v U J=>v=.int .i64 (a / b)∧L=U∧R=J):=by
 have hfl:=Zge (a:=a) hb.1;have hc:-9223372036854775807≤a / b∧a / b≤9223372036854775807:=by
  rcases yla a 0 with h | h;·have h1 : a / b ≤ 0 := yGb za hb.1;(have h2:a≤a / b:=by refine Int.le_ediv_of_mul_le hb.1 ?_;have:=Int.mul_le_mul_of_nonpos_left (a:=a) (b:=b) (c:=1) za za;omega);omega
  ·have h1 := ySa h (show 0 ≤ b by omega);have h2:=yib b h;omega
 have hd:-9223372036854775807≤a.tdiv b∧a.tdiv b≤9223372036854775807:=by
  split at hfl;·
   constructor;·omega
   ·
    have h1 := Int.mul_tdiv_add_tmod a b;rename_i h;have:a < 0:=by
     rcases yla a 0 with h' | h';·exact h'
     ·have:=yWb b h';omega
    have h3:a / b≤0:=yGb za hb.1;omega
  ·omega
 refine Je 16 Tryz.call291 Tryz.func291 rfl rfl rfl ?_;apply Xae∘qam∘Xb4∘qdd∘Xar∘Xb4∘qda∘Xbd;refine q_c ?_ ?_<;>intro hc0;·rw [if_pos hc0] at hfl;apply Xa5∘qa9∘Xau∘Xam;refine q_i L R ?_;exact ⟨by rw [hfl],rfl,rfl⟩
 rw [if_neg hc0] at hfl;apply Xdz∘Xam;refine q_i L R ?_;exact ⟨by rw [hfl],rfl,rfl⟩
def Kbf (a b:Int) (L:LB) (R:LS) (ha:-9223372036854775807≤a∧a≤9223372036854775807) (hb:0 < b∧b≤9223372036854775807) (hq:-9223372036854775807≤(-a) / b∧(-a) / b≤9223372036854775807):
 Tri Tryz.prog 259 [.int .i64 a,.int .i64 b].toArray L R (fun v U J=>v=.int .i64 (-((-a) / b))∧L=U∧R=J):=by refine Je 10 Tryz.call259 Tryz.func259 rfl rfl rfl ?_;apply Xae∘Xc8∘qcq∘qaa;refine q_l rfl (Zrc (-a) b _ _ za hb) ?_;apply qcq∘Xam;refine q_i L R ?_;exact zDd
def Jvd (f:XFan) (q:Int) (L:LB) (R:LS) (hm:InR f.sl R) (hf:FanOk f) (hq:-1048577≤q∧q≤1048577):
 Tri Tryz.prog 276 [f.val,.int .i64 q].toArray L R (fun v U J=>v=(V7 f.curve.l q).val∧L=U∧R=J):=by
 have hl1:=hf.len1;have hl8:=hf.len8;obtain ⟨p0,hp0⟩:=Kn (l:=f.curve.l) (k:=0) za;obtain ⟨pn,hpn⟩:=Kn (l:=f.curve.l) (k:=f.curve.l.length - 1) za;have hcl:=Kxd hf.ok za hpn;have hc0':q≤p0.flow→V7 f.curve.l q=⟨p0.pres,p0.pres⟩:=fun h=>by have h':=Uya hp0;simp only [ysb,yNa] at h';rw [h'];simp only [V7,if_pos h]
 refine Je 106 Tryz.call276 Tryz.func276 rfl rfl rfl ?_;apply (Xaf);intro b2;apply (qaq);intro b4;apply qam∘Xab∘Xc5∘Xaa∘qdt∘Xbc∘qbx∘qaf;refine q_c ?_ ?_<;>intro hc0;·refine Jq ?_;refine J7 tb [] [0,1,2,3,4,5,6,7,8,9,10] [11] (_) _ Ko zc zi zQ ?_;apply Xak∘qd2∘qcv∘qci∘Xak∘qd2∘qcv∘qci∘qcw∘Xcs;refine J1 (Jb (Uk (Kh ?_)));refine q_r L R zQc ?_;exact ⟨by rw [hc0' hc0],rfl,rfl⟩
 apply qbo∘qaa∘Xdy;refine Jw zKa rfl ?_;apply Xbc∘Xcu;refine q_c ?_ ?_<;>intro hc1;·refine Jq ?_;refine J7 tb [] [0,1,2,3,4,5,6,7,8,9,10,11,12,13,14] [15] (_) _ Ko zc zi zQ ?_;apply Xcb∘qcc∘qd3∘qcv∘qci∘Xcb∘qcc∘qd3∘qcv∘qci∘qcw∘Xcs;refine J1 (Jb (Uk (Kh ?_)));refine q_r L R zQc ?_;exact ⟨by rw [hcl q hc1],rfl,rfl⟩
 apply qbv∘qad;refine J9 (Jb (Jq (Ki ?_)));refine Jm [(1,.int _ _),(2,.pointer _),(4,.pointer _),(6,.int _ _)] zh fun tq0=>?_;refine q_s ([6]++rg 56 11) (fun g:{k:Nat // k + 1 < f.curve.l.length∧∃p,f.curve.l[k]?=some p∧p.flow≤q}=>[(6,.int .i64 ((g.1:Nat):Int))]) (fun g=>f.curve.l.length - g.1) (⟨0,by rcases yk 1 f.curve.l.length with h | h;exact h;exfalso;rw [show f.curve.l.length - 1=0 by omega,hp0] at hpn;cases hpn;omega,p0,hp0,by omega⟩) ?_;rintro ⟨k,hk,p,hp,hpq⟩ junk;try dsimp only
 refine Jq (Jq ?_);obtain ⟨r,hr⟩:=Kn (l:=f.curve.l) (k:=k + 1) za;apply qay∘Xah∘qar;refine Jw zkb rfl ?_;apply Xbc∘qaa∘qbx∘qaf;refine q_c ?_ ?_<;>intro hc2;·refine J5 (Jb (Ki (Jg ?_)));apply Xbf∘qad;refine J9 (Jh ?_);exact q_k (⟨k + 1,by rcases yk (k + 1 + 1) f.curve.l.length with h | h;exact h;exfalso;rw [show f.curve.l.length - 1=k + 1 by omega,hr] at hpn;cases hpn;omega,r,hr,by omega⟩)
 have hb1:=hf.ok.pt _ _ hp;have hb2:=hf.ok.pt _ _ hr;have hb3:=hf.ok.st k p r hp hr;have hcr:=Vpe hf.ok hp hr hpq za;have d0:0≤(p.pres - r.pres) * (q - p.flow):=yQ za za;have d1:(p.pres - r.pres) * (q - p.flow)≤2199023255552 * 2097153:=yka za za za za;have de:(r.pres - p.pres) * (q - p.flow)= -((p.pres - r.pres) * (q - p.flow)):=by rw [← yJb];congr 1;omega
 have d2:0≤(p.pres - r.pres) * (q - p.flow) / (r.flow - p.flow):=ySa d0 za;have d3:(p.pres - r.pres) * (q - p.flow) / (r.flow - p.flow)≤(p.pres - r.pres) * (q - p.flow):=yib _ d0;have d4:=Y8b (N:=(p.pres - r.pres) * (q - p.flow)) (w:=r.flow - p.flow) za;have d7:-((p.pres - r.pres) * (q - p.flow)) - 1≤ -((p.pres - r.pres) * (q - p.flow)) / (r.flow - p.flow)∧-((p.pres - r.pres) * (q - p.flow)) / (r.flow - p.flow)≤0:=by split at d4 <;> omega
 have d5:-((r.pres - p.pres) * (q - p.flow)) / (r.flow - p.flow)=(p.pres - r.pres) * (q - p.flow) / (r.flow - p.flow):=by rw [de,Int.neg_neg]
 have d6:(r.pres - p.pres) * (q - p.flow) / (r.flow - p.flow)= -((p.pres - r.pres) * (q - p.flow)) / (r.flow - p.flow):=by rw [de]
 apply (qc3);refine Ke tb [0,1,2,3,4,5,6,7,8,9,10,11,12,13,14] _ Ko zc ye ?_;apply Xby∘qds∘qdo∘Xby∘qc2∘qdy∘qdo∘qbr;intro b7;apply (qbr);intro b8;apply qbg∘qbg∘qb9;refine Ke tb [0,1,2,3,4,5,6,7,8,9,10,11,12,13,14,15,16] _ Ko zc ye ?_;apply Xal∘Xal∘qb7∘qao∘Xal∘qb7∘qdh∘Xal∘Xal∘qb7∘Xc6∘qb9;refine J7 tb [] [0,1,2,3,6,7,8,9,4,5,10,11,12] [13] (_) _ Ko zc zi zQ ?_;apply Xcb∘qbf∘Xcb∘qbf;refine K7 rfl (Zrc _ _ _ _ za za) rfl rfl ?_;rintro v U J ⟨rfl,rfl,rfl⟩;refine ⟨zi,zt,?_⟩;apply (qcj);refine K7 rfl (Kbf _ _ _ _ za za za) rfl rfl ?_;rintro v U J ⟨rfl,rfl,rfl⟩;refine ⟨zi,zt,?_⟩;apply qcj∘qcw∘Xcs;refine J1 (Jb (Uk ?_));refine q_r L R zQc ?_;exact ⟨by rw [hcr,← Kcd za],rfl,rfl⟩
def Via (f:XFan) (back:Bool) (q:Int) (L:LB) (R:LS) (hm:InR f.sl R) (hf:FanOk f) (hq:-1048577≤q∧q≤1048577):
 Tri Tryz.prog 236 [f.val,.bool back,.int .i64 q].toArray L R (fun v U J=>v=(Yd f.curve.l back q).val∧L=U∧R=J):=by
 have hb1:=Kna hf.ok (-q);refine Je 23 Tryz.call236 Tryz.func236 rfl rfl rfl ?_;apply (Xaf);intro b3;apply (qaq);intro b6;apply qaw∘Xds;refine q_c ?_ ?_<;>intro hc0;·apply qae∘qa8∘qaa∘qcq;refine q_l rfl (Jvd f (-q) _ _ hm hf za) ?_;apply (qaq);intro b7;apply Xb9∘qcq∘Xaa∘qcq∘qcd∘Xdb;refine q_r L R zQc ?_;exact ⟨by simp [Yd,hc0,U1f],rfl,rfl⟩
 apply qbv∘qa8∘qaa;refine q_l rfl (Jvd f q _ _ hm hf hq) ?_;apply (Xbl);refine q_r L R zQc ?_;exact ⟨by simp [Yd,hc0],rfl,rfl⟩
def Ujd (f:XFan) (s q:Int) (L:LB) (R:LS) (hm:InR f.sl R) (hf:FanOk f) (hq:-1048577≤q∧q≤1048577) (hs:-1≤s∧s≤2):
 Tri Tryz.prog 182 [f.val,.int .i64 s,.int .i64 q].toArray L R (fun v U J=>v=(Un f s q).val∧L=U∧R=J):=by
 refine Je 45 Tryz.call182 Tryz.func182 rfl rfl rfl ?_;apply (Xaf);intro b3;apply (qaq);intro b6;apply qaw∘qaa;refine J9 (Jb (Ki (Jq (Jg ?_))));apply (Xa2);refine q_c ?_ ?_<;>intro hc0;·apply qae∘qck∘qak∘qdb;refine q_r L R zQc ?_;exact ⟨by rw [Un,if_neg za,if_neg za,if_neg za],rfl,rfl⟩
 apply (Xbv);refine q_c ?_ ?_<;>intro hc1;·apply qae∘qa8∘Xah;refine q_l rfl (Via f f.back q _ _ hm hf hq) ?_;apply qak∘qdb;refine q_r L R zQc ?_;exact ⟨by rw [Un,if_pos hc1],rfl,rfl⟩
 apply (Xbv);refine q_c ?_ ?_<;>intro hc2;·apply qae∘qa8∘Xaa∘qb4∘qaa;refine q_l rfl (Via f (!f.back) q _ _ hm hf hq) ?_;apply qak∘qdb;refine q_r L R zQc ?_;exact ⟨by rw [Un,if_neg hc1,if_pos hc2],rfl,rfl⟩
 refine J5 (Jh (Jb (Jq ?_)));refine Ke tb [0,1,3,4,2,5,6,7,8,9] _ Ko zc ye ?_;apply qbc∘qao∘qbc∘qao;refine q_d rfl (Via f false q _ _ hm hf hq) ?_;refine q_d rfl (Via f true q _ _ hm hf hq) ?_;apply (qbr);intro b7;apply (qbr);intro b8;apply qbg∘qbg;refine J1 (Jb (Jq (Jg ?_)));apply (Xa0);refine Jw (J4e rfl rfl rfl) rfl ?_;apply (Xa0);refine Jw (Vce rfl rfl rfl) rfl ?_;apply qcd∘Xbl;refine q_r L R zQc ?_;exact ⟨by rw [Un,if_neg hc1,if_neg hc2,if_pos za,Int.min_comm 0,Int.max_comm 0];simp only [Int.min_assoc,Int.max_assoc,Int.min_comm 0,Int.max_comm 0],rfl,rfl⟩
end Go.Proofs.YtchfclmokpbldaaGreat
end
section
namespace Go.Proofs.YtchfclmokpbldaaGreat
open Go.Aw Go
set_option maxRecDepth 20000
attribute [local irreducible] CJ LJ DJ Tri YV Gives Uq J2 Kj Ut RV J3
structure PipeOk (p:XPipe):Prop where
 rest:0≤p.road.rest.low∧p.road.rest.low≤p.road.rest.high∧p.road.rest.high≤4456448
 lift:-2199023255552≤p.road.lift.low∧p.road.lift.low≤p.road.lift.high∧p.road.lift.high≤2199023255552
 len:p.fans.l.length≤8
 fan:∀(i:Nat) (b:XBlow),p.fans.l[i]?=some b→FanOk b.fan
def Jba (p : XPipe) (q : Int) : Nat → XSpan
 | 0=>if q < 0 then ⟨-p.road.rest.high * (q * q) - p.road.lift.high,-p.road.rest.low * (q * q) - p.road.lift.low⟩ else ⟨p.road.rest.low * (q * q) - p.road.lift.high,p.road.rest.high * (q * q) - p.road.lift.low⟩
 | k + 1=>⟨(Jba p q k).low - (Un (p.fans.l.getD k default).fan (p.fans.l.getD k default).state q).high,(Jba p q k).high - (Un (p.fans.l.getD k default).fan (p.fans.l.getD k default).state q).low⟩
def Jbb (p:XPipe) (q:Int):XSpan:=Jba p q p.fans.l.length
def Kub {q:Int} (hq:-1048577≤q∧q≤1048577):0≤q * q∧q * q≤1099513724929:=by
 rcases yla q 0 with h | h;·have h1 := yQ zxc zxc;have h2:=yka (show -q≤1048577 by omega) (show -q≤1048577 by omega) za za;rw [Int.neg_mul_neg] at h1 h2;omega
 ·have h1 := yQ h h;have h2:=yka hq.2 hq.2 h za;omega
def V8a {r s:Int} (hr:0≤r∧r≤4456448) (hs:0≤s∧s≤1099513724929):0≤r * s∧r * s≤4899925740432392192∧-r * s= -(r * s):=by have h1:=yQ hr.1 hs.1;have h2:=yka hr.2 hs.2 hs.1 za;exact ⟨h1,by omega,yJb r s⟩
def K7b {p:XPipe} {q:Int} (h:q < 0):Jba p q 0=⟨-p.road.rest.high * (q * q) - p.road.lift.high,-p.road.rest.low * (q * q) - p.road.lift.low⟩:=if_pos h
def Upb {p:XPipe} {q:Int} (h:¬ q < 0):Jba p q 0=⟨p.road.rest.low * (q * q) - p.road.lift.high,p.road.rest.high * (q * q) - p.road.lift.low⟩:=if_neg h
def Vta {p:XPipe} (h:PipeOk p) {q:Int} (hq:-1048577≤q∧q≤1048577):∀(k:Nat),k≤p.fans.l.length→
 -4899925740432392192 - 2199023255552 * (k + 1)≤(Jba p q k).low∧(Jba p q k).low≤(Jba p q k).high∧(Jba p q k).high≤4899925740432392192 + 2199023255552 * (k + 1)
 | 0,_=>by
  have hs:=Kub hq
  have hr:=h.rest
  have hl:=h.lift
  have h1:=V8a (r:=p.road.rest.low) za hs
  have h2:=V8a (r:=p.road.rest.high) za hs
  have h3:p.road.rest.low * (q * q)≤p.road.rest.high * (q * q):=yDa hr.2.1 hs.1
  unfold Jba
  split <;> dsimp only <;> omega
 | k + 1,hk=>by
  have ih:=Vta h hq k za
  have hb:=V0a (h.fan k _ zoc) (p.fans.l.getD k default).state q
  simp only [Jba]
  omega
def Y3d (p:XPipe) (q:Int) (L:LB) (R:LS) (hm:InR p.sl R) (hp:PipeOk p) (hq:-1048577≤q∧q≤1048577):
 Tri Tryz.prog 114 [p.val,.int .i64 q].toArray L R (fun v U J=>v=(Jbb p q).val∧L=U∧R=J):=by
 have hs:=Kub hq;have hr:=hp.rest;have hl:=hp.lift;have hln:=hp.len;have h1:=V8a (r:=p.road.rest.low) za hs;have h2:=V8a (r:=p.road.rest.high) za hs;refine Je 86 Tryz.call114 Tryz.func114 rfl rfl rfl ?_;apply (Xaf);intro b2;apply (qaq);intro b4;apply qam∘Xb4∘qcm∘Xag;iterate 3 apply (qab)
 apply qac∘Xdh;iterate 3 apply (qab)
 apply qac∘Xdh∘qcd∘qaq;intro b6;apply Xa9∘qaa∘Xbd;refine q_c ?_ ?_<;>intro hc0;·
  apply (qay);iterate 3 apply (qab)
  apply qac∘qcq∘Xdh;iterate 3 apply (qab)
  apply qac∘qcq∘Xdh∘qcd∘Xb9;exact uah
 apply qbv∘Xaa;exact uah
end Go.Proofs.YtchfclmokpbldaaGreat
end
section
namespace Go.Proofs.YtchfclmokpbldaaGreat
open Go.Aw Go
set_option maxRecDepth 20000
attribute [local irreducible] CJ LJ DJ Tri YV Gives Uq J2 Kj Ut RV J3
def Ysa {x:Int} (h:0≤x):x.tdiv 2=x / 2:=yT h
def Jxd (f:Int→Int) (pr lo hi:Int):Int:=
 if h:lo < hi then (if f (lo + (hi - lo + 1).tdiv 2)≤pr then Jxd f pr (lo + (hi - lo + 1).tdiv 2) hi else Jxd f pr lo (lo + (hi - lo + 1).tdiv 2 - 1)) else lo
termination_by (hi - lo).toNat
decreasing_by all_goals (have:=Ysa (x:=hi - lo + 1) za;omega)
def Zva (f:Int→Int) (pr lo hi:Int):Int:=
 if h:lo < hi then (if pr≤f (lo + (hi - lo).tdiv 2) then Zva f pr lo (lo + (hi - lo).tdiv 2) else Zva f pr (lo + (hi - lo).tdiv 2 + 1) hi) else lo
termination_by (hi - lo).toNat
decreasing_by all_goals (have:=Ysa (x:=hi - lo) za;omega)
def Kke {f:Int→Int} {pr lo hi:Int} (h:lo < hi) (hf:f (lo + (hi - lo + 1).tdiv 2)≤pr):Jxd f pr lo hi=Jxd f pr (lo + (hi - lo + 1).tdiv 2) hi:=by rw [Jxd,dif_pos h,if_pos hf]
def U6e {f:Int→Int} {pr lo hi:Int} (h:lo < hi) (hf:¬ f (lo + (hi - lo + 1).tdiv 2)≤pr):Jxd f pr lo hi=Jxd f pr lo (lo + (hi - lo + 1).tdiv 2 - 1):=by rw [Jxd,dif_pos h,if_neg hf]
def Vrd {f:Int→Int} {pr lo hi:Int} (h:¬ lo < hi):Jxd f pr lo hi=lo:=by rw [Jxd,dif_neg h]
def Y4d {f:Int→Int} {pr lo hi:Int} (h:lo < hi) (hf:pr≤f (lo + (hi - lo).tdiv 2)):Zva f pr lo hi=Zva f pr lo (lo + (hi - lo).tdiv 2):=by rw [Zva,dif_pos h,if_pos hf]
def Yld {f:Int→Int} {pr lo hi:Int} (h:lo < hi) (hf:¬ pr≤f (lo + (hi - lo).tdiv 2)):Zva f pr lo hi=Zva f pr (lo + (hi - lo).tdiv 2 + 1) hi:=by rw [Zva,dif_pos h,if_neg hf]
def Jhd {f:Int→Int} {pr lo hi:Int} (h:¬ lo < hi):Zva f pr lo hi=lo:=by rw [Zva,dif_neg h]
def Ud (f:Int→XSpan) (pr:Int):Int:=Jxd (fun q=>(f q).high) pr (-1048577) 1048576
def K3 (f:Int→XSpan) (pr:Int):Int:=Zva (fun q=>(f q).low) pr (-1048576) 1048577
def Jnb (p:XPipe) (pr:Int) (L:LB) (R:LS) (hm:InR p.sl R) (hp:PipeOk p):
 Tri Tryz.prog 190 [p.val,.int .i64 pr].toArray L R (fun v U J=>v=.int .i64 (Ud (Jbb p) pr)∧L=U∧R=J):=by
 refine Je 28 Tryz.call190 Tryz.func190 rfl rfl rfl ?_;apply (Xaf);intro b2;apply Xag∘qad∘qad;refine J9 (Jb (Jq (Ki ?_)));refine Jm [(1,.int _ _),(2,.pointer _),(5,.int _ _),(6,.int _ _)] zh fun tq0=>?_;refine q_s (rg 5 22) (fun g:{g:Int×Int // -1048577≤g.1∧g.1≤g.2∧g.2≤1048576∧Ud (Jbb p) pr=Jxd (fun q=>(Jbb p q).high) pr g.1 g.2}=>[(5,.int .i64 g.1.1),(6,.int .i64 g.1.2)]) (fun g=>(g.1.2 - g.1.1).toNat) (⟨(-1048577,1048576),by omega,by omega,by omega,rfl⟩) ?_;rintro ⟨⟨lo,hi⟩,h1,h2,h3,h4⟩ junk;try dsimp only
 apply Xa6∘qaa∘Xbd;refine q_c ?_ ?_<;>intro hc0;·
  dsimp only at h1 h2 h3 h4 hc0;have he:=Ysa (x:=hi - lo + 1) za;refine J5 (Jb (Ki (Jq (Jg ?_))));iterate 3 apply (qaa)
  apply qa9∘qar∘qdd∘qar∘Xag∘qdi∘qaa;refine q_l rfl (Y3d p (lo + (hi - lo + 1).tdiv 2) _ _ hm hp za) ?_;apply qcz∘qaa∘qbx∘qaf;refine q_c ?_ ?_<;>intro hc1;·have e:=h4.trans (Kke hc0 hc1);exact (Xa5) zZd
  have e:=h4.trans (U6e hc0 hc1);exact (Xa5∘qa9) zZd
 dsimp only at h1 h2 h3 h4 hc0;apply Xdg∘Xam;refine q_i L R ?_;exact ⟨by rw [h4,Vrd hc0],rfl,rfl⟩
def Y7a (p:XPipe) (pr:Int) (L:LB) (R:LS) (hm:InR p.sl R) (hp:PipeOk p):
 Tri Tryz.prog 191 [p.val,.int .i64 pr].toArray L R (fun v U J=>v=.int .i64 (K3 (Jbb p) pr)∧L=U∧R=J):=by
 refine Je 27 Tryz.call191 Tryz.func191 rfl rfl rfl ?_;apply (Xaf);intro b2;apply Xag∘qad∘qad;refine J9 (Jb (Jq (Ki ?_)));refine Jm [(1,.int _ _),(2,.pointer _),(5,.int _ _),(6,.int _ _)] zh fun tq0=>?_;refine q_s (rg 5 21) (fun g:{g:Int×Int // -1048576≤g.1∧g.1≤g.2∧g.2≤1048577∧K3 (Jbb p) pr=Zva (fun q=>(Jbb p q).low) pr g.1 g.2}=>[(5,.int .i64 g.1.1),(6,.int .i64 g.1.2)]) (fun g=>(g.1.2 - g.1.1).toNat) (⟨(-1048576,1048577),by omega,by omega,by omega,rfl⟩) ?_;rintro ⟨⟨lo,hi⟩,h1,h2,h3,h4⟩ junk;try dsimp only
 apply Xa6∘qaa∘Xbd;refine q_c ?_ ?_<;>intro hc0;·
  dsimp only at h1 h2 h3 h4 hc0;have he:=Ysa (x:=hi - lo) za;refine J5 (Jb (Ki (Jq (Jg ?_))));iterate 3 apply (qaa)
  apply qa9∘qdd∘qar∘Xag∘qdi∘qaa;refine q_l rfl (Y3d p (lo + (hi - lo).tdiv 2) _ _ hm hp za) ?_;apply qcz∘qaa∘Xcu;refine q_c ?_ ?_<;>intro hc1;·have e:=h4.trans (Y4d hc0 hc1);exact (Xa5) zZd
  have e:=h4.trans (Yld hc0 hc1);exact (Xa5∘qar) zZd
 dsimp only at h1 h2 h3 h4 hc0;apply Xdg∘Xam;refine q_i L R ?_;exact ⟨by rw [h4,Jhd hc0],rfl,rfl⟩
end Go.Proofs.YtchfclmokpbldaaGreat
end
section
namespace Go.Proofs.YtchfclmokpbldaaGreat
open Go.Aw Go
def V2 {α:Type} {f:α→Option Int} {l:List α} (hf:∀x e,f x=some e→e≠0) (h:(l.findSome? f).getD 0=0):∀x∈l,f x=none:=by
 have hn:l.findSome? f=none:=by
  cases hs:l.findSome? f with
  | none=>rfl
  | some e=>rw [hs] at h;obtain ⟨x,_,hx⟩:=yy hs;exact absurd h (hf x e hx)
 exact List.findSome?_eq_none_iff.1 hn
structure RoadOk (n:Nat) (r:XRoad):Prop where
 fr:0≤r.fr∧r.fr < n
 to:0≤r.to∧r.to < n
 ne:r.fr≠r.to
 rest:1≤r.rest.low∧r.rest.low≤r.rest.high∧r.rest.high≤262144
 lift:-2199023255552≤r.lift.low∧r.lift.low≤r.lift.high∧r.lift.high≤2199023255552
def Khb {s:XSpan} {lo hi:Int}:Jwc s lo hi=true↔lo≤s.low∧s.low≤s.high∧s.high≤hi:=by simp [Jwc]
structure MineOk (m:XMine):Prop where
 places:m.places.l.length≤64
 roads:m.roads.l.length≤128
 road:∀(i:Nat) (r:XRoad),m.roads.l[i]?=some r→RoadOk m.places.l.length r
def U6a {m:XMine} (h:Ul m=0):MineOk m:=by
 unfold Ul at h;split at h;·cases h
 rename_i hlen;split at h;·rename_i e he;subst h;obtain ⟨x,_,hx⟩:=yy he;unfold Uga at hx;split at hx <;> cases hx
 have hall:=V2 (f:=Yr m.places.l.length) (fun x e hx he=>by
  subst he;unfold Yr at hx;split at hx;·cases hx
  ·split at hx <;> cases hx) h
 refine ⟨by omega,by omega,fun i r hr=>?_⟩;have:=hall r (yh hr);unfold Yr at this;split at this;·cases this
 rename_i h1;split at this;·cases this
 rename_i h2;have e1:Jwc r.rest 1 262144=true:=by
  cases hb:Jwc r.rest 1 262144 with
  | true=>rfl
  | false=>exact absurd (.inr (.inr (.inr (.inr (.inl hb))))) h2
 have e2:Jwc r.lift (-2199023255552) 2199023255552=true:=by
  cases hb:Jwc r.lift (-2199023255552) 2199023255552 with
  | true=>rfl
  | false=>exact absurd (.inr (.inr (.inr (.inr (.inr hb))))) h2
 exact ⟨by omega,by omega,by omega,Khb.1 e1,Khb.1 e2⟩
structure DoorOk (d:XDoor):Prop where
 road:0≤d.road
 len:2≤d.rests.l.length∧d.rests.l.length≤6
 rest:∀(i:Nat) (x:Int),d.rests.l[i]?=some x→0≤x∧x≤262144
 falls:K9a d.rests.l d.rests.l.length=true
def Jze {l:List XDoor} (h:Vz l=0):l.length≤16∧∀(i:Nat) (d:XDoor),l[i]?=some d→DoorOk d∧¬ Uob l i d:=by
 unfold Vz at h;split at h;·cases h
 rename_i hlen;have hre:∀(x:Int) (e:Int),Jtb x=some e→e=1:=fun x e he=>by unfold Jtb at he;split at he <;> cases he;rfl
 have hall:=V2 (f:=Jja l) (fun i e hx he=>by
  subst he;unfold Jja at hx;split at hx;·cases hx
  ·
   split at hx;·cases hx
   ·
    split at hx;·cases hx
    ·
     split at hx;·rename_i e' he';obtain ⟨x,_,hx'⟩:=yy he';have:=hre x _ hx';cases hx;cases this
     ·
      split at hx;·cases hx
      ·split at hx <;> cases hx) h
 refine ⟨by omega,fun i d hd=>?_⟩;obtain ⟨hi,_⟩:=List.getElem?_eq_some_iff.1 hd;have:=hall i (List.mem_range.2 hi);rw [K4b hd] at this;split at this;·cases this
 rename_i h1;split at this;·cases this
 rename_i h2;split at this;·cases this
 rename_i h3;split at this;·cases this
 rename_i h4;split at this;·cases this
 rename_i h5;refine ⟨⟨by omega,by omega,fun k x hx=>?_,by simpa using h4⟩,h5⟩;have:=List.findSome?_eq_none_iff.1 h3 x (yh hx);unfold Jtb at this;exact uaO
def Veb {l : List Int} (h : ∀ (i : Nat) (x : Int), l[i]? = some x → 0 ≤ x ∧ x ≤ 262144) : ∀ (k : Nat), k ≤ l.length → 1 ≤ l.length → 0 ≤ Yqb l k ∧ Yqb l k ≤ l.getD 0 0 ∧ l.getD 0 0 ≤ Z2b l k ∧ Z2b l k ≤ 262144
 | 0,_,hl=>by have:=h 0 _ (Jp 0 za);simp only [Yqb,Z2b];omega
 | k + 1,hk,hl=>by
  have ih:=Veb h k za hl
  have:=h k _ (Jp 0 za)
  simp only [Yqb,Z2b]
  omega
def U1b {d:XDoor} (h:DoorOk d) (s:Int):0≤(Zm d s).low∧(Zm d s).low≤(Zm d s).high∧(Zm d s).high≤262144:=by
 unfold Zm;split;·simp
 ·
  rename_i hc;split;·have := Veb h.rest d.rests.l.length (ym _) za;dsimp only;omega
  ·have := h.rest s.toNat _ (Jp 0 za);dsimp only;omega
structure AirOk (a:XAir):Prop where
 mine:MineOk a.mine
 nfans:a.fans.l.length≤8
 fan:∀(i:Nat) (f:XFan),a.fans.l[i]?=some f→FanOk f∧f.road < a.mine.roads.l.length
 ndoors:a.doors.l.length≤16
 door:∀(i:Nat) (d:XDoor),a.doors.l[i]?=some d→DoorOk d∧d.road < a.mine.roads.l.length
def V3 {a:XAir} (h:Kx a=0):AirOk a:=by
 unfold Kx at h;split at h;·exact ubf
 rename_i h1;split at h;·cases h
 rename_i h2;split at h;·
  rename_i e he;subst h;obtain ⟨x,_,hx⟩:=yy he;unfold Kod at hx;split at hx;·rename_i hne;exact absurd (yG hx) hne
  ·split at hx <;> cases hx
 rename_i hfn;split at h;·rename_i h3;exact absurd h h3
 rename_i h3;have hdo:=Jze (by simpa using h3);have hdi:=V2 (f:=Zwb a.mine.roads.l.length) (fun x e hx he=>by subst he;unfold Zwb at hx;split at hx <;> cases hx) h;refine ⟨U6a (by simpa using h1),by omega,fun i f hf=>?_,hdo.1,fun i d hd=>⟨(hdo.2 i d hd).1,?_⟩⟩;·
  have := List.findSome?_eq_none_iff.1 hfn f (yh hf);unfold Kod at this;split at this;·cases this
  rename_i h4;split at this;·cases this
  exact ⟨Y3e (by simpa using h4),by omega⟩
 ·have := hdi d (yh hd);unfold Zwb at this;exact uaO
structure FitOk (a:XAir) (s:XSetting):Prop where
 lf:s.fans.l.length=a.fans.l.length
 ld:s.doors.l.length=a.doors.l.length
 fan:∀(i:Nat) (x:Int),s.fans.l[i]?=some x→-1≤x∧x≤2
 door:∀(i:Nat) (x:Int) (d:XDoor),s.doors.l[i]?=some x→a.doors.l[i]?=some d→-1≤x∧x < d.rests.l.length
def V7b {a:XAir} {s:XSetting} (h:Uka a s=true):FitOk a s:=by
 unfold Uka at h;split at h;·cases h
 rename_i h1;simp only [yo,Option.isNone_iff_eq_none] at h;refine ⟨by omega,by omega,fun i x hx=>?_,fun i x d hx hd=>?_⟩;·have := List.findSome?_eq_none_iff.1 h.1 x (yh hx);unfold J9b at this;exact uaO
 ·obtain ⟨hi, _⟩ := List.getElem?_eq_some_iff.1 hx;have:=List.findSome?_eq_none_iff.1 h.2 i (List.mem_range.2 hi);rw [Zea hx hd] at this;exact uaO
def Vrc {a:XAir} {s:XSetting} (h:Ksc a s=true):AirOk a∧FitOk a s:=by simp only [Ksc,yo,decide_eq_true_eq] at h;exact ⟨V3 h.1,V7b h.2⟩
end Go.Proofs.YtchfclmokpbldaaGreat
end
section
namespace Go.Proofs.YtchfclmokpbldaaGreat
open Go.Aw Go
set_option maxRecDepth 20000
attribute [local irreducible] CJ LJ DJ Tri YV Gives Uq J2 Kj Ut RV J3
def Va (a : XAir) (s : XSetting) (r : Int) : Nat → XSpan
 | 0=>(a.mine.roads.l.getD r.toNat default).rest
 | k + 1=>if (a.doors.l.getD k default).road=r then ⟨(Va a s r k).low + (Zm (a.doors.l.getD k default) (s.doors.l.getD k 0)).low,(Va a s r k).high + (Zm (a.doors.l.getD k default) (s.doors.l.getD k 0)).high⟩ else Va a s r k
def Uuc (rest lift:XSpan) (q:Int):XSpan:=
 if q < 0 then ⟨-(rest.high * q * q) - lift.high,-(rest.low * q * q) - lift.low⟩ else ⟨rest.low * q * q - lift.high,rest.high * q * q - lift.low⟩
def innerTo (a : XAir) (s : XSetting) (r q : Int) : Nat → XSpan
 | 0=>Uuc (Va a s r a.doors.l.length) (a.mine.roads.l.getD r.toNat default).lift q
 | k + 1=>if (a.fans.l.getD k default).road=r then ⟨(innerTo a s r q k).low - (Un (a.fans.l.getD k default) (s.fans.l.getD k 0) q).high,(innerTo a s r q k).high - (Un (a.fans.l.getD k default) (s.fans.l.getD k 0) q).low⟩ else innerTo a s r q k
def Ky (a:XAir) (s:XSetting) (r q:Int):XSpan:=innerTo a s r q a.fans.l.length
def Z4 {a:XAir} {s:XSetting} (h:AirOk a) {r:Int} (hr:0≤r∧r < a.mine.roads.l.length):∀(k:Nat),k≤a.doors.l.length→
 1≤(Va a s r k).low∧(Va a s r k).low≤(Va a s r k).high∧(Va a s r k).high≤262144 * (k + 1)
 | 0,_=>by
  have:=(h.mine.road r.toNat _ zoc).rest
  simp only [Va];omega
 | k + 1,hk=>by
  have ih:=Z4 (s:=s) h hr k za
  have hb:=U1b (h.door k _ zoc).1 (s.doors.l.getD k 0)
  simp only [Va]
  split
  ·dsimp only;omega
  ·omega
def U0d {a:XAir} {s:XSetting} {r q:Int} (h:q < 0):innerTo a s r q 0=⟨-((Va a s r a.doors.l.length).high * q * q) - (a.mine.roads.l.getD r.toNat default).lift.high,-((Va a s r a.doors.l.length).low * q * q) - (a.mine.roads.l.getD r.toNat default).lift.low⟩:=if_pos h
def Umd {a:XAir} {s:XSetting} {r q:Int} (h:¬ q < 0):innerTo a s r q 0=⟨(Va a s r a.doors.l.length).low * q * q - (a.mine.roads.l.getD r.toNat default).lift.high,(Va a s r a.doors.l.length).high * q * q - (a.mine.roads.l.getD r.toNat default).lift.low⟩:=if_neg h
end Go.Proofs.YtchfclmokpbldaaGreat
end
section
namespace Go.Proofs.YtchfclmokpbldaaGreat
open Go.Aw Go
set_option maxRecDepth 20000
attribute [local irreducible] CJ LJ DJ Tri YV Gives Uq J2 Kj Ut RV J3
end Go.Proofs.YtchfclmokpbldaaGreat
end
