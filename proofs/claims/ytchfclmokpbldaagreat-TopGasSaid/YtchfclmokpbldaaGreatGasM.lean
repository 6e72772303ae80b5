/-
  Merged texts. By an AI agent.
-/
import Derived.Test.YtchfclmokpbldaaGreatCongrS
import Derived.Test.YtchfclmokpbldaaGreatChecks
set_option linter.all false
set_option maxHeartbeats 4000000
set_option maxRecDepth 20000
namespace Go.Proofs.YtchfclmokpbldaaGreat
open Go.Aw Go
section
structure AddOk (x:XSpan) (f n:Int):Prop where
 rng:0≤n∧n≤1000000
 le:∀q:Int,x.low≤q∧q≤x.high→q≠0→min (f / max q (-q)) 1000000≤n
def Zbe {f a b:Int} (hf:0≤f) (ha:0 < a) (h:a≤b):f / b≤f / a:=by
 have hb:0 < b:=by omega
 refine (Int.le_ediv_iff_mul_le ha).2 ?_;have h1:f / b * a≤f / b * b:=yia h (ySa hf za);have h2:=Int.ediv_mul_le f (show b≠0 by omega);omega
def Vvc {f a:Int} (hf:0≤f) (ha:0 < a):0≤f / a∧f / a≤f:=⟨ySa hf za,yib a hf⟩
def AddOk.least {x:XSpan} {f a n:Int} (hf:0≤f) (ha:0 < a) (hx:(Vhc x=1∧a=x.low)∨(Vhc x= -1∧a=max (-x.high) 1)) (hn:n=min (f / a + min (f % a) 1) 1000000):AddOk x f n:=by
 have h1:=Vvc hf ha;have h2:=yAb f (show a≠0 by omega);refine ⟨by omega,fun q hq h0=>?_⟩;have hle:a≤max q (-q):=by
  rw [Vhc] at hx;rcases hx with ⟨h,h'⟩ | ⟨h,h'⟩;·
   split at h;·cases h
   split at h;·omega
   split at h <;> cases h
  ·
   split at h;·cases h
   split at h;·cases h
   split at h;·omega
   ·cases h
 have h3:=Zbe hf ha hle;omega
def AddOk.most {x:XSpan} {f:Int}:AddOk x f 1000000:=⟨⟨by decide,by decide⟩,fun q _ _=>by omega⟩
def AddOk.zero {x:XSpan}:AddOk x 0 0:=⟨⟨by decide,by decide⟩,fun q _ _=>by rw [Int.zero_ediv];decide⟩
attribute [local irreducible] CJ LJ DJ Tri YV Gives Uq J2 Kj Ut RV J3 OwL.L
def Zjc (x:XSpan) (f:Int) (L:LB) (R:LS) (hf:0≤f∧f≤1000000000000) (hx:(-1125899906842624≤x.low∧x.low≤1125899906842624)∧(-1125899906842624≤x.high∧x.high≤1125899906842624)):
 Tri Tryz.prog 144 [x.val,.int .i64 f].toArray L R (fun v U J=>∃n:Int,v=.int .i64 n∧AddOk x f n∧L=U∧R=J):=by
 refine Je 29 Tryz.call144 Tryz.func144 rfl rfl rfl ?_;apply (Xaf);intro b2;apply Xag∘Xar∘qbe;refine q_l rfl (Kmb x _ _) ?_;apply (qaf);refine Vq ([4,5]++rg 8 12) ((⟨fun g=>[(5,.int .i64 g.1)],fun _=>⟨b2,x.cells,90⟩ :: L,fun _=>R,fun _=>0⟩:Head {n:Int // 0 < n∧((Vhc x=1∧n=x.low)∨(Vhc x= -1∧n=max (-x.high) 1))})) ?_ ?_;·
  refine Ki (Jq (Jg ?_));apply (Xa2);refine q_c ?_ ?_<;>intro hc0;·apply qay∘Xaa∘qad;refine J9 (Jh ?_);exact q_j ⟨x.low,by have h:=hc0;rw [Vhc] at h;repeat' split at h;all_goals omega,.inl ⟨hc0,rfl⟩⟩
  apply (Xbv);refine q_c ?_ ?_<;>intro hc1;·apply qay∘Xaa∘qcq;refine Jw zfc rfl ?_;apply (qad);refine J9 (Jh ?_);exact q_j ⟨max (-x.high) 1,by omega,.inr ⟨hc1,rfl⟩⟩
  apply Xa6∘Xb6;refine q_c ?_ ?_<;>intro hc2;·apply (Xae);refine J9 (Jb (Uk (Kh (Kd (Kjb ?_)))));refine q_i L R ?_;exact ⟨1000000,rfl,.most,rfl,rfl⟩
  apply qbv∘qad;refine J9 (Jb (Uk (Kd (Kjb ?_))));refine q_i L R ?_;obtain rfl:f=0:=by omega
  exact ⟨0,rfl,.zero,rfl,rfl⟩
 rintro ⟨a,ha,hxa⟩ junk;try dsimp only
 have hd:=Vvc hf.1 ha;have hm:=yAb f (show a≠0 by omega);have e1:f.tdiv a=f / a:=yT hf.1;have e2:f.tmod a=f % a:=ypb hf.1;refine Jq ?_;refine Ke tb [0,1,2,3,4,5,6,7,8,9] _ Ko zc ye ?_;apply (Xdo);refine Ks zGa rfl rfl rfl ?_;apply (Xdo);refine Ks zIa rfl rfl rfl ?_;refine Ks zOc rfl rfl rfl ?_;apply (qc2);refine Ks zOc rfl rfl rfl ?_;apply (qcg);refine J1 (Jb (Uk ?_));refine q_i L R ?_;exact ⟨_,rfl,.least hf.1 ha hxa (by rw [e1,e2]),rfl,rfl⟩
end
section
structure XSrc where
 road:Int
 span:XSpan
 deriving Inhabited
def XSrc.cells (a:XSrc):List Value:=[.int .i64 a.road,.int .i64 a.span.low,.int .i64 a.span.high]
abbrev U4g (x:Arr XSrc):Sl:=x.sl 3 XSrc.cells []
def Jbd (n:Nat) (s:XSrc):Prop:=(0≤s.road∧s.road < n)∧0≤s.span.low∧s.span.low≤s.span.high∧s.span.high≤1000000
attribute [local irreducible] CJ LJ DJ Tri YV Gives Uq J2 Kj Ut RV J3 OwL.L
def Jed (m:XMine) (l:Arr XSrc) (L:LB) (R:LS) (hm:MineR m R) (hl:InR (U4g l) R) (hv:Ul m=0) (hn:l.l.length≤32) (hs:∀s∈l.l,Jbd m.roads.l.length s):
 Tri Tryz.prog 141 [m.val,l.val].toArray L R (fun v U J=>v=.int .i64 0∧L=U∧R=J):=by
 refine Je 53 Tryz.call141 Tryz.func141 rfl rfl rfl ?_;apply (Xaf);intro b2;apply Xar∘qbe;refine q_l rfl (Vwa m _ _ hm) ?_;rw [hv];apply (Xbb);refine q_c ?_ ?_<;>intro hc0;·(exfalso;simp at hc0)
 apply qbo∘Xap∘Xb6;refine q_c ?_ ?_<;>intro hc1;·(exfalso;omega)
 apply qbo∘Xbr;refine Jm [(2,.pointer _),(16,.slice _ _ _),(17,.int _ _),(18,.int _ _)] zh fun tq0=>?_;refine q_s ([4,7]++rg 18 35) (fun g:{i:Nat // i≤l.l.length}=>[(18,.int .i64 ((g.1:Nat):Int))]) (fun g=>l.l.length - g.1) (⟨0,by omega⟩) ?_;rintro ⟨i,hi⟩ junk;try dsimp only
 apply (Xaj);refine q_c ?_ ?_<;>intro hc2;·
  have hg:=Jp (l:=l.l) (k:=i) default za;have hsi:=hs _ (yh hg);obtain ⟨s,hse⟩:∃s,s=l.l.getD i default:=⟨_,rfl⟩;rw [← hse] at hg hsi;rw [Jbd] at hsi;apply (qbb);refine Jw zV rfl ?_;apply (Xc7);intro b7;apply Xa9∘Xbm;apply Kf (G:=[_,_,_,_,_,_]) (j:=3) (cj:=25) rfl rfl zb rfl zmb rfl;·intro hg4;replace hg4:=qb hg4;exact (Xaa∘Xab) zyd
  intro junk4;apply (qaf);refine q_c ?_ ?_<;>intro hc3;·(exfalso;omega)
  apply qbv∘qab∘Xbm;apply Kf (G:=[_,_,_,_,_,_,_]) (j:=4) (cj:=37) rfl rfl zb rfl zmb rfl;·intro hg5;replace hg5:=qb hg5;exact (Xdc∘qab) zxd
  intro junk5;apply (qah);apply Kf (G:=[_,_,_,_]) (j:=13) (cj:=46) rfl rfl zb rfl zmb rfl;·intro hg14;replace hg14:=qb hg14;exact (qab) zxd
  intro junk14;apply (qaf);refine q_c ?_ ?_<;>intro hc4;·(exfalso;omega)
  apply (Xaw);exact q_k (⟨i + 1,by omega⟩)
 apply (Xcq);refine q_i L R ?_;exact zDd
end
section
def Ybc (l:List Int):Nat:=(l.map fun x=>(1000000 - x).toNat).sum
def Ulc : ∀ {l : List Int} {i : Nat} {x v : Int}, l[i]? = some x → x < v → v ≤ 1000000 → Ybc (l.set i v) < Ybc l
 | [],i,x,v,h,_,_=>by simp at h
 | a :: l,0,x,v,h,h1,h2=>by
  simp at h
  subst h
  simp only [Ybc,yzb,yI,List.sum_cons]
  omega
 | a :: l,i + 1,x,v,h,h1,h2=>by
  have:=Ulc (l:=l) (i:=i) (x:=x) (v:=v) zR h1 h2
  simp only [Ybc,yec,yI,List.sum_cons] at this ⊢
  omega
structure Conc (n:Nat) (l:List Int):Prop where
 len:l.length=n
 rng:∀x∈l,0≤x∧x≤1000000
def Conc.zero {n:Nat}:Conc n (List.replicate n 0):=⟨by simp,fun x hx=>by rw [ycb hx];decide⟩
def Conc.put {n i:Nat} {l:List Int} {v:Int} (h:Conc n l) (hv:0≤v∧v≤1000000):Conc n (l.set i v):=⟨by rw [yK];exact h.len,fun x hx=>by
 rcases yYa hx with h1 | h1
 ·exact h.rng x h1
 ·rw [h1];exact hv⟩
def K0f (m:XMine) (fl:List XSpan) (inf:List Int) (rd:List Int) (i:Nat):Prop:=
 (m.roads.l.getD i default).closed=false→(0 < (fl.getD i default).high∨(fl.getD i default).low < 0)→∃a,AddOk (fl.getD i default) (inf.getD i 0) a∧a≤rd.getD i 0
def RdUp (m:XMine) (fl:List XSpan) (inf:List Int) (i:Nat) (n:Int):Prop:=
 (m.roads.l.getD i default).closed=false→(0 < (fl.getD i default).high∨(fl.getD i default).low < 0)→∃a,AddOk (fl.getD i default) (inf.getD i 0) a∧a≤n
def RdUp.le {m:XMine} {fl:List XSpan} {inf rd:List Int} {i:Nat} {n:Int} (h:RdUp m fl inf i n) (hn:n≤rd.getD i 0):K0f m fl inf rd i:=fun h1 h2=>by
 obtain ⟨a,ha,hle⟩:=h h1 h2
 exact ⟨a,ha,ybc hle hn⟩
def Zob {l:List Int} {i j:Nat} {v:Int} (hi:i < l.length):(l.set i v).getD j 0=if j=i then v else l.getD j 0:=by
 rw [yi,yM];split;·rename_i e;subst e;rw [if_pos rfl];(try rw [if_pos hi]);rfl
 ·rename_i e;rw [if_neg (fun h=>e h.symm),← yi]
structure InfTo (n:Nat) (l:List XSrc) (k:Nat) (inf:List Int):Prop where
 kl:k≤l.length
 len:inf.length=n
 rng:∀x∈inf,0≤x∧x≤1000000 * (k:Int)
 at_:∀j:Nat,j < k→(l.getD j default).span.high≤inf.getD (l.getD j default).road.toNat 0
def InfTo.zero {n:Nat} {l:List XSrc}:InfTo n l 0 (List.replicate n 0):=⟨yS _,by simp,fun x hx=>by rw [ycb hx];exact ⟨by decide,by decide⟩,fun j hj=>by omega⟩
def InfTo.next {n:Nat} {l:List XSrc} {k:Nat} {inf:List Int} (h:InfTo n l k inf) (hk:k < l.length) {s:XSrc} (he:s=l.getD k default) (hs:Jbd n s):InfTo n l (k + 1) (inf.set s.road.toNat (inf.getD s.road.toNat 0 + s.span.high)):=by
 have hl:=h.len;rw [Jbd] at hs;have hi:s.road.toNat < inf.length:=by omega
 have hib:=h.rng _ (yh (Jp (l:=inf) (k:=s.road.toNat) 0 hi));refine ⟨hk,by simp [hl],fun x hx=>?_,fun j hj=>?_⟩;·
  rcases yYa hx with h1 | h1;·have:=h.rng x h1;omega
  ·omega
 ·
  rw [Zob hi];rcases yk j k with h1 | h1;·
   have := h.at_ j h1;split;·rename_i e;rw [e] at this;omega
   ·exact this
  ·(obtain rfl : j = k := by omega);rw [← he,if_pos rfl];omega
structure GasTo (m:XMine) (fl:List XSpan) (inf pl0 rd0:List Int) (i:Nat) (ch:Bool) (pl rd:List Int):Prop where
 il:i≤m.roads.l.length
 pc:Conc m.places.l.length pl
 rc:Conc m.roads.l.length rd
 yes:ch=true→Ybc pl + Ybc rd < Ybc pl0 + Ybc rd0
 no:ch=false→pl=pl0∧rd=rd0
 ok:∀j:Nat,j < i→K0f m fl inf rd j
section
variable {m:XMine} {fl:List XSpan} {inf pl0 rd0 pl rd:List Int} {i:Nat} {ch:Bool} {v:Int}
def GasTo.le (h:GasTo m fl inf pl0 rd0 i ch pl rd):Ybc pl + Ybc rd≤Ybc pl0 + Ybc rd0:=by
 cases ch with
 | true=>exact Nat.le_of_lt (h.yes rfl)
 | false=>rw [(h.no rfl).1,(h.no rfl).2];exact ym _
def GasTo.setR (h:GasTo m fl inf pl0 rd0 i ch pl rd) (hi:i < m.roads.l.length) (hv:0≤v∧v≤1000000) (hl:rd.getD i 0 < v):GasTo m fl inf pl0 rd0 i true pl (rd.set i v):=by have hn:=h.rc.len;have hg:=Ulc (Jp (l:=rd) (k:=i) 0 za) hl hv.2;have:=h.le;refine ⟨h.il,h.pc,h.rc.put hv,fun _=>by omega,(fun h=>by cases h),fun j hj=>?_⟩;rw [K0f,Zob za,if_neg za];exact h.ok j hj
def GasTo.setP (h:GasTo m fl inf pl0 rd0 i ch pl rd) {z:Nat} (hz:z < m.places.l.length) (hv:0≤v∧v≤1000000) (hl:pl.getD z 0 < v):GasTo m fl inf pl0 rd0 i true (pl.set z v) rd:=by have hn:=h.pc.len;have hg:=Ulc (Jp (l:=pl) (k:=z) 0 za) hl hv.2;have:=h.le;exact ⟨h.il,h.pc.put hv,h.rc,fun _=>by omega,(fun h=>by cases h),h.ok⟩
def GasTo.next (h:GasTo m fl inf pl0 rd0 i ch pl rd) (hi:i < m.roads.l.length) (hok:K0f m fl inf rd i):GasTo m fl inf pl0 rd0 (i + 1) ch pl rd:=
 ⟨hi,h.pc,h.rc,h.yes,h.no,fun j hj=>by
  rcases yk j i with h1 | h1
  ·exact h.ok j h1
  ·obtain rfl : j = i := by omega
   exact hok⟩
end
end
end Go.Proofs.YtchfclmokpbldaaGreat
