/-
  Merged texts. By an AI agent.
-/
import Derived.Test.YtchfclmokpbldaaGreatPowB
set_option linter.all false
set_option maxHeartbeats 4000000
set_option maxRecDepth 20000
namespace Go.Proofs.YtchfclmokpbldaaGreat
open Go.Aw Go
section
structure Chain (n:Nat) (A:List XSwitch):Prop where
 len:A.length=n
 above:∀i:Nat,i < n→(A.getD i default).above=(i:Int) - 1
def dnL : Nat → List Int
 | 0=>[]
 | k + 1=>(k:Int) :: dnL k
def Voc {x : Int} : ∀ {k : Nat}, x ∈ dnL k → ∃ i : Nat, i < k ∧ x = (i : Int)
 | 0,h=>by cases h
 | k + 1,h=>by
  rcases List.mem_cons.1 h with rfl | h
  ·exact ⟨k,by omega,rfl⟩
  ·obtain ⟨i, h1, h2⟩ := Voc h
   exact ⟨i,by omega,h2⟩
def J5d {i : Nat} : ∀ {k : Nat}, i < k → (i : Int) ∈ dnL k
 | 0,h=>by omega
 | k + 1,h=>by
  rcases yk i k with h1 | h1
  ·exact .tail _ (J5d h1)
  ·obtain rfl : i = k := by omega
   exact .head _
def Chain.path {n : Nat} {A : List XSwitch} (h : Chain n A) (hu : V6e A) : ∀ k : Nat, k ≤ n → U7a A ((k : Int) - 1) = dnL k
 | 0,_=>Kua za
 | k + 1,hk=>by
  have hl:=h.len
  rw [show ((k + 1:Nat):Int) - 1=(k:Int) by omega,Kqa hu za za,yu,h.above k za,h.path hu k za]
  rfl
def Chain.go {n:Nat} {t:Int} {A B:List XSwitch} (h:Chain n A) (k:SwsGo t A B):Chain n B:=⟨k.len.trans h.len,fun i hi=>(k.at_ i).above.trans (h.above i hi)⟩
def Chain.set {n j:Nat} {A:List XSwitch} {y:XSwitch} (h:Chain n A) (hy:y.above=(A.getD j default).above):Chain n (A.set j y):=⟨by rw [yy];exact h.len,fun i hi=>by
 rw [Uh]
 split
 ·rename_i k;rw [hy,← k.1];exact h.above i hi
 ·exact h.above i hi⟩
structure ChG (g:PSite) (n:Nat):Prop where
 n1:1≤n
 zn:g.zn=[(n:Int) - 1]
 rp:g.rp=3
 zones:g.site.zones.l.length=1
section
variable {g:PSite} {p q:PSta} {n:Nat}
def ChG.own (h:ChG g n):Vsf g=n - 1:=by rw [Vsf,h.zn];show ((n:Int) - 1).toNat=n - 1;have:=h.n1;omega
def Inv.c1 (h:Inv g q) (hg:ChG g n):q.cuts.length=1:=h.clen.trans hg.zones
def Inv.path (h:Inv g q) (hg:ChG g n) (hc:Chain n q.sw):Kma q.sw g.zn g.rp (g.zn.getD 0 0)=dnL n:=by
 have hl:=hc.len;have h1:=hg.n1;have e:g.zn.getD 0 0=(n:Int) - 1:=by rw [hg.zn];rfl
 rw [Kma,if_neg (by rw [h.fe,e];omega),e,hc.path h.fok.up n (yl _)]
def Zid {A:List XSwitch} {rp t:Int} (h:∀i:Nat,i < A.length→Zya (A.getD i default)=false):Jda A rp t=⟨A,[],[]⟩:=by
 have:∀k,k≤A.length→Vh A rp t k=⟨A,[],[]⟩:=by
  intro k;induction k with
  | zero=>intro _;rfl
  | succ k ih=>intro hk;rw [Vh,ih za,tickAt,if_neg];rintro ⟨h1,_⟩;have h2:=h (A.length - 1 - k) za;dsimp only at h1;rw [h2] at h1;cases h1
 exact this _ (yl _)
structure Stg (g:PSite) (n:Nat) (q:PSta) (k:Nat):Prop where
 inv:Inv g q
 ch:Chain n q.sw
 time:q.time=74
 set:SetD g q
 kn:k≤n
 lo:∀i:Nat,i < k→(q.sw.getD i default).closed=true∧(q.sw.getD i default).shown=1
 hi:∀i:Nat,k≤i→i < n→(q.sw.getD i default).closed=false∧(q.sw.getD i default).shown= -1
 off:k < n→Zra q=true
 on_:k=n→Zra q=false
def Gd (g:PSite) (q:PSta):Prop:=(q.rest.zone≠-1∧q.rest.step=2)∧¬ Vbc q.rest 74∧readyE g.site q.cuts (flP g q) q.rest.zone 74=0
structure MidG (g:PSite) (n:Nat) (q:PSta) (k:Nat):Prop where
 inv:Inv g q
 ch:Chain n q.sw
 time:q.time=74
 set:SetD g q
 kn:k < n
 lo:∀i:Nat,i < k→(q.sw.getD i default).closed=true∧(q.sw.getD i default).shown=1
 at_:(q.sw.getD k default).closed=true∧(q.sw.getD k default).shown=0
 hi:∀i:Nat,k < i→i < n→(q.sw.getD i default).closed=false∧(q.sw.getD i default).shown= -1
 off:k + 1 < n→Zra q=true∧Gd g q
 on_:k + 1=n→Zra q=false
def Stg.waits {k:Nat} (h:Stg g n q k):∀i:Nat,i < q.sw.length→Zya (q.sw.getD i default)=false:=fun i hi=>by
 have hl:=h.ch.len
 rcases yk i k with h1 | h1
 ·rw [Zya,(h.lo i h1).1];rfl
 ·have := h.hi i h1 za
  rw [Zya,this.1,this.2];rfl
def Stg.dark {k:Nat} (h:Stg g n q k) (hg:ChG g n) (hk:k=n):Zdd g q.sw 0=false:=by rw [Zdd,h.inv.path hg h.ch,List.any_eq_false];intro x hx;obtain ⟨i,h1,rfl⟩:=Voc hx;have:=h.lo i za;rw [yu,this.1,this.2];decide
def Stg.same {k:Nat} (h:Stg g n q k) (hg:ChG g n):Je g q 74=q:=by
 have:=Jxd h.inv h.set (h.inv.c1 hg) (Zid h.waits) (by
  rcases yk k n with h1 | h1;·exact .inl (h.off h1)
  ·exact .inr (h.dark hg (by have:=h.kn;omega)))
 rw [h.time] at this;exact this
def Vdc (h:Inv g q) (hg:ChG g n) (k:Gd g q):q.rest.zone=0:=by have h1:=h.rest.2;have h2:=h.c1 hg;have:=k.1.1;omega
def Ytc {A : List XSwitch} {k : Nat} (lo : ∀ i : Nat, i < k → (A.getD i default).shown = 1) (hk : (A.getD k default).shown ≠ 1) : ∀ (m : Nat) (a : Int), (∀ i : Nat, k ≤ i → i < m → (A.getD i default).shown ≠ 1) → (dnL m).foldl (fun a x => if (A.getD x.toNat default).shown ≠ 1 then x else a) a = if k < m then (k : Int) else a
 | 0,a,_=>rfl
 | m + 1,a,h=>by
  rw [dnL,yNb,Ytc lo hk m _ (fun i h1 h2=>h i h1 za),yu]
  rcases yXb k m with h1 | h1 | h1
  ·rw [if_pos h1,if_pos za]
  ·subst h1
   rw [if_neg za,if_pos hk,if_pos za]
  ·rw [if_neg za,if_neg (fun h2=>h2 (lo m h1)),if_neg za]
def Stg.err {k:Nat} (h:Stg g n q k) (hg:ChG g n) (hk:k < n):(Uk g.site q.cuts (flP g q) q.rest (mkF g q) 74=0↔Gd g q)∧(Gd g q→atR (mkF g q) q.rest.zone=(k:Int)):=by
 have hI:=h.inv;have hl:=h.ch.len;have h1:=hg.n1;have hs:sharedE g.site q.cuts.length (flP g q).length 74=0:=by rw [sharedE,if_neg (by rw [hI.site];decide),if_neg (by rw [hI.clen,hI.flLen];simp),if_neg ze]
 have hat:Gd g q→atR (mkF g q) q.rest.zone=(k:Int):=fun hG=>by rw [Vdc hI hg hG];show Zqd q.sw (Kma q.sw g.zn g.rp (g.zn.getD 0 0))=_;rw [hI.path hg h.ch,Zqd,Ytc (fun i hi=>(h.lo i hi).2) (by rw [(h.hi k (yl _) hk).2];decide) n _ (fun i h1 h2=>by rw [(h.hi i h1 h2).2];decide),if_pos hk]
 refine ⟨⟨fun he=>?_,fun hG=>?_⟩,hat⟩;·
  rw [Uk] at he;split at he;·omega
  rename_i hc;have hc:=Decidable.not_not.1 hc;rw [Zs,if_neg (by rw [hs];decide)] at hc;split at hc;·cases hc
  rename_i g1;split at hc;·cases hc
  rename_i g2;split at hc;·omega
  rename_i g3;exact ⟨⟨fun e=>g1 (.inl e),Decidable.not_not.1 fun e=>g1 (.inr e)⟩,g2,Decidable.not_not.1 g3⟩
 ·
  have hz := Vdc hI hg hG;have hc:Zs g.site q.cuts (flP g q) q.rest (mkF g q) 74=0:=by rw [Zs,if_neg (by rw [hs];decide),if_neg (by rintro (e | e);exact hG.1.1 e;exact e hG.1.2),if_neg hG.2.1,if_neg (by rw [hG.2.2];decide),if_neg (by show ¬ feedE q.sw g.zn g.rp≠0;rw [hI.fe];decide),if_neg (by show ¬ g.zn.length≠_;rw [hI.zlen];simp),if_neg];rintro ⟨j,hj,hp⟩;have hj:j < g.zn.length:=hj;(have hj1:j < q.cuts.length:=by rw [hI.clen,← hI.zlen];exact hj);(have hj0:j=0:=by have:=hI.c1 hg;omega);have:=hp.1.1;rw [hz] at this;omega
  rw [Uk,if_neg (by rw [hc];decide),hat hG];show Usa q.sw g.zn g.rp (k:Int) 74=0;have htk:=hI.tok;rw [h.time] at htk;rw [Usa,Jxc,if_neg (show ¬ feedE q.sw g.zn g.rp≠0 by rw [hI.fe];decide),if_neg (show ¬ ((k:Int) < 0∨(q.sw.length:Int)≤k) by omega),if_pos htk,if_neg ze,yu,if_neg];rw [(h.hi k (yl _) hk).2,h.ch.above k hk];rintro (e | ⟨e1,e2⟩);·exact e rfl
  ·refine e2 ?_;rw [show ((k:Int) - 1).toNat=k - 1 by omega];exact (h.lo (k - 1) za).2
def U8f (h:Inv g q) (hg:ChG g n) (hG:Gd g q):Zra q=true∧(q.cuts.getD 0 default).clear≠-1:=by
 have h1:=hG.2.2;rw [Vdc h hg hG,readyE,if_neg (by rw [h.c1 hg];decide)] at h1;rw [Jwb] at h1;split at h1;·cases h1
 rename_i h2;split at h1;·cases h1
 rename_i h3;have h2:¬ (q.cuts.getD 0 default).off=false:=h2;exact ⟨by rw [Zra];cases hc:(q.cuts.getD 0 default).off with | true=>rfl | false=>exact absurd hc h2,by show (q.cuts.getD 0 default).clear≠-1;have:¬ (q.cuts.getD (0:Int).toNat default).clear < 0:=fun e=>h3 (.inl (.inl e));intro e;exact this (by show (q.cuts.getD 0 default).clear < 0;omega)⟩
def Stg.bad (h:Stg g n q 0) (hg:ChG g n) (hG:¬ Gd g q) (hp:Je g p 74=q) (hl:¬ V7 p 74):Stg g n (Ye g p 74).1 0∧¬ Gd g (Ye g p 74).1:=by
 have he:Uk g.site q.cuts (flP g q) q.rest (mkF g q) 74≠0:=fun e=>hG (((h.err hg hg.n1).1).1 e);have e:(Ye g p 74).1=Zg q 7 q.rest.zone (Uk g.site q.cuts (flP g q) q.rest (mkF g q) 74):=by rw [Ye,if_neg hl];simp only [hp];rw [if_pos he]
 rw [e];exact ⟨{ inv:=h.inv.note _ _ _,ch:=h.ch,time:=h.time,set:=h.set.turn rfl rfl rfl h.set.c h.set.k,kn:=h.kn,lo:=h.lo,hi:=h.hi,off:=h.off,on_:=h.on_ },hG⟩
def Stg.good {k:Nat} (h:Stg g n q k) (hg:ChG g n) (hk:k < n) (hG:Gd g q) (hp:Je g p 74=q) (hl:¬ V7 p 74) (hI:Inv g p):MidG g n (Ye g p 74).1 k:=by
 have he:Uk g.site q.cuts (flP g q) q.rest (mkF g q) 74=0:=((h.err hg hk).1).2 hG;have hat:=(h.err hg hk).2 hG;have hz:=Vdc h.inv hg hG;have hoff:=U8f h.inv hg hG;have hsl:=h.ch.len;have hIr:=hI.close 74;have e:(Ye g p 74).1=Zg { q with rest:=Vz g.site q.cuts (flP g q) q.rest (mkF g q) 74,cuts:=V4 g.site q.cuts (flP g q) q.rest (mkF g q) 74,sw:=Ve g.site q.cuts (flP g q) q.rest (mkF g q) 74 } 6 (atR (mkF g q) q.rest.zone) 0:=by rw [Ye,if_neg hl];simp only [hp];rw [if_neg (fun e=>e he)]
 rw [e] at hIr ⊢;have hsw:Ve g.site q.cuts (flP g q) q.rest (mkF g q) 74=q.sw.set k ⟨(q.sw.getD k default).above,74,0,true,false⟩:=by rw [Ve,if_neg (fun e=>e he),hat];show K4b q.sw (k:Int) 74=_;rw [K4b,yu]
 have hown:Jle (mkF g q) q.rest↔k + 1=n:=by rw [Jle,hat,hz];show (k:Int)=g.zn.getD 0 0↔_;rw [hg.zn];show (k:Int)=(n:Int) - 1↔_;omega
 have hcl:q.cuts=[q.cuts.getD 0 default]:=by obtain ⟨c,hc⟩:=List.length_eq_one_iff.1 (h.inv.c1 hg);rw [hc];rfl
 have hv:J2e g q= -1:=by refine Decidable.byContradiction fun hne=>hoff.2 ?_;have:=h.set.c;rw [Ksb,if_neg hne] at this;split at this <;> (rw [← this])
 obtain ⟨r,hr⟩:∃r:PSta,r=Zg { q with rest:=Vz g.site q.cuts (flP g q) q.rest (mkF g q) 74,cuts:=V4 g.site q.cuts (flP g q) q.rest (mkF g q) 74,sw:=Ve g.site q.cuts (flP g q) q.rest (mkF g q) 74 } 6 (atR (mkF g q) q.rest.zone) 0:=⟨_,rfl⟩;rw [← hr] at hIr ⊢;have r1:r.sw=q.sw.set k ⟨(q.sw.getD k default).above,74,0,true,false⟩:=by rw [hr];exact hsw
 have r2:r.time=74:=by rw [hr];exact h.time
 have r3:r.cuts=if k + 1=n then q.cuts.set 0 ⟨false,(q.cuts.getD 0 default).clear,(q.cuts.getD 0 default).reason⟩ else q.cuts:=by
  rw [hr];show V4 g.site q.cuts (flP g q) q.rest (mkF g q) 74=_;rw [V4,if_neg (fun e=>e he),hz];by_cases hc:k + 1=n;·rw [if_pos (hown.2 hc),if_pos hc];rfl
  ·rw [if_neg (fun e=>hc (hown.1 e)),if_neg hc]
 have r4:r.rest=if k + 1=n then noRest else ⟨q.rest.zone,q.rest.first,q.rest.second,q.rest.step,74⟩:=by
  rw [hr];show Vz g.site q.cuts (flP g q) q.rest (mkF g q) 74=_;rw [Vz,if_neg (fun e=>e he)];by_cases hc:k + 1=n;·rw [if_pos (hown.2 hc),if_pos hc]
  ·rw [if_neg (fun e=>hc (hown.1 e)),if_neg hc]
 have r5:r.meas=q.meas:=by rw [hr];rfl
 have r6:r.watches=q.watches:=by rw [hr];rfl
 have gsw:∀i:Nat,(r.sw.getD i default)=if i=k∧k < q.sw.length then ⟨(q.sw.getD k default).above,74,0,true,false⟩ else q.sw.getD i default:=fun i=>by rw [r1,Uh]
 have hset:SetD g r:=by
  refine h.set.turn r5 r6 (by rw [r2,h.time]) ?_ ?_;·
   rw [r3];split;·rw [hcl, ysb];show Ksb (J2e g q) ⟨false,(q.cuts.getD 0 default).clear,(q.cuts.getD 0 default).reason⟩ q.time=⟨false,(q.cuts.getD 0 default).clear,(q.cuts.getD 0 default).reason⟩;rw [hv,Ksb,if_pos rfl,if_neg hoff.2]
   ·exact h.set.c
  ·
   rw [r3, r4];split;·rw [Zd,if_pos (.inl rfl)]
   ·rw [Zd, if_pos];exact .inr ⟨by show 0≤q.rest.zone∧_;rw [hz,h.inv.c1 hg];decide,by show (q.cuts.getD q.rest.zone.toNat default).off=true∧(q.cuts.getD q.rest.zone.toNat default).clear≠-1;rw [hz];exact hoff⟩
 refine { inv:=hIr,ch:=by rw [r1];exact h.ch.set rfl,time:=r2,set:=hset,kn:=hk,lo:=fun i hi=>?_,at_:=?_,hi:=fun i h1 h2=>?_,off:=fun h1=>?_,on_:=fun h1=>?_ };·rw [gsw,if_neg za];exact h.lo i hi
 ·rw [gsw,if_pos ⟨rfl,by omega⟩];exact ⟨rfl,rfl⟩
 ·rw [gsw,if_neg za];exact h.hi i za h2
 ·
  rw [if_neg za] at r3 r4;refine ⟨by rw [Zra,r3];exact hoff.1,?_⟩;have ef:flP g r=flP g q:=by rw [flP,flP,r5,r2,h.time]
  rw [Gd,r4,r3,ef];refine ⟨hG.1,?_,hG.2.2⟩;show ¬ ((74:Int) < 74∨(74:Int) < 74 - 600);decide
 ·rw [if_pos h1] at r3;rw [Zra,r3,hcl];rfl
def MidG.answer {k:Nat} (h:MidG g n q k) (hg:ChG g n):Stg g n (Je g { q with sw:=Ud q.sw (k:Int) 1 } 74) (k + 1)∧(k + 1 < n→Gd g (Je g { q with sw:=Ud q.sw (k:Int) 1 } 74)):=by
 have hsl:=h.ch.len;have hk:=h.kn;have he:Us q.sw g.zn g.rp (k:Int) 1=0:=by rw [Us,if_neg (by rw [h.inv.fe];decide),if_neg za,if_neg ze]
 obtain ⟨r,hr⟩:∃r:PSta,r={ q with sw:=Ud q.sw (k:Int) 1 }:=⟨_,rfl⟩;rw [← hr];have hI:Inv g r:=by rw [hr];exact h.inv.ansSw he
 have gsw:∀i:Nat,(r.sw.getD i default)=if i=k∧k < q.sw.length then ⟨(q.sw.getD k default).above,(q.sw.getD k default).since,1,(q.sw.getD k default).closed,(q.sw.getD k default).late⟩ else q.sw.getD i default:=fun i=>by rw [hr];show (Ud q.sw (k:Int) 1).getD i default=_;rw [Ud,yu,if_neg ze,Uh]
 have hS:Stg g n r (k + 1):=by
  refine { inv:=hI,ch:=?_,time:=by rw [hr];exact h.time,set:=by rw [hr];exact h.set.turn rfl rfl rfl h.set.c h.set.k,kn:=hk,lo:=fun i hi=>?_,hi:=fun i h1 h2=>?_,off:=fun h1=>by rw [hr];exact (h.off h1).1,on_:=fun h1=>by rw [hr];exact h.on_ h1 };·rw [hr];show Chain n (Ud q.sw (k:Int) 1);rw [Ud,yu];exact h.ch.set rfl
  ·
   rw [gsw];split;·exact ⟨h.at_.1,rfl⟩
   ·exact h.lo i za
  ·rw [gsw,if_neg za];exact h.hi i za h2
 rw [hS.same hg];refine ⟨hS,fun h1=>?_⟩;rw [hr];exact (h.off h1).2
end
end
section
def shB (b:Bool):Int:=if b=true then 1 else -1
def Kec (q:PSta) (i:Nat):PSta:={ q with sw:=Ud q.sw (i:Int) (shB (q.sw.getD i default).closed) }
def Vsc (g:PSite) (q:PSta) (i:Nat):PSta:=Je g (Kec q i) q.time
def Mat (n:Nat) (st pc:List Bool) (A:List XSwitch):Prop:=∀i:Nat,i < n→st.getD i false=false→(A.getD i default).shown=shB (A.getD i default).closed∧pc.getD i false=(A.getD i default).closed
def Dd (n:Nat) (pc:List Bool):Prop:=∃i:Nat,i < n∧pc.getD i false=false
structure Pw (g:PSite) (n:Nat) (st pc:List Bool) (v:Bool) (q:PSta):Prop where
 inv:Inv g q
 ch:Chain n q.sw
 up:LateUp q.sw
 own:Zra q=true→(q.sw.getD (Vsf g) default).closed=false
 pl:pc.length=n
 s1:∀i:Nat,i < n→(q.sw.getD i default).shown=1→pc.getD i false=true
 s2:∀i:Nat,i < n→(q.sw.getD i default).shown= -1→pc.getD i false=false
 s3:∀i:Nat,i < n→(q.sw.getD i default).shown=1→(q.sw.getD i default).closed=true
 s4:∀i:Nat,i < n→(q.sw.getD i default).shown= -1→(q.sw.getD i default).closed=false
 s5:∀i:Nat,i < n→(q.sw.getD i default).closed=true→pc.getD i false=true
 s6:∀i:Nat,i < n→st.getD i false=true→pc.getD i false=v
structure Jb (n:Nat) (b t:Int) (pc:List Bool) (A:List XSwitch):Prop where
 j0:∀i:Nat,i < n→b + 3 * ((n:Int) - 1 - i)≤t→Dd n pc∨((A.getD i default).closed=false∧(A.getD i default).since≤b + 3 * ((n:Int) - 1 - i))
 j1:∀i:Nat,i < n→b + 3 * ((n:Int) - 1 - i) + 3≤t→Dd n pc∨(A.getD i default).late=true
structure PB (g:PSite) (n:Nat) (st:List Bool) (v:Bool) (b t:Int) (q:PSta) (pc:List Bool):Prop where
 pw:Pw g n st pc v q
 time:q.time=t
 t0:74≤t
 jb:b= -1∨(75≤b∧b≤t∧Zra q=true∧Jb n b t pc q.sw)
 deaf:156≤t→Zra q=true
 meas:∀x∈q.meas,x.time≤t∧x.time≤95
section
variable {g:PSite} {p q:PSta} {n:Nat} {st pc:List Bool} {v:Bool} {b t:Int}
def Vod (h:Inv g q) {i:Nat} (hi:i < q.sw.length) (hl:(q.sw.getD i default).late=true):(q.sw.getD i default).closed=false:=by
 have:=(Ymb h.fe i hi).2;cases hc:(q.sw.getD i default).closed with
 | true=>exact absurd ⟨hl,.inl hc⟩ this
 | false=>rfl
def Kvd (h:Inv g q) (hg:ChG g n):Zra q=true↔Yua q:=by obtain ⟨c,hc⟩:=List.length_eq_one_iff.1 (h.c1 hg);rw [Zra,Yua,hc];exact ⟨fun e x hx=>by rw [List.mem_singleton.1 hx];exact e,fun e=>e c (.head _)⟩
def Yjb (h:Inv g q) (hg:ChG g n) (ht:q.time≤t∧t≤2147483648) (ho:Zra q=true):Zra (Je g q t)=true:=(Kvd (h.settle ht.1 ht.2) hg).2 (Kzc ((Kvd h hg).1 ho) t)
def Pw.settle (h:Pw g n st pc v q) (hg:ChG g n) (ht:q.time≤t∧t≤2147483648):Pw g n st pc v (Je g q t):=by
 have hgo:=U0a (g:=g) (p:=q) t;refine { inv:=h.inv.settle ht.1 ht.2,ch:=h.ch.go hgo,up:=U3e t h.up,own:=Z7d h.inv (h.inv.c1 hg) ht h.own,pl:=h.pl,s1:=fun i hi hs=>?_,s2:=fun i hi hs=>?_,s3:=fun i hi hs=>?_,s4:=fun i hi hs=>?_,s5:=fun i hi hs=>?_,s6:=h.s6 };·
  rcases (hgo.at_ i).or_ with ⟨k1, k2, k3, k4⟩ | ⟨k1, k2, k3, k4⟩;·exact h.s1 i hi zra
  ·omega
 ·
  rcases (hgo.at_ i).or_ with ⟨k1, k2, k3, k4⟩ | ⟨k1, k2, k3, k4⟩;·exact h.s2 i hi zra
  ·omega
 ·
  rcases (hgo.at_ i).or_ with ⟨k1, k2, k3, k4⟩ | ⟨k1, k2, k3, k4⟩;·rw [k1];exact h.s3 i hi zra
  ·omega
 ·
  rcases (hgo.at_ i).or_ with ⟨k1, k2, k3, k4⟩ | ⟨k1, k2, k3, k4⟩;·rw [k1];exact h.s4 i hi zra
  ·omega
 ·
  rcases (hgo.at_ i).or_ with ⟨k1, k2, k3, k4⟩ | ⟨k1, k2, k3, k4⟩;·exact h.s5 i hi (by rw [← k1];exact hs)
  ·rw [k2] at hs;cases hs
def Yia (i j:Nat):(Kec q i).sw.getD j default=if j=i∧i < q.sw.length then ⟨(q.sw.getD i default).above,(q.sw.getD i default).since,shB (q.sw.getD i default).closed,(q.sw.getD i default).closed,if shB (q.sw.getD i default).closed= -1 then false else (q.sw.getD i default).late⟩ else q.sw.getD j default:=by show (Ud q.sw (i:Int) _).getD j default=_;rw [Ud,yu,Uh]
def Jma (i j:Nat):((Kec q i).sw.getD j default).closed=(q.sw.getD j default).closed:=by exact ubn
def Use (i j:Nat):((Kec q i).sw.getD j default).since=(q.sw.getD j default).since:=by exact ubn
def Yqb (i j:Nat):((Kec q i).sw.getD j default).above=(q.sw.getD j default).above:=by exact ubn
def Zre {i j:Nat} (h:((Kec q i).sw.getD j default).late=true):(q.sw.getD j default).late=true:=by
 rw [Yia] at h;split at h;·
  rename_i k;dsimp only at h;rw [k.1];split at h;·cases h
  ·exact h
 ·exact h
def Vxc (c:Bool):(shB c=1↔c=true)∧(shB c= -1↔c=false):=by cases c <;> simp [shB]
def Pw.ans (h:Pw g n st pc v q) {i:Nat} (hi:i < n) (hp:pc.getD i false=(q.sw.getD i default).closed):Pw g n st pc v (Kec q i):=by
 have hl:=h.ch.len;have he:Us q.sw g.zn g.rp (i:Int) (shB (q.sw.getD i default).closed)=0:=by rw [Us,if_neg (by rw [h.inv.fe];decide),if_neg za,if_neg];cases (q.sw.getD i default).closed <;> decide
 have hs:=Vxc (q.sw.getD i default).closed;refine { inv:=h.inv.ansSw he,ch:=⟨by show (Ud _ _ _).length=n;rw [U5b];exact hl,fun j hj=>by rw [Yqb];exact h.ch.above j hj⟩,up:=fun j h1 h2=>?_,own:=fun ho=>by rw [Jma];exact h.own ho,pl:=h.pl,s1:=fun j hj k=>?_,s2:=fun j hj k=>?_,s3:=fun j hj k=>?_,s4:=fun j hj k=>?_,s5:=fun j hj k=>by rw [Jma] at k;exact h.s5 j hj k,s6:=h.s6 };·rw [Yqb] at h2 ⊢;rw [Jma];exact h.up j (Zre h1) h2
 ·
  rw [Yia] at k;split at k;·rename_i e;rw [e.1];exact h.s5 i hi (hs.1.1 k)
  ·exact h.s1 j hj k
 ·
  rw [Yia] at k;split at k;·rename_i e;rw [e.1,hp];exact hs.2.1 k
  ·exact h.s2 j hj k
 ·
  rw [Jma];rw [Yia] at k;split at k;·rename_i e;rw [e.1];exact hs.1.1 k
  ·exact h.s3 j hj k
 ·
  rw [Jma];rw [Yia] at k;split at k;·rename_i e;rw [e.1];exact hs.2.1 k
  ·exact h.s4 j hj k
def Dd.set {i:Nat} {c:Bool} (h:Dd n pc) (hc:c=true→pc.getD i false=true):Dd n (pc.set i c):=by
 obtain ⟨j,hj,hd⟩:=h;refine ⟨j,hj,?_⟩;rw [Uh];split;·
  rename_i e;cases c with
  | true=>rw [e.1,hc rfl] at hd;cases hd
  | false=>rfl
 ·exact hd
def Jb.go {A B:List XSwitch} (h:Jb n b t pc A) (k:SwsGo t A B) (hl:∀i:Nat,i < n→(A.getD i default).late=true→(A.getD i default).closed=false):Jb n b t pc B:=by
 refine ⟨fun i hi ht=>(h.j0 i hi ht).imp_right fun e=>?_,fun i hi ht=>(h.j1 i hi ht).imp_right fun e=>?_⟩;·have := (k.at_ i).opn e.1;exact ⟨this.1,by rw [this.2.1];exact e.2⟩
 ·exact ((k.at_ i).opn (hl i hi e)).2.2.2 e
def PB.set (h:PB g n st v b t q pc) {i:Nat} (hi:i < n) (hs:st.getD i false=false):PB g n st v b t q (pc.set i (q.sw.getD i default).closed):=by
 have hpw:=h.pw;have hpl:=hpw.pl;have hd:Dd n pc→Dd n (pc.set i (q.sw.getD i default).closed):=fun k=>k.set (hpw.s5 i hi);refine { pw:={ hpw with pl:=by rw [yy];exact hpl,s1:=fun j hj k=>?_,s2:=fun j hj k=>?_,s5:=fun j hj k=>?_,s6:=fun j hj k=>?_ },time:=h.time,t0:=h.t0,jb:=h.jb.imp_right fun ⟨h1,h2,h3,h4⟩=>⟨h1,h2,h3,⟨fun j hj ht=>(h4.j0 j hj ht).imp_left hd,fun j hj ht=>(h4.j1 j hj ht).imp_left hd⟩⟩,deaf:=h.deaf,meas:=h.meas };·
  rw [Uh];split;·rename_i e;rw [← e.1];exact hpw.s3 j hj k
  ·exact hpw.s1 j hj k
 ·
  rw [Uh];split;·rename_i e;rw [← e.1];exact hpw.s4 j hj k
  ·exact hpw.s2 j hj k
 ·
  rw [Uh];split;·rename_i e;rw [← e.1];exact k
  ·exact hpw.s5 j hj k
 ·
  rw [Uh];split;·rename_i e;rw [e.1,hs] at k;cases k
  ·exact hpw.s6 j hj k
def PB.ans (h:PB g n st v b t q pc) (hg:ChG g n) {i:Nat} (hi:i < n) (hp:pc.getD i false=(q.sw.getD i default).closed):PB g n st v b t (Vsc g q i) pc:=by
 have hpa:=h.pw.ans hi hp;have htm:=h.pw.inv.time;have ht:(Kec q i).time≤t∧t≤2147483648:=⟨by show q.time≤t;rw [h.time];exact yD _,by rw [← h.time];exact htm.2⟩;have e:Vsc g q i=Je g (Kec q i) t:=by rw [Vsc,h.time]
 have hgo:=U0a (g:=g) (p:=Kec q i) t;have hlt:∀j:Nat,j < n→((Kec q i).sw.getD j default).late=true→((Kec q i).sw.getD j default).closed=false:=fun j hj hl=>Vod hpa.inv (by rw [hpa.ch.len];exact hj) hl;rw [e];refine { pw:=hpa.settle hg ht,time:=Vy t,t0:=h.t0,jb:=h.jb.imp_right fun ⟨h1,h2,h3,h4⟩=>⟨h1,h2,Yjb hpa.inv hg ht h3,Jb.go (A:=(Kec q i).sw) ⟨fun j hj k=>?_,fun j hj k=>?_⟩ hgo hlt⟩,deaf:=fun k=>Yjb hpa.inv hg ht (h.deaf k),meas:=by rw [(V9 t).meas];exact h.meas };·refine (h4.j0 j hj k).imp_right fun e=>?_;rw [Jma,Use];exact e
 ·
  rcases h4.j1 j hj k with e | e;·exact .inl e
  ·
   rw [Yia];split;·
    rename_i k2;rw [k2.1] at e;cases hc:(q.sw.getD i default).closed with
    | true=>exact .inr e
    | false=>exact .inl ⟨i,hi,by rw [hp,hc]⟩
   ·exact .inr e
def PB.step (h:PB g n st v b t q pc) (hg:ChG g n) (hM:Mat n st pc q.sw) (ht:t + 1≤2147483648) {r:PSta} (r1:r.sw=q.sw) (r2:r.time=q.time) (r3:Zra r=Zra q) (hI:Inv g r) (hm:∀x∈r.meas,x.time≤t + 1∧x.time≤95) (hd:156≤t + 1→Zra (Je g r (t + 1))=true):PB g n st v b (t + 1) (Je g r (t + 1)) pc:=by
 have hpw:=h.pw;have hpr:Pw g n st pc v r:={ inv:=hI,ch:=by rw [r1];exact hpw.ch,up:=by rw [r1];exact hpw.up,own:=by rw [r1,r3];exact hpw.own,pl:=hpw.pl,s1:=by rw [r1];exact hpw.s1,s2:=by rw [r1];exact hpw.s2,s3:=by rw [r1];exact hpw.s3,s4:=by rw [r1];exact hpw.s4,s5:=by rw [r1];exact hpw.s5,s6:=hpw.s6 };have htt:r.time≤t + 1∧t + 1≤2147483648:=⟨by rw [r2,h.time];omega,ht⟩;have hps:=hpr.settle hg htt;have hgo:=U0a (g:=g) (p:=r) (t + 1);rw [r1] at hgo;have hsl:=hpw.ch.len;refine { pw:=hps,time:=Vy _,t0:=by have:=h.t0;omega,jb:=h.jb.imp_right fun ⟨h1,h2,h3,h4⟩=>⟨h1,by omega,Yjb hI hg htt (by rw [r3];exact h3),?_⟩,deaf:=hd,meas:=by rw [(V9 _).meas];exact hm };have J1:∀i:Nat,i < n→b + 3 * ((n:Int) - 1 - i) + 3≤t + 1→Dd n pc∨((Je g r (t + 1)).sw.getD i default).late=true:=fun i hi k=>by
  rcases yua t (b + 3 * ((n:Int) - 1 - i) + 3) with k1 | k1;·
   rcases h4.j0 i hi za with e | ⟨e1, e2⟩;·exact .inl e
   ·
    by_cases hs : (q.sw.getD i default).shown = -1;·exact .inl ⟨i,hi,hpw.s2 i hi hs⟩
    ·exact .inr (Ukd (by rw [r1,hsl];exact hi) (by rw [r1];exact e1) (by rw [r1];exact hs) (by rw [r1,hg.rp];omega))
  ·
   rcases h4.j1 i hi k1 with e | e;·exact .inl e
   ·exact .inr (((hgo.at_ i).opn (Vod hpw.inv (by rw [hsl];exact hi) e)).2.2.2 e)
 refine ⟨fun i hi k=>?_,J1⟩;rcases yua t (b + 3 * ((n:Int) - 1 - i)) with k1 | k1;·
  have hi1 : i + 1 < n := by omega
  rcases J1 (i + 1) hi1 za with e | e;·exact .inl e
  ·have ha := hps.ch.above (i + 1) hi1;have:=hps.up (i + 1) e (by rw [ha];omega);rw [ha,show (((i + 1:Nat):Int) - 1).toNat=i by omega] at this;have hsi:=hps.inv.since _ (yj (Jw (l:=(Je g r (t + 1)).sw) (k:=i) default (by rw [hps.ch.len];exact hi)));rw [Vy] at hsi;exact .inr ⟨this,by omega⟩
 ·
  rcases h4.j0 i hi k1 with e | ⟨e1, e2⟩;·exact .inl e
  ·have := (hgo.at_ i).opn e1;exact .inr ⟨this.1,by rw [this.2.1];exact e2⟩
def PB.begin (h:PB g n st v (-1) t q pc) (hg:ChG g n) (ht:75≤t) (ho:Zra q=true):PB g n st v t t q pc:=by
 have hpw:=h.pw;refine { h with jb:=.inr ⟨ht,yD _,ho,⟨fun i hi k=>.inr ?_,fun i hi k=>by omega⟩⟩ };obtain rfl:i=n - 1:=by omega
 have hs:=hpw.inv.since _ (yj (Jw (l:=q.sw) (k:=n - 1) default (by rw [hpw.ch.len];exact hi)));rw [h.time] at hs;have:=hpw.own ho;rw [hg.own] at this;exact ⟨this,by omega⟩
def PB.dead (h:PB g n st v b t q pc) (hM:Mat n st pc q.sw) (hb:b≠-1) (ht:b + 3 * (n:Int)≤t) {j:Nat} (hj:j < n) (hs:st.getD j false=false):Dd n pc:=by
 obtain ⟨_,_,_,h4⟩:=h.jb.resolve_left hb;rcases h4.j0 j hj za with e | ⟨e,_⟩;·exact e
 ·exact ⟨j,hj,by rw [(hM j hj hs).2,e]⟩
def PB.stuck (h:PB g n st v b t q pc) (hg:ChG g n) (hb:b≠-1) (ht:b + 3 * (n:Int)≤t) (hs:∀j:Nat,j < n→st.getD j false=true):(q.sw.getD 0 default).late=true∨pc.getD 0 false=false:=by
 obtain ⟨_,_,_,h4⟩:=h.jb.resolve_left hb;have hn:=hg.n1;rcases h4.j1 0 za za with ⟨i,hi,e⟩ | e;·rw [h.pw.s6 i hi (hs i hi)] at e;exact .inr (by rw [h.pw.s6 0 za (hs 0 za)];exact e)
 ·exact .inl e
end
end
section
def Ywd (s:Bool) (x:XSwitch):Nat:=(if x.closed=true then 1 else 0) + (if s=false∧x.shown≠shB x.closed then 1 else 0)
def mis (st : List Bool) (A : List XSwitch) : Nat → Nat
 | 0=>0
 | k + 1=>mis st A k + Ywd (st.getD k false) (A.getD k default)
def Kaf {st : List Bool} {A : List XSwitch} : ∀ k, mis st A k ≤ 2 * k
 | 0=>yl _
 | k + 1=>by
  have:=Kaf (st:=st) (A:=A) k
  have h:Ywd (st.getD k false) (A.getD k default)≤2:=by rw [Ywd];split <;> split <;> omega
  rw [mis];omega
def Uof {t:Int} {s:Bool} {a b:XSwitch} (h:SwGo t a b):Ywd s b≤Ywd s a:=by
 rcases h.or_ with ⟨h1,h2,h3,h4⟩ | ⟨h1,h2,h3,h4⟩;·rw [Ywd,Ywd,h1,h3];exact yl _
 ·rw [Ywd, Ywd, h1, h2, if_neg ze, if_pos rfl];split <;> omega
def J5f {t : Int} {st : List Bool} {A B : List XSwitch} (h : SwsGo t A B) : ∀ k, mis st B k ≤ mis st A k
 | 0=>yl _
 | k + 1=>by
  have:=J5f (st:=st) h k
  have:=Uof (s:=st.getD k false) (h.at_ k)
  rw [mis,mis];omega
def Vhe {q : PSta} {st : List Bool} {i : Nat} (hi : i < q.sw.length) (hs : st.getD i false = false) (hm : (q.sw.getD i default).shown ≠ shB (q.sw.getD i default).closed) : ∀ k, mis st (Kec q i).sw k ≤ mis st q.sw k ∧ (i < k → mis st (Kec q i).sw k < mis st q.sw k)
 | 0=>⟨yl _,fun h=>by omega⟩
 | k + 1=>by
  obtain ⟨h1,h2⟩:=Vhe hi hs hm k
  rcases Nat.decEq k i with h3 | h3
  ·have e : (Kec q i).sw.getD k default = q.sw.getD k default := by rw [Yia, if_neg (fun h => h3 h.1)]
   rw [mis,mis,e]
   exact ⟨by omega,fun h=>by have:=h2 za;omega⟩
  ·subst h3
   have e1:Ywd (st.getD k false) ((Kec q k).sw.getD k default)=if (q.sw.getD k default).closed=true then 1 else 0:=by
    rw [Yia,if_pos ⟨rfl,hi⟩,Ywd]
    simp
   have e2:Ywd (st.getD k false) (q.sw.getD k default)=(if (q.sw.getD k default).closed=true then 1 else 0) + 1:=by
    rw [Ywd,if_pos (⟨hs,hm⟩:st.getD k false=false∧(q.sw.getD k default).shown≠shB (q.sw.getD k default).closed)]
   rw [mis,mis,e1,e2]
   exact ⟨by omega,fun _=>by omega⟩
def Zge {g:PSite} {q:PSta} {st:List Bool} {i n:Nat} (hl:q.sw.length=n) (hi:i < n) (hs:st.getD i false=false) (hm:(q.sw.getD i default).shown≠shB (q.sw.getD i default).closed):mis st (Vsc g q i).sw n < mis st q.sw n:=by have h1:=(Vhe (st:=st) za hs hm n).2 hi;have h2:=J5f (st:=st) (U0a (g:=g) (p:=Kec q i) q.time) n;exact Nat.lt_of_le_of_lt h2 h1
def U4e {g:PSite} {q:PSta} {i:Nat} (h:Inv g q) (hi:i < q.sw.length):Jpa g q (i:Int) (shB (q.sw.getD i default).closed) q.time=(Vsc g q i,0):=by
 have ht:=h.time;have he:Us q.sw g.zn g.rp (i:Int) (shB (q.sw.getD i default).closed)=0:=by rw [Us,if_neg (by rw [h.fe];decide),if_neg za,if_neg];cases (q.sw.getD i default).closed <;> decide
 rw [Jpa,if_neg zM,if_neg (fun e=>e he)];rfl
structure ObI (g:PSite) (P:PSta→List Bool→Prop) (n:Nat) (R0:LS) (st:List Bool) (j:Nat) (q:PSta) (y:XSta) (l:List Bool) (S:LS):Prop where
 is:StaIs g q y
 at_:StaR y S
 sub:∀r∈R0,InR r S
 p:P q l
 ms:mis st q.sw n + j≤2 * n
structure ObJ (g:PSite) (P:PSta→List Bool→Prop) (n:Nat) (R0:LS) (st:List Bool) (q0:PSta) (i:Nat) (ch:Bool) (q:PSta) (y:XSta) (l:List Bool) (S:LS):Prop where
 il:i≤n
 is:StaIs g q y
 at_:StaR y S
 sub:∀r∈R0,InR r S
 p:P q l
 yes:ch=true→mis st q.sw n < mis st q0.sw n
 no:ch=false→q=q0∧∀j:Nat,j < i→st.getD j false=false→(q.sw.getD j default).shown=shB (q.sw.getD j default).closed∧l.getD j false=(q.sw.getD j default).closed
section
variable {g:PSite} {P:PSta→List Bool→Prop} {n i:Nat} {R0 S S':LS} {st l:List Bool} {q0 q:PSta} {ch:Bool} {y z:XSta}
def ObJ.le (h:ObJ g P n R0 st q0 i ch q y l S):mis st q.sw n≤mis st q0.sw n:=by
 cases ch with
 | true=>exact Nat.le_of_lt (h.yes rfl)
 | false=>rw [(h.no rfl).1];exact yl _
def ObJ.skip (h:ObJ g P n R0 st q0 i ch q y l S) (hi:i < n) (hs:st.getD i false=true):ObJ g P n R0 st q0 (i + 1) ch q y l S:=
 { h with il:=hi,no:=fun e=>⟨(h.no e).1,fun j hj hk=>by
  rcases yk j i with h1 | h1
  ·exact (h.no e).2 j h1 hk
  ·obtain rfl : j = i := by omega
   rw [hs] at hk;cases hk⟩ }
def ObJ.calm (h:ObJ g P n R0 st q0 i ch q y l S) (hi:i < n) (hl:l.length=n) (hp:P q (l.set i (q.sw.getD i default).closed)) (hm:(q.sw.getD i default).shown=shB (q.sw.getD i default).closed):ObJ g P n R0 st q0 (i + 1) ch q y (l.set i (q.sw.getD i default).closed) S:=
 { h with il:=hi,p:=hp,no:=fun e=>⟨(h.no e).1,fun j hj hk=>by
  rw [Uh]
  rcases yk j i with h1 | h1
  ·rw [if_neg za];exact (h.no e).2 j h1 hk
  ·obtain rfl : j = i := by omega
   rw [if_pos ⟨rfl,by omega⟩];exact ⟨hm,rfl⟩⟩ }
def ObJ.ans (h:ObJ g P n R0 st q0 i ch q y l S) (hi:i < n) (hs:st.getD i false=false) (hln:q.sw.length=n) (hm:(q.sw.getD i default).shown≠shB (q.sw.getD i default).closed) {l':List Bool} (hp:P (Vsc g q i) l') (hz:StaIs g (Vsc g q i) z) (hzR:StaR z S') (hS:∀r∈S,InR r S'):ObJ g P n R0 st q0 (i + 1) true (Vsc g q i) z l' S':=
 ⟨hi,hz,hzR,fun r hr=>(h.sub r hr).mono hS,hp,fun _=>by have:=Zge (g:=g) (st:=st) hln hi hs hm;have:=h.le;omega,fun e=>by cases e⟩
end
end
end Go.Proofs.YtchfclmokpbldaaGreat
