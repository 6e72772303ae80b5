/-
  Merged texts. By an AI agent.
-/
import Derived.Test.YtchfclmokpbldaaGreatStatD
import Derived.Test.YtchfclmokpbldaaGreatStaG
import Derived.Test.YtchfclmokpbldaaGreatStaE
import Derived.Test.YtchfclmokpbldaaGreatAwakeP
set_option linter.all false
set_option maxHeartbeats 4000000
set_option maxRecDepth 20000
namespace Go.Proofs.YtchfclmokpbldaaGreat
open Go.Aw Go
section
section
variable {g:PSite} {p:PSta}
structure KeepW (p q:PSta):Prop where
 watches:q.watches=p.watches
 rest:q.rest=p.rest
def KeepW.trans {p q r:PSta} (h:KeepW p q) (k:KeepW q r):KeepW p r:=⟨k.watches.trans h.watches,k.rest.trans h.rest⟩
def U2e (z:Int):KeepW p (Vfb g p z):=by rw [Vfb];split <;> exact ⟨rfl,rfl⟩
def Kpd : ∀ (l : List Int) {p : PSta}, KeepW p (Vda g p l)
 | [],p=>⟨rfl,rfl⟩
 | z :: l,p=>(U2e z).trans (Kpd l)
def Keb (k : Int) : ∀ (l : List Int) {p : PSta}, KeepW p (Zu k p l)
 | [],p=>⟨rfl,rfl⟩
 | z :: l,p=>KeepW.trans (q:=Zg p k z 0) ⟨rfl,rfl⟩ (Keb k l)
def Kwd (vals : List Int) : ∀ k, KeepW p (darkTo g vals p k)
 | 0=>⟨rfl,rfl⟩
 | k + 1=>by
  refine (Kwd vals k).trans ?_
  rw [darkTo,Y9]
  split
  ·exact ⟨rfl,rfl⟩
  ·exact KeepW.trans (q:={ darkTo g vals p k with cuts:=(darkTo g vals p k).cuts.set k ⟨true,((darkTo g vals p k).cuts.getD k default).clear,Kia (g.site.zones.l.getD k default).rule.l vals⟩ }) ⟨rfl,rfl⟩ (U2e _)
def Zhf (a b:XCut):Prop:=b=a∨(a.off=false∧b.off=true∧b.clear=a.clear)
def Vgd (vals : List Int) : ∀ k, (darkTo g vals p k).cuts.length = p.cuts.length ∧ ∀ i : Nat, Zhf (p.cuts.getD i default) ((darkTo g vals p k).cuts.getD i default) ∧ (k ≤ i → (darkTo g vals p k).cuts.getD i default = p.cuts.getD i default)
 | 0=>⟨rfl,fun i=>⟨.inl rfl,fun _=>rfl⟩⟩
 | k + 1=>by
  obtain ⟨h1,h2⟩:=Vgd vals k
  rw [darkTo,Y9]
  split
  ·exact ⟨h1,fun i=>⟨(h2 i).1,fun h=>(h2 i).2 za⟩⟩
  ·rename_i hc
   rw [not_or,Bool.not_eq_true] at hc
   rw [Y4a]
   refine ⟨(yy).trans h1,fun i=>?_⟩
   show Zhf (p.cuts.getD i default) (((darkTo g vals p k).cuts.set k _).getD i default)∧(k + 1≤i→((darkTo g vals p k).cuts.set k _).getD i default=p.cuts.getD i default)
   rw [yh (l:=(darkTo g vals p k).cuts.set k _),yK]
   rcases Nat.decEq k i with h3 | h3
   ·rw [if_neg h3, ← yh]
    exact ⟨(h2 i).1,fun h=>(h2 i).2 za⟩
   ·subst h3
    rw [if_pos rfl]
    have h4:=(h2 k).2 (yl _)
    split
    ·exact ⟨.inr ⟨by rw [← h4];exact hc.1,rfl,by rw [← h4];rfl⟩,fun h=>absurd h za⟩
    ·rename_i h5
     have h6:p.cuts.getD k default=default:=by rw [yh,yr za];rfl
     rw [h4,h6] at hc
     rw [h6]
     exact ⟨.inl rfl,fun _=>rfl⟩
end
end
section
attribute [local irreducible] CJ LJ DJ Tri YV Gives U0 J3 Kj Uz RV J5 OwL.L
structure PAct where
 kind:Int
 n:Int
 m:Int
 wait:Int
 bytes:List Int
structure XAct where
 kind:Int
 n:Int
 m:Int
 wait:Int
 bytes:Arr Int
instance:Inhabited XAct:=⟨⟨0,0,0,0,⟨none,0,[]⟩⟩⟩
instance:Inhabited PAct:=⟨⟨0,0,0,0,[]⟩⟩
def Zef (a:PAct):Prop:=a.kind=0∨a.kind=1∨a.kind=2
instance (a:PAct):Decidable (Zef a):=by unfold Zef;infer_instance
end
section
section
variable {g:PSite} {p:PSta}
def Zra (p:PSta):Bool:=(p.cuts.getD 0 default).off
def U5b (sw:List XSwitch) (s sh:Int):(Ud sw s sh).length=sw.length:=by rw [Ud];simp
end
end
section
structure SwGo (t:Int) (a b:XSwitch):Prop where
 above:b.above=a.above
 or_:(b.closed=a.closed∧b.since=a.since∧b.shown=a.shown∧(b.late=a.late∨b.late=true))∨(a.closed=true∧b.closed=false∧b.since=t∧b.shown=0)
def SwGo.refl (t:Int) (a:XSwitch):SwGo t a a:=⟨rfl,.inl ⟨rfl,rfl,rfl,.inl rfl⟩⟩
def SwGo.trans {t:Int} {a b c:XSwitch} (h:SwGo t a b) (k:SwGo t b c):SwGo t a c:=by
 refine ⟨k.above.trans h.above,?_⟩;rcases h.or_ with ⟨h1,h2,h3,h4⟩ | ⟨h1,h2,h3,h4⟩;·
  rcases k.or_ with ⟨k1, k2, k3, k4⟩ | ⟨k1, k2, k3, k4⟩;·
   refine .inl ⟨k1.trans h1, k2.trans h2, k3.trans h3, ?_⟩;rcases k4 with k4 | k4;·rw [k4];exact h4
   ·exact .inr k4
  ·exact .inr ⟨h1.symm.trans k1,k2,k3,k4⟩
 ·
  rcases k.or_ with ⟨k1, k2, k3, k4⟩ | ⟨k1, k2, k3, k4⟩;·exact .inr ⟨h1,k1.trans h2,k2.trans h3,k3.trans h4⟩
  ·rw [h2] at k1;cases k1
def SwGo.opn {t:Int} {a b:XSwitch} (h:SwGo t a b) (ha:a.closed=false):b.closed=false∧b.since=a.since∧b.shown=a.shown∧(a.late=true→b.late=true):=by
 rcases h.or_ with ⟨h1,h2,h3,h4⟩ | ⟨h1,h2,h3,h4⟩;·exact ⟨h1.trans ha,h2,h3,fun h=>by rcases h4 with h4 | h4;rw [h4];exact h;exact h4⟩
 ·rw [ha] at h1;cases h1
structure SwsGo (t:Int) (A B:List XSwitch):Prop where
 len:B.length=A.length
 at_:∀i:Nat,SwGo t (A.getD i default) (B.getD i default)
def SwsGo.refl (t:Int) (A:List XSwitch):SwsGo t A A:=⟨rfl,fun i=>.refl t _⟩
def SwsGo.trans {t:Int} {A B C:List XSwitch} (h:SwsGo t A B) (k:SwsGo t B C):SwsGo t A C:=⟨k.len.trans h.len,fun i=>(h.at_ i).trans (k.at_ i)⟩
def Uh {α:Type} (l:List α) (j i:Nat) (y d:α):(l.set j y).getD i d=if i=j∧j < l.length then y else l.getD i d:=by
 rw [yh,yK];by_cases h:j=i;·
  subst h;rw [if_pos rfl];by_cases h2:j < l.length;·rw [if_pos h2,if_pos ⟨rfl,h2⟩];rfl
  ·rw [if_neg h2,if_neg (fun h=>h2 h.2),yh,yr za]
 ·rw [if_neg h,if_neg (fun k=>h k.1.symm),← yh]
def SwsGo.set {t:Int} {A:List XSwitch} {j:Nat} {y:XSwitch} (h:SwGo t (A.getD j default) y):SwsGo t A (A.set j y):=
 ⟨yy,fun i=>by
  rw [Uh]
  split
  ·rename_i k;rw [k.1];exact h
  ·exact .refl t _⟩
def Yxa {A:List XSwitch} {s t:Int}:SwsGo t A (U5 A s t):=by
 rw [U5];split;·rename_i h;exact .set ⟨rfl,.inr ⟨h,rfl,rfl,rfl⟩⟩
 ·exact .refl t A
def Uib (A:List XSwitch) (s t:Int):((U5 A s t).getD s.toNat default).closed=false:=by
 rw [U5];split;·
  rw [Uh];split;·rfl
  ·rename_i h1 h2;rw [yh,yr za] at h1;cases h1
 ·rename_i h;simpa using h
def Z1b {A:List XSwitch} {s t:Int} {j:Nat} (h:((U5 A s t).getD j default).late=true):(A.getD j default).late=true:=by
 rw [U5] at h;split at h;·
  rw [Uh] at h;split at h;·cases h
  ·exact h
 ·exact h
def tickAt_go {rp t:Int} {y:XTick} {i:Nat}:SwsGo t y.sw (tickAt rp t y i).sw:=by
 have h1:SwsGo t y.sw (y.sw.set i (Uhb (y.sw.getD i default))):=.set ⟨rfl,.inl ⟨rfl,rfl,rfl,.inr rfl⟩⟩;rw [tickAt];split;·
  split;·exact h1.trans Yxa
  ·exact h1
 ·exact .refl t _
def J1b {A : List XSwitch} {rp t : Int} (k : Nat) : ∀ d, SwsGo t (Vh A rp t k).sw (Vh A rp t (k + d)).sw
 | 0=>.refl t _
 | d + 1=>(J1b k d).trans tickAt_go
def Yie {A:List XSwitch} {rp t:Int}:SwsGo t A (Jda A rp t).sw:=by have:=J1b (A:=A) (rp:=rp) (t:=t) 0 A.length;rw [yCa] at this;exact this
def J1e {A:List XSwitch} {rp t:Int} {i:Nat} (hi:i < A.length) (h1:(A.getD i default).closed=false) (h2:(A.getD i default).shown≠-1) (h3:rp≤t - (A.getD i default).since):((Jda A rp t).sw.getD i default).late=true:=by
 have g1:SwsGo t A (Vh A rp t (A.length - 1 - i)).sw:=by have:=J1b (A:=A) (rp:=rp) (t:=t) 0 (A.length - 1 - i);rw [yCa] at this;exact this
 have o1:=(g1.at_ i).opn h1;have hl:((Vh A rp t (A.length - 1 - i + 1)).sw.getD i default).late=true:=by
  rw [Vh,show A.length - 1 - (A.length - 1 - i)=i by omega];cases hb:((Vh A rp t (A.length - 1 - i)).sw.getD i default).late with
  | true=>exact ((tickAt_go (rp:=rp) (y:=Vh A rp t (A.length - 1 - i)) (i:=i)).at_ i).opn o1.1 |>.2.2.2 hb
  | false=>
   (have hw:Zya ((Vh A rp t (A.length - 1 - i)).sw.getD i default)=true:=by rw [Zya,o1.1,hb,o1.2.2.1,decide_eq_true h2];rfl);(have hset:(((Vh A rp t (A.length - 1 - i)).sw.set i (Uhb ((Vh A rp t (A.length - 1 - i)).sw.getD i default))).getD i default)=Uhb ((Vh A rp t (A.length - 1 - i)).sw.getD i default):=by rw [Uh,if_pos ⟨rfl,by rw [g1.len];exact hi⟩]);rw [tickAt,if_pos ⟨hw,by rw [o1.2.1];exact h3⟩];split;·
    (refine ((Yxa (A:=(Vh A rp t (A.length - 1 - i)).sw.set i (Uhb ((Vh A rp t (A.length - 1 - i)).sw.getD i default)))).at_ i).opn ?_ |>.2.2.2 ?_);·rw [hset];exact o1.1
    ·rw [hset];rfl
   ·show (((Vh A rp t (A.length - 1 - i)).sw.set i (Uhb ((Vh A rp t (A.length - 1 - i)).sw.getD i default))).getD i default).late = true;rw [hset];rfl
 have g2:=J1b (A:=A) (rp:=rp) (t:=t) (A.length - 1 - i + 1) i;rw [show A.length - 1 - i + 1 + i=A.length by omega] at g2;have hc:((Vh A rp t (A.length - 1 - i + 1)).sw.getD i default).closed=false:=by rw [Vh];exact ((tickAt_go.at_ i).opn o1.1).1
 exact ((g2.at_ i).opn hc).2.2.2 hl
def LateUp (A:List XSwitch):Prop:=∀i:Nat,(A.getD i default).late=true→0≤(A.getD i default).above→(A.getD (A.getD i default).above.toNat default).closed=false
def LateUp.go {t:Int} {A B:List XSwitch} (h:LateUp A) (k:SwsGo t A B) (hl:∀j:Nat,(B.getD j default).late=true→(A.getD j default).late=true∨(0≤(B.getD j default).above→(B.getD (B.getD j default).above.toNat default).closed=false)):LateUp B:=fun i h1 h2=>by
 rcases hl i h1 with h3 | h3
 ·rw [(k.at_ i).above] at h2 ⊢
  exact ((k.at_ _).opn (h i h3 h2)).1
 ·exact h3 h2
def LateUp.opn {A:List XSwitch} (h:LateUp A) (s t:Int):LateUp (U5 A s t):=h.go Yxa fun j hj=>.inl (Z1b hj)
def LateUp.tickAt {rp t:Int} {y:XTick} {i:Nat} (h:LateUp y.sw):LateUp (tickAt rp t y i).sw:=by
 refine h.go tickAt_go fun j hj=>?_;have ha:=((tickAt_go (rp:=rp) (t:=t) (y:=y) (i:=i)).at_ j).above;rw [ha];rw [Go.Proofs.YtchfclmokpbldaaGreat.tickAt] at hj ⊢;split at hj;·
  rename_i hw;rw [if_pos hw];split at hj;·
   rename_i hc;rw [if_pos hc];have:=Z1b hj;rw [Uh] at this;split at this;·rename_i hji;rw [hji.1];exact .inr fun _=>Uib _ _ _
   ·exact .inl this
  ·
   rename_i hc;rw [if_neg hc];have hj:((y.sw.set i (Uhb (y.sw.getD i default))).getD j default).late=true:=hj;rw [Uh] at hj;split at hj;·
    rename_i hji;rw [hji.1];refine .inr fun h0=>?_;show ((y.sw.set i (Uhb (y.sw.getD i default))).getD _ default).closed=false;cases hb:((y.sw.set i (Uhb (y.sw.getD i default))).getD (y.sw.getD i default).above.toNat default).closed with
    | true=>exact absurd ⟨h0,hb⟩ hc
    | false=>rfl
   ·exact .inl hj
 ·exact .inl hj
def LateUp.tick {A:List XSwitch} (h:LateUp A) (rp t:Int):LateUp (Jda A rp t).sw:=by
 have:∀k,LateUp (Vh A rp t k).sw:=by
  intro k;induction k with
  | zero=>exact h
  | succ k ih=>exact ih.tickAt
 exact this _
section
variable {g:PSite} {p:PSta}
def J8d : ∀ (l : List Int) {p : PSta}, SwsGo p.time p.sw (Vda g p l).sw
 | [],p=>.refl _ _
 | z :: l,p=>by
  have h1:SwsGo p.time p.sw (Vfb g p z).sw:=by rw [Ucb];exact Yxa
  have h2:=J8d l (p:=Vfb g p z)
  rw [Yzb] at h2
  exact h1.trans h2
def J0e : ∀ (l : List Int) {p : PSta}, LateUp p.sw → LateUp (Vda g p l).sw
 | [],p,h=>h
 | z :: l,p,h=>J0e l (p:=Vfb g p z) (by rw [Ucb];exact h.opn _ _)
def Vhc (k : Int) : ∀ (l : List Int) {p : PSta}, (Zu k p l).sw = p.sw
 | [],p=>rfl
 | z :: l,p=>Vhc k l (p:=Zg p k z 0)
def Zxc (vals:List Int) (z:Nat):SwsGo p.time p.sw (Y9 g vals p z).sw:=by
 rw [Y9];split;·exact .refl _ _
 ·rw [Ucb];exact Yxa
def Kye (vals:List Int) (z:Nat) (h:LateUp p.sw):LateUp (Y9 g vals p z).sw:=by
 rw [Y9];split;·exact h
 ·rw [Ucb];exact h.opn _ _
def Vke (vals : List Int) : ∀ k, SwsGo p.time p.sw (darkTo g vals p k).sw
 | 0=>.refl _ _
 | k + 1=>by
  have h:=Zxc (g:=g) (p:=darkTo g vals p k) vals k
  rw [Kdb] at h
  exact (Vke vals k).trans h
def Kae (vals : List Int) (h : LateUp p.sw) : ∀ k, LateUp (darkTo g vals p k).sw
 | 0=>h
 | k + 1=>Kye vals k (Kae vals h k)
def Zyd:SwsGo p.time p.sw (settleA g p).sw:=by rw [settleA];exact J8d (g:=g) (cutsN g.site (Uwa g p) p.cuts p.time) (p:={ p with watches:=valuesW g.site p.meas p.watches (flP g p) p.time,cuts:=cutsC g.site (Uwa g p) p.cuts p.time })
def Yka:(settleA g p).time=p.time:=by rw [settleA,V4c]
def K0b:(settleB g p).sw=(Jda p.sw g.rp p.time).sw:=by rw [settleB,Vhc,Vhc]
def Z3c:(settleB g p).time=p.time:=by rw [settleB,Zea,Zea]
def Z8d:SwsGo p.time p.sw (settleB g p).sw:=by rw [K0b];exact Yie
def Yya (t:Int):SwsGo t p.sw (settleA g { p with time:=t }).sw∧SwsGo t (settleA g { p with time:=t }).sw (settleB g (settleA g { p with time:=t })).sw∧SwsGo t (settleB g (settleA g { p with time:=t })).sw (Je g p t).sw:=by have h1:SwsGo t p.sw (settleA g { p with time:=t }).sw:=Zyd (p:={ p with time:=t });have h2:SwsGo (settleA g { p with time:=t }).time (settleA g { p with time:=t }).sw (settleB g (settleA g { p with time:=t })).sw:=Z8d;rw [Yka] at h2;have h3:=Vke (g:=g) (p:=settleB g (settleA g { p with time:=t })) (Uwa g { p with time:=t }) (settleB g (settleA g { p with time:=t })).cuts.length;rw [Z3c,Yka] at h3;exact ⟨h1,h2,h3⟩
def U0a (t:Int):SwsGo t p.sw (Je g p t).sw:=by obtain ⟨h1,h2,h3⟩:=Yya (g:=g) (p:=p) t;exact (h1.trans h2).trans h3
def U3e (t:Int) (h:LateUp p.sw):LateUp (Je g p t).sw:=by rw [Je];refine Kae _ ?_ _;rw [K0b];refine LateUp.tick ?_ _ _;rw [settleA];exact J0e _ (p:={ p with time:=t,watches:=_,cuts:=_ }) h
def Ukd {t:Int} {i:Nat} (hi:i < p.sw.length) (h1:(p.sw.getD i default).closed=false) (h2:(p.sw.getD i default).shown≠-1) (h3:g.rp≤t - (p.sw.getD i default).since):((Je g p t).sw.getD i default).late=true:=by obtain ⟨g1,g2,g3⟩:=Yya (g:=g) (p:=p) t;have o1:=(g1.at_ i).opn h1;have o2:=(g2.at_ i).opn o1.1;refine ((g3.at_ i).opn o2.1).2.2.2 ?_;rw [K0b,Yka];exact J1e (by rw [g1.len];exact hi) o1.1 (by rw [o1.2.2.1];exact h2) (by rw [o1.2.1];exact h3)
def Vsf (g:PSite):Nat:=(g.zn.getD 0 0).toNat
def U3d : ∀ (l : List Int) {p : PSta}, (0 : Int) ∈ l → ((Vda g p l).sw.getD (Vsf g) default).closed = false
 | [],p,h=>by cases h
 | z :: l,p,h=>by
  have hg:=J8d (g:=g) l (p:=Vfb g p z)
  rcases List.mem_cons.1 h with h | h
  ·subst h
   refine ((hg.at_ _).opn ?_).1
   rw [Ucb]
   exact Uib _ _ _
  ·exact U3d l h
def K5f {v t:Int} {c:XCut} (h:(Ksb v c t).off=true):c.off=true∨v≠-1:=by
 rw [Ksb] at h;split at h;·
  split at h;·exact .inl h
  ·exact .inl h
 ·exact .inr zg
def Z7d (hI:Inv g p) (h1:p.cuts.length=1) {t:Int} (ht:p.time≤t∧t≤2147483648) (h:Zra p=true→(p.sw.getD (Vsf g) default).closed=false):Zra (Je g p t)=true→((Je g p t).sw.getD (Vsf g) default).closed=false:=by
 have hI1:=hI.at ht.1 ht.2;obtain ⟨g1,g2,g3⟩:=Yya (g:=g) (p:=p) t;obtain ⟨p1,hp1⟩:∃p1:PSta,p1={ p with time:=t }:=⟨_,rfl⟩;obtain ⟨v,hv⟩:∃v,v=Uwa g p1:=⟨_,rfl⟩;obtain ⟨q,hq⟩:∃q,q=settleB g (settleA g p1):=⟨_,rfl⟩;have hce:=hI1.cutErr;rw [← hp1] at hI1 hce g1 g2 g3;have e4:p1.cuts=p.cuts:=by rw [hp1]
 have e3:p1.time=t:=by rw [hp1]
 rw [← hv,e3,e4] at hce;have hqc:q.cuts=cutsC g.site v p.cuts t:=by rw [hq,Ula,settleA,Yza,← hv,e3,e4]
 have hq0:Zra q=true→(q.sw.getD (Vsf g) default).closed=false:=by
  intro ho;rw [hq];refine ((g2.at_ _).opn ?_).1;rw [Zra,hqc,cutsC,if_neg zU,yh,yt,yN za] at ho;have ho:(cutAt g.site v p.cuts t 0).off=true:=ho;rw [cutAt] at ho;cases hoff:Zra p with
  | true=>exact ((g1.at_ _).opn (h hoff)).1
  | false=>
   have hoff':(p.cuts.getD 0 default).off=false:=hoff;rcases K5f ho with h2 | h2;·rw [hoff'] at h2;cases h2
   ·rw [settleA, ← hv, e3, e4];refine U3d _ ?_;rw [cutsN,if_neg zU,h1,V2b];exact ⟨0,by decide,rfl,h2,hoff'⟩
 have hqn:q.cuts.length=1:=by rw [hqc,cutsC,if_neg zU];simp [h1]
 have e:Je g p t=Y9 g v q 0:=by rw [Je,← hp1,← hq,← hv,hqn];rfl
 rw [e];have hgo:=Zxc (g:=g) (p:=q) v 0;intro ho;rw [Y9] at ho ⊢;split at ho;·rename_i hc;rw [if_pos hc];exact hq0 ho
 ·rename_i hc;rw [if_neg hc,Ucb];exact Uib _ _ _
end
end
section
section
variable {g:PSite} {p:PSta}
end
end
section
def Zhb {l : List XNode} {vals : List Int} (h : ∀ x ∈ l, x.kind = 1 → vals.getD x.cond.toNat 0 = 0) : ∀ k, k ≤ l.length → ∀ j, (Ul l vals k).getD j 0 = 0
 | 0,_,j=>by rw [Ul];rfl
 | k + 1,hk,j=>by
  have ih:=Zhb h k za
  have hg:=Jw (l:=l) (k:=k) default za
  have hn:Upa vals (Ul l vals k) (l.getD k default)=0:=by
   rw [Upa]
   split
   ·rename_i h1
    have:=h _ (yj hg) h1
    rw [Zyc,this];split <;> rfl
   split
   ·rw [ih];rfl
   split
   ·rw [ih,ih];rfl
   ·rw [ih,ih];rfl
  rw [Ul,hn,yh,List.getElem?_append]
  split
  ·rw [← yh];exact ih j
  ·cases hj:j - (Ul l vals k).length with
   | zero=>rfl
   | succ n=>rfl
def Vee {l:List XNode} {vals:List Int} (h:∀x∈l,x.kind=1→vals.getD x.cond.toNat 0=0):Kia l vals=0:=by
 rw [Kia];split;·exact Zhb h _ (yl _) _
 ·rfl
def Deaf (S:List XSens) (m:List XMeas) (t:Int):Prop:=∀i:Nat,i < S.length→atS (S.getD i default) (m.getD i default) t=nothingS
def Deaf.known {S:List XSens} {m:List XMeas} {t:Int} (h:Deaf S m t) (n:Int):J5a S m n t=nothingS:=by
 rw [J5a];split;·rename_i k;exact h _ za
 ·rfl
def K8a (c:XCond):Prop:=c.kind=1∨c.kind=2∨c.kind=3
instance (c:XCond):Decidable (K8a c):=by unfold K8a;infer_instance
def Usd {S:List XSens} {m:List XMeas} {fl:List XSpan} {c:XCond} {w:XWatch} {t:Int} (h:Deaf S m t) (hc:K8a c) (hl:-562949953421312≤c.value∧c.value≤562949953421312) (hv:c.kind=1→-562949953421312≤c.level.cut∧c.level.cut≤562949953421312):Khb S m fl c w t=0:=by
 have e1:∀n:Int,-562949953421312≤n∧n≤562949953421312→Zp nothingS n=0:=fun n hn=>by have a:nothingS.low= -1125899906842624:=rfl;have b:nothingS.high=1125899906842624:=rfl;rw [Zp,if_neg za,if_neg za,if_neg za]
 rw [Khb,h.known];unfold K8a at hc;rw [if_neg za];split;·rw [e1 _ hl];rfl
 split;·rfl
 rw [if_neg za];have hk:c.kind=1:=by omega
 have e2:=e1 _ (hv hk);have e3:Vk c.level w nothingS t=⟨true,-1,t⟩:=by rw [Vk,if_pos (by rw [e2];decide)]
 rw [e3,if_neg (by show ¬ true=false;decide),e2,if_neg ze]
section
variable {g:PSite} {p:PSta}
def Z8b (t:Int):(Je g p t).watches=valuesW g.site p.meas p.watches (flP g { p with time:=t }) t:=by rw [Je];refine (Kwd _ _).watches.trans ?_;rw [settleB];refine (Keb _ _).watches.trans ((Keb _ _).watches.trans ?_);show (settleA g { p with time:=t }).watches=_;rw [settleA];exact (Kpd _).watches
def V2e (c:XCut):Prop:=c.off=true∧c.clear= -1
def Uid {vals:List Int} {i:Nat} (h:V2e (p.cuts.getD i default)) (z:Nat):V2e ((Y9 g vals p z).cuts.getD i default):=by
 rw [Y9];split;·exact h
 ·
  rw [Y4a];show V2e ((List.set _ _ _).getD i default);rw [yh,yK];split;·
   rename_i hz;subst hz;split;·exact ⟨rfl,h.2⟩
   ·rename_i hl;have:=h.1;rw [yh,yr za] at this;cases this
  ·rw [← yh];exact h
def Yrb {vals : List Int} {i : Nat} (h : V2e (p.cuts.getD i default)) : ∀ k, V2e ((darkTo g vals p k).cuts.getD i default)
 | 0=>h
 | k + 1=>Uid (Yrb h k) k
def Jzd {t:Int} {i:Nat} (hI:Inv g { p with time:=t }) (hi:i < p.cuts.length) (hv:Kia (g.site.zones.l.getD i default).rule.l (Uwa g { p with time:=t })≠-1):V2e ((Je g p t).cuts.getD i default):=by have hce:=hI.cutErr;rw [Je];refine Yrb ?_ _;rw [settleB,U2a,U2a];show V2e ((settleA g { p with time:=t }).cuts.getD i default);rw [settleA,Yza];show V2e ((cutsC g.site (Uwa g { p with time:=t }) p.cuts t).getD i default);rw [cutsC,if_neg (fun h=>h hce),yh,yt,yN hi];show V2e (Ksb _ _ t);rw [Ksb,if_neg hv];split <;> exact ⟨rfl,rfl⟩
def Yne {t:Int} {i:Nat} (hI:Inv g p) (ht:p.time≤t∧t≤2147483648) (hd:Deaf g.site.sensors.l p.meas t) (hi:i < g.site.zones.l.length) (hn:∀x∈(g.site.zones.l.getD i default).rule.l,x.kind=1→K8a (g.site.conds.l.getD x.cond.toNat default)):V2e ((Je g p t).cuts.getD i default):=by
 have hIT:=hI.at ht.1 ht.2;have hve:valuesErr g.site p.meas p.watches (flP g { p with time:=t }) t=0:=hIT.valErr;refine Jzd hIT (by rw [hI.clen];exact hi) ?_;rw [Vee];·decide
 intro x hx h1;have hms:=hn x hx h1;show (valuesV g.site p.meas p.watches (flP g { p with time:=t }) t).getD x.cond.toNat 0=0;rw [valuesV,if_neg (fun h=>h hve),yh,yt];rcases yk x.cond.toNat p.watches.length with hl | hl;·rw [yN hl];have hce:=hI.sok.cond _ (yj (Jw (l:=g.site.conds.l) (k:=x.cond.toNat) default (by rw [← hI.wlen];exact hl)));have hf:=Knb hce;refine Usd hd hms za fun hk=>?_;have hlv:=Ybd hce hk;rw [Jba] at hlv;omega
 ·rw [yr (by rw [yyb];exact hl)];rfl
end
end
section
def Z8c {l:XLevel} {w:XWatch} {x:XSpan} {t:Int} (ht:0≤t):Vk l (Vk l w x t) x t=Vk l w x t:=by
 by_cases h1:Zp x l.cut≠-1;·
  have e : ∀ w, Vk l w x t = ⟨true, -1, t⟩ := fun w => by rw [Vk, if_pos h1]
  rw [e,e]
 by_cases h2:w.over=false;·
  have e : ∀ w : XWatch, w.over = false → Vk l w x t = ⟨false, w.since, t⟩ := fun w h => by rw [Vk, if_neg h1, if_pos h]
  rw [e _ h2,e _ rfl]
 by_cases h3:l.clear < x.high;·
  have e : ∀ w : XWatch, w.over ≠ false → Vk l w x t = ⟨true, -1, t⟩ := fun w h => by rw [Vk, if_neg h1, if_neg h, if_pos h3]
  rw [e _ h2,e _ (by show true≠false;decide)]
 obtain ⟨s,hs⟩:∃s,s=if w.since < 0 then t else w.since:=⟨_,rfl⟩;have hs0:0≤s:=by rw [hs];split <;> omega
 have e:∀w:XWatch,w.over≠false→(if w.since < 0 then t else w.since)=s→Vk l w x t=if l.delay≤t - s then ⟨false,-1,t⟩ else ⟨true,s,t⟩:=fun w h k=>by rw [Vk,if_neg h1,if_neg h,if_neg h3,k]
 rw [e _ h2 hs.symm];by_cases h4:l.delay≤t - s;·rw [if_pos h4,Vk,if_neg h1,if_pos rfl]
 ·rw [if_neg h4,e _ (by show true≠false;decide) (by show (if s < 0 then t else s)=s;rw [if_neg za]),if_neg h4]
def Uee {v t:Int} {c:XCut} (ht:0≤t):Ksb v (Ksb v c t) t=Ksb v c t:=by
 obtain ⟨o,cl,r⟩:=c;by_cases h1:v= -1;·
  by_cases h2 : cl = -1;·simp only [Ksb, if_pos h1, if_pos h2];rw [if_neg za]
  ·simp only [Ksb,if_pos h1,if_neg h2]
 ·cases o <;> simp [Ksb,h1]
def Ubd {S:List XSens} {m:List XMeas} {fl:List XSpan} {c:XCond} {w:XWatch} {t:Int} (ht:0≤t):Khb S m fl c (Zx S m c w t) t=Khb S m fl c w t:=by
 by_cases hk:c.kind=1;·rw [Zx, if_pos hk];simp only [Khb,Z8c ht]
 ·rw [Zx,if_neg hk]
def Kkd {S:List XSens} {m:List XMeas} {c:XCond} {w:XWatch} {t:Int} (ht:0≤t):Zx S m c (Zx S m c w t) t=Zx S m c w t:=by
 by_cases hk:c.kind=1;·simp only [Zx,if_pos hk,Z8c ht]
 ·simp only [Zx,if_neg hk]
def J2e (g:PSite) (p:PSta):Int:=Kia (g.site.zones.l.getD 0 default).rule.l (Uwa g p)
structure SetD (g:PSite) (q:PSta):Prop where
 w:valuesW g.site q.meas q.watches (flP g q) q.time=q.watches
 c:Ksb (J2e g q) (q.cuts.getD 0 default) q.time=q.cuts.getD 0 default
 k:Zd q.cuts q.rest=q.rest
section
variable {g:PSite} {p q:PSta}
def SetD.off (h:SetD g q) (hv:J2e g q≠-1):Zra q=true:=by have:=h.c;rw [Zra,← this,Ksb,if_neg hv];split <;> rfl
def SetD.turn {r:PSta} (h:SetD g q) (e1:r.meas=q.meas) (e2:r.watches=q.watches) (e3:r.time=q.time) (hc:Ksb (J2e g q) (r.cuts.getD 0 default) q.time=r.cuts.getD 0 default) (hk:Zd r.cuts r.rest=r.rest):SetD g r:=by
 have ef:flP g r=flP g q:=by rw [flP,flP,e1,e3]
 have ev:J2e g r=J2e g q:=by rw [J2e,J2e,Uwa,Uwa,e1,e2,e3,ef]
 exact ⟨by rw [e1,e2,e3,ef];exact h.w,by rw [ev,e3];exact hc,hk⟩
def J7d (hI:Inv g p) (h1:p.cuts.length=1) {t:Int} (ht:p.time≤t∧t≤2147483648):SetD g (Je g p t):=by
 have hI1:=hI.at ht.1 ht.2;have hIs:=hI.settle ht.1 ht.2;have kp:=V9 (g:=g) (p:=p) t;have hst:=Vy (g:=g) (p:=p) t;obtain ⟨p1,hp1⟩:∃p1:PSta,p1={ p with time:=t }:=⟨_,rfl⟩;obtain ⟨v,hv⟩:∃v,v=Uwa g p1:=⟨_,rfl⟩;obtain ⟨q,hq⟩:∃q,q=settleB g (settleA g p1):=⟨_,rfl⟩;obtain ⟨r,hr⟩:∃r,r=Je g p t:=⟨_,rfl⟩;have hrq:r=darkTo g v q q.cuts.length:=by rw [hr,Je,← hp1,← hq,← hv]
 have hrw:r.watches=valuesW g.site p.meas p.watches (flP g p1) t:=by rw [hr,Z8b,hp1]
 rw [← hr] at kp hst hIs ⊢;rw [← hp1] at hI1;have e1:p1.meas=p.meas:=by rw [hp1]
 have e2:p1.watches=p.watches:=by rw [hp1]
 have e3:p1.time=t:=by rw [hp1]
 have e4:p1.cuts=p.cuts:=by rw [hp1]
 have e5:p1.rest=p.rest:=by rw [hp1]
 have ht0:0≤t:=by have:=hI.time;omega
 have hfl:flP g r=flP g p1:=by rw [flP,flP,kp.meas,hst,e1,e3]
 have hE0:valuesErr g.site p.meas p.watches (flP g p1) t=0:=by have:=hI1.valErr;rw [e1,e2,e3] at this;exact this
 have hE1:valuesErr g.site p.meas r.watches (flP g p1) t=0:=by have:=hIs.valErr;rw [kp.meas,hst,hfl] at this;exact this
 have hW:r.watches=(List.range p.watches.length).map fun i=>Zx g.site.sensors.l p.meas (g.site.conds.l.getD i default) (p.watches.getD i default) t:=by rw [hrw,valuesW,if_neg (by rw [hE0];decide)]
 have hWn:r.watches.length=p.watches.length:=by rw [hW];simp
 have hWi:∀i,i < p.watches.length→r.watches.getD i default=Zx g.site.sensors.l p.meas (g.site.conds.l.getD i default) (p.watches.getD i default) t:=fun i hi=>by rw [hW,Kef default hi]
 have hw:valuesW g.site r.meas r.watches (flP g r) r.time=r.watches:=by rw [kp.meas,hst,hfl,valuesW,if_neg (by rw [hE1];decide),hWn];refine Eq.trans ?_ hW.symm;refine List.map_congr_left fun i hi=>?_;rw [hWi i (List.mem_range.1 hi),Kkd ht0]
 have hvt:Uwa g r=v:=by rw [hv,Uwa,Uwa,kp.meas,hst,hfl,e1,e2,e3,valuesV,valuesV,if_neg (by rw [hE1];decide),if_neg (by rw [hE0];decide),hWn];refine List.map_congr_left fun i hi=>?_;rw [hWi i (List.mem_range.1 hi),Ubd ht0]
 have hce:=hI1.cutErr;rw [← hv,e3,e4] at hce;have hqc:q.cuts=cutsC g.site v p.cuts t:=by rw [hq,Ula,settleA,Yza,← hv,e3,e4]
 have hqC:q.cuts=(List.range p.cuts.length).map (cutAt g.site v p.cuts t):=by rw [hqc,cutsC,if_neg zU]
 have hqn:q.cuts.length=p.cuts.length:=by rw [hqC];simp
 have hDC:=Vgd (g:=g) (p:=q) v q.cuts.length;rw [← hrq] at hDC;have hq0:q.cuts.getD 0 default=Ksb (Kia (g.site.zones.l.getD 0 default).rule.l v) (p.cuts.getD 0 default) t:=by rw [hqC,Kef default za,cutAt]
 have hto:=(hDC.2 0).1;have hqr:q.rest=Zd q.cuts p.rest:=by
  have h1:(settleA g p1).rest=p.rest:=by rw [settleA];exact (Kpd _).rest.trans e5
  have h2:q.cuts=(settleA g p1).cuts:=by rw [hq,Ula]
  rw [h2,hq,settleB];refine (Keb _ _).rest.trans ((Keb _ _).rest.trans ?_);show Zd (settleA g p1).cuts (settleA g p1).rest=_;rw [h1]
 have hrr:r.rest=Zd q.cuts p.rest:=by rw [hrq];exact (Kwd v _).rest.trans hqr
 refine ⟨hw,?_,?_⟩;·
  rw [J2e, hvt, hst];rw [hq0] at hto;rcases hto with h | h;·rw [h];exact Uee ht0
  ·
   obtain ⟨h2, h3, h4⟩ := h;(have hv1:Kia (g.site.zones.l.getD 0 default).rule.l v= -1:=by refine Decidable.byContradiction fun hne=>?_;rw [Ksb,if_neg hne] at h2;split at h2 <;> cases h2);rw [hv1] at h4 ⊢;have:(r.cuts.getD 0 default).clear≠-1:=by
    rw [h4,Ksb,if_pos rfl];split;·show t≠-1;omega
    ·assumption
   rw [Ksb,if_pos rfl,if_neg this]
 ·
  rw [Zd, if_pos];rw [hrr];unfold Zd;split;·
   rename_i hk;rcases hk with hk | ⟨hk1,hk2,hk3⟩;·exact .inl hk
   ·
    refine .inr ⟨by rw [hDC.1]; exact hk1, ?_⟩;rcases (hDC.2 p.rest.zone.toNat).1 with h | h;·rw [h];exact ⟨hk2,hk3⟩
    ·rw [h.2.2];exact ⟨h.2.1,hk3⟩
  ·exact .inl rfl
def Jxd (hI:Inv g q) (h:SetD g q) (h1:q.cuts.length=1) (hd:Jda q.sw g.rp q.time=⟨q.sw,[],[]⟩) (hk:Zra q=true∨Zdd g q.sw 0=false):Je g q q.time=q:=by
 have hce:=hI.cutErr;have hcl:q.cuts=[q.cuts.getD 0 default]:=by obtain ⟨c,hc⟩:=List.length_eq_one_iff.1 h1;rw [hc];rfl
 have hC:cutsC g.site (Uwa g q) q.cuts q.time=q.cuts:=by rw [cutsC,if_neg zU,h1];show [cutAt g.site (Uwa g q) q.cuts q.time 0]=q.cuts;rw [cutAt];have:=h.c;rw [J2e] at this;rw [this];exact hcl.symm
 have hN:cutsN g.site (Uwa g q) q.cuts q.time=[]:=by
  rw [cutsN,if_neg zU,h1];refine List.eq_nil_iff_forall_not_mem.2 fun x hx=>?_;obtain ⟨k,hk,_,h2,h3⟩:=(V2b _).1 hx;obtain rfl:k=0:=by omega
  have:=h.off h2;rw [Zra,h3] at this;cases this
 have hA:settleA g q=q:=by rw [settleA,hN,hC,h.w];rfl
 have hB:settleB g q=q:=by rw [settleB,hd,h.k];rfl
 have hD:darkTo g (Uwa g q) q 1=q:=by rw [darkTo,darkTo,Y9];exact if_pos hk
 show darkTo g (Uwa g { q with time:=q.time }) (settleB g (settleA g { q with time:=q.time })) (settleB g (settleA g { q with time:=q.time })).cuts.length=q;have e:({ q with time:=q.time }:PSta)=q:=rfl;rw [e,hA,hB,h1];exact hD
end
end
end Go.Proofs.YtchfclmokpbldaaGreat
