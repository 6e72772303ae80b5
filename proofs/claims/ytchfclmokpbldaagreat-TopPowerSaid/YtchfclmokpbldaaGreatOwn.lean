/-
  Own arrays of rows, own slices, and lists of own slices. By an AI agent; no person has read it.
-/
import Derived.Test.YtchfclmokpbldaaGreatData
set_option linter.all false
set_option maxHeartbeats 4000000
namespace Go.Aw
open Go
def Vac {α : Type} {f : α → List Value} {wd : Nat} (hf : ∀ x, (f x).length = wd) : ∀ (l : List α) (i j : Nat), j < wd → (l.flatMap f)[i * wd + j]? = (l[i]?).bind fun x => (f x)[j]?
 | [],i,j,_=>by simp
 | x :: l,0,j,hj=>by
  rw [yM,yV (by rw [hf];omega)]
  simp
 | x :: l,i + 1,j,hj=>by
  rw [yM,yX (by rw [hf,yva];omega),hf]
  rw [show (i + 1) * wd + j - wd=i * wd + j by rw [yva];omega]
  rw [Vac hf l i j hj]
  simp
def Uo {α : Type} {f : α → List Value} {wd : Nat} (hf : ∀ x, (f x).length = wd) : ∀ (l : List α), (l.flatMap f).length = l.length * wd
 | []=>by simp
 | x :: l=>by rw [yM,yo,hf,Uo hf l,yw,yva];omega
def Vld {α : Type} {f : α → List Value} {wd : Nat} (hf : ∀ x, (f x).length = wd) : ∀ (l : List α) (i j : Nat) (x x' : α) (v : Value), j < wd → l[i]? = some x → (f x).set j v = f x' → (l.flatMap f).set (i * wd + j) v = (l.set i x').flatMap f
 | [],i,j,x,x',v,_,h,_=>by simp at h
 | y :: l,0,j,x,x',v,hj,h,hs=>by
  simp only [yub,yWa] at h
  subst h
  rw [yM,ysb,yM,← hs,List.set_append_left _ _ (by rw [hf];omega)]
  simp
 | y :: l,i + 1,j,x,x',v,hj,h,hs=>by
  rw [yM,List.set_cons_succ,yM,List.set_append_right _ _ (by rw [hf,yva];omega),hf]
  rw [show (i + 1) * wd + j - wd=i * wd + j by rw [yva];omega]
  rw [Vld hf l i j x x' v hj zX hs]
def Jve (b wd i j:Nat):eo (some ⟨b,0,none⟩) wd i j=i * wd + j:=by simp [eo,adO]
section
variable {α:Type} {f:α→List Value} {wd b i j:Nat} {l:List α} {x x':α} {v:Value} {spare:List Value}
def Kwa (hf:∀x,(f x).length=wd) (hx:l[i]?=some x) (hv:(f x)[j]?=some v):(l.flatMap f)[eo (some ⟨b,0,none⟩) wd i j]?=some v:=by
 have hj:j < wd:=by have:=(List.getElem?_eq_some_iff.1 hv).1;rw [hf] at this;exact this
 rw [Jve,Vac hf l i j hj,hx];exact hv
def Kxa (hf:∀x,(f x).length=wd) (hx:l[i]?=some x) (hj:j < wd):Nat.blt (eo (some ⟨b,0,none⟩) wd i j) (l.flatMap f).length=true:=by rw [Jve,Uo hf];have hi:=(List.getElem?_eq_some_iff.1 hx).1;have:(i + 1) * wd≤l.length * wd:=ySa _ hi;rw [yva] at this;simp;omega
def K2a (hf:∀x,(f x).length=wd) (hj:j < wd) (hx:l[i]?=some x) (hs:(f x).set j v=f x'):(l.flatMap f).set (eo (some ⟨b,0,none⟩) wd i j) v=(l.set i x').flatMap f:=by rw [Jve];exact Vld hf l i j x x' v hj hx hs
def J7c (hf:∀x,(f x).length=wd) (hx:l[i]?=some x) (hv:(f x)[j]?=some v):(l.flatMap f ++ spare)[eo (some ⟨b,0,none⟩) wd i j]?=some v:=by have:=Kwa (b:=b) hf hx hv;rw [yV (List.getElem?_eq_some_iff.1 this).1];exact this
end
def Yhb {α:Type} {f:α→List Value} {z:List Value} {x:α} (h:z=f x) (m:Nat):Vhb z m=(List.replicate m x).flatMap f:=by
 induction m with
 | zero=>rfl
 | succ m ih=>rw [Vhb,ih,yob,yM,h]
structure OwL (α:Type) where
 o:Ow
 l:List α
def Ow.addr : Ow → Option Addr
 | .nil=>none
 | .own g _ _=>some ⟨g,0,none⟩
def Ow.cap : Ow → Nat
 | .nil=>0
 | .own _ cap _=>cap
def OwL.val {α:Type} (p:OwL α):Value:=.slice p.o.addr p.l.length p.o.cap
def OwL.L {α:Type} (T:TypeId) (f:α→List Value) (p:OwL α):LB:=p.o.L T (p.l.flatMap f)
def OwL.ok {α:Type} (wd:Nat) (f:α→List Value) (p:OwL α):Prop:=p.o.ok wd (p.l.flatMap f) p.l.length
abbrev OwL.arr {α:Type} (p:OwL α):Arr α:=⟨p.o.addr,p.o.cap,p.l⟩
abbrev OwL.nil {α:Type}:OwL α:=⟨.nil,[]⟩
def OwL.nil_ok {α:Type} {wd:Nat} {f:α→List Value}:(OwL.nil:OwL α).ok wd f:=⟨rfl,rfl⟩
def Ow.val_of_ok {wd n:Nat} {xs:List Value} {o:Ow} (h:o.ok wd xs n):o.val n=.slice o.addr n o.cap:=by
 cases o with
 | nil=>rw [h.1];rfl
 | own=>rfl
def Kjb {α:Type} (p:OwL α):List Value:=[p.val]
inductive OSeg {α : Type} (T : TypeId) (f : α → List Value) (p : OwL α) : LB → (OwL α → LB) → Prop
 | here {B:LB}:OSeg T f p (p.L T f ++ B) (fun q=>q.L T f ++ B)
 | last:OSeg T f p (p.L T f) (fun q=>q.L T f)
 | at {l:List (OwL α)} {i:Nat} {B:LB} (h:l[i]?=some p):OSeg T f p (l.flatMap (OwL.L T f) ++ B) (fun q=>(l.set i q).flatMap (OwL.L T f) ++ B)
 | cons {x:Blk} {L:LB} {F:OwL α→LB} (h:OSeg T f p L F):OSeg T f p (x :: L) (fun q=>x :: F q)
 | app {Z L:LB} {F:OwL α→LB} (h:OSeg T f p L F):OSeg T f p (Z ++ L) (fun q=>Z ++ F q)
def J9c {α : Type} {g : α → LB} : ∀ {l : List α} {i : Nat} {p : α}, l[i]? = some p → ∃ A B, l.flatMap g = A ++ g p ++ B ∧ ∀ q, (l.set i q).flatMap g = A ++ g q ++ B
 | [],i,p,h=>by simp at h
 | x :: l,0,p,h=>by
  simp only [yub,yWa] at h
  subst h
  exact ⟨[],l.flatMap g,by simp,fun q=>by simp⟩
 | x :: l,i + 1,p,h=>by
  obtain ⟨A,B,h1,h2⟩:=J9c (g:=g) (l:=l) (i:=i) (p:=p) zX
  exact ⟨g x ++ A,B,by simp [h1],fun q=>by simp [h2]⟩
def OSeg.split {α:Type} {T:TypeId} {f:α→List Value} {p:OwL α} {L:LB} {F:OwL α→LB} (h:OSeg T f p L F):∃A B,L=A ++ p.L T f ++ B∧∀q,F q=A ++ q.L T f ++ B:=by
 induction h with
 | @here B=>exact ⟨[],B,by simp,fun q=>by simp⟩
 | last=>exact ⟨[],[],by simp,fun q=>by simp⟩
 | @«at» l i B h=>obtain ⟨A,B',h1,h2⟩:=J9c (g:=OwL.L T f) h;exact ⟨A,B' ++ B,by simp [h1],fun q=>by simp [h2]⟩
 | @cons x L F _ ih=>obtain ⟨A,B,h1,h2⟩:=ih;exact ⟨x :: A,B,by simp [h1],fun q=>by simp [h2]⟩
 | @app Z L F _ ih=>obtain ⟨A,B,h1,h2⟩:=ih;exact ⟨Z ++ A,B,by simp [h1],fun q=>by simp [h2]⟩
def Kze (A X B:LB):Seg X (A ++ X ++ B) (fun Y=>A ++ Y ++ B):=by
 have h:Seg X (A ++ (X ++ B)) (fun Y=>A ++ (Y ++ B)):=.app .here;have e1:A ++ (X ++ B)=A ++ X ++ B:=(yq _ _ _).symm;have e2:(fun Y=>A ++ (Y ++ B))=(fun Y=>A ++ Y ++ B):=by funext Y;exact (yq _ _ _).symm
 rwa [e1,e2] at h
section
variable {P:Program} {ρ:Operand→Value} {L:LB} {R:LS} {dst:Option Tmp} {ty:TypeId} {pos:String} {after:Array Edge} {guard:Option (Nat×Bool)} (tb:Tabs P) {T:TypeId} {x y:Operand}
def Kb {α : Type} {e n fl bt z k2 n2 fl2 bt2 z2} {f : α → List Value} {p : OwL α} {a : α} {F : OwL α → LB} (hT : Y4 tb.tab T = some ⟨.slice e, n, fl, bt, z⟩) (hE : Y4 tb.tab e = some ⟨k2, n2, fl2, bt2, z2⟩) (hn2 : z2.length = n2)
 (hx:ρ x=p.val) (hok:p.ok n2 f) (hseg:OSeg e f p L F) (hs:Znd L R (ρ y) 1 n2 (f a)) (h1:(f a).all (·.oneCell')=true) (hby:(p.l.length + 1) * (bt2 + 1)≤140737488355328):
 Gives P ⟨dst,.call ⟨.builtin .append,#[x,y],#[T,T]⟩,ty,pos,after,guard⟩ ρ L R (fun v M U=>∃o:Ow,v=(⟨o,p.l ++ [a]⟩:OwL α).val∧(⟨o,p.l ++ [a]⟩:OwL α).ok n2 f∧F ⟨o,p.l ++ [a]⟩=M∧R=U):=by
 obtain ⟨A,B,hL,hF⟩:=hseg.split;subst hL;have hb1:(p.l.length + 1) * bt2≤140737488355328:=yqa (yJb _ (Nat.le_succ _)) hby;have hb2:p.l.length + 1≤140737488355328:=yqa (yqb _ (Nat.succ_pos _)) hby;have hx':ρ x=p.o.val p.l.length:=by rw [hx,Ow.val_of_ok hok];rfl
 have:=Y2a (dst:=dst) (ty:=ty) (pos:=pos) (after:=after) (guard:=guard) tb hT hE hn2 hx' hok (Kze A _ B) hs za h1 za hb1;intro c w hst ac next Q kk
 refine this c w hst ac next Q ?_
 rintro v M U w' ⟨g,cap,spare,rfl,hok',rfl,rfl⟩ hst';have e:p.l.flatMap f ++ f a=(p.l ++ [a]).flatMap f:=by simp
 rw [e] at hok';have hl:(p.l ++ [a]).length=p.l.length + 1:=by simp
 exact uaD
end
def Jzb {α:Type} {f:α→List Value} (l:List α):(l.map f).flatten=l.flatMap f:=by rw [List.flatMap_def]
def St.frzO {α : Type} {c : Ctx} {L : LB} {R : LS} {w : World} {T : TypeId} {f : α → List Value} {wd : Nat} {p : OwL α} {subs : LS} (h : St c (p.L T f ++ L) R w) (hok : p.ok wd f) (hf : ∀ x, (f x).length = wd) (hwd : 0 < wd)
 (hsub:∀s∈subs,InR s R):St c L (p.arr.sl wd f subs :: R) w:=by
 obtain ⟨o,l⟩:=p;cases o with
 | nil=>
  obtain ⟨h1,h2⟩:=hok;have hl:l=[]:=yha h1;subst hl;obtain ⟨⟨G,hh,hg⟩,ho,hk⟩:=h;refine ⟨⟨G,⟨hh.nd,hh.own,hh.ng,hh.gs,fun r hr=>?_⟩,hg⟩,ho,hk⟩;rcases List.mem_cons.1 hr with rfl | hr;·refine .mk rfl (yT _) (by simp [Ow.cap]) zo (.inl rfl) (fun s hs => ?_);obtain ⟨r,hr,hs2⟩:=hsub s hs;exact (hh.rep r hr).sub hs2
  ·exact hh.rep r hr
 | own g cap spare=>
  obtain ⟨h1,h2,h3,h4⟩:=hok;dsimp only at h1 h2 h3 h4;have := h.frz (b := g) (cs := l.flatMap f ++ spare) (T := T) (wd := wd) (len := l.length) (cap := cap) (rows := l.map f) (subs := subs) zo h2 (by simp only [maxLen] at h3; omega) (by simp; intro r _; exact hf r) hwd
   (by rw [Jzb,← h1,List.take_left'];rfl) hsub
  exact this
def St.frzAll {α:Type} {c:Ctx} {L:LB} {w:World} {T:TypeId} {f:α→List Value} {wd:Nat} {sub:α→Sl} (hf:∀x,(f x).length=wd) (hwd:0 < wd):∀(l:List (OwL α)) {R:LS},St c (l.flatMap (OwL.L T f) ++ L) R w→(∀p∈l,p.ok wd f)→
 (∀p∈l,∀x∈p.l,InR (sub x) R)→∃S:LS,(∀p∈l,InR (p.arr.sl wd f (p.l.map sub)) S)∧St c L (S ++ R) w
 | [],R,h,_,_=>⟨[],by simp,by simpa using h⟩
 | p :: l,R,h,hok,hs=>by
  rw [yM,yq] at h
  have h1:=h.frzO (subs:=p.l.map sub) (hok p zo) hf hwd (fun s hs'=>by
   obtain ⟨x,hx,rfl⟩:=List.mem_map.1 hs'
   exact hs p zo x hx)
  obtain ⟨S,h2,h3⟩:=St.frzAll hf hwd l h1 (fun q hq=>hok q (by simp [hq])) (fun q hq x hx=>by
   obtain ⟨r,hr,hsb⟩:=hs q (by simp [hq]) x hx
   exact ⟨r,by simp [hr],hsb⟩)
  refine ⟨S ++ [p.arr.sl wd f (p.l.map sub)],fun q hq=>?_,by simpa using h3⟩
  rcases List.mem_cons.1 hq with rfl | hq
  ·exact ⟨_,by simp,.here⟩
  ·obtain ⟨r, hr, hsb⟩ := h2 q hq
   exact ⟨r,by simp [hr],hsb⟩
def St.frzAll0 {α:Type} {c:Ctx} {L:LB} {w:World} {T:TypeId} {f:α→List Value} {wd:Nat} (hf:∀x,(f x).length=wd) (hwd:0 < wd):∀(l:List (OwL α)) {R:LS},St c (l.flatMap (OwL.L T f) ++ L) R w→(∀p∈l,p.ok wd f)→
 ∃S:LS,(∀p∈l,InR (p.arr.sl wd f []) S)∧St c L (S ++ R) w
 | [],R,h,_=>⟨[],by simp,by simpa using h⟩
 | p :: l,R,h,hok=>by
  rw [yM,yq] at h
  have h1:=h.frzO (subs:=[]) (hok p zo) hf hwd (fun s hs'=>by cases hs')
  obtain ⟨S,h2,h3⟩:=St.frzAll0 hf hwd l h1 (fun q hq=>hok q (by simp [hq]))
  refine ⟨S ++ [p.arr.sl wd f []],fun q hq=>?_,by simpa using h3⟩
  rcases List.mem_cons.1 hq with rfl | hq
  ·exact ⟨_,by simp,.here⟩
  ·obtain ⟨r, hr, hsb⟩ := h2 q hq
   exact ⟨r,by simp [hr],hsb⟩
def Ulb {P n code t L R} {Q:Kt} (h:∀c w,St c L R w→∃M U,St c M U w∧CJ P n code t M U Q):CJ P n code t L R Q:=fun c a w hf hs=>by
 obtain ⟨M,U,hs',hc⟩:=h c w hs
 exact hc c a w hf hs'
def Ksf {α : Type} {P n code t L R} {Q : Kt} {T : TypeId} {f : α → List Value} {wd : Nat} {p : OwL α} (subs : LS) (hok : p.ok wd f) (hf : ∀ x, (f x).length = wd) (hwd : 0 < wd) (hsub : ∀ s ∈ subs, InR s R)
 (h:CJ P n code t L (p.arr.sl wd f subs :: R) Q):CJ P n code t (p.L T f ++ L) R Q:=
 Ulb fun _ _ hs=>⟨_,_,hs.frzO hok hf hwd hsub,h⟩
def Uqe {α : Type} {P n code t L R} {Q : Kt} {T : TypeId} {f : α → List Value} {wd : Nat} {A : LB} {l : List (OwL α)} (sub : α → Sl) (hf : ∀ x, (f x).length = wd) (hwd : 0 < wd) (hok : ∀ p ∈ l, p.ok wd f) (hs : ∀ p ∈ l, ∀ x ∈ p.l, InR (sub x) R)
 (h:∀S:LS,(∀p∈l,InR (p.arr.sl wd f (p.l.map sub)) S)→CJ P n code t (A ++ L) (S ++ R) Q):CJ P n code t (A ++ (l.flatMap (OwL.L T f) ++ L)) R Q:=by
 refine Ulb fun c w hst=>?_;have hp:(A ++ (l.flatMap (OwL.L T f) ++ L)).Perm (l.flatMap (OwL.L T f) ++ (A ++ L)):=by exact zld
 obtain ⟨S,h1,h2⟩:=St.frzAll hf hwd l (hst.perm hp) hok hs;exact ⟨_,_,h2,h S h1⟩
def J8c {α : Type} {P n code t L R} {Q : Kt} {T : TypeId} {f : α → List Value} {wd : Nat} {A : LB} {l : List (OwL α)} (hf : ∀ x, (f x).length = wd) (hwd : 0 < wd) (hok : ∀ p ∈ l, p.ok wd f)
 (h:∀S:LS,(∀p∈l,InR (p.arr.sl wd f []) S)→CJ P n code t (A ++ L) (S ++ R) Q):CJ P n code t (A ++ (l.flatMap (OwL.L T f) ++ L)) R Q:=by
 refine Ulb fun c w hst=>?_;have hp:(A ++ (l.flatMap (OwL.L T f) ++ L)).Perm (l.flatMap (OwL.L T f) ++ (A ++ L)):=by exact zld
 obtain ⟨S,h1,h2⟩:=St.frzAll0 hf hwd l (hst.perm hp) hok;exact ⟨_,_,h2,h S h1⟩
def Vla {α : Type} {P n code t L R} {Q : Kt} {T : TypeId} {f : α → List Value} {wd : Nat} {A : LB} {p : OwL α} (subs : LS) (hf : ∀ x, (f x).length = wd) (hwd : 0 < wd) (hok : p.ok wd f) (hs : ∀ s ∈ subs, InR s R)
 (h:CJ P n code t (A ++ L) (p.arr.sl wd f subs :: R) Q):CJ P n code t (A ++ (p.L T f ++ L)) R Q:=by
 refine Ulb fun c w hst=>?_;have hp:(A ++ (p.L T f ++ L)).Perm (p.L T f ++ (A ++ L)):=by exact zld
 exact ⟨_,_,St.frzO (hst.perm hp) hok hf hwd hs,h⟩
def V5b {P n code t L R} {Q : Kt} {A : LB} {b : Nat} {cs : List Value} {T : TypeId} {wd len cap : Nat} {rows : List (List Value)} {subs : LS}
 (hl:rows.length=len) (hc:len≤cap) (hm:cap < 9223372036854775808) (hw:∀r∈rows,r.length=wd) (hp:0 < wd) (hcs:cs.take (len * wd)=rows.flatten) (hsub:∀s∈subs,InR s R)
 (h:CJ P n code t (A ++ L) (.mk wd (some ⟨b,0,none⟩) len cap rows subs :: R) Q):CJ P n code t (A ++ (⟨b,cs,T⟩ :: L)) R Q:=
 Ulb fun _ _ hst=>⟨_,_,St.frz (hst.perm yZa) hl hc hm hw hp hcs hsub,h⟩
def Ki {α:Type} {T:TypeId} {f:α→List Value}:(OwL.nil:OwL α).L T f=[]:=rfl
def Vf {P n code t L M R} {Q:Kt} (h:L=M) (k:CJ P n code t M R Q):CJ P n code t L R Q:=h ▸ k
def Ztb {α:Type} {f:α→List Value} {wd:Nat} (hf:∀x,(f x).length=wd):∀(l:List α) (i j:Nat) (x x':α) (vs:List Value),j + vs.length≤wd→l[i]?=some x→(f x).take j ++ vs ++ (f x).drop (j + vs.length)=f x'→
 (l.flatMap f).take (i * wd + j) ++ vs ++ (l.flatMap f).drop (i * wd + j + vs.length)=(l.set i x').flatMap f
 | [],i,j,x,x',vs,_,h,_=>by simp at h
 | y :: l,0,j,x,x',vs,hj,h,hs=>by
  simp only [yub,yWa] at h
  subst h
  have hy:=hf y
  rw [yM,ysb,yM,← hs,Nat.zero_mul,yCa]
  rw [yEa za,yFb za]
  simp only [yq]
 | y :: l,i + 1,j,x,x',vs,hj,h,hs=>by
  have ih:=Ztb hf l i j x x' vs hj zX hs
  have hy:=hf y
  have e1:(i + 1) * wd + j=wd + (i * wd + j):=by rw [yva];omega
  rw [yM,List.set_cons_succ,yM,e1]
  rw [show wd + (i * wd + j)=(f y).length + (i * wd + j) by rw [hy],List.take_length_add_append]
  rw [show (f y).length + (i * wd + j) + vs.length=(f y).length + (i * wd + j + vs.length) by omega,List.drop_length_add_append]
  rw [← ih]
  simp only [yq]
def OwL.own_of {α:Type} {wd:Nat} {f:α→List Value} {p:OwL α} (hok:p.ok wd f) {i:Nat} (hi:i < p.l.length):∃g cap spare,p.o=.own g cap spare:=by
 cases ho:p.o with
 | nil=>rw [OwL.ok,ho] at hok;have:=hok.1;omega
 | own g cap spare=>exact ⟨g,cap,spare,rfl⟩
def OSeg.mem {α:Type} {T:TypeId} {f:α→List Value} {p:OwL α} {L:LB} {F:OwL α→LB} (h:OSeg T f p L F) {g cap:Nat} {spare:List Value} (ho:p.o=.own g cap spare):(⟨g,p.l.flatMap f ++ spare,T⟩:Blk)∈L:=by obtain ⟨A,B,hL,_⟩:=h.split;rw [hL,OwL.L,ho];simp [Ow.L]
section
variable {P:Program} {ρ:Operand→Value} {L:LB} {R:LS} {dst:Option Tmp} {ty:TypeId} {pos:String} {after:Array Edge} {guard:Option (Nat×Bool)} (tb:Tabs P) {T:TypeId} {x y:Operand} {α:Type} {f:α→List Value} {p:OwL α} {F:OwL α→LB}
def Jv {k : IntKind} {a : Int} {e n n2 bt z bt2 z2 k2} {fl fl2 : List (Nat × Nat)} {i : Nat} (p : OwL α) (f : α → List Value) (hT : Y4 tb.tab T = some ⟨.slice e, n, fl, bt, z⟩) (hE : Y4 tb.tab e = some ⟨k2, n2, fl2, bt2, z2⟩)
 (hx:ρ x=p.val) (hy:ρ y=.int k a) (hok:p.ok n2 f) (hi:a=(i:Int)) (hlt:i < p.l.length):
 YV P ⟨dst,.indexAddr T x y,ty,pos,after,guard⟩ ρ L R (.pointer (some ⟨adB p.o.addr,eo p.o.addr n2 i 0,none⟩)):=by obtain ⟨g,cap,spare,ho⟩:=OwL.own_of hok hlt;rw [ho];exact Jl tb hT hE (by rw [hx,OwL.val,ho];rfl) hy hi hlt
def V4d {c:Ctx} {w:World} {T':TypeId} {wd i:Nat} {xx:α} (hs:St c L R w) (hseg:OSeg T' f p L F) (hok:p.ok wd f) (hf:∀x,(f x).length=wd) (hr:p.l[i]?=some xx) {j:Nat} {v:Value} (hj:(f xx)[j]?=some v):w.cell? ⟨adB p.o.addr,eo p.o.addr wd i j,none⟩=some v:=by obtain ⟨g,cap,spare,ho⟩:=OwL.own_of hok (List.getElem?_eq_some_iff.1 hr).1;rw [ho];have:=Z4 hs (hseg.mem ho) (eo (some ⟨g,0,none⟩) wd i j);rw [show adB (Ow.own g cap spare).addr=g from rfl,show (Ow.own g cap spare).addr=some ⟨g,0,none⟩ from rfl,this];exact J7c hf hr hj
def Kc {n wd i j : Nat} {fl bt z v} {kk : TK} {T' : TypeId} {xx : α} (p : OwL α) (hx : ρ x = .pointer (some ⟨adB p.o.addr, eo p.o.addr wd i j, none⟩)) (hT : Y4 tb.tab T = some ⟨kk, n, fl, bt, z⟩) (hk : kk.isAgg = false)
 (hseg:OSeg T' f p L F) (hok:p.ok wd f) (hf:∀x,(f x).length=wd) (hr:p.l[i]?=some xx) (hj:(f xx)[j]?=some v):YV P ⟨dst,.load T x,ty,pos,after,guard⟩ ρ L R v:=fun c w hst=>by
 have:=Ynb (P:=P) (w:=w) (tb.ok _ _ hT) hk (v:=v) (V4d hst hseg hok hf hr hj)
 simp [execOp,hx,Instr.loadAt,Instr.sureAddr,this]
def Zxb {n wd i j : Nat} {fl bt z} {kk : TK} {T' : TypeId} {xx : α} {row : List Value} (p : OwL α) (hx : ρ x = .pointer (some ⟨adB p.o.addr, eo p.o.addr wd i j, none⟩)) (hT : Y4 tb.tab T = some ⟨kk, n, fl, bt, z⟩) (hk : kk.isAgg = true)
 (hseg:OSeg T' f p L F) (hok:p.ok wd f) (hf:∀x,(f x).length=wd) (hr:p.l[i]?=some xx) (hv:sub (f xx) j n=row) (hn:row.length=n):YV P ⟨dst,.load T x,ty,pos,after,guard⟩ ρ L R (.agg row.toArray):=fun c w hst=>by
 have:=J9b (P:=P) (w:=w) (tb.ok _ _ hT) hk (b:=adB p.o.addr) (o:=eo p.o.addr wd i j) (row:=row) hn (fun jj v hj=>by
  rw [← hv,sub,ysa] at hj
  split at hj
  ·have := V4d hst hseg hok hf hr (j := j + jj) (v := v) (by simpa using hj)
   rw [← this]
   simp [eo,ybc]
  ·cases hj)
 simp [execOp,hx,Instr.loadAt,Instr.sureAddr,this]
def Z4a {n wd i j : Nat} {fl bt z} {kk : TK} {T' : TypeId} {xx xx' : α} {vs : List Value} {val : Value} (p : OwL α) (hT : Y4 tb.tab T = some ⟨kk, n, fl, bt, z⟩) (hx : ρ x = .pointer (some ⟨adB p.o.addr, eo p.o.addr wd i j, none⟩)) (hy : ρ y = val) (hval : val.cells = vs.toArray) (hn : vs.length = n)
 (hseg:OSeg T' f p L F) (hok:p.ok wd f) (hf:∀x,(f x).length=wd) (hr:p.l[i]?=some xx) (hfit:j + vs.length≤wd) (hs:(f xx).take j ++ vs ++ (f xx).drop (j + vs.length)=f xx') (h1:vs.all (·.oneCell')=true):
 Gives P ⟨none,.store T x y,ty,pos,after,guard⟩ ρ L R (fun _ L'' U=>F ⟨p.o,p.l.set i xx'⟩=L''∧R=U):=by
 intro c w hst a next Q kk
 obtain ⟨g,cap,spare,ho⟩:=OwL.own_of hok (List.getElem?_eq_some_iff.1 hr).1;obtain ⟨A,B,hL,hF⟩:=hseg.split;have hlen:=Uo hf p.l;have hil:=(List.getElem?_eq_some_iff.1 hr).1;have hmul:(i + 1) * wd≤p.l.length * wd:=ySa _ hil;rw [yva] at hmul;have hst0:=Ztb hf p.l i j xx xx' vs hfit hr hs;have hcs:(p.l.flatMap f ++ spare).take (i * wd + j) ++ vs ++ (p.l.flatMap f ++ spare).drop (i * wd + j + vs.length)=(p.l.set i xx').flatMap f ++ spare:=by rw [yEa za,yFb za,← hst0];simp only [yq]
 have hu:Upd1 g (p.l.flatMap f ++ spare) T' ((p.l.set i xx').flatMap f ++ spare) L (F ⟨p.o,p.l.set i xx'⟩):=by rw [hL,hF,OwL.L,OwL.L,ho];simp only [Ow.L,yq,yp,yv];exact .app .here
 have hrun:=V5a (P:=P) (T:=T) (o:=i * wd + j) (vs:=vs) hst (tb.ok _ _ hT) hn (by rw [hcs];exact hu) (by rw [yo,hlen];omega) (List.all_eq_true.1 h1) (val:=val) hval;rw [hcs] at hrun;refine Ygb (w':=w.setRow g _) ?_ (kk undef _ R _ ⟨rfl,rfl⟩ (hst.setRow hu));rw [ho] at hx;have hx':ρ x=.pointer (some ⟨g,i * wd + j,none⟩):=by rw [hx];simp [Ow.addr,adB,eo,adO]
 simp [execOp,hx',hy,Instr.storeAt,Instr.sureAddr,hrun]
def Js {n wd i j : Nat} {fl bt z} {kk : TK} {T' : TypeId} {xx : α} {v : Value} (p : OwL α) (xx' : α) (hT : Y4 tb.tab T = some ⟨kk, n, fl, bt, z⟩) (hx : ρ x = .pointer (some ⟨adB p.o.addr, eo p.o.addr wd i j, none⟩)) (hy : ρ y = v) (hn : n = 1)
 (hseg:OSeg T' f p L F) (hok:p.ok wd f) (hf:∀x,(f x).length=wd) (hr:p.l[i]?=some xx) (hfit:j < wd) (hs:(f xx).set j v=f xx') (h1:v.oneCell'=true):
 Gives P ⟨none,.store T x y,ty,pos,after,guard⟩ ρ L R (fun _ L'' U=>F ⟨p.o,p.l.set i xx'⟩=L''∧R=U):=by
 have hc:v.cells=#[v]:=by cases v <;> first | rfl | (simp [Value.oneCell'] at h1)
 refine Z4a (vs:=[v]) tb p hT hx hy hc (by simp [hn]) hseg hok hf hr hfit ?_ (by simpa using h1);rw [yU,J7f _ _ _ (by rw [hf];exact hfit),hs]
def U2 {n wd i j : Nat} {fl bt z} {kk : TK} {T' : TypeId} {xx : α} {vs : List Value} (p : OwL α) (xx' : α) (hT : Y4 tb.tab T = some ⟨kk, n, fl, bt, z⟩) (hx : ρ x = .pointer (some ⟨adB p.o.addr, eo p.o.addr wd i j, none⟩)) (hy : ρ y = .agg vs.toArray) (hn : vs.length = n)
 (hseg:OSeg T' f p L F) (hok:p.ok wd f) (hf:∀x,(f x).length=wd) (hr:p.l[i]?=some xx) (hfit:j + vs.length≤wd) (hs:(f xx).take j ++ vs ++ (f xx).drop (j + vs.length)=f xx') (h1:vs.all (·.oneCell')=true):
 Gives P ⟨none,.store T x y,ty,pos,after,guard⟩ ρ L R (fun _ L'' U=>F ⟨p.o,p.l.set i xx'⟩=L''∧R=U):=
 Z4a tb p hT hx hy rfl hn hseg hok hf hr hfit hs h1
end
def OwL.set_ok {α:Type} {f:α→List Value} {wd i:Nat} {p:OwL α} {x:α} (hf:∀x,(f x).length=wd) (hok:p.ok wd f):(⟨p.o,p.l.set i x⟩:OwL α).ok wd f:=by
 have e1:(p.l.set i x).length=p.l.length:=by simp
 have e2:((p.l.set i x).flatMap f).length=(p.l.flatMap f).length:=by rw [Uo hf,Uo hf,e1]
 rw [OwL.ok] at hok ⊢;cases ho:p.o with
 | nil=>rw [ho] at hok;have:p.l=[]:=yha hok.1;rw [this];exact ⟨rfl,rfl⟩
 | own g cap spare=>rw [ho] at hok;obtain ⟨h1,h2,h3,h4⟩:=hok;refine ⟨by rw [e2,e1];exact h1,by rw [e1];exact h2,h3,?_⟩;rw [yo,e2,← yo];exact h4
def OwL.len_ok {α:Type} {f:α→List Value} {wd:Nat} {o:Ow} {l l':List α} (hf:∀x,(f x).length=wd) (hok:(⟨o,l⟩:OwL α).ok wd f) (h:l'.length=l.length):(⟨o,l'⟩:OwL α).ok wd f:=by
 have e2:(l'.flatMap f).length=(l.flatMap f).length:=by rw [Uo hf,Uo hf,h]
 rw [OwL.ok] at hok ⊢;dsimp only at hok ⊢;cases o with
 | nil=>have:l'=[]:=yha (by rw [h];exact hok.1);rw [this];exact ⟨rfl,rfl⟩
 | own g cap spare=>obtain ⟨h1,h2,h3,h4⟩:=hok;refine ⟨by rw [e2,h];exact h1,by rw [h];exact h2,h3,?_⟩;rw [yo,e2,← yo];exact h4
def OwL.set_val {α:Type} {o:Ow} {l:List α} {i:Nat} {x:α}:(⟨o,l.set i x⟩:OwL α).val=(⟨o,l⟩:OwL α).val:=by simp [OwL.val]
def Ynf {fn:Func} {P:Program} {t:Nat→Value} {L:LB} {R:LS} (hr:fn.results=#[]):∀c n a w,Fr n t a→St c L R w→(results fn a.tmps).run P w=.ok (.tuple #[]) w:=by intro c n a w _ _;rw [U3a,hr];simp
def Y1 {α:Type} {f:α→List Value} {z:List Value} {b n:Nat} {T:TypeId} {x:α} (hz:z=f x) (L:LB):⟨b,Vhb z n,T⟩ :: L=(⟨.own b n [],List.replicate n x⟩:OwL α).L T f ++ L:=by rw [Yhb hz n];simp [OwL.L,Ow.L]
def Yr {α:Type} {f:α→List Value} {wd b n:Nat} {x:α} (hf:∀x,(f x).length=wd) (hn:n≤maxLen):(⟨.own b n [],List.replicate n x⟩:OwL α).ok wd f:=by
 refine ⟨?_,by simp,hn,?_⟩;·rw [Uo hf]
 ·rw [yZ,Uo hf];simp
def Yad {α:Type} {f:α→List Value} {cs:List Value} {b n:Nat} {T:TypeId} (l:List α) (hcs:cs=l.flatMap f) (L:LB):⟨b,cs,T⟩ :: L=(⟨.own b n [],l⟩:OwL α).L T f ++ L:=by subst hcs;simp [OwL.L,Ow.L]
def U3c {α:Type} {f:α→List Value} {wd b n:Nat} {l:List α} (hf:∀x,(f x).length=wd) (hl:l.length=n) (hn:n≤maxLen):(⟨.own b n [],l⟩:OwL α).ok wd f:=by
 subst hl;refine ⟨?_,by simp,hn,?_⟩;·rw [Uo hf]
 ·rw [yZ,Uo hf]
inductive Spl : LB → LB → LB → Prop
 | nil:Spl [] [] []
 | rest {L:LB}:Spl L L []
 | consB {x:Blk} {A B C:LB} (h:Spl A B C):Spl (x :: A) (x :: B) C
 | consL {x:Blk} {A B C:LB} (h:Spl A B C):Spl (x :: A) B (x :: C)
 | appB {X A B C:LB} (h:Spl A B C):Spl (X ++ A) (X ++ B) C
 | appL {X A B C:LB} (h:Spl A B C):Spl (X ++ A) B (X ++ C)
def Spl.perm {A B C:LB} (h:Spl A B C):A.Perm (B ++ C):=by
 induction h with
 | nil=>exact .refl _
 | rest=>rw [yZ]
 | consB _ ih=>exact ih.cons _
 | @consL x A B C _ ih=>exact (ih.cons x).trans List.perm_middle.symm
 | @appB X A B C _ ih=>rw [yq];exact ih.append_left _
 | @appL X A B C _ ih=>refine (ih.append_left X).trans ?_;exact zld
def Tri.spl {P:Program} {f:FuncId} {args:Array Value} {A B L:LB} {R:LS} {Post:Yy} (hsp:Spl A B L) (h:Tri P f args L R Post):Tri P f args A R (fun v L'' U=>∃M,B ++ M=L''∧Post v M U):=by have hp:=hsp.perm;refine ⟨h.1,fun w G hh=>?_⟩;have hh':Holds (B ++ L) G R w:=⟨(hp.map _).nodup_iff.1 hh.nd,fun e he=>hh.own e (hp.mem_iff.2 he),fun e he=>hh.ng e (hp.mem_iff.2 he),hh.gs,hh.rep⟩;have hL:Holds L G R w:=⟨(List.nodup_append.1 (by have:=hh'.nd;rwa [yO] at this)).2.1,fun e he=>hh'.own e (yi _ he),fun e he=>hh'.ng e (yi _ he),hh'.gs,hh'.rep⟩;refine (h.2 w G hL).mono fun e w' ⟨v,M,U,he,hpost,hst⟩=>⟨v,B ++ M,U,he,⟨M,rfl,hpost⟩,?_⟩;have h2:=St.frame hh' hst;exact uar
def Tri.lend {P : Program} {f : FuncId} {args : Array Value} {A B L : LB} {R S : LS} {Post : Value → LB → Prop} (hsp : Spl A B L)
 (hS:∀w,∀G:Nat→Prop,Holds (B ++ L) G R w→∀s∈S,Rep w (fun b=>G b∨∃e∈B,e.b=b) s)
 (h:Tri P f args L (S ++ R) (fun v M U=>Post v M∧S ++ R=U)):Tri P f args A R (fun v L'' U=>∃M,B ++ M=L''∧Post v M∧R=U):=by
 refine ⟨h.1,fun w G hh=>?_⟩;have hp:=hsp.perm;have hh':Holds (B ++ L) G R w:=⟨(hp.map _).nodup_iff.1 hh.nd,fun e he=>hh.own e (hp.mem_iff.2 he),fun e he=>hh.ng e (hp.mem_iff.2 he),hh.gs,hh.rep⟩;have hnd:=hh'.nd;rw [yO,yJa] at hnd;have hnB:∀e∈L,¬∃e'∈B,e'.b=e.b:=fun e he ⟨e',he',hb⟩=>hnd.2.2 e'.b (List.mem_map.2 ⟨e',he',rfl⟩) e.b (List.mem_map.2 ⟨e,he,rfl⟩) hb;have hL:Holds L (fun b=>G b∨∃e∈B,e.b=b) (S ++ R) w:=by
  refine ⟨hnd.2.1,fun e he=>hh'.own e (yi _ he),fun e he hg=>?_,fun b hb=>?_,fun r hr=>?_⟩;·
   rcases hg with hg | hg;·exact hh'.ng e (yi _ he) hg
   ·exact hnB e he hg
  ·
   rcases hb with hb | ⟨e, he, rfl⟩;·exact hh'.gs b hb
   ·exact hh'.lt (ym _ he)
  ·
   rcases List.mem_append.1 hr with hr | hr;·exact hS w G hh' r hr
   ·exact (hh'.rep r hr).mono (fun _ h=>.inl h) (fun _ _=>rfl)
 refine (h.2 w _ hL).mono ?_;rintro e w' ⟨v,M,U,rfl,⟨hpost,rfl⟩,hst⟩;refine ⟨v,B ++ M,R,rfl,⟨M,rfl,hpost,rfl⟩,?_⟩;obtain ⟨⟨G',hh2,hg2⟩,ho,hk⟩:=hst
 -- what the lent blocks hold has not changed
 have hB:∀e∈B,w'.heap[e.b]?=w.heap[e.b]?:=fun e he=>hk.block e.b (hh'.lt (ym _ he)) (fun ⟨e',he',hb⟩=>hnB e' he' ⟨e,he,hb.symm⟩);have hBL':∀e'∈M,∀e∈B,e'.b≠e.b:=fun e' he' e he hb=>by
  rcases ho e' he' with h1 | h1;·obtain ⟨e2, he2, hb2⟩ := h1;exact hnB e2 he2 ⟨e,he,by rw [hb2,hb]⟩
  ·rw [hb] at h1;have:=hh'.lt (ym L he);simp only at h1;omega
 have hGw:∀b,G b→w'.heap[b]?=w.heap[b]?:=fun b hb=>hk.block b (hh'.gs b hb) (fun ⟨e,he,hbe⟩=>hh'.ng e (yi _ he) (hbe ▸ hb));refine ⟨⟨G,⟨?_,fun e he=>?_,fun e he hg=>?_,fun b hb=>ydb (hh'.gs b hb) hk.size,fun r hr=>(hh'.rep r hr).mono (fun _ h=>h) hGw⟩,fun b hb=>.inl hb⟩,fun e he=>?_,⟨hk.os,hk.tape,hk.output,hk.size,fun b hb hn=>hk.block b hb (fun ⟨e,he,hbe⟩=>hn ⟨e,hp.mem_iff.2 (yi _ he),hbe⟩),hk.frz⟩⟩;·rw [yO, yJa];refine ⟨hnd.1,hh2.nd,fun x hx y hy hxy=>?_⟩;obtain ⟨e,he,rfl⟩:=List.mem_map.1 hx;obtain ⟨e',he',rfl⟩:=List.mem_map.1 hy;exact hBL' e' he' e he hxy.symm
 ·
  rcases List.mem_append.1 he with he | he;·rw [hB e he];exact hh'.own e (ym _ he)
  ·exact hh2.own e he
 ·
  rcases List.mem_append.1 he with he | he;·exact hh'.ng e (ym _ he) hg
  ·
   rcases ho e he with ⟨e2, he2, hb2⟩ | h1;·exact hh'.ng e2 (yi _ he2) (by rw [hb2];exact hg)
   ·have := hh'.gs _ hg;simp only at h1;omega
 ·
  rcases List.mem_append.1 he with he | he;·exact .inl ⟨e,hp.mem_iff.2 (ym _ he),rfl⟩
  ·
   rcases ho e he with ⟨e2, he2, hb2⟩ | h1;·exact .inl ⟨e2,hp.mem_iff.2 (yi _ he2),hb2⟩
   ·exact .inr h1
def Vwf {α : Type} {f : α → List Value} {wd : Nat} {T : TypeId} {p : OwL α} {L : LB} {G : Nat → Prop} {R : LS} {w : World} {subs : LS} (hh : Holds L G R w) {G' : Nat → Prop} (hin : ∀ e ∈ p.L T f, e ∈ L ∧ G' e.b) (hok : p.ok wd f) (hf : ∀ x, (f x).length = wd) (hwd : 0 < wd)
 (hsub:∀s∈subs,Rep w G' s):Rep w G' (p.arr.sl wd f subs):=by
 cases ho:p.o with
 | nil=>
  rw [OwL.ok,ho] at hok;have hl:p.l=[]:=yha hok.1;refine .mk zo ?_ ?_ (by dsimp only;rw [hl];simp) (.inl (by dsimp only;rw [hl];rfl)) hsub;·dsimp only;rw [hl,ho];exact yT _
  ·dsimp only;rw [ho];simp [Ow.cap]
 | own g cap spare=>
  have hok':=hok;rw [OwL.ok,ho] at hok;obtain ⟨h1,h2,h3,h4⟩:=hok;obtain ⟨hm,hg⟩:=hin ⟨g,p.l.flatMap f ++ spare,T⟩ (by rw [OwL.L,ho];simp [Ow.L]);refine .mk zo ?_ ?_ (by intro r hr;obtain ⟨x,_,rfl⟩:=List.mem_map.1 hr;exact hf x) (.inr ⟨g,0,by dsimp only;rw [ho];rfl,hg,fun i j hi hj=>?_⟩) hsub;·dsimp only;rw [ho];exact h2
  ·dsimp only;rw [ho];simp only [maxLen] at h3;simp only [Ow.cap];omega
  ·
   dsimp only at hi;have hb:=hh.own _ hm;simp only [BT.obj] at hb;(have e1:w.cell? ⟨g,0 + i * wd + j,none⟩=(p.l.flatMap f ++ spare)[i * wd + j]?:=by simp [World.cell?,hb]);rw [e1];obtain ⟨x,hx⟩:=Ky hi;(have hl:(p.l.flatMap f)[i * wd + j]?=(f x)[j]?:=by rw [Vac hf p.l i j hj,hx];rfl);(have hjx:j < (f x).length:=by rw [hf];exact hj);rw [yV,hl,yt,hx];·rfl
   ·rw [yC hjx] at hl;exact (List.getElem?_eq_some_iff.1 hl).1
def Yd (x:Int):(Jo x).length=1:=rfl
def InB (X B:LB):Prop:=∀e∈X,e∈B
def Vfa {X B:LB}:InB X (X ++ B):=fun _ h=>ym _ h
def K6b {X Z B:LB} (h:InB X B):InB X (Z ++ B):=fun e he=>yi _ (h e he)
def Zna {X B:LB} {z:Blk} (h:InB X B):InB X (z :: B):=fun e he=>yS _ (h e he)
def Jtb {α:Type} {f:α→List Value} {wd:Nat} {T:TypeId} {p:OwL α} {B L:LB} {G:Nat→Prop} {R:LS} {w:World} {subs:LS} (hh:Holds (B ++ L) G R w) (hB:InB (p.L T f) B) (hok:p.ok wd f) (hf:∀x,(f x).length=wd) (hwd:0 < wd) (hsub:∀s∈subs,InR s R):
 Rep w (fun b=>G b∨∃e∈B,e.b=b) (p.arr.sl wd f subs):=
 Vwf hh (fun e he=>⟨ym _ (hB e he),.inr ⟨e,hB e he,rfl⟩⟩) hok hf hwd (fun s hs=>by
  obtain ⟨r,hr,hk⟩:=hsub s hs
  exact ((hh.rep r hr).sub hk).mono (fun _ h=>.inl h) (fun _ _=>rfl))
def Vlf {α:Type} {b n:Nat} {x:α}:(⟨.own b n [],List.replicate n x⟩:OwL α).val=.slice (some ⟨b,0,none⟩) n n:=by simp [OwL.val,Ow.addr,Ow.cap]
def Uq {α:Type} {b n:Nat} {l:List α} (h:l.length=n):Value.slice (some ⟨b,0,none⟩) n n=(⟨.own b n [],l⟩:OwL α).val:=by simp [OwL.val,Ow.addr,Ow.cap,h]
def Jvf {γ : Type} (ws : List Nat) (t0 : Nat → Value) (hd : Head γ) (Q : Kt) : Kt
 | .normal,t,L,R=>∃g,Off ws t0 t∧Yea t (hd.slots g)∧(hd.L g).Sublist L∧∀r∈hd.R g,InR r R
 | e,t,L,R=>Q e t L R
def Zuc {γ:Type} {ws:List Nat} {t0 t:Nat→Value} {L:LB} {R:LS} {hd:Head γ} {Q:Kt} (h:Q .ret t L R):Jvf ws t0 hd Q .ret t L R:=h
def Ubc {γ:Type} {ws:List Nat} {t0 t:Nat→Value} {L:LB} {R:LS} {hd:Head γ} {Q:Kt} (g:γ) (ho:Off ws t0 t) (hs:Yea t (hd.slots g)) (hL:(hd.L g).Sublist L) (hR:∀r∈hd.R g,InR r R):Jvf ws t0 hd Q .normal t L R:=⟨g,ho,hs,hL,hR⟩
def Kha {γ:Type} {P n x y t L R} {Q:Kt} (ws:List Nat) (hd:Head γ) (h:CJ P n x t L R (Jvf ws t hd Q)) (k:∀g junk,CJ P n y (updL (havoc ws t junk) (hd.slots g)) (hd.L g) (hd.R g) Q):CJ P n x t L R (U0 P n y Q):=by
 intro c a w hf hs;refine wp_mono (h c a w hf hs) ?_;rintro e a w ⟨hnp,t',M,U,hq,hf',hs'⟩;cases e with
 | normal=>
  obtain ⟨g,ho,hsh,hL,hR⟩:=hq;have e:updL (havoc ws t t') (hd.slots g)=t':=by rw [Z8 ho,Y5 hsh]
  refine ⟨trivial,t',M,U,?_,hf',hs'⟩;have:=k g t';rw [e] at this;exact Vn hL hR this
 | _=>exact ⟨hnp,t',M,U,hq,hf',hs'⟩
def add_zero (a:Addr):a.add 0=a:=by simp [Addr.add]
def Yxe (a:Option Addr) (h m s:Nat):sliced a 0 h m s=.slice a h m:=by
 unfold sliced;split;·rfl
 ·
  cases a with
  | none=>rfl
  | some a=>simp [add_zero]
def Ufb {P : Program} {ρ : Operand → Value} {L : LB} {R : LS} {dst : Option Tmp} {ty : TypeId} {pos : String} {after : Array Edge} {guard : Option (Nat × Bool)} (tb : Tabs P) {T : TypeId} {x y : Operand} {k : IntKind} {h : Int} {n len cap : Nat} {ar : Option Addr} {e n1 fl bt z k2 n2 fl2 bt2 z2}
 (hT:Y4 tb.tab T=some ⟨.slice e,n1,fl,bt,z⟩) (hE:Y4 tb.tab e=some ⟨k2,n2,fl2,bt2,z2⟩) (hx:ρ x=.slice ar len cap) (hy:ρ y=.int k h) (hh:h=(n:Int)) (hn:n≤cap):
 YV P ⟨dst,.slice T x none (some y) none,ty,pos,after,guard⟩ ρ L R (.slice ar n cap):=fun _ w _=>by
 have hu:=Vi (tb.ok _ _ hT) rfl
 have he:P.elem T=e:=by simp [Program.elem,hu]
 have hu':P.underlying T=some (.slice (P.elem T)):=by rw [he];exact hu
 have hs:=run_sizeOf (tb.ok _ _ hE) w
 simp only at hs
 subst hh
 have h1:=run_slice_h (P:=P) w T ar len cap hu' k (n:Int) za za
 rw [he,hs,yE,yu,Yxe] at h1
 simp [execOp,hx,hy,run_sliceAt_slice w T _ _ _ _ hu',h1]
def Vpd {w:World} {G:Nat→Prop} {wd len cap k:Nat} {a:Option Addr} {rows:List (List Value)} {subs:LS} (h:Rep w G (.mk wd a len cap rows subs)) (hk:k≤len):Rep w G (.mk wd a k cap (rows.take k) subs):=by
 cases h with
 | mk hl hc hm hw hr hs=>
  refine .mk zD za hm (fun r hr=>hw r (yIb hr)) ?_ hs;rcases hr with h0 | ⟨b,off,ha,hg,Kjb⟩;·exact .inl (by rw [h0];simp)
  ·refine .inr ⟨b, off, ha, hg, fun i j hi hj => ?_⟩;rw [Kjb i j za hj,ysa,if_pos hi]
def Uvf {P n code t L R} {Q:Kt} {wd len cap:Nat} {a:Option Addr} {rows:List (List Value)} {subs:LS} (k:Nat) (hR:InR (.mk wd a len cap rows subs) R) (hk:k≤len) (h:CJ P n code t L (.mk wd a k cap (rows.take k) subs :: R) Q):CJ P n code t L R Q:=
 Kod (fun w G hh=>by obtain ⟨r,hr,hs⟩:=hR;exact Vpd ((hh r hr).sub hs) hk) h
def Vzd {α:Type} {P n code t L R} {Q:Kt} {wd:Nat} {f:α→List Value} {subs:LS} {y:Arr α} (m:Nat) (hR:InR (y.sl wd f subs) R) (h:CJ P n code t L ((⟨y.a,y.cap,y.l.take m⟩:Arr α).sl wd f subs :: R) Q):CJ P n code t L R Q:=by
 have h1:=Uvf (Q:=Q) (t:=t) (L:=L) (P:=P) (n:=n) (code:=code) (y.l.take m).length hR (by rw [yYa];omega);refine h1 ?_;have e:(y.l.map f).take (y.l.take m).length=(y.l.take m).map f:=by
  rw [yYa,← List.map_take];congr 1;rcases Nat.le_total m y.l.length with h | h;·rw [Nat.min_eq_left h]
  ·rw [Nat.min_eq_right h,yG h,yG (yl _)]
 rw [e];exact h
def Zba {P f args L R} {Post:Yy} {wd len cap:Nat} {a:Option Addr} {rows:List (List Value)} {subs:LS} (hcall:∀(xs:Array Value) (w:World),(callFunc f xs).run P w=.ok (.enter f xs) w) (hR:InR (.mk wd a len cap rows subs) R) (h:len≤cap∧cap < 9223372036854775808→Tri P f args L R Post):Tri P f args L R Post:=by refine ⟨hcall,fun w G hh=>?_⟩;obtain ⟨r,hr,hsub⟩:=hR;exact (h ((hh.rep r hr).sub hsub).bounds).2 w G hh
def U6f {P n all ops t L M R U} {Q:Kt} (hL:M.Sublist L) (hR:∀r∈U,InR r R) (h:LJ P n all ops t M U Q):LJ P n all ops t L R Q:=
 fun c a w hf hs=>h c a w hf (hs.weak hL hR)
def Zac {P n all t t0 L M R U ws xin v} (h1:ev t xin=.bool v) (h2:Off ws t0 t) (hL:M.Sublist L) (hR:∀r∈U,InR r R):LJ P n all [] t L R (J5 ws t0 xin v M U):=
 U6f hL hR (J6 (Jre h1 h2))
def Jse {w:World} {G:Nat→Prop} {wd:Nat}:Rep w G (.mk wd none 0 0 [] []):=.mk rfl (yl _) ze zo (.inl rfl) zo
def Kxe {P n code t L R} {Q:Kt} (wd:Nat) (h:CJ P n code t L (.mk wd none 0 0 [] [] :: R) Q):CJ P n code t L R Q:=Kod (fun _ _ _=>Jse) h
structure SpanEq (P:Program) (T:TypeId):Prop where
 eq:∀(a b c d:Int) (w:World),(Op.equalIn 10000 T (.agg #[.int .i64 a,.int .i64 b]) (.agg #[.int .i64 c,.int .i64 d])).run P w=.ok (decide (a=c) && decide (b=d)) w
 guard:P.eqGuardType P.depth T=false
def J3e {P : Program} {T I : TypeId} (h1 : P.underlying T = some (.struct (P.fieldsOf T))) (h2 : P.stoodInHeld T = false) (h3 : P.eqGuardType P.depth T = false) (h4 : (P.fieldsOf T).toList.map (fun f => (f.name == "_", f.type, f.offset)) = [(false, I, 0), (false, I, 1)])
 (hI:P.underlying I=some (.int .i64)):SpanEq P T:=by
 refine ⟨fun a b c d w=>?_,h3⟩;rw [run_equalIn_agg w 9999 T _ _ h1 h2];generalize (P.fieldsOf T).toList=fs at h4;obtain ⟨f,g,rfl⟩:∃f g,fs=[f,g]:=by
  have hl:=congrArg List.length h4;simp only [yz] at hl;cases fs with
  | nil=>cases hl
  | cons f fs=>cases fs with
   | nil=>cases hl
   | cons g fs=>cases fs with
    | nil=>exact ⟨f,g,rfl⟩
    | cons _ _=>cases hl
 simp only [yJ,ypb,List.cons.injEq,Prod.mk.injEq,and_true] at h4;obtain ⟨⟨f1,f2,f3⟩,g1,g2,g3⟩:=h4;have nf : f.name ≠ "_" := by simpa using f1
 have ng : g.name ≠ "_" := by simpa using g1
 have hag:(isAgg I).run P w=.ok false w:=by simp [isAgg,run_underlying hI]
 have hp:∀(cs:Array Value) (off:Nat) (v:Value),cs[off]?=some v→(part I cs off).run P w=.ok v w:=fun cs off v h=>by simp only [part,yga,hag,yE];simp [h]
 have e1:(Op.equalIn 9999 I (.int .i64 a) (.int .i64 c)).run P w=.ok (a == c) w:=run_equalIn_int (P:=P) w 9998 I .i64 .i64 a c hI;have e2:(Op.equalIn 9999 I (.int .i64 b) (.int .i64 d)).run P w=.ok (b == d) w:=run_equalIn_int (P:=P) w 9998 I .i64 .i64 b d hI;have p1:(part I #[Value.int .i64 a,Value.int .i64 b] 0).run P w=.ok (.int .i64 a) w:=hp _ _ _ rfl;have p2:(part I #[Value.int .i64 c,Value.int .i64 d] 0).run P w=.ok (.int .i64 c) w:=hp _ _ _ rfl;have p3:(part I #[Value.int .i64 a,Value.int .i64 b] 1).run P w=.ok (.int .i64 b) w:=hp _ _ _ rfl;have p4:(part I #[Value.int .i64 c,Value.int .i64 d] 1).run P w=.ok (.int .i64 d) w:=hp _ _ _ rfl;rw [Und] at e1 e2;simp only [Op.eqFields,if_pos nf,if_pos ng,f2,f3,g2,g3,yga,p1,p2,yE,e1,Sem.run_ite,yBa,p3,p4,e2];by_cases hac:a=c <;> by_cases hbd:b=d <;> simp [hac,hbd]
section
variable {P:Program} {ρ:Operand→Value} {L:LB} {R:LS} {dst:Option Tmp} {ty:TypeId} {pos:String} {after:Array Edge} {guard:Option (Nat×Bool)} {T T2:TypeId} {x y:Operand} {a b c d:Int}
def Y1b (hT:SpanEq P T) (hx:ρ x=.agg #[.int .i64 a,.int .i64 b]) (hy:ρ y=.agg #[.int .i64 c,.int .i64 d]):YV P ⟨dst,.binOp .eql T x y T2,ty,pos,after,guard⟩ ρ L R (.bool (decide (a=c) && decide (b=d))):=fun _ w _=>by
 have h1:=run_eqGuard_agg (P:=P) w .eql T x y #[.int .i64 a,.int .i64 b] #[.int .i64 c,.int .i64 d] hT.guard
 simp only [execOp,hx,hy,yga,h1,yE,run_eql_struct,hT.eq]
 simp
end
end Go.Aw
