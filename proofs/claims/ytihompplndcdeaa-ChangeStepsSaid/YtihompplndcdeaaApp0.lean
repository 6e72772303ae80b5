import Derived.Test.YtihompplndcdeaaSeqS
import Derived.Test.YtihompplndcdeaaData
import Derived.Test.YtihompplndcdeaaOwn
set_option linter.unusedVariables false
set_option linter.unusedSimpArgs false
section
/-
  What is known of the air does not hang on where its lists lie. Plain. By an AI agent; no person has read it.
-/
namespace Go.Proofs.Ytihompplndcdeaa
open Go.Aw Go
def J4a (f:XFan):XFan:=⟨f.road,f.back,f.aux,⟨none,0,f.curve.l⟩⟩
def Jql (d:XDoor):XDoor:=⟨d.road,d.other,⟨none,0,d.rests.l⟩⟩
def J3i (m:XMine):XMine:=⟨⟨none,0,m.places.l⟩,⟨none,0,m.roads.l⟩⟩
def Jhy (a:XAir):XAir:=⟨J3i a.mine,⟨none,0,a.fans.l.map J4a⟩,⟨none,0,a.doors.l.map Jql⟩⟩
abbrev Jsk (s:XSetting):XSetting:=mkS (Jak s)
theorem Jq0 {α β:Type} {f:α→β} {l:List α} {k:Nat} {d:α} {e:β} (h:f d=e):(l.map f).getD k e=f (l.getD k d):=by
  rw [List.getD_eq_getElem?_getD,List.getD_eq_getElem?_getD,List.getElem?_map]
  cases l[k]? with
  | none=>exact h.symm
  | some x=>rfl
theorem J1h (a:XAir) (k:Nat):(Jhy a).fans.l.getD k default=J4a (a.fans.l.getD k default):=Jq0 rfl
theorem Jx4 (a:XAir) (k:Nat):(Jhy a).doors.l.getD k default=Jql (a.doors.l.getD k default):=Jq0 rfl
theorem Jom (a : XAir) (s : XSetting) (r : Int) : ∀ k, Jbq (Jhy a) (Jsk s) r k = Jbq a s r k
  | 0=>rfl
  | k + 1=>by rw [Jbq,Jbq,Jom a s r k,Jx4];rfl
theorem Jls (a : XAir) (s : XSetting) (r q : Int) : ∀ k, innerTo (Jhy a) (Jsk s) r q k = innerTo a s r q k
  | 0=>by rw [innerTo,innerTo,Jom,show (Jhy a).doors.l.length=a.doors.l.length from List.length_map _];rfl
  | k + 1=>by rw [innerTo,innerTo,Jls a s r q k,J1h];rfl
theorem Jw1 (a:XAir) (s:XSetting):Ja8 (Jhy a) (Jsk s)=Ja8 a s:=by
  funext r q
  rw [Ja8,Ja8,Jls,show (Jhy a).fans.l.length=a.fans.l.length from List.length_map _]
theorem Jrt (l:List XDoor):Jev (l.map Jql)=Jev l:=by
  funext i
  rw [Jev,Jev,List.getElem?_map]
  cases l[i]? with
  | none=>rfl
  | some d=>
    have hp:Jjw (l.map Jql) i (Jql d)↔Jjw l i d:=by
      unfold Jjw
      simp only [List.length_map,Jq0 (f:=Jql) (l:=l) (d:=default) (e:=default) rfl]
      exact Iff.rfl
    simp only [Option.map_some,hp]
    rfl
theorem Jp9 (l:List XDoor):Jbm (l.map Jql)=Jbm l:=by rw [Jbm,Jbm,Jrt,List.length_map]
theorem Jto (a:XAir):Jat (Jhy a)=Jat a:=by
  have h1:(Jhy a).fans.l=a.fans.l.map J4a:=rfl
  have h2:(Jhy a).doors.l=a.doors.l.map Jql:=rfl
  have h3:(Jhy a).mine=J3i a.mine:=rfl
  have h4:Jbs (J3i a.mine)=Jbs a.mine:=rfl
  rw [Jat,Jat,h1,h2,h3,h4,Jp9,List.length_map,List.findSome?_map,List.findSome?_map]
  rfl
theorem Jyb (a:XAir) (s:XSetting):Jdl (Jhy a) (Jsk s)=Jdl a s:=by
  have h1:(Jhy a).fans.l.length=a.fans.l.length:=List.length_map _
  have h2:(Jhy a).doors.l.length=a.doors.l.length:=List.length_map _
  have h3:Jda (Jhy a).doors.l (Jsk s).doors.l=Jda a.doors.l s.doors.l:=by
    funext i
    show Jda (a.doors.l.map Jql) s.doors.l i=_
    rw [Jda,Jda,List.getElem?_map]
    cases s.doors.l[i]? <;> cases a.doors.l[i]? <;> rfl
  rw [Jdl,Jdl,h1,h2,h3]
  rfl
section
variable {a a':XAir} {s s':XSetting}
structure AirE (a a':XAir) (s s':XSetting):Prop where
  mine:a.mine.places.l=a'.mine.places.l∧a.mine.roads.l=a'.mine.roads.l
  inner:Ja8 a s=Ja8 a' s'
  err:Jat a=Jat a'
  fit:Jdl a s=Jdl a' s'
variable (h:AirE a a' s s')
include h
theorem AirE.term (F G:(Int→XSpan)→Int→Int):Jf2 F G a s=Jf2 F G a' s':=by
  funext ps v k
  rw [Jf2,Jf2,Jca,Jca,h.inner,h.mine.2]
theorem AirE.sum (F G : (Int → XSpan) → Int → Int) (ps : List Int) (v : Int) : ∀ k, Joj F G a s ps v k = Joj F G a' s' ps v k
  | 0=>rfl
  | k + 1=>by rw [Joj,Joj,AirE.sum F G ps v k,h.term]
theorem AirE.low:Jph a s=Jph a' s':=by
  funext ps v
  rw [Jph,Jph,h.sum,h.mine.2]
theorem AirE.high:Jgp a s=Jgp a' s':=by
  funext ps v
  rw [Jgp,Jgp,h.sum,h.mine.2]
theorem AirE.test (up:Bool) (l:List Int):Jqk a s up l=Jqk a' s' up l:=by
  funext v q
  rw [Jqk,Jqk]
  unfold J2f Jue
  rw [h.low,h.high]
theorem AirE.next (up:Bool):Jft a s up=Jft a' s' up:=by
  funext l k
  rw [Jft,Jft,h.test]
theorem AirE.fix (A:List Bool):Jmn a A=Jmn a' A:=by
  funext k
  rw [Jmn,Jmn,h.mine.1]
theorem AirE.sweep (A : List Bool) (up : Bool) (l : List Int) : ∀ k, Jb4 a s A up l k = Jb4 a' s' A up l k
  | 0=>rfl
  | k + 1=>by rw [Jb4,Jb4,AirE.sweep A up l k,h.fix,h.next]
theorem AirE.rounds (A : List Bool) (up : Bool) : ∀ n l, Jcm a s A up n l = Jcm a' s' A up n l
  | 0,_=>rfl
  | n + 1,l=>by
    rw [Jcm,Jcm,h.sweep,h.mine.1]
    cases Jb4 a' s' A up l a'.mine.places.l.length with
    | none=>rfl
    | some m=>dsimp only;rw [AirE.rounds A up n m]
theorem AirE.start (ps:List Int) (A:List Bool):Jcw a s ps A=Jcw a' s' ps A:=by
  have e:Jdq a ps A=Jdq a' ps A:=by
    funext i
    rw [Jdq,Jdq,h.fix]
  rw [Jcw,Jcw,h.err,h.fit,h.mine.1,e]
theorem AirE.relax (A:List Bool) (up:Bool) (ps:List Int):Jbw a s A up ps=Jbw a' s' A up ps:=by
  rw [Jbw,Jbw,h.start,h.rounds]
theorem AirE.solve (A:List Bool):Jdm a s A=Jdm a' s' A:=by
  have e:Jbw a s A=Jbw a' s' A:=by
    funext up ps
    exact h.relax A up ps
  rw [Jdm,Jdm,e,h.mine.1]
theorem AirE.check (b:XBounds) (A:List Bool):Jd1 a s b A=Jd1 a' s' b A:=by
  have e:Jcq a s b A=Jcq a' s' b A:=by
    funext i
    rw [Jcq,Jcq,h.low,h.high,h.mine.1]
  rw [Jd1,Jd1,h.err,h.fit,h.mine.1,e]
theorem AirE.flows (b:XBounds) (A:List Bool):Jce a s b A=Jce a' s' b A:=by
  have e:Jby a s b A=Jby a' s' b A:=by
    funext k
    rw [Jby,Jby,h.inner,h.mine.2]
  rw [Jce,Jce,h.check,h.mine.2,e]
theorem AirE.ana (A:List Bool):Jf8 a s A=Jf8 a' s' A:=by
  have e:Je0 a=Je0 a':=by
    funext k
    rw [Je0,Je0,h.mine.2]
  rw [Jf8,Jf8,h.err,h.fit,Jhv,Jhv,h.solve,h.flows,h.mine.2,e]
end
theorem AirE.bare (a:XAir) (s:XSetting):AirE (Jhy a) a (Jsk s) s:=⟨⟨rfl,rfl⟩,Jw1 a s,Jto a,Jyb a s⟩
theorem AirE.symm {a a':XAir} {s s':XSetting} (h:AirE a a' s s'):AirE a' a s' s:=⟨⟨h.mine.1.symm,h.mine.2.symm⟩,h.inner.symm,h.err.symm,h.fit.symm⟩
theorem AirE.trans {a a' a'':XAir} {s s' s'':XSetting} (h:AirE a a' s s') (k:AirE a' a'' s' s''):AirE a a'' s s'':=⟨⟨h.mine.1.trans k.mine.1,h.mine.2.trans k.mine.2⟩,h.inner.trans k.inner,h.err.trans k.err,h.fit.trans k.fit⟩
theorem AirE.of {a a':XAir} {s s':XSetting} (h1:Jhy a=Jhy a') (h2:Jak s=Jak s'):AirE a a' s s':=by
  have e1:=(AirE.bare a s).symm
  have e2:=AirE.bare a' s'
  rw [h1,show Jsk s=Jsk s' from congrArg mkS h2] at e1
  exact e1.trans e2
theorem J3s (a:XAir) {s s':XSetting} (A:List Bool) (h:Jak s=Jak s'):Jf8 a s A=Jf8 a s' A:=(AirE.of rfl h).ana A
theorem Jmy (a:XAir) {s s':XSetting} (h:Jak s=Jak s'):Jdl a s=Jdl a s':=(AirE.of rfl h).fit
theorem Jza (a:XAir) (s:XSetting) (A:List Bool):flS a A (Jak s)=(Jf8 a s A).2:=by rw [flS,J3s a (s:=mkS (Jak s)) (s':=s) A rfl]
end Go.Proofs.Ytihompplndcdeaa
end
section
/-
  Appending nothing. By an AI agent; no person has read it.
-/
namespace Go.Proofs.Ytihompplndcdeaa
open Go.Aw Go
theorem Jnx {P:Program} (w:World) (t ty e:TypeId) (i:TypeInfo) (ht:P.underlying t=some (.slice e)) (hi:P.info? e=some i) (b off sLen sCap:Nat) (a:Option Addr) (c:Nat) (hl:sLen≤sCap):
    (Builtin.append_ #[t,t] ty #[.slice (some ⟨b,off,none⟩) sLen sCap,.slice a 0 c]).run P w=.ok (.slice (some ⟨b,off,none⟩) sLen sCap) w:=by
  have hst:=run_storeCells_cells (P:=P) b (off + sLen * i.size) [] 0 w (by simp) (by simp) (by simp)
  cases a with
  | none=>simp [Builtin.append_,run_underlying ht,sizeOf,typeInfo,hi,Builtin.lenOf,hl,Builtin.firstCells,storeCells]
  | some a=>
    have hf:=run_firstCells_some (P:=P) w i.size 0 a 0 c [] (by simp) (by simp)
    simp [Builtin.append_,run_underlying ht,sizeOf,typeInfo,hi,Builtin.lenOf,hl,hf,storeCells]
section
variable {P:Program} {ρ:Operand→Value} {L:List Blk} {R:List Sl} {dst:Option Tmp} {ty:TypeId} {pos:String} {after:Array Edge} {guard:Option (Nat×Bool)} (tb:Tabs P) {T:TypeId} {x y:Operand}
theorem Jq5 {e n fl bt z k2 n2 fl2 bt2 z2} {b sLen sCap c:Nat} {ar:Option Addr} (hT:Jeg tb.tab T=some ⟨.slice e,n,fl,bt,z⟩) (hE:Jeg tb.tab e=some ⟨k2,n2,fl2,bt2,z2⟩) (hx:ρ x=.slice (some ⟨b,0,none⟩) sLen sCap) (hy:ρ y=.slice ar 0 c) (hl:sLen≤sCap):
    Gives P ⟨dst,.call ⟨.builtin .append,#[x,y],#[T,T]⟩,ty,pos,after,guard⟩ ρ L R (fun v L' R'=>v=.slice (some ⟨b,0,none⟩) sLen sCap∧L=L'∧R=R'):=by
  intro c1 w hst a next Q kk
  have hu:=Jdu (tb.ok _ _ hT) rfl
  obtain ⟨ti,u,zv,i1,i2,i3,i4⟩:=Jc2 (tb.ok _ _ hE)
  have e1:execOp ρ ⟨dst,.call ⟨.builtin .append,#[x,y],#[T,T]⟩,ty,pos,after,guard⟩=(do pure (.value (← Builtin.append_ #[T,T] ty #[ρ x,ρ y]))):=by
    simp [execOp,resolve,invoke,builtin]
  have hr:=Jnx w T ty e ti hu i1 b 0 sLen sCap ar c hl
  refine Jdd (w':=w) (v:=.slice (some ⟨b,0,none⟩) sLen sCap) ?_ (kk _ _ _ w ⟨rfl,rfl,rfl⟩ hst)
  rw [e1,hx,hy]
  simp only [Sem.run_bind,hr,Result.andThen_ok,Sem.run_pure]
end
theorem Jvv {α : Type} {f : α → List Value} (h1 : ∀ x, (f x).all (·.oneCell') = true) : ∀ l : List α, (l.flatMap f).all (·.oneCell') = true
  | []=>rfl
  | x :: l=>by rw [List.flatMap_cons,List.all_append,h1 x,Jvv h1 l];rfl
theorem Jz3 {α:Type} {f:α→List Value} {wd:Nat} {T':TypeId} {q:OwL α} {L:List Blk} {R:List Sl} (hf:∀x,(f x).length=wd) (hok:q.ok wd f) (hin:InB (q.L T' f) L) (hm:0 < q.l.length):Jt2 L R q.val q.l.length wd (q.l.flatMap f):=by
  obtain ⟨g,cap,spare,ho⟩:=OwL.own_of hok hm
  refine ⟨⟨g,0,none⟩,cap,by rw [OwL.val,ho];rfl,Jb6 hf q.l,fun c w hst j u hj=>?_⟩
  have hmem:(⟨g,q.l.flatMap f ++ spare,T'⟩:Blk)∈L:=hin _ (by rw [OwL.L,ho];simp [Ow.L])
  rw [Jfo,Nat.zero_add,Jg1 hst hmem]
  rw [List.getElem?_append_left (List.getElem?_eq_some_iff.1 hj).1]
  exact hj
section
variable {P:Program} {ρ:Operand→Value} {L:List Blk} {R:List Sl} {dst:Option Tmp} {ty:TypeId} {pos:String} {after:Array Edge} {guard:Option (Nat×Bool)} (tb:Tabs P) {T:TypeId} {x y:Operand}
theorem Jp4 {α : Type} {e n fl bt z k2 n2 fl2 bt2 z2} {f : α → List Value} (p q : OwL α) {T' : TypeId} {F : OwL α → List Blk} (hT : Jeg tb.tab T = some ⟨.slice e, n, fl, bt, z⟩) (hE : Jeg tb.tab e = some ⟨k2, n2, fl2, bt2, z2⟩) (hn2 : z2.length = n2)
    (hx:ρ x=p.val) (hy:ρ y=q.val) (hok:p.ok n2 f) (hokq:q.ok n2 f) (hf:∀x,(f x).length=n2) (hseg:OSeg e f p L F) (hB:InB (q.L T' f) L) (hm:0 < q.l.length) (h1:∀x,(f x).all (·.oneCell')=true) (hby:(p.l.length + q.l.length) * (bt2 + 1)≤140737488355328):
    Gives P ⟨dst,.call ⟨.builtin .append,#[x,y],#[T,T]⟩,ty,pos,after,guard⟩ ρ L R (fun v L' R'=>∃o:Ow,v=(⟨o,p.l ++ q.l⟩:OwL α).val∧(⟨o,p.l ++ q.l⟩:OwL α).ok n2 f∧F ⟨o,p.l ++ q.l⟩=L'∧R=R'):=by
  have hsh:Jt2 L R q.val q.l.length n2 (q.l.flatMap f):=Jz3 hf hokq hB hm
  rw [← hy] at hsh
  obtain ⟨A,B,hL,hF⟩:=hseg.split
  subst hL
  have hb1:(p.l.length + q.l.length) * bt2≤140737488355328:=Nat.le_trans (Nat.mul_le_mul_left _ (Nat.le_succ _)) hby
  have hb2:p.l.length + q.l.length≤140737488355328:=Nat.le_trans (Nat.le_mul_of_pos_right _ (Nat.succ_pos _)) hby
  have hx':ρ x=p.o.val p.l.length:=by rw [hx,Ow.val_of_ok hok];rfl
  have:=Jh4 (dst:=dst) (ty:=ty) (pos:=pos) (after:=after) (guard:=guard) tb hT hE hn2 hx' hok (Jxg A _ B) hsh hm (Jvv h1 _) (by omega) hb1
  intro c w hst ac next Q kk
  refine this c w hst ac next Q ?_
  rintro v L' R' w' ⟨g,cap,spare,rfl,hok',rfl,rfl⟩ hst'
  have e:p.l.flatMap f ++ q.l.flatMap f=(p.l ++ q.l).flatMap f:=by simp
  rw [e] at hok'
  have hl:(p.l ++ q.l).length=p.l.length + q.l.length:=by simp
  refine kk _ _ _ w' ⟨.own g cap spare,?_,?_,?_,rfl⟩ hst'
  · rw [OwL.val];dsimp only;rw [hl];rfl
  · rw [OwL.ok];dsimp only;rw [hl];exact hok'
  · rw [hF,OwL.L];dsimp only;rw [← e]
theorem Jqn {α : Type} {e n fl bt z k2 n2 fl2 bt2 z2} {f : α → List Value} (p q : OwL α) {T' : TypeId} {F : OwL α → List Blk} (hT : Jeg tb.tab T = some ⟨.slice e, n, fl, bt, z⟩) (hE : Jeg tb.tab e = some ⟨k2, n2, fl2, bt2, z2⟩) (hn2 : z2.length = n2)
    (hx:ρ x=p.val) (hy:ρ y=q.val) (hok:p.ok n2 f) (hokq:q.ok n2 f) (hf:∀x,(f x).length=n2) (hseg:OSeg e f p L F) (hB:InB (q.L T' f) L) (hm:0 < p.l.length) (h1:∀x,(f x).all (·.oneCell')=true) (hby:(p.l.length + q.l.length) * (bt2 + 1)≤140737488355328):
    Gives P ⟨dst,.call ⟨.builtin .append,#[x,y],#[T,T]⟩,ty,pos,after,guard⟩ ρ L R (fun v L' R'=>∃o:Ow,v=(⟨o,p.l ++ q.l⟩:OwL α).val∧(⟨o,p.l ++ q.l⟩:OwL α).ok n2 f∧F ⟨o,p.l ++ q.l⟩=L'∧R=R'):=by
  rcases Nat.eq_zero_or_pos q.l.length with h0 | h0
  · have hnil : q.l = [] := List.eq_nil_of_length_eq_zero h0
    obtain ⟨g,cap,spare,ho⟩:=OwL.own_of hok hm
    have hcap:p.l.length≤cap:=by
      rw [OwL.ok,ho] at hok
      exact hok.2.1
    have hy':ρ y=.slice q.o.addr 0 q.o.cap:=by rw [hy,OwL.val,h0]
    have hx':ρ x=.slice (some ⟨g,0,none⟩) p.l.length cap:=by rw [hx,OwL.val,ho];rfl
    have:=Jq5 (L:=L) (R:=R) (dst:=dst) (ty:=ty) (pos:=pos) (after:=after) (guard:=guard) tb hT hE hx' hy' hcap
    obtain ⟨A,B,hL,hF⟩:=hseg.split
    intro c w hst ac next Q kk
    refine this c w hst ac next Q ?_
    rintro v L' R' w' ⟨rfl,rfl,rfl⟩ hst'
    rw [hnil,List.append_nil] at kk
    exact kk _ _ _ w' ⟨p.o,by rw [OwL.val,ho];rfl,hok,by rw [hF,hL],rfl⟩ hst'
  · exact Jp4 tb p q hT hE hn2 hx hy hok hokq hf hseg hB h0 h1 hby
end
def J11 {γ : Type} (ws : List Nat) (t0 : Nat → Value) (hd : Head γ) (Q : Jbd) : Jbd
  | .normal,t,L,R=>∃g,Off ws t0 t∧Jhz t (hd.slots g)∧(∃L1,L.Perm L1∧(hd.L g).Sublist L1)∧∀r∈hd.R g,InR r R
  | e,t,L,R=>Q e t L R
theorem Ja2 {γ:Type} {ws:List Nat} {t0 t:Nat→Value} {L L1:List Blk} {R:List Sl} {hd:Head γ} {Q:Jbd} (g:γ) (ho:Off ws t0 t) (hs:Jhz t (hd.slots g)) (hp:L.Perm L1) (hL:(hd.L g).Sublist L1) (hR:∀r∈hd.R g,InR r R):J11 ws t0 hd Q .normal t L R:=⟨g,ho,hs,⟨L1,hp,hL⟩,hR⟩
theorem Jq4 {P n code t L L' R} {Q:Jbd} (hp:L.Perm L') (h:CJ P n code t L' R Q):CJ P n code t L R Q:=Jld fun _ _ hst=>⟨_,_,hst.perm hp,h⟩
theorem J1b {γ:Type} {P n x y t L R} {Q:Jbd} (ws:List Nat) (hd:Head γ) (h:CJ P n x t L R (J11 ws t hd Q)) (k:∀g junk,CJ P n y (updL (havoc ws t junk) (hd.slots g)) (hd.L g) (hd.R g) Q):CJ P n x t L R (Jdn P n y Q):=by
  intro c a w hf hs
  refine wp_mono (h c a w hf hs) ?_
  rintro e a w ⟨hnp,t',L',R',hq,hf',hs'⟩
  cases e with
  | normal=>
    obtain ⟨g,ho,hsh,⟨L1,hp,hL⟩,hR⟩:=hq
    have e:updL (havoc ws t t') (hd.slots g)=t':=by rw [Jeq ho,Jd7 hsh]
    refine ⟨trivial,t',L',R',?_,hf',hs'⟩
    have:=k g t'
    rw [e] at this
    exact Jq4 hp (Jmw hL hR this)
  | _=>exact ⟨hnp,t',L',R',hq,hf',hs'⟩
theorem Joa {P : Program} {dst : Option Tmp} {f : FuncId} {xs : List Operand} {ts : Array TypeId} {pos : String} {after : Array Edge} {guard : Option (Nat × Bool)} {ty : TypeId} {t : Nat → Value} {L : List Blk} {R : List Sl} {args : List Value} {Post : Jed} (ha : xs.map (ev t) = args)
    (h:Tri P f args.toArray L R Post):Gives P ⟨dst,.call ⟨.value (.func f),xs.toArray,ts⟩,ty,pos,after,guard⟩ (ev t) L R Post:=
  Jgn (by rw [← ha];simp) rfl h
theorem YV.gives2 {P op ρ L R v} (h:YV P op ρ L R v):Gives P op ρ L R (fun v' L' R'=>v'=v∧L=L'∧R=R'):=by
  intro c w hs a next Q k
  rw [h c w hs]
  exact k v L R w ⟨rfl,rfl,rfl⟩ hs
end Go.Proofs.Ytihompplndcdeaa
end
