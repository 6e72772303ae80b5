/-
  Texts of one chapter, merged. By an AI agent; no person has read it.
-/
import Derived.Test.YtchfclmokpbldaaGreatEasyR
import Derived.Test.YtchfclmokpbldaaGreatTelG
import Derived.Test.YtchfclmokpbldaaGreatCutP
set_option linter.unusedVariables false
set_option linter.unusedSimpArgs false
set_option maxRecDepth 20000
namespace Go.Proofs.YtchfclmokpbldaaGreat
open Go.Aw Go
section
def Grow (t:Int) (a b:List XEntry) (n:Nat) (c:Prop):Prop:=
  ∃new:List XEntry,b=a ++ new∧new.length≤n∧(∀z∈new,z.time=t∧1≤z.kind∧z.kind≤7)∧((∃z∈new,z.kind=1∧z.target=0)↔c)
theorem Grow.refl (t:Int) (a:List XEntry):Grow t a a 0 False:=⟨[],(List.append_nil a).symm,Nat.le_refl _,fun z h=>zF,⟨fun ⟨z,h,_⟩=>zF,fun h=>h.elim⟩⟩
theorem Grow.trans {t:Int} {a b d:List XEntry} {n m:Nat} {c c':Prop} (h:Grow t a b n c) (k:Grow t b d m c'):Grow t a d (n + m) (c∨c'):=by
  obtain ⟨x,rfl,h1,h2,h3⟩:=h
  obtain ⟨y,rfl,k1,k2,k3⟩:=k
  refine ⟨x ++ y,List.append_assoc .., by rw [List.length_append];omega,fun z hz=>?_,?_⟩
  · rcases List.mem_append.1 hz with hz | hz
    · exact h2 z hz
    · exact k2 z hz
  · rw [← h3, ← k3]
    constructor
    · rintro ⟨z, hz, e⟩
      rcases List.mem_append.1 hz with hz | hz
      · exact .inl ⟨z,hz,e⟩
      · exact .inr ⟨z,hz,e⟩
    · rintro (⟨z, hz, e⟩ | ⟨z, hz, e⟩)
      · exact ⟨z,List.mem_append_left _ hz,e⟩
      · exact ⟨z,List.mem_append_right _ hz,e⟩
theorem Grow.len {t:Int} {a b:List XEntry} {n:Nat} {c:Prop} (h:Grow t a b n c):b.length≤a.length + n:=by
  obtain ⟨x,rfl,h1,_⟩:=h
  rw [List.length_append];omega
theorem Grow.weak {t:Int} {a b:List XEntry} {n m:Nat} {c c':Prop} (h:Grow t a b n c) (hn:n≤m) (hc:c↔c'):Grow t a b m c':=by
  obtain ⟨x,h0,h1,h2,h3⟩:=h
  exact ⟨x,h0,by omega,h2,h3.trans hc⟩
section
variable {g:PSite} {p:PSta}
theorem Z6a {k z v:Int} (hk:1≤k∧k≤7) (hl:p.log.length < 400):Grow p.time p.log (Yi p k z v).log 1 (k=1∧z=0):=by
  refine ⟨[⟨p.time,k,z,v⟩],?_,Nat.le_refl _,fun y hy=>by rw [List.mem_singleton.1 hy];exact ⟨rfl,hk⟩,?_⟩
  · show Vta p.log _ = _
    rw [Vta,show p.log.length + 1 - 400=0 by omega];rfl
  · constructor
    · rintro ⟨y, hy, h⟩
      rw [List.mem_singleton.1 hy] at h;exact h
    · exact fun h=>⟨_,.head _,h⟩
theorem Khd {z:Int} (hl:p.log.length + 2≤400):Grow p.time p.log (K3b g p z).log 2 (z=0):=by
  have h1:=Z6a (p:=p) (k:=1) (z:=z) (v:=(p.cuts.getD z.toNat default).reason) za za
  have hn:=h1.len
  rw [K3b]
  split
  · have h2 := Z6a (p := { Yi p 1 z (p.cuts.getD z.toNat default).reason with sw := Vl p.sw (g.zn.getD z.toNat 0) p.time }) (k := 2) (z := g.zn.getD z.toNat 0) (v := 0) za (by show (Yi p 1 z (p.cuts.getD z.toNat default).reason).log.length < 400; omega)
    exact (h1.trans h2).weak (Nat.le_refl _) (by constructor <;> intro h <;> omega)
  · exact h1.weak za za
theorem Uvc : ∀ (l : List Int) {p : PSta}, p.log.length + 2 * l.length ≤ 400 → Grow p.time p.log (Vga g p l).log (2 * l.length) (0 ∈ l)
  | [],p,_=>(Grow.refl _ _).weak (Nat.le_refl _) zo
  | z :: l,p,hl=>by
    rw [List.length_cons] at hl
    have h1:=Khd (g:=g) (p:=p) (z:=z) za
    have h2:=Uvc l (p:=K3b g p z) (by have:=h1.len;omega)
    rw [V4b] at h2
    exact (h1.trans h2).weak (by rw [List.length_cons];omega) (by rw [List.mem_cons];constructor <;> (rintro (h | h);exact .inl h.symm;exact .inr h))
theorem J4b {k : Int} (hk : 2 ≤ k ∧ k ≤ 7) : ∀ (l : List Int) {p : PSta}, p.log.length + l.length ≤ 400 → Grow p.time p.log (Yr k p l).log l.length False
  | [],p,_=>Grow.refl _ _
  | z :: l,p,hl=>by
    rw [List.length_cons] at hl
    have h1:=Z6a (p:=p) (k:=k) (z:=z) (v:=0) za za
    have h2:=J4b hk l (p:=Yi p k z 0) (by have:=h1.len;omega)
    exact (h1.trans h2).weak (by rw [List.length_cons];omega) ⟨fun h=>h.elim (fun h=>absurd h.1 za) id,False.elim⟩
def Zgb (p:PSta):Bool:=(p.cuts.getD 0 default).off
theorem Vqb (hI:Inv g p) (h1:p.cuts.length=1) (h3:p.sw.length≤3) {t:Int} (ht:p.time≤t∧t≤2147483648) (hl:p.log.length + 10≤400):
    ∃c:Prop,Grow t p.log (Jd g p t).log 10 c∧(Zgb p=true→¬ c)∧(Zgb p=false→Zgb (Jd g p t)=true→c)∧(Jd g p t).cuts.length=1∧(Zgb p=true→Zgb (Jd g p t)=true):=by
  have hI1:=hI.at ht.1 ht.2
  obtain ⟨p1,hp1⟩:∃p1:PSta,p1={ p with time:=t }:=⟨_,rfl⟩
  rw [← hp1] at hI1
  have e1:p1.cuts=p.cuts:=by rw [hp1]
  have e2:p1.log=p.log:=by rw [hp1]
  have e3:p1.time=t:=by rw [hp1]
  have e4:p1.sw=p.sw:=by rw [hp1]
  have hce:=hI1.cutErr
  have hN:cutsN g.site (Kja g p1) p1.cuts p1.time=Zu g.site (Kja g p1) p1.cuts 1:=by rw [cutsN,if_neg (by rw [hce];decide),e1,h1]
  have hC:cutsC g.site (Kja g p1) p1.cuts p1.time=[cutAt g.site (Kja g p1) p1.cuts p1.time 0]:=by rw [cutsC,if_neg (by rw [hce];decide),e1,h1];rfl
  have hNl:(Zu g.site (Kja g p1) p1.cuts 1).length≤1:=Jjc 1
  have hN0:(0:Int)∈Zu g.site (Kja g p1) p1.cuts 1↔J1a (g.site.zones.l.getD 0 default).rule.l (Kja g p1)≠-1∧Zgb p=false:=by
    rw [Vjc,Zgb,← e1]
    constructor
    · rintro ⟨k, hk, _, h⟩
      obtain rfl:k=0:=by omega
      exact h
    · exact fun h=>⟨0,by decide,rfl,h⟩
  -- the three parts
  have gA:Grow p1.time p1.log (settleA g p1).log 2 (0∈Zu g.site (Kja g p1) p1.cuts 1):=by
    have:=Uvc (g:=g) (Zu g.site (Kja g p1) p1.cuts 1) (p:={ p1 with watches:=valuesW g.site p1.meas p1.watches (flP g p1) p1.time,cuts:=cutsC g.site (Kja g p1) p1.cuts p1.time }) (by show p1.log.length + _≤_;rw [e2];omega)
    rw [settleA,hN]
    exact this.weak (show 2 * (Zu g.site (Kja g p1) p1.cuts 1).length≤2 by omega) Iff.rfl
  rw [e2,e3] at gA
  have cA:(settleA g p1).cuts=[cutAt g.site (Kja g p1) p1.cuts p1.time 0]:=by rw [settleA,Ycc,hC]
  have tA:(settleA g p1).time=t:=by rw [settleA,Vnc];exact e3
  have hIA:=hI1.settleA
  have sA:(settleA g p1).sw.length≤3:=by
    rw [settleA]
    have:∀(l:List Int) (q:PSta),(Vga g q l).sw.length=q.sw.length:=fun l=>by
      induction l with
      | nil=>exact fun q=>rfl
      | cons z l ih=>
        intro q
        refine (ih (K3b g q z)).trans ?_
        rw [K3b]
        split <;> exact Yma ..
    rw [this]
    show p1.sw.length≤3
    rw [e4];exact h3
  have gB:Grow (settleA g p1).time (settleA g p1).log (settleB g (settleA g p1)).log 6 False:=by
    have hT:=Yha (sw:=(settleA g p1).sw) (rp:=g.rp) (t:=(settleA g p1).time) (settleA g p1).sw.length
    have hT':(Yg (settleA g p1).sw g.rp (settleA g p1).time).late.length≤3∧(Yg (settleA g p1).sw g.rp (settleA g p1).time).opened.length≤3:=by rw [Yg];omega
    have hAl:=gA.len
    have b1:=J4b (k:=3) za (Yg (settleA g p1).sw g.rp (settleA g p1).time).late (p:={ settleA g p1 with rest:=Zt (settleA g p1).cuts (settleA g p1).rest,sw:=(Yg (settleA g p1).sw g.rp (settleA g p1).time).sw }) (by show (settleA g p1).log.length + _≤_;omega)
    have b1l:=b1.len
    have b2:=J4b (k:=2) za (Yg (settleA g p1).sw g.rp (settleA g p1).time).opened (p:=Yr 3 { settleA g p1 with rest:=Zt (settleA g p1).cuts (settleA g p1).rest,sw:=(Yg (settleA g p1).sw g.rp (settleA g p1).time).sw } (Yg (settleA g p1).sw g.rp (settleA g p1).time).late) (by
      have:({ settleA g p1 with rest:=Zt (settleA g p1).cuts (settleA g p1).rest,sw:=(Yg (settleA g p1).sw g.rp (settleA g p1).time).sw }:PSta).log.length=(settleA g p1).log.length:=rfl
      omega)
    rw [Uaa] at b2
    have b3:=(b1.trans b2).weak (show _≤6 by omega) (show False∨False↔False by simp)
    rw [settleB]
    exact b3
  rw [tA] at gB
  have cB:(settleB g (settleA g p1)).cuts=[cutAt g.site (Kja g p1) p1.cuts p1.time 0]:=settleB_cuts.trans cA
  have tB:(settleB g (settleA g p1)).time=t:=by
    rw [settleB,Uaa,Uaa];exact tA
  have gAB:=(gA.trans gB).weak (show 2 + 6≤8 by decide) (show _∨False↔_ from ⟨fun h=>h.elim id False.elim,.inl⟩)
  have hABl:=gAB.len
  have hE:Jd g p t=Kta g (Kja g p1) (settleB g (settleA g p1)) 0:=by
    rw [Jd,← hp1,cB]
    rfl
  have hoff1:Zgb p=true→(cutAt g.site (Kja g p1) p1.cuts p1.time 0).off=true:=fun h=>by
    rw [cutAt];exact Kde (by rw [e1];exact h)
  have hoff2:Zgb p=false→J1a (g.site.zones.l.getD 0 default).rule.l (Kja g p1)= -1→(cutAt g.site (Kja g p1) p1.cuts p1.time 0).off=false:=fun h h2=>by
    rw [cutAt,Y5d,if_pos h2]
    split
    · show (p1.cuts.getD 0 default).off=false;rw [e1];exact h
    · rw [e1];exact h
  rw [hE,Kta]
  split
  · rename_i hd
    rw [cB] at hd
    refine ⟨_,gAB.weak zc Iff.rfl,fun h=>by rw [hN0,h];simp,fun h h2=>?_,by rw [cB];rfl,fun h=>by rw [Zgb,cB];exact hoff1 h⟩
    rw [hN0]
    refine ⟨fun h9=>?_,h⟩
    rw [Zgb,cB] at h2
    have h3:=hoff2 h h9
    rw [show ([cutAt g.site (Kja g p1) p1.cuts p1.time 0].getD 0 default)=cutAt g.site (Kja g p1) p1.cuts p1.time 0 from rfl,h3] at h2
    cases h2
  · rename_i hd
    have hd1:¬ (cutAt g.site (Kja g p1) p1.cuts p1.time 0).off=true:=fun h=>hd (.inl (by rw [cB];exact h))
    have hp:¬ Zgb p=true:=fun h=>hd1 (hoff1 h)
    have h4:=Khd (g:=g) (z:=0) (p:={ settleB g (settleA g p1) with cuts:=(settleB g (settleA g p1)).cuts.set 0 ⟨true,((settleB g (settleA g p1)).cuts.getD 0 default).clear,J1a (g.site.zones.l.getD 0 default).rule.l (Kja g p1)⟩ }) (by show (settleB g (settleA g p1)).log.length + 2≤400;omega)
    rw [show ({ settleB g (settleA g p1) with cuts:=(settleB g (settleA g p1)).cuts.set 0 ⟨true,((settleB g (settleA g p1)).cuts.getD 0 default).clear,J1a (g.site.zones.l.getD 0 default).rule.l (Kja g p1)⟩ }:PSta).time=t from tB] at h4
    refine ⟨True,(gAB.trans h4).weak zc ⟨fun _=>trivial,fun _=>.inr rfl⟩,fun h=>absurd h hp,fun _ _=>trivial,?_,fun h=>absurd h hp⟩
    rw [Z4a]
    show ((settleB g (settleA g p1)).cuts.set 0 _).length=1
    rw [List.length_set,cB];rfl
theorem Kvd (z:Int):(K3b g p z).sw.length=p.sw.length:=by
  rw [K3b]
  split <;> exact Yma ..
theorem Kod : ∀ (l : List Int) {p : PSta}, (Vga g p l).sw.length = p.sw.length
  | [],p=>rfl
  | z :: l,p=>(Kod l (p:=K3b g p z)).trans (Kvd z)
theorem Ybb (k : Int) : ∀ (l : List Int) {p : PSta}, (Yr k p l).sw.length = p.sw.length
  | [],p=>rfl
  | z :: l,p=>Ybb k l (p:=Yi p k z 0)
theorem tickAt_swl {rp t:Int} {y:XTick} {i:Nat}:(Y5a rp t y i).sw.length=y.sw.length:=by
  rw [Y5a]
  split
  · split
    · exact (Yma ..).trans List.length_set
    · exact List.length_set
  · rfl
theorem Z3b {sw : List XSwitch} {rp t : Int} : ∀ k, (K7a sw rp t k).sw.length = sw.length
  | 0=>rfl
  | k + 1=>tickAt_swl.trans (Z3b k)
theorem J1c (vals : List Int) : ∀ k, (darkTo g vals p k).sw.length = p.sw.length
  | 0=>rfl
  | k + 1=>by
    rw [darkTo,Kta]
    split
    · exact J1c vals k
    · exact (Kvd _).trans (J1c vals k)
theorem J5a (t:Int):(Jd g p t).sw.length=p.sw.length:=by
  rw [Jd]
  refine (J1c _ _).trans ?_
  rw [settleB]
  refine (Ybb _ _).trans ((Ybb _ _).trans ((Z3b _).trans ?_))
  rw [settleA]
  exact Kod _
theorem Kpb (sw:List XSwitch) (s sh:Int):(Zl sw s sh).length=sw.length:=by rw [Zl];simp
theorem K9c (s:XSite) (c:List XCut) (fl:List XSpan) (r:XRest) (f:XFeeder) (t:Int):(Vj s c fl r f t).length=f.switches.l.length:=by
  rw [Vj]
  split
  · rfl
  · rw [Uxb];exact List.length_set
theorem Kne (a:PAct):(Kha g p a).1.sw.length=p.sw.length:=by
  rw [Kha]
  split
  · rw [K8b]; split
    · rfl
    · exact J5a _
  split
  · rw [Zr]; split
    · rfl
    split
    · rfl
    · exact (J5a _).trans (Kpb ..)
  split
  · rw [Yjc]; split
    · rfl
    have hs:=J5a (g:=g) (p:=p) (p.time + a.wait)
    dsimp only
    generalize Jd g p (p.time + a.wait)=q at hs ⊢
    split <;> exact hs
  split
  · rw [V7]; split
    · rfl
    have hs:=J5a (g:=g) (p:=p) (p.time + a.wait)
    dsimp only
    generalize Jd g p (p.time + a.wait)=q at hs ⊢
    split <;> exact hs
  split
  · rw [Kma]; split
    · rfl
    have hs:=J5a (g:=g) (p:=p) (p.time + a.wait)
    dsimp only
    generalize Jd g p (p.time + a.wait)=q at hs ⊢
    split
    · exact hs
    · exact (K9c g.site q.cuts (flP g q) q.rest (mkF g q) (p.time + a.wait)).trans hs
  · rw [Uab]; split
    · rfl
    · exact J5a _
structure Acted (g:PSite) (p q:PSta):Prop where
  ex:∃c:Prop,Grow q.time p.log q.log 11 c∧(Zgb p=true→¬ c)∧(Zgb p=false→Zgb q=true→c)
  len:q.cuts.length=1
theorem Acted.refl (h1:p.cuts.length=1):Acted g p p:=⟨⟨False,(Grow.refl p.time p.log).weak zc Iff.rfl,fun _ h=>h,fun h h2=>by rw [h] at h2;cases h2⟩,h1⟩
theorem Acted.settle (hI:Inv g p) (h1:p.cuts.length=1) (h3:p.sw.length≤3) {t:Int} (ht:p.time≤t∧t≤2147483648) (hl:p.log.length + 11≤400):Acted g p (Jd g p t):=by
  obtain ⟨c,k1,k2,k3,k4,_⟩:=Vqb hI h1 h3 ht za
  exact ⟨⟨c,by rw [Yc];exact k1.weak zc Iff.rfl,k2,k3⟩,k4⟩
theorem Acted.more (hI:Inv g p) (h1:p.cuts.length=1) (h3:p.sw.length≤3) {t:Int} (ht:p.time≤t∧t≤2147483648) (hl:p.log.length + 11≤400) {k z v:Int} (hk:2≤k∧k≤7) {q:PSta} (e1:q.time=t) (e2:q.log=(Jd g p t).log) (e3:q.cuts.length=1) (e4:Zgb q=true→Zgb (Jd g p t)=true):Acted g p (Yi q k z v):=by
  obtain ⟨c,k1,k2,k3,k4,_⟩:=Vqb hI h1 h3 ht za
  have hln:=k1.len
  have h5:=Z6a (p:=q) (k:=k) (z:=z) (v:=v) za (by rw [e2];omega)
  rw [e1,e2] at h5
  refine ⟨⟨c,?_,k2,fun h h6=>k3 h (e4 h6)⟩,e3⟩
  show Grow q.time p.log _ 11 c
  rw [e1]
  exact (k1.trans h5).weak zc ⟨fun h=>h.elim id (fun h=>absurd h.1 za),.inl⟩
theorem Vjd (hI:Inv g p) (h1:p.cuts.length=1) (h3:p.sw.length≤3) (hl:p.log.length + 11≤400) {a:PAct} (ha:ActOk a):Acted g p (Kha g p a).1:=by
  rw [Kha]
  split
  · rw [K8b]; split
    · exact .refl h1
    · rename_i h9
      have:=Acted.settle (hI.feedR ha.bytes (p.time + a.wait)) h1 h3 (t:=p.time + a.wait) (K9 h9) hl
      exact ⟨this.ex,this.len⟩
  split
  · rw [Zr]; split
    · exact .refl h1
    rename_i h9
    split
    · exact .refl h1
    · rename_i he
      have:=Acted.settle (hI.ansSw (Decidable.not_not.1 he)) h1 (by rw [Kpb];exact h3) (t:=p.time + a.wait) (K9 h9) hl
      exact ⟨this.ex,this.len⟩
  have hs:¬ Jia p (p.time + a.wait)→(Jd g p (p.time + a.wait)).cuts.length=1:=fun h9=>(Acted.settle hI h1 h3 (K9 h9) hl).len
  split
  · rw [Yjc]; split
    · exact .refl h1
    rename_i h9
    dsimp only
    split
    · exact .more hI h1 h3 (K9 h9) hl za (Yc _) rfl (hs h9) id
    · exact .more hI h1 h3 (K9 h9) hl za (Yc _) rfl (hs h9) id
  split
  · rw [V7]; split
    · exact .refl h1
    rename_i h9
    dsimp only
    split
    · exact .more hI h1 h3 (K9 h9) hl za (Yc _) rfl (hs h9) id
    · exact .more hI h1 h3 (K9 h9) hl za (Yc _) rfl (hs h9) id
  split
  · rw [Kma]; split
    · exact .refl h1
    rename_i h9
    dsimp only
    split
    · exact .more hI h1 h3 (K9 h9) hl za (Yc _) rfl (hs h9) id
    · refine .more hI h1 h3 (K9 h9) hl za (Yc _) rfl ?_ ?_
      · show (Vw _ _ _ _ _ _).length = 1
        rw [Vw]
        split
        · exact hs h9
        split
        · rw [List.length_set];exact hs h9
        · exact hs h9
      · intro h
        have h:((Vw g.site (Jd g p (p.time + a.wait)).cuts (flP g (Jd g p (p.time + a.wait))) (Jd g p (p.time + a.wait)).rest (mkF g (Jd g p (p.time + a.wait))) (p.time + a.wait)).getD 0 default).off=true:=h
        rw [Vw] at h
        split at h
        · exact h
        split at h
        · rw [List.getD_eq_getElem?_getD, List.getElem?_set] at h
          split at h
          · split at h
            · cases h
            · cases h
          · rw [← List.getD_eq_getElem?_getD] at h;exact h
        · exact h
  · rw [Uab]; split
    · exact .refl h1
    · rename_i h9
      exact Acted.settle hI h1 h3 (K9 h9) hl
end
end
section
section
variable {A9 B9:Prop}
theorem Knf (a:A9) (h:A9→B9:=by exact Jx zkb rfl):B9:=h a
theorem Vff (a:A9) (h:A9→B9:=by exact Jx zjb rfl):B9:=h a
end
section
variable {P:Program} {ρ:Operand→Value} {L:List Blk} {R:List Sl} {dst:Option Tmp} {ty:TypeId} {pos:String} {after:Array Edge} {guard:Option (Nat×Bool)} (tb:Tabs P) {T:TypeId} {x y z:Operand}
theorem Vdd {k:IntKind} {len cap:Nat} {ar:Option Addr} {e n1 fl bt z k2 n2 fl2 bt2 z2} (hT:V0 tb.tab T=some ⟨.slice e,n1,fl,bt,z⟩) (hE:V0 tb.tab e=some ⟨k2,n2,fl2,bt2,z2⟩) (hx:ρ x=.slice ar len cap) (hy:ρ y=.int k 0):
    YV P ⟨dst,.slice T x (some y) none none,ty,pos,after,guard⟩ ρ L R (.slice ar len cap):=fun _ w _=>by
  have hu:=Ut (tb.ok _ _ hT) rfl
  have he:P.elem T=e:=by simp [Program.elem,hu]
  have hu':P.underlying T=some (.slice (P.elem T)):=by rw [he];exact hu
  have hs:=Go.Aw.run_sizeOf (tb.ok _ _ hE) w
  simp only at hs
  have h1:=run_slice_l (P:=P) w T ar len cap hu' k 0 za za
  rw [he,hs,Result.andThen_ok,show (0:Int).toNat=0 from rfl,Kyd] at h1
  simp [execOp,hx,hy,run_sliceAt_slice w T _ _ _ _ hu',h1]
def Yxa {α:Type} (u:Arr α) (m wd:Nat):Arr α:=if m=0 then u else Yp u m wd
theorem Zwe {α:Type} (u:Arr α) (m wd:Nat):(Yxa u m wd).l=u.l.drop m:=by
  rw [Yxa]
  split
  · rename_i h;subst h;rfl
  · rfl
theorem Vce {α:Type} {u:Arr α} {m wd:Nat} {h:Int} {k:IntKind} {e n1 fl bt z k2 n2 fl2 bt2 z2} (hT:V0 tb.tab T=some ⟨.slice e,n1,fl,bt,z⟩) (hE:V0 tb.tab e=some ⟨k2,n2,fl2,bt2,z2⟩) (hx:ρ x=u.val) (hy:ρ y=.int k h) (hh:h=(m:Int)) (hn:m≤u.l.length) (hw:n2=wd):
    YV P ⟨dst,.slice T x (some y) none none,ty,pos,after,guard⟩ ρ L R (Yxa u m wd).val:=by
  rw [Yxa]
  split
  · rename_i h0; subst h0
    exact Vdd tb hT hE hx (by rw [hy,hh];rfl)
  · exact Kbb tb hT hE hx hy hh za hn hw
theorem Uxe {α:Type} {u:Arr α} {m:Nat} {h:Int} {k:IntKind} {e n1 fl bt z k2 n2 fl2 bt2 z2} (hT:V0 tb.tab T=some ⟨.slice e,n1,fl,bt,z⟩) (hE:V0 tb.tab e=some ⟨k2,n2,fl2,bt2,z2⟩) (hx:ρ x=u.val) (hy:ρ y=.int k h) (hh:h=(m:Int)) (hn:m≤u.l.length) (hc:u.l.length≤u.cap):
    YV P ⟨dst,.slice T x none (some y) none,ty,pos,after,guard⟩ ρ L R (Zqa u m).val:=by
  rw [Arr.val,List.length_take,Nat.min_eq_left hn]
  exact Yca tb hT hE hx hy hh (by show m≤u.cap;omega)
end
theorem U0e {α:Type} {P n code t L R} {Q:Kp} {wd m:Nat} {f:α→List Value} {subs:List Sl} {y:Arr α} (hR:InR (y.sl wd f subs) R) (hk:m≤y.l.length) (hp:0 < wd) (h:InR ((Yxa y m wd).sl wd f subs) ((Yxa y m wd).sl wd f subs :: R)→CJ P n code t L ((Yxa y m wd).sl wd f subs :: R) Q):CJ P n code t L R Q:=by
  rcases Nat.eq_zero_or_pos m with h0 | h0
  · have e : Yxa y m wd = y := by rw [Yxa, if_pos h0]
    rw [e] at h
    have h1:=Ukb (P:=P) (n:=n) (code:=code) (t:=t) (L:=L) (Q:=Q) y.l.length hR
    refine h1 ?_
    rw [List.take_of_length_le (Nat.le_refl _)]
    exact h zpb
  · refine Yfa hR h0 hk hp ?_
    have e:Yxa y m wd=Yp y m wd:=by rw [Yxa,if_neg za]
    rw [e] at h
    exact h zpb
theorem Jle {g:PSite} {p:PSta} (hI:Inv g p) {a:PAct} (ha:ActOk a):p.dropped≤(Kha g p a).1.dropped∧(Kha g p a).1.dropped≤p.dropped + 100100:=by
  have hs:=fun (p:PSta) t=>(Ytc (g:=g) (p:=p) t).dropped
  rw [Kha]
  split
  · rw [K8b]; split
    · dsimp only;omega
    · dsimp only
      rw [hs]
      have h2:=Zeb _ (l:=p.held ++ a.bytes) p.dropped rfl (fun x hx=>by
        rcases List.mem_append.1 hx with hx | hx
        · exact hI.held.1 x hx
        · exact ha.bytes x hx)
      have h3:=ha.len
      have h4:=hI.held.2
      rw [List.length_append] at h2
      show p.dropped≤(Uz (p.held ++ a.bytes) p.dropped).dropped∧(Uz (p.held ++ a.bytes) p.dropped).dropped≤_
      omega
  have hk:=hs p (p.time + a.wait)
  split
  · rw [Zr]; split
    · dsimp only;omega
    split
    · dsimp only;omega
    · dsimp only;rw [hs];dsimp only;omega
  split
  · rw [Yjc]; split
    · dsimp only;omega
    dsimp only
    generalize Jd g p (p.time + a.wait)=q at hk ⊢
    split <;> (dsimp only [Yi];omega)
  split
  · rw [V7]; split
    · dsimp only;omega
    dsimp only
    generalize Jd g p (p.time + a.wait)=q at hk ⊢
    split <;> (dsimp only [Yi];omega)
  split
  · rw [Kma]; split
    · dsimp only;omega
    dsimp only
    generalize Jd g p (p.time + a.wait)=q at hk ⊢
    split <;> (dsimp only [Yi];omega)
  · rw [Uab]; split
    · dsimp only;omega
    · dsimp only;rw [hs];omega
def Z7a (l:List XEntry):Bool:=l.any fun z=>decide (z.kind=1) && decide (z.target=0)
theorem Uvd {l:List XEntry}:Z7a l=true↔∃z∈l,z.kind=1∧z.target=0:=by
  rw [Z7a,List.any_eq_true]
  simp
theorem Znc {l:List XEntry} {k:Nat} {z:XEntry} (h:l[k]?=some z):Z7a (l.take (k + 1))=(Z7a (l.take k) || (decide (z.kind=1) && decide (z.target=0))):=by
  rw [Z7a,Z7a,List.take_add_one,h,List.any_append];simp
structure WayQ (g:PSite) (j:Nat) (p:PSta) (x:XSta) (R S:List Sl):Prop where
  inv:Inv g p
  is:StaIs g p x
  at_:StaR x S
  one:p.cuts.length=1
  sw:p.sw.length≤3
  log:p.log.length≤11 * j
  drop:0≤p.dropped∧p.dropped≤100100 * (j:Int)
  sub:∀r∈R,InR r S
attribute [local irreducible] CJ LJ DJ Tri YV Gives Ui J0 Ke Uh RV J2 OwL.L
set_option maxHeartbeats 1000000 in
theorem Yvb (y:Arr Int) (R:List Sl) (hy:CodesR y R):
    Tri Tryz.prog 9 [y.val].toArray [] R (fun v L' R'=>v=.bool true∧[]=L'∧R=R'):=by
  refine Jg 143 Tryz.call9 Tryz.func9 rfl rfl rfl ?_
  refine Xbb ?_
  refine Xc4 ?_
  refine Js rfl (Zhd y _ _ hy) rfl ?_
  rintro v L' R' ⟨c,rfl,hx,rfl,rfl⟩
  refine qc1 ?_
  refine qam ?_
  refine qa6 ?_
  refine Js rfl (Ugc c _ 0 _ hx (Nat.zero_le _)) rfl ?_
  rintro v L' R' ⟨s,len,dl,ho,f,n,k1,rfl,hE,hN,⟨hk1,_⟩,⟨hs,hf,hR0⟩,rfl⟩
  refine Jx zDb rfl ?_
  refine Xcx ?_
  intro b4
  refine qaq ?_
  intro b5
  refine qak ?_
  refine Xc2 ?_
  have hRR:∀r∈R,InR r R':=fun r hr=>hR0 r (.tail _ hr)
  have hx':CodesR (Yoa y) R':=⟨hx.1.mono hR0,hx.2⟩
  obtain ⟨A,hA⟩:=Jxe s.air.mine
  have h0:=J2b (f:=f) hE hN.rng hN.sw hN.zn hN.rp
  have hI:=Kpc (A:=A) h0 hA
  refine qay ?_
  refine Jx zmb rfl ?_
  refine Knf ?_
  refine Js rfl (Vbb s f A _ _ hs hf hA) rfl ?_
  rintro v L' R' ⟨x,S1,rfl,hxR,hx0,_,rfl,rfl⟩
  rw [h0]
  have hx:=hx0 h0
  refine Jx zDb rfl ?_
  refine Xcx ?_
  intro b6
  refine qak ?_
  refine Xdb ?_
  refine Xaq ?_
  refine q_c (fun hc0=>?_) (fun hc0=>?_)
  ·
   refine Xbb ?_
   refine qbh ?_
   refine Ks (L':=[]) (R':=R) (Ya rfl zHc) ?hp ?hL ?hR
   case hp=>exact absurd hc0 zo
   case hL=>exact zi
   case hR=>exact fun r hr=>(hRR r hr).mono fun r hr=>Ja (by simp [hr])
  refine J5 (Jb (Jn (Jn ?_)))
  have hR1:∀r∈R',InR r (S1 ++ R'):=fun r hr=>Ja (List.mem_append_right _ hr)
  refine qay ?_
  refine qa6 ?_
  refine Knf ?_
  refine Js rfl (Tri.spl (.consB (.consB (.consB (.consL .nil)))) (Uze c _ k1 f _ ⟨hx'.1.mono hR1,hx'.2⟩ hk1 (hf.mono hR1) (by rw [hN.sw,Zjb];exact hN.rng.2))) rfl ?_
  rintro v L' R' ⟨_,rfl,q,k2,rfl,hq,hqn,hk2,hR2,rfl⟩
  refine Xc1 ?_
  refine Jo [(6,Value.pointer _),(32,Value.slice _ _ _),(33,Value.int _ _),(34,Value.int _ _)] zg fun tq0=>?_
  refine Kd (T:=144) (f:=XAct.cells) (wd:=5) q (q.l.map fun a=>bsl a.bytes) zj (fun _=>rfl) zc hq.ok (fun s hs=>by
    obtain ⟨a,ha,rfl⟩:=List.mem_map.1 hs
    exact (hq.all a ha).bytes) ?_
  refine U2 (L':=⟨b6,x.cells,54⟩ :: []) zi zqb ?_
  obtain ⟨R2,hR2e⟩:∃R2,R2=Uqf q.arr :: R':=⟨_,rfl⟩
  have hqR:InR (Uqf q.arr) R2:=Ja zZ
  have hR2':∀r∈R',InR r R2:=fun r hr=>Ja (by rw [hR2e];exact .tail _ hr)
  have hfin:∀r∈R,InR r R2:=fun r hr=>(hRR r hr).mono fun r hr=>(hR1 r hr).mono fun r hr=>(hR2 r hr).mono hR2'
  have hW0:WayQ (gOf s f A) 0 (Ybc s f) x R2 R2:=⟨hI,hx,hxR.mono fun r hr=>(hR2 r hr).mono hR2',by
    obtain ⟨z,h7,_⟩:=hE.zone
    show (List.replicate s.zones.l.length _).length=1
    rw [List.length_replicate,h7];rfl,by
    show (Unc f.switches.l f.switches.l.length).length≤3
    rw [(U0a (rp:=f.reply) (Zpd h0).2.1 f.switches.l.length).len,hN.sw,Zjb];exact hN.rng.2,Nat.zero_le _,⟨Int.le_refl _,Int.le_refl _⟩,fun r hr=>Ja hr⟩
  refine Ymb zyc ?_
  refine q_p [2,9,10,11,12,14,34,35,36,37,38,39,40,41,42,43,44,45,46,47,48,49,50,51,52,53,54,55,56,57,58,59,60,61,62,63,64,65,66,67,68,69,70,71,72,73,74,75,76,77,78,79,80,81,82,83,84,85,86,87,88,89,90,91,92,93,94,95,96,97,98,99,100,101,102,103,104,105,106,107,108,109,110,111,112,113,114,115,116,117,118,119,120,121,122,123,124,125,126,127,128,129,130,131,132,133,134,135,136,137,138,139,140,141] ((⟨fun g=>[(34,.int .i64 ((g.1.1:Nat):Int))],fun g=>⟨b6,g.1.2.2.1.cells,54⟩ :: [],fun g=>g.1.2.2.2,fun g=>q.l.length - g.1.1⟩:Head {g:Nat×PSta×XSta×List Sl // g.1≤q.l.length∧WayQ (gOf s f A) g.1 g.2.1 g.2.2.1 R2 g.2.2.2})) (⟨(0,Ybc s f,x,R2),by dsimp only;omega,hW0⟩) ?_
  rintro ⟨⟨j,p,u,S⟩,hj,hW⟩ junk
  try dsimp only
  dsimp only at hj hW
  obtain ⟨hIp,hup,huR,hone,hsw,hlog,hdrop,hsub⟩:=hW
  have hqS:=hqR.mono hsub
  refine Xak ?_
  refine q_c (fun hc1=>?_) (fun hc1=>?_)
  ·
   have hg:=Jw (l:=q.l) (k:=j) default za
   obtain ⟨a,hae⟩:∃a,a=q.l.getD j default:=⟨_,rfl⟩
   rw [← hae] at hg
   have haR:=hq.all a (List.mem_of_getElem? hg)
   have hsubR:=fun r hr=>(hR2' r hr).mono hsub
   refine qbb ?_
   refine Jx zta rfl ?_
   refine qdw ?_
   refine qaq ?_
   intro b9
   refine Xa0 ?_
   refine Vff ?_
   refine Jx zob rfl ?_
   refine Js rfl (Kse (gOf s f A) p u a _ _ hIp hup huR (haR.bytes.mono hsubR) haR.ok za) rfl ?_
   rintro v L' R' ⟨w,S3,rfl,hw,hwR,rfl,rfl⟩
   have hIq:=hIp.done haR.ok
   have hact:=Vjd hIp hone hsw za haR.ok
   have hswq:=Kne (g:=gOf s f A) (p:=p) a.p
   have hdq:=Jle hIp haR.ok
   obtain ⟨d,hde⟩:∃d,d=Kha (gOf s f A) p a.p:=⟨_,rfl⟩
   rw [← hde] at hw hIq hact hswq hdq ⊢
   obtain ⟨⟨cP,⟨new,hnew,hnl,hnz,hncut⟩,hcA,hcB⟩,hlen1⟩:=hact
   have hwl:w.log.l=u.log.l ++ new:=by rw [hw.log,hup.log];exact hnew
   have huR3:=huR.mono (R':=S3 ++ S) fun r hr=>Ja (List.mem_append_right _ hr)
   have hwlR:=hwR.log
   have hulR:=huR3.log
   have huc:u.cuts.l=p.cuts:=hup.cuts
   have hwc:w.cuts.l=d.1.cuts:=hw.cuts
   have hun:u.cuts.l.length=1:=by rw [huc];exact hone
   have hwn:w.cuts.l.length=1:=by rw [hwc];exact hlen1
   have hwln:w.log.l.length=u.log.l.length + new.length:=by rw [hwl,List.length_append]
   have hwt:=hw.time
   refine Jx zDb rfl ?_
   refine Xcx ?_
   intro b10
   refine Xdd ?_
   refine qco ?_
   refine Yld hwlR fun hwcap=>?_
   refine Ukb u.log.l.length hwlR ?_
   refine U0e (m:=u.log.l.length) (hwlR.mono fun r hr=>Ja (.tail _ hr)) za zc fun hdR=>?_
   obtain ⟨S4,hS4e⟩:∃S4,S4=Yw (Yxa w.log u.log.l.length 4) :: Yw (Zqa w.log u.log.l.length) :: (S3 ++ S):=⟨_,rfl⟩
   have hS4:∀r∈S3 ++ S,InR r S4:=fun r hr=>Ja (by rw [hS4e];exact .tail _ (.tail _ hr))
   have htR:InR (Yw (Zqa w.log u.log.l.length)) S4:=Ja (by rw [hS4e];exact .tail _ (.head _))
   have hdrR:InR (Yw (Yxa w.log u.log.l.length 4)) S4:=Ja (by rw [hS4e];exact .head _)
   have htl:(Zqa w.log u.log.l.length).l=u.log.l:=by show w.log.l.take _=_;rw [hwl,List.take_left'];rfl
   have hdl:(Yxa w.log u.log.l.length 4).l=new:=by rw [Zwe,hwl,List.drop_left'];rfl
   have huR4:=huR3.mono hS4
   have hwR4:=hwR.mono hS4
   refine Ymb (show _=S4 by rw [hS4e]) ?_
   refine Kn tb [0,1,2,3,4,5,6,7,8,9,10,11,12,13,14,15,16,17,18,19,20,21,22,23,24,25,26,27,28,29,30] ([Blk.mk b10 _ _,Blk.mk b6 _ _]) K1 ze zi ?_
   refine Xan ?_
   refine Kv ztb rfl rfl rfl ?_
   refine Xan ?_
   refine Kv ztb rfl rfl rfl ?_
   refine Kv zlc rfl rfl rfl ?_
   refine qb2 ?_
   refine Vd (k:=51) zdb (fun hg7=>?_) (fun hg7=>?_)
   ·
    replace hg7:=qb hg7
    exact absurd hg7 za
   replace hg7:=qb hg7
   refine Xan ?_
   refine Xan ?_
   refine Kv ztb rfl rfl rfl ?_
   refine Kv (Uxe (m:=u.log.l.length) tb rfl rfl rfl rfl rfl za hwcap) rfl rfl rfl ?_
   refine Xan ?_
   refine q_d rfl (Z1c (Zqa w.log u.log.l.length) u.log _ _ htR huR4.log htl) ?_
   refine Kv (Jnb rfl) rfl rfl rfl ?_
   refine Xbf ?_
   refine Vd (k:=63) zdb (fun hg19=>?_) (fun hg19=>?_)
   ·
    replace hg19:=qb hg19
    simp at hg19
   replace hg19:=qb hg19
   refine Xan ?_
   refine Kv ztb rfl rfl rfl ?_
   refine Kv zwc rfl rfl rfl ?_
   refine Xbf ?_
   refine Vd (k:=69) zdb (fun hg25=>?_) (fun hg25=>?_)
   ·
    replace hg25:=qb hg25
    exact absurd hwn za
   replace hg25:=qb hg25
   refine Xan ?_
   refine Kv ztb rfl rfl rfl ?_
   refine Kv zwc rfl rfl rfl ?_
   refine Xbu ?_
   refine q_c (fun hc2=>?_) (fun hc2=>?_)
   ·
    refine Xbb ?_
    refine qch ?_
    refine Ks (L':=[]) (R':=R) (Ya rfl zHc) ?hp ?hL ?hR
    case hp=>exact absurd hun za
    case hL=>exact zi
    case hR=>exact fun r hr=>(hfin r hr).mono fun r hr=>(hsub r hr).mono fun r hr=>Ja (by rw [hS4e];simp [hr])
   refine qbv ?_
   refine qaz ?_
   refine qaw ?_
   refine Xaa ?_
   refine Xac ?_
   refine Jx (Vce (m:=u.log.l.length) (wd:=4) (u:=w.log) tb rfl rfl rfl rfl rfl za rfl) rfl ?_
   refine Xc1 ?_
   refine Y4 [2,9,10,11,12,14,34,35,36,37,38,39,40,41,42,43,44,45,46,47,48,49,50,51,52,53,54,55,56,57,58,59,60,61,62,63,64,65,66,67,68,69,70,71,72,73,74,75,76,77,78,79,80,81,82,83,84,85,86,87,88,89,90,91,92,93,94,95,96,97,98,99,100,101,102,103,104,105,106,107,108,109,110,111,112,113,114,115,116,117,118,119,120,121,122,123,124,125,126,127,128,129,130,131,132,133,134,135,136,137,138,139,140,141] zK [(10,Value.pointer _),(12,Value.bool _),(34,Value.int _ _),(52,Value.pointer _),(53,Value.slice _ _ _),(54,Value.pointer _),(55,Value.slice _ _ _),(56,Value.int _ _),(57,Value.slice _ _ _),(58,Value.pointer _),(59,Value.slice _ _ _),(60,Value.bool _),(61,Value.bool _),(64,Value.pointer _),(65,Value.slice _ _ _),(66,Value.int _ _),(67,Value.bool _),(70,Value.pointer _),(71,Value.slice _ _ _),(72,Value.int _ _),(73,Value.bool _),(80,Value.slice _ _ _),(81,Value.int _ _),(82,Value.int _ _)] zg fun tq1=>?_
   have hdn:(Yxa w.log u.log.l.length 4).l.length=new.length:=by rw [hdl]
   refine q_p [2,12,14,82,83,84,85,86,87,88,89,90,91,92,93,94,95,96,97,98,99,100,101,102,103,104,105,106,107,108,109,110,111,112] ((⟨fun g=>[(82,.int .i64 ((g.1:Nat):Int)),(12,.bool (Z7a (new.take g.1)))],fun _=>⟨b10,w.cells,54⟩ :: ⟨b6,u.cells,54⟩ :: [],fun _=>S4,fun g=>new.length - g.1⟩:Head {k:Nat // k≤new.length})) (⟨0,by omega⟩) ?_
   rintro ⟨k,hk⟩ junk
   try dsimp only
   refine Xak ?_
   refine q_c (fun hc3=>?_) (fun hc3=>?_)
   ·
    have hzg:=Jw (l:=new) (k:=k) default za
    obtain ⟨z,hze⟩:∃z,z=new.getD k default:=⟨_,rfl⟩
    rw [← hze] at hzg
    have hzg':(Yxa w.log u.log.l.length 4).l[k]?=some z:=by rw [hdl];exact hzg
    have hz3:=hnz z (List.mem_of_getElem? hzg)
    refine qbb ?_
    refine Jx zB rfl ?_
    refine Xcv ?_
    intro b14
    refine Xa9 ?_
    refine Xbe ?_
    refine Xbx ?_
    apply J9 (G:=[_,_,_]) (j:=5) (cj:=91) rfl rfl zb rfl zdb rfl
    ·
     intro hg6
     replace hg6:=qb hg6
     exact znd
    intro junk6
    refine qah ?_
    apply J9 (G:=[_,_,_]) (j:=10) (cj:=96) rfl rfl zb rfl zdb rfl
    ·
     intro hg11
     replace hg11:=qb hg11
     exact zgd
    intro junk11
    refine qaf ?_
    refine q_c (fun hc4=>?_) (fun hc4=>?_)
    ·
     refine Xbb ?_
     refine J6 (Jb (Uo (J7 (J3 (J7 (Va (J3 (J7 (J3 (J7 (Va (J3 (J7 ?_)))))))))))))
     refine Ks (L':=[]) (R':=R) (Ya rfl zHc) ?hp ?hL ?hR
     case hp=>exact absurd hc4 za
     case hL=>exact zi
     case hR=>exact fun r hr=>(hfin r hr).mono fun r hr=>(hsub r hr).mono fun r hr=>Ja (by rw [hS4e];simp [hr])
    refine J5 (Jb (Jh ?_))
    refine qah ?_
    refine qah ?_
    apply J9 (G:=[_,_,_,_,_,_,_,_]) (j:=1) (cj:=102) rfl rfl zb rfl zdb rfl
    ·
     intro hg2
     replace hg2:=qb hg2
     refine Xbm ?_
     refine qah ?_
     apply Ur (G:=[_,_,_]) (j:=5) (cj:=106) rfl rfl zb rfl zdb rfl
     ·
      intro hg6
      replace hg6:=qb hg6
      refine Xbm ?_
      exact qai
     intro junk6
     exact qai
    intro junk2
    refine qaz ?_
    refine Xa8 ?_
    exact Kf ⟨k + 1,by omega⟩ zm (by dsimp only;rw [Znc hzg];exact zg) zi zqb zx
   obtain rfl:k=new.length:=by omega
   have hcut:Z7a (new.take new.length)=true↔cP:=by rw [List.take_of_length_le (Nat.le_refl _),Uvd];exact hncut
   refine K8 (Kq (Uf (Kc (Jb (Jn (Jn ?_))))))
   have hug0:u.cuts.l[0]?=some (p.cuts.getD 0 default):=by rw [huc];exact Jw default za
   have hwg0:w.cuts.l[0]?=some (d.1.cuts.getD 0 default):=by rw [hwc];exact Jw default za
   have huR5:=huR4.cuts
   have hwR5:=hwR4.cuts
   obtain ⟨cp,hcpe⟩:∃cp,cp=p.cuts.getD 0 default:=⟨_,rfl⟩
   obtain ⟨cd,hcde⟩:∃cd,cd=d.1.cuts.getD 0 default:=⟨_,rfl⟩
   rw [← hcpe] at hug0
   rw [← hcde] at hwg0
   have hA1:cp.off=true→¬ cP:=fun h=>hcA (by rw [Zgb,← hcpe];exact h)
   have hB1:cp.off=false→cd.off=true→cP:=fun h h2=>hcB (by rw [Zgb,← hcpe];exact h) (by rw [Zgb,← hcde];exact h2)
   rw [← hcut] at hA1 hB1
   obtain ⟨hc,hce⟩:∃hc,hc=Z7a (new.take new.length):=⟨_,rfl⟩
   rw [← hce] at hA1 hB1 ⊢
   refine qay ?_
   refine Xaa ?_
   refine qdt ?_
   refine Xbv ?_
   refine Xcc ?_
   apply Ur (G:=[_,_,_,_,_]) (j:=6) (cj:=119) rfl rfl zb rfl zdb rfl
   ·
    intro hg7
    replace hg7:=qb hg7
    refine Xaa ?_
    refine qdt ?_
    refine Xbv ?_
    exact qai
   intro junk7
   refine qah ?_
   apply Ur (G:=[_,_]) (j:=13) (cj:=126) rfl rfl zb rfl zdb rfl
   ·
    intro hg14
    replace hg14:=qb hg14
    refine qah ?_
    refine qb4 ?_
    exact qai
   intro junk14
   refine qah ?_
   apply J9 (G:=[_,_,_,_,_,_,_,_]) (j:=17) (cj:=130) rfl rfl zb rfl zdb rfl
   ·
    intro hg18
    replace hg18:=qb hg18
    refine Xaa ?_
    refine qdt ?_
    refine Xbv ?_
    refine qah ?_
    apply Ur (G:=[_]) (j:=23) (cj:=136) rfl rfl zb rfl zdb rfl
    ·
     intro hg24
     replace hg24:=qb hg24
     refine qah ?_
     exact qai
    intro junk24
    exact qai
   intro junk18
   refine qaf ?_
   refine q_c (fun hc5=>?_) (fun hc5=>?_)
   ·
    refine Xbb ?_
    refine qch ?_
    refine Ks (L':=[]) (R':=R) (Ya rfl zHc) ?hp ?hL ?hR
    case hp=>
     exfalso
     revert hc5 hA1 hB1
     cases cp.off <;> cases cd.off <;> cases hc <;> simp
    case hL=>exact zi
    case hR=>exact fun r hr=>(hfin r hr).mono fun r hr=>(hsub r hr).mono fun r hr=>Ja (by rw [hS4e];simp [hr])
   refine J5 (Jb (Jh ?_))
   refine Vff ?_
   refine qak ?_
   refine Xa8 ?_
   exact Kf ⟨(j + 1,d.1,w,S4),by dsimp only;omega,⟨hIq,hw,hwR4,hlen1,by rw [hswq];exact hsw,by
   have e1:d.1.log.length=p.log.length + new.length:=by rw [hnew,List.length_append]
   dsimp only;omega,by dsimp only;omega,fun r hr=>(hsub r hr).mono fun r hr=>hS4 r (List.mem_append_right _ hr)⟩⟩ zm zg zi zqb zx
  refine qbk ?_
  refine q_l rfl (Zqc _ _) ?_
  refine Xba ?_
  refine Ks (L':=[]) (R':=R) (Ya rfl zHc) ?hp ?hL ?hR
  case hp=>exact ⟨rfl,rfl,rfl⟩
  case hL=>exact zi
  case hR=>exact fun r hr=>(hfin r hr).mono hsub
end
end Go.Proofs.YtchfclmokpbldaaGreat
