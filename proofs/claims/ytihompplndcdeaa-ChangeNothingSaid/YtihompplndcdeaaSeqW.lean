import Derived.Test.YtihompplndcdeaaJudge
import Derived.Test.YtihompplndcdeaaSeqS
import Derived.Test.YtihompplndcdeaaApp0
set_option linter.unusedVariables false
set_option linter.unusedSimpArgs false
section
/-
  change.Compare, and the reference's; the reference's Steps. By an AI agent; no person has read it.
-/
namespace Go.Proofs.Ytihompplndcdeaa
open Go.Aw Go
set_option maxRecDepth 20000
attribute [local irreducible] CJ LJ DJ Tri YV Gives Jdn Jaw Jbk Jdo RV Jay OwL.L
section
variable {A9 B9:Prop}
theorem J31 (a:A9) (h:A9→B9:=by exact Jax (Jbo (qs:=[]) (out:=[_,_,_,_]) tb rfl rfl rfl rfl) rfl):B9:=h a
end
def Jz0 (a:XAir) (s:XSetting) (b:XAir) (t:XSetting) (fc:List XFace) (A B:List Bool) (Cf Cg:List Int):XVerd:=
  if Js2 a s b t=0 then Jwx a.mine (Jf8 a s A).2 b.mine (Jf8 b t B).2 fc A B Cf Cg else ⟨[],[],[],[]⟩
theorem Jh7 {a b:XAir} {s t:XSetting}:Js2 a s b t=0↔Juo a s=0∧Juo b t=0∧a.mine.places.l.length≤b.mine.places.l.length∧a.mine.roads.l.length≤b.mine.roads.l.length:=by
  rw [Js2]
  constructor
  · intro h
    split at h
    · omega
    split at h
    · omega
    split at h
    · cases h
    omega
  · rintro ⟨h1, h2, h3, h4⟩
    rw [if_neg (by omega),if_neg (by omega),if_neg (by omega)]
theorem Jqs {a b:XAir} {s t:XSetting} {fc:List XFace} {A B:List Bool} {Cf Cg:List Int} (h:Js2 a s b t≠0):Jz0 a s b t fc A B Cf Cg=VerdO.nil.get:=by rw [Jz0,if_neg h];rfl
theorem Jk7 {a:XAir} (h:Jat a=0):Jbs a.mine=0:=by
  rw [Jat] at h
  split at h
  · exact h
  · rename_i h2;exact Decidable.not_not.1 h2
theorem Jhe (a b : XAir) (s t : XSetting) (fc : Arr XFace) (A B : List Bool) (Cf Cg : List Int) (L : List Blk) (R : List Sl) (ha : AirR a R) (hs : SetR s R) (hb : AirR b R) (ht : SetR t R) (hfc : InR (Jty fc) R)
    (hneed:Jhn fc.l) (hnc:fc.l.length≤1000) (hA:Jat a=0→AiryIs a.mine A) (hB:Jat b=0→AiryIs b.mine B) (hCf:CircIs a.mine (Jf8 a s A).2 Cf) (hCg:CircIs b.mine (Jf8 b t B).2 Cg):
    Tri Try.prog 11 [a.val,s.val,b.val,t.val,fc.val].toArray L R (fun w L' R'=>∃p:VerdO,w=.tuple #[p.val,.int .i64 (Js2 a s b t)]∧p.Ok∧p.get=Jz0 a s b t fc.l A B Cf Cg∧p.L L=L'∧R=R'):=by
  refine Jae 64 Try.call11 Try.func11 rfl rfl rfl ?_
  refine Xaj ?_
  intro b5
  refine qax ?_
  intro b6
  refine qax ?_
  intro b7
  refine qax ?_
  intro b8
  refine qaq ?_
  intro b10
  refine Xai ?_
  refine Xaz ?_
  refine Jaq rfl (Jgv a s A _ _ ha hs hA) rfl ?_
  rintro v L' R' ⟨p,rfl,hpk,hpl,rfl,rfl⟩
  rw [Jv9]
  refine Jax (Jap rfl) rfl ?_
  refine Xbw ?_
  refine qad ?_
  refine qco ?_
  refine Jbn (A:=[]) (wd:=2) [] (fun _=>rfl) (by decide) hpk (fun s hs=>by cases hs) ?_
  refine Jlf (by simp only [List.nil_append];rfl) ?_
  have hR1:∀r∈R,InR r (Jrc p.arr :: R):=fun r hr=>Jab (.tail _ hr)
  refine Xbs ?_
  refine Xa3 ?_
  refine q_c (fun hc0=>?_) (fun hc0=>?_)
  ·
   refine qae ?_
   refine J31 ?_
   refine qaa ?_
   refine qak ?_
   refine Xa4 ?_
   refine Jbj (L':=L) (R':=R) (Jfb rfl (Ja0 (row:=[_,_,_,_]) tb rfl rfl rfl (by repeat (first | exact zi0 | apply zi1 | apply zi2)) (by rfl) (by rfl)) (Jal (show _=Value.int _ _ from rfl))) ?hp ?hL ?hR
   case hp=>
    have he:Js2 a s b t=Juo a s:=by rw [Js2,if_pos hc0]
    exact ⟨VerdO.nil,by rw [he];rfl,VerdO.nil_ok,(Jqs (by rw [he];exact hc0)).symm,VerdO.Lnil,rfl⟩
   case hL=>exact (by repeat (first | exact zs0 _ | exact zs1 _ | apply zs2 | apply zs3 | apply zs4 | apply zs5))
   case hR=>exact hR1
  have ha0:=Jem.1 (Decidable.not_not.1 hc0)
  refine qbv ?_
  refine Xaz ?_
  refine Jaq rfl (Jgv b t B _ _ (Jcd hb hR1) (Jbu ht hR1) hB) rfl ?_
  rintro v L' R' ⟨q,rfl,hqk,hql,rfl,rfl⟩
  rw [Jv9]
  refine Jax (Jap rfl) rfl ?_
  refine Xbw ?_
  refine qad ?_
  refine qco ?_
  refine Jbn (A:=[]) (wd:=2) [] (fun _=>rfl) (by decide) hqk (fun s hs=>by cases hs) ?_
  refine Jlf (by simp only [List.nil_append];rfl) ?_
  have hR2:∀r∈R,InR r (Jrc q.arr :: Jrc p.arr :: R):=fun r hr=>Jab (.tail _ (.tail _ hr))
  refine Xbs ?_
  refine Xa3 ?_
  refine q_c (fun hc1=>?_) (fun hc1=>?_)
  ·
   refine qae ?_
   refine J31 ?_
   refine qaa ?_
   refine qak ?_
   refine Xa4 ?_
   refine Jbj (L':=L) (R':=R) (Jfb rfl (Ja0 (row:=[_,_,_,_]) tb rfl rfl rfl (by repeat (first | exact zi0 | apply zi1 | apply zi2)) (by rfl) (by rfl)) (Jal (show _=Value.int _ _ from rfl))) ?hp ?hL ?hR
   case hp=>
    have he:Js2 a s b t=Juo b t:=by rw [Js2,if_neg hc0,if_pos hc1]
    exact ⟨VerdO.nil,by rw [he];rfl,VerdO.nil_ok,(Jqs (by rw [he];exact hc1)).symm,VerdO.Lnil,rfl⟩
   case hL=>exact (by repeat (first | exact zs0 _ | exact zs1 _ | apply zs2 | apply zs3 | apply zs4 | apply zs5))
   case hR=>exact hR2
  have hb0:=Jem.1 (Decidable.not_not.1 hc1)
  have ha1:=Jcd ha hR2
  have hb1:=Jcd hb hR2
  refine qbo ?_
  refine Xa7 ?_
  refine Xa7 ?_
  refine Xa2 ?_
  apply Jbi (G:=[_,_,_,_,_,_,_,_,_]) (j:=9) (cj:=44) rfl rfl (by rfl) rfl (show _=Value.bool _ from rfl) rfl
  ·
   intro hg10
   replace hg10:=qb hg10
   refine Xa7 ?_
   refine Xa7 ?_
   refine qaj ?_
   exact qai
  intro junk10
  refine qaf ?_
  refine q_c (fun hc2=>?_) (fun hc2=>?_)
  ·
   refine qae ?_
   refine J31 ?_
   refine qak ?_
   refine Xa4 ?_
   refine Jbj (L':=L) (R':=R) (Jfb rfl (Ja0 (row:=[_,_,_,_]) tb rfl rfl rfl (by repeat (first | exact zi0 | apply zi1 | apply zi2)) (by rfl) (by rfl)) (Jal (show _=Value.int _ _ from rfl))) ?hp ?hL ?hR
   case hp=>
    have he:Js2 a s b t=11:=by rw [Js2,if_neg hc0,if_neg hc1,if_pos (by omega)]
    exact ⟨VerdO.nil,by rw [he];rfl,VerdO.nil_ok,(Jqs (by rw [he];decide)).symm,VerdO.Lnil,rfl⟩
   case hL=>exact (by repeat (first | exact zs0 _ | exact zs1 _ | apply zs2 | apply zs3 | apply zs4 | apply zs5))
   case hR=>exact hR2
  have he:Js2 a s b t=0:=Jh7.2 ⟨by omega,by omega,by omega,by omega⟩
  have hpn:p.l.length=a.mine.roads.l.length:=by rw [hpl];exact Jlh ha0.1 ha0.2 (hA ha0.1)
  have hqn:q.l.length=b.mine.roads.l.length:=by rw [hql];exact Jlh hb0.1 hb0.2 (hB hb0.1)
  refine qbv ?_
  refine Xb4 ?_
  refine qbm ?_
  refine Xb4 ?_
  refine qbm ?_
  refine qbm ?_
  refine Jaq rfl (Jry a.mine b.mine p.arr q.arr fc A B Cf Cg _ _ ha1.mineR hb1.mineR (Jab (.tail _ (.head _))) (Jab (.head _)) (hfc.mono hR2) (Jk7 ha0.1) (Jk7 hb0.1) hpn hqn (by omega) hneed hnc (hA ha0.1) (hB hb0.1) (by show CircIs a.mine p.l Cf;rw [hpl];exact hCf) (by show CircIs b.mine q.l Cg;rw [hql];exact hCg)) rfl ?_
  rintro v L' R' ⟨z,rfl,hzk,hzg,rfl,rfl⟩
  refine qak ?_
  refine Xau ?_
  refine Jbj (L':=z.L L) (R':=R) (Jfb rfl (Ja0 (row:=[_,_,_,_]) tb rfl rfl rfl (by repeat (first | exact zi0 | apply zi1 | apply zi2)) (by rfl) (by rfl)) (Jal (show _=Value.int _ _ from rfl))) ?hp ?hL ?hR
  case hp=>exact ⟨z,by rw [he],hzk,by rw [hzg,Jz0,if_pos he,← hpl,← hql],rfl,rfl⟩
  case hL=>exact (by repeat (first | exact zs0 _ | exact zs1 _ | apply zs2 | apply zs3 | apply zs4 | apply zs5))
  case hR=>exact hR2
end Go.Proofs.Ytihompplndcdeaa
end
section
/-
  Bits of small numbers: shifts of one, 'and', 'or'. By an AI agent; no person has read it.
-/
namespace Go.Proofs.Ytihompplndcdeaa
open Go.Aw Go
theorem J1u:∀d:Fin 8,∀i:Fin 3,IntKind.i64.wrap ((BitVec.ofInt IntKind.i64.bits (d.val:Int) &&& BitVec.ofInt IntKind.i64.bits ((2 ^ i.val:Nat):Int)).toNat:Int)=if Jl4 d.val i.val=true then ((2 ^ i.val:Nat):Int) else 0:=by decide
theorem J3o:∀d:Fin 8,∀i:Fin 3,Jl4 d.val i.val=false→IntKind.i64.wrap ((BitVec.ofInt IntKind.i64.bits (d.val:Int) ||| BitVec.ofInt IntKind.i64.bits ((2 ^ i.val:Nat):Int)).toNat:Int)=((d.val + 2 ^ i.val:Nat):Int):=by decide
theorem J0x:∀i:Fin 8,IntKind.i64.wrap (1 * 2 ^ (min ((i.val:Int)).toNat IntKind.i64.bits))=((2 ^ i.val:Nat):Int):=by decide
section
variable {P:Program} {ρ:Operand→Value} {L:List Blk} {R:List Sl} {dst:Option Tmp} {ty:TypeId} {pos:String} {after:Array Edge} {guard:Option (Nat×Bool)} {T T2:TypeId} {x y z:Operand} {a b c:Int} {k:IntKind}
theorem Jxm:∀i:Fin 8,IntKind.i64.wrap (2 ^ i.val)=((2 ^ i.val:Nat):Int):=by decide
theorem J3h {i:Nat} (hi:i < 8) (hx:ρ x=.int .i64 1) (hy:ρ y=.int k (i:Int)):YV P ⟨dst,.binOp .shl T x y T2,ty,pos,after,guard⟩ ρ L R (.int .i64 ((2 ^ i:Nat):Int)):=fun _ _ _=>by
  have hw:=Jxm ⟨i,hi⟩
  have hb:Op.shift .shl .i64 1 k (i:Int)=(pure (.int .i64 ((2 ^ i:Nat):Int)):Sem Value):=by
    unfold Op.shift
    rw [if_neg (by omega)]
    have:=J0x ⟨i,hi⟩
    dsimp only at this ⊢
    rw [this]
  dsimp only at hw
  generalize ((2 ^ i:Nat):Int)=m at *
  simp [execOp,hx,hy,eqGuard,binOp,hb,hw]
theorem J3j {d i:Nat} (hd:d < 8) (hi:i < 3) (hx:ρ x=.int .i64 (d:Int)) (hy:ρ y=.int .i64 ((2 ^ i:Nat):Int)):YV P ⟨dst,.binOp .and T x y T2,ty,pos,after,guard⟩ ρ L R (.int .i64 (if Jl4 d i=true then ((2 ^ i:Nat):Int) else 0)):=fun _ _ _=>by
  have hb:Op.intBits .and .i64 (d:Int) ((2 ^ i:Nat):Int)=(pure (.int .i64 (if Jl4 d i=true then ((2 ^ i:Nat):Int) else 0)):Sem Value):=by
    unfold Op.intBits
    dsimp only
    rw [J1u ⟨d,hd⟩ ⟨i,hi⟩]
  generalize ((2 ^ i:Nat):Int)=m at *
  simp [execOp,hx,hy,eqGuard,binOp,hb]
theorem J4d {d i:Nat} (hd:d < 8) (hi:i < 3) (hb:Jl4 d i=false) (hx:ρ x=.int .i64 (d:Int)) (hy:ρ y=.int .i64 ((2 ^ i:Nat):Int)):YV P ⟨dst,.binOp .or T x y T2,ty,pos,after,guard⟩ ρ L R (.int .i64 ((d + 2 ^ i:Nat):Int)):=fun _ _ _=>by
  have hb:Op.intBits .or .i64 (d:Int) ((2 ^ i:Nat):Int)=(pure (.int .i64 ((d + 2 ^ i:Nat):Int)):Sem Value):=by
    unfold Op.intBits
    dsimp only
    rw [J3o ⟨d,hd⟩ ⟨i,hi⟩ hb]
  generalize ((d + 2 ^ i:Nat):Int)=m2 at *
  generalize ((2 ^ i:Nat):Int)=m at *
  simp [execOp,hx,hy,eqGuard,binOp,hb]
end
end Go.Proofs.Ytihompplndcdeaa
end
section
/-
  Orders to doors; states that fit behind steps. By an AI agent; no person has read it.
-/
namespace Go.Proofs.Ytihompplndcdeaa
open Go.Aw Go
section
variable {A9 B9:Prop}
theorem J5m (a:A9) (h:A9→B9:=by exact Jax (by first | exact Jaf tb rfl rfl rfl rfl (by first | assumption | exact zr (by simp)) (i:=d.toNat) (by first | rfl | omega | (simp;omega)) (by omega) | exact Jah tb rfl rfl rfl rfl (i:=d.toNat) (by first | rfl | omega | (simp;omega)) (by omega)) rfl):B9:=h a
end
theorem Jxr {a:XAir} {s:XSetting} (h:FitOk a s):Jdl a s=true:=by
  rw [Jdl,if_neg (by rw [h.lf,h.ld];simp),Bool.and_eq_true]
  have e1:s.fans.l.findSome? Jgb=none:=List.findSome?_eq_none_iff.2 fun x hx=>by
    obtain ⟨i,hi⟩:=List.mem_iff_getElem?.1 hx
    have:=h.fan i x hi
    rw [Jgb,if_neg (by omega)]
  have e2:(List.range s.doors.l.length).findSome? (Jda a.doors.l s.doors.l)=none:=List.findSome?_eq_none_iff.2 fun i hi=>by
    rw [List.mem_range] at hi
    have hg:=Jai (l:=s.doors.l) (k:=i) 0 hi
    have hd:=Jai (l:=a.doors.l) (k:=i) default (by rw [← h.ld];exact hi)
    have:=h.door i _ _ hg hd
    rw [Jda,hg,hd]
    dsimp only
    rw [if_neg (by omega)]
  rw [e1,e2]
  exact ⟨rfl,rfl⟩
theorem Jyl {a:XAir} {s t:Sts} (hs:Jdl a (mkS s)=true) (ht:Jdl a (mkS t)=true) (k:Int):Jdl a (mkS (Jgs t s k))=true:=by
  have h1:=Jf3 hs
  have h2:=Jf3 ht
  have l1:=h1.lf
  have l2:=h1.ld
  have l3:=h2.lf
  have l4:=h2.ld
  have p1:=Jkt t s k
  dsimp only [mkS] at l1 l2 l3 l4
  refine Jxr ⟨by show (Jgs t s k).1.length=_;omega,by show (Jgs t s k).2.length=_;omega,fun i x hx=>?_,fun i x d hx hd=>?_⟩
  · have hx : (Jgs t s k).1[i]? = some x := hx
    rw [Jgs] at hx
    split at hx
    · dsimp only at hx
      rw [List.getElem?_set] at hx
      split at hx
      · rename_i e
        split at hx
        · rename_i h3
          have:=h2.fan k.toNat _ (Jai 0 (show k.toNat < t.1.length by omega))
          have hx:=Option.some.inj hx
          have e2:t.1.getD k.toNat 0=x:=hx
          dsimp only [mkS] at this
          omega
        · cases hx
      · exact h1.fan i x hx
    · exact h1.fan i x hx
  · have hx : (Jgs t s k).2[i]? = some x := hx
    rw [Jgs] at hx
    split at hx
    · exact h1.door i x d hx hd
    · dsimp only at hx
      rw [List.getElem?_set] at hx
      split at hx
      · rename_i e
        split at hx
        · rename_i h3
          have:=h2.door i _ d (Jai 0 (show i < t.2.length by omega)) hd
          have hx:=Option.some.inj hx
          dsimp only [mkS] at this
          rw [e] at hx
          omega
        · cases hx
      · exact h1.door i x d hx hd
theorem Jmo {a : XAir} {t : Sts} (ht : Jdl a (mkS t) = true) : ∀ (l : List Int) (d : Nat) (s : Sts), Jdl a (mkS s) = true → Jdl a (mkS (Jj2 t l d s)) = true
  | [],_,_,h=>h
  | k :: r,d,s,h=>by
    rw [Jj2]
    split
    · exact Jmo ht r _ _ (Jyl h ht k)
    · exact Jmo ht r _ _ h
theorem Ju3 (t : Sts) : ∀ (l : List Int) (d : Nat) (s : Sts), (Jj2 t l d s).1.length = s.1.length ∧ (Jj2 t l d s).2.length = s.2.length
  | [],_,_=>⟨rfl,rfl⟩
  | k :: r,d,s=>by
    have h1:=Ju3 t r (d / 2) (if d % 2=1 then Jgs t s k else s)
    have h2:=Jkt t s k
    rw [Jj2]
    split at h1 <;> simp_all
theorem J0h {s t:Sts} {k:Int} (h:k∈Jmm s t):0≤k∧k < s.1.length + s.2.length:=by
  rw [Jmm,List.mem_append] at h
  rcases h with h | h
  · obtain ⟨i,h1,h2,_⟩:=Jes.1 h;omega
  · obtain ⟨z, h1, h2⟩ := List.mem_map.1 h
    obtain ⟨i,h3,h4,_⟩:=Jes.1 h1;omega
set_option maxRecDepth 20000
attribute [local irreducible] CJ LJ DJ Tri YV Gives Jdn Jaw Jbk Jdo RV Jay OwL.L
theorem Jou (D:Arr XDoor) (st:Arr Int) (d x:Int) (L:List Blk) (R:List Sl) (hD:InR (dsl D) R) (hst:InR (isl st) R):
    Tri Try.prog 95 [D.val,st.val,.int .i64 d,.int .i64 x,.int .i64 0].toArray L R (fun v L' R'=>v=.int .i64 (if Jbm D.l≠0 then Jbm D.l else if st.l.length≠D.l.length then 11 else if d < 0∨(D.l.length:Int)≤d then 15 else if x < 0∨((D.l.getD d.toNat default).rests.l.length:Int)≤x then 1 else 0)∧L=L'∧R=R'):=by
  refine Jae 46 Try.call95 Try.func95 rfl rfl rfl ?_
  refine Xaf ?_
  refine qaw ?_
  refine qbm ?_
  refine q_l rfl (Jj5 D _ _ hD) ?_
  refine Xbv ?_
  refine q_c (fun hc0=>?_) (fun hc0=>?_)
  ·
   refine Xbb ?_
   refine Xa4 ?_
   refine q_i (L':=L) (R':=R) ?_
   exact ⟨by rw [if_pos hc0],rfl,rfl⟩
  refine qbb ?_
  refine Xat ?_
  refine Xat ?_
  refine qbq ?_
  refine Xbt ?_
  refine q_c (fun hc1=>?_) (fun hc1=>?_)
  ·
   refine Xc4 ?_
   refine q_i (L':=L) (R':=R) ?_
   exact ⟨by rw [if_neg hc0,if_pos (by omega)],rfl,rfl⟩
  refine Xbb ?_
  refine Xa2 ?_
  apply Jbi (G:=[_,_,_,_]) (j:=2) (cj:=26) rfl rfl (by rfl) rfl (show _=Value.bool _ from rfl) rfl
  ·
   intro hg3
   replace hg3:=qb hg3
   refine qaa ?_
   refine Xat ?_
   refine qbz ?_
   exact qai
  intro junk3
  refine Xbt ?_
  refine q_c (fun hc2=>?_) (fun hc2=>?_)
  ·
   refine Xc4 ?_
   refine q_i (L':=L) (R':=R) ?_
   exact ⟨by rw [if_neg hc0,if_neg (by omega),if_pos (by omega)],rfl,rfl⟩
  have hdg:=Jai (l:=D.l) (k:=d.toNat) default (by omega)
  refine Xbb ?_
  refine qaa ?_
  refine Xa2 ?_
  apply Jbi (G:=[_,_,_,_,_,_,_,_]) (j:=3) (cj:=36) rfl rfl (by rfl) rfl (show _=Value.bool _ from rfl) rfl
  ·
   intro hg4
   replace hg4:=qb hg4
   refine qaa ?_
   refine Xal ?_
   refine J5m ?_
   refine Xbc ?_
   refine qag ?_
   refine qbz ?_
   exact qai
  intro junk4
  refine Xbt ?_
  refine q_c (fun hc3=>?_) (fun hc3=>?_)
  ·
   refine Xc4 ?_
   refine q_i (L':=L) (R':=R) ?_
   exact ⟨by rw [if_neg hc0,if_neg (by omega),if_neg (by omega),if_pos (by omega)],rfl,rfl⟩
  refine Ja4 (Ja7 (Jaa (Jan (Jaj ?_))))
  refine Xau ?_
  refine q_i (L':=L) (R':=R) ?_
  exact ⟨by rw [if_neg hc0,if_neg (by omega),if_neg (by omega),if_neg (by omega)],rfl,rfl⟩
theorem Jst (st:Arr Int) (d x:Int) (L:List Blk) (R:List Sl) (hst:InR (isl st) R) (hd:0≤d∧d < st.l.length) (hn:st.l.length≤1000):
    Tri Try.prog 96 [st.val,.int .i64 d,.int .i64 x].toArray L R (fun v L' R'=>∃p:OwL Int,v=p.val∧p.ok 1 Jad∧p.l=st.l.set d.toNat x∧p.L 3 Jad ++ L=L'∧R=R'):=by
  have hg:=Jai (l:=st.l) (k:=d.toNat) 0 (by omega)
  refine Jae 15 Try.call96 Try.func96 rfl rfl rfl ?_
  refine Xbf ?_
  refine qam ?_
  refine qbm ?_
  refine Jh0 (Jd5 (f:=Jad) (xs:=st) tb rfl rfl rfl (by decide) rfl rfl (hst) (fun _=>rfl) (by omega)) rfl ?_
  rintro v L' R' ⟨o9,rfl,hok9,rfl,rfl⟩
  refine Xcf ?_
  refine Xal ?_
  refine qaa ?_
  refine Jax (Jao tb ((⟨o9,st.l⟩:OwL Int)) _ rfl rfl rfl rfl (by assumption) (i:=d.toNat) (by first | rfl | omega | (simp;omega)) (by first | omega | (dsimp only;omega) | (dsimp only;rw [List.length_set];omega) | (dsimp only;simp only [List.length_set];omega))) rfl ?_
  refine Jhw (Jav tb ((⟨o9,st.l⟩:OwL Int)) (x) rfl rfl rfl rfl (by repeat (first | apply OSeg.cons | exact OSeg.here | exact OSeg.last | exact OSeg.at (by assumption) | apply OSeg.app)) (by assumption) (fun _=>rfl) (by assumption) (by decide) (by rfl) (by rfl)) ?_
  rintro v L' R' ⟨rfl,rfl⟩
  refine qam ?_
  refine Xby ?_
  refine q_r (L':=(⟨o9,st.l.set d.toNat x⟩:OwL Int).L 3 Jad ++ L) (R':=R) (Jd4 rfl (Jal (show _=Value.slice _ _ _ from rfl))) ?_
  exact ⟨⟨o9,st.l.set d.toNat x⟩,by simp only [OwL.val,List.length_set],OwL.len_ok Jci hok9 (by simp),rfl,rfl,rfl⟩
theorem Jsl {D:List XDoor} (h:Jbm D=0) {d:Int} (hd:0≤d∧d < D.length) (ho:0≤(D.getD d.toNat default).other):(D.getD d.toNat default).other < D.length:=by
  have hg:=Jai (l:=D) (k:=d.toNat) default (by omega)
  have hp:=((Ji2 h).2 _ _ hg).2
  refine Int.not_le.1 fun hle=>hp ?_
  unfold Jjw
  omega
theorem J3x (D:Arr XDoor) (st:Arr Int) (d x:Int) (L:List Blk) (R:List Sl) (hD:InR (dsl D) R) (hst:InR (isl st) R):
    Tri Try.prog 84 [D.val,st.val,.int .i64 d,.int .i64 x].toArray L R (fun v L' R'=>∃p:OwL Int,v=.tuple #[p.val,.int .i64 (Ji5 D.l st.l d x)]∧p.ok 1 Jad∧p.l=(if Ji5 D.l st.l d x=0 then st.l.set d.toNat x else [])∧p.L 3 Jad ++ L=L'∧R=R'):=by
  refine Jae 42 Try.call84 Try.func84 rfl rfl rfl ?_
  refine Xbf ?_
  refine Xaw ?_
  refine qbm ?_
  refine Xal ?_
  refine qaa ?_
  refine q_l rfl (Jou D st d x _ _ hD hst) ?_
  refine Xbv ?_
  refine q_c (fun hc0=>?_) (fun hc0=>?_)
  ·
   refine Xbb ?_
   refine qc4 ?_
   refine Xa4 ?_
   refine q_r (L':=L) (R':=R) (Jfb rfl (Jal (show _=Value.slice _ _ _ from rfl)) (Jal (show _=Value.int _ _ from rfl))) ?_
   have he:Ji5 D.l st.l d x≠0∧Ji5 D.l st.l d x=(if Jbm D.l≠0 then Jbm D.l else if st.l.length≠D.l.length then 11 else if d < 0∨(D.l.length:Int)≤d then 15 else if x < 0∨((D.l.getD d.toNat default).rests.l.length:Int)≤x then 1 else 0):=by
     rw [Ji5]
     revert hc0
     (repeat' split) <;> intro hc0 <;> first | exact ⟨hc0,rfl⟩ | exact absurd rfl hc0
   exact ⟨.nil,by rw [he.2];rfl,OwL.nil_ok,by rw [if_neg he.1],by rw [Jc7];rfl,rfl⟩
  have h4:Jbm D.l=0∧st.l.length=D.l.length∧(0≤d∧d < D.l.length)∧0≤x∧x < ((D.l.getD d.toNat default).rests.l.length:Int):=by
    revert hc0
    (repeat' split) <;> intro hc0 <;> first | omega | (exfalso;exact hc0 (by decide))
  obtain ⟨z1,z2,z3,z4⟩:=h4
  have hdg:=Jai (l:=D.l) (k:=d.toNat) default (by omega)
  have hD16:=(Ji2 z1).1
  have hot:=Jsl z1 z3
  refine qbo ?_
  refine Xal ?_
  refine J5m ?_
  refine Xbc ?_
  refine Xax ?_
  refine Xb5 ?_
  apply Jb3 (G:=[_,_]) (j:=2) (cj:=27) rfl rfl (by rfl) rfl (show _=Value.bool _ from rfl) rfl
  ·
   intro hg3
   replace hg3:=qb hg3
   refine qaa ?_
   refine qbz ?_
   exact qai
  intro junk3
  refine qah ?_
  apply Jb3 (G:=[_,_,_,_,_]) (j:=6) (cj:=31) rfl rfl (by rfl) rfl (show _=Value.bool _ from rfl) rfl
  ·
   intro hg7
   replace hg7:=qb hg7
   have hsg:=Jai (l:=st.l) (k:=(D.l.getD d.toNat default).other.toNat) 0 (by omega)
   refine Xal ?_
   have hot2:=hot (by omega)
   refine Jax (by first | exact Jaf tb rfl rfl rfl rfl (by first | assumption | exact zr (by simp)) (i:=(D.l.getD d.toNat default).other.toNat) (by first | rfl | omega | (simp;omega)) (by omega) | exact Jah tb rfl rfl rfl rfl (i:=(D.l.getD d.toNat default).other.toNat) (by first | rfl | omega | (simp;omega)) (by omega)) rfl ?_
   refine qa7 ?_
   refine qbq ?_
   exact qai
  intro junk7
  refine qaf ?_
  refine q_c (fun hc1=>?_) (fun hc1=>?_)
  ·
   refine Xcw ?_
   refine q_r (L':=L) (R':=R) (Jfb rfl (Jal (show _=Value.slice _ _ _ from rfl)) (Jal (show _=Value.int _ _ from rfl))) ?_
   have he:Ji5 D.l st.l d x=10:=by rw [Ji5,if_neg (by omega),if_neg (by omega),if_neg (by omega),if_neg (by omega),if_pos (by omega)]
   exact ⟨.nil,by rw [he];rfl,OwL.nil_ok,by rw [he];rfl,by rw [Jc7];rfl,rfl⟩
  refine qbv ?_
  refine Xal ?_
  refine qaa ?_
  refine Jaq rfl (Jst st d x _ _ hst (by omega) (by omega)) rfl ?_
  rintro v L' R' ⟨p,rfl,hpk,hpl,rfl,rfl⟩
  refine qc4 ?_
  refine Xau ?_
  refine q_r (L':=p.L 3 Jad ++ L) (R':=R) (Jfb rfl (Jal (show _=Value.slice _ _ _ from rfl)) (Jal (show _=Value.int _ _ from rfl))) ?_
  have he:Ji5 D.l st.l d x=0:=by rw [Ji5,if_neg (by omega),if_neg (by omega),if_neg (by omega),if_neg (by omega),if_neg (by omega)]
  exact ⟨p,by rw [he] <;> rfl,hpk,by rw [he,if_pos rfl];exact hpl,rfl,rfl⟩
end Go.Proofs.Ytihompplndcdeaa
end
section
/-
  change.Sequence: what is seen of the air; a step done. By an AI agent; no person has read it.
-/
namespace Go.Proofs.Ytihompplndcdeaa
open Go.Aw Go
section
variable {A9 B9:Prop}
theorem J2k (a:A9) (h:A9→B9:=by exact Jaz tb [] [0,1,2,3,4,5,6,7,8,9,10,11] [12] ([Blk.mk b8 _ _,Blk.mk bx _ _]) _ Jbh (by kernel_rfl) (by repeat (first | exact zs0 _ | exact zs1 _ | apply zs2 | apply zs3 | apply zs4 | apply zs5)) (List.nil_sublist _)):B9:=h a
theorem J45 (a:A9) (h:A9→B9:=by exact Jb1 (by first | exact Jaf tb rfl rfl rfl rfl (by first | assumption | exact zr (by simp)) (i:=d) (by first | rfl | omega | (simp;omega)) (by omega) | exact Jah tb rfl rfl rfl rfl (i:=d) (by first | rfl | omega | (simp;omega)) (by omega)) rfl rfl rfl rfl):B9:=h a
theorem J5w (a:A9) (h:A9→B9:=by exact Jb1 (Jao tb ((⟨o18,s.doors.l⟩:OwL Int)) _ rfl rfl rfl rfl (by assumption) (i:=d) (by first | rfl | omega | (simp;omega)) (by first | omega | (dsimp only;omega) | (dsimp only;rw [List.length_set];omega) | (dsimp only;simp only [List.length_set];omega))) rfl rfl rfl rfl):B9:=h a
theorem J4f (a:A9) (h:A9→B9:=by exact Jqb (Jav tb ((⟨o18,s.doors.l⟩:OwL Int)) (t.doors.l.getD d 0) rfl rfl rfl rfl (by repeat (first | apply OSeg.cons | exact OSeg.here | exact OSeg.last | exact OSeg.at (by assumption) | apply OSeg.app)) (by assumption) (fun _=>rfl) (by assumption) (by decide) (by rfl) (by rfl)) rfl rfl):B9:=h a
theorem J5t (h:B9:=by exact ⟨(⟨o15,s.fans.l⟩:OwL Int),⟨o18,s.doors.l.set d (t.doors.l.getD d 0)⟩,by rw [hcn];simp only [OwL.val,List.length_set],⟨hok15,OwL.len_ok Jci hok18 (by simp)⟩,fun _=>by rw [Jqj (t:=Jak t) (s:=Jak s) hk1,hdk],rfl,rfl⟩):B9:=h
end
theorem J62:MapT Try.prog 95 3 49 (.slice none 0 0):=Jzh (by kernel_rfl) (by kernel_rfl) (by kernel_rfl)
theorem J60:MapT Try.prog 96 3 4 (.bool false):=Jzh (by kernel_rfl) (by kernel_rfl) (by kernel_rfl)
set_option maxRecDepth 20000
attribute [local irreducible] CJ LJ DJ Tri YV Gives Jdn Jaw Jbk Jdo RV Jay OwL.L
def Jmf (a:XAir) (t:XSetting) (fc:Arr XFace) (st:Arr Int) (bf bd:Nat):List Value:=[a.mine.places.val,a.mine.roads.val,a.fans.val,a.doors.val,t.fans.val,t.doors.val,fc.val,st.val,.map (some bf),.map (some bd)]
def FlOk (a:XAir) (A:List Bool) (t:Sts) (l:List Int) (s0:Sts) (fm:List (Int×Value)) (R:List Sl):Prop:=
  ∀(d:Nat) (v:Value),Jqr fm (d:Int)=some v→∃x:Arr XSpan,v=x.val∧InR (Jrc x) R∧x.l=flS a A (Jj2 t l d s0)
theorem FlOk.nil {a:XAir} {A:List Bool} {t:Sts} {l:List Int} {s0:Sts} {R:List Sl}:FlOk a A t l s0 [] R:=fun d v h=>by cases h
theorem FlOk.mono {a:XAir} {A:List Bool} {t:Sts} {l:List Int} {s0:Sts} {fm:List (Int×Value)} {R R':List Sl} (h:FlOk a A t l s0 fm R) (k:∀r∈R,InR r R'):FlOk a A t l s0 fm R':=fun d v hv=>let ⟨x,h1,h2,h3⟩:=h d v hv;⟨x,h1,h2.mono k,h3⟩
theorem FlOk.put {a:XAir} {A:List Bool} {t:Sts} {l:List Int} {s0:Sts} {fm:List (Int×Value)} {R:List Sl} (h:FlOk a A t l s0 fm R) {d:Nat} {x:Arr XSpan} (hx:InR (Jrc x) R) (he:x.l=flS a A (Jj2 t l d s0)):FlOk a A t l s0 (Ju5 fm (d:Int) x.val) R:=fun e v hv=>by
  rw [Jvs] at hv
  split at hv
  · rename_i hd
    obtain rfl:e=d:=by omega
    exact ⟨x,(Option.some.inj hv).symm,hx,he⟩
  · exact h e v hv
theorem FlOk.look {a:XAir} {A:List Bool} {t:Sts} {l:List Int} {s0:Sts} {fm:List (Int×Value)} {R:List Sl} (h:FlOk a A t l s0 fm R) (d:Nat):
    ∃(y:Arr XSpan) (b:Bool),(Value.tuple #[(Jqr fm (d:Int)).getD (.slice none 0 0),.bool (Jqr fm (d:Int)).isSome])=.tuple #[y.val,.bool b]∧(b=true→InR (Jrc y) R∧y.l=flS a A (Jj2 t l d s0)):=by
  cases hm:Jqr fm (d:Int) with
  | none=>exact ⟨⟨none,0,[]⟩,false,rfl,fun h=>by cases h⟩
  | some v=>
    obtain ⟨x,rfl,h2,h3⟩:=h d v hm
    exact ⟨x,true,rfl,fun _=>⟨h2,h3⟩⟩
abbrev Jr6 (bx bf bd:Nat) (C:List Value) (fm dm:List (Int×Value)):List Blk:=[⟨bx,C,98⟩,mpB bf fm,mpB bd dm]
theorem Jv7 (a:XAir) (t s:XSetting) (fc:Arr XFace) (st:Arr Int) (s0:Sts) (A:List Bool) (bx bf bd d:Nat) (fm dm:List (Int×Value)) (R:List Sl) (ha:AirR a R) (hs:SetR s R) (hA:Jat a=0→AiryIs a.mine A) (hsd:Jak s=Jj2 (Jak t) st.l d s0) (hF:FlOk a A (Jak t) st.l s0 fm R):
    Tri Try.prog 67 [.pointer (some ⟨bx, 0, none⟩), .int .i64 (d : Int), s.val].toArray (Jr6 bx bf bd (Jmf a t fc st bf bd) fm dm) R
      (fun w L' R'=>∃(x:Arr XSpan) (fm':List (Int×Value)) (S:List Sl),w=x.val∧InR (Jrc x) (S ++ R)∧x.l=flS a A (Jak s)∧FlOk a A (Jak t) st.l s0 fm' (S ++ R)∧Jr6 bx bf bd (Jmf a t fc st bf bd) fm' dm=L'∧S ++ R=R'):=by
  obtain ⟨y,b,hy,hyb⟩:=hF.look d
  refine Jae 36 Try.call67 Try.func67 rfl rfl rfl ?_
  refine Xaj ?_
  intro b5
  refine Xcf ?_
  refine qa6 ?_
  refine Jax (Ja3 rfl) rfl ?_
  refine Xah ?_
  refine Jax (Jyv J62 rfl rfl (show In1 (mpB bf fm) _ from (by repeat (first | exact zi0 | apply zi1 | apply zi2))) hy) rfl ?_
  refine Jax (Jap rfl) rfl ?_
  refine Xbw ?_
  refine Xc3 ?_
  refine qah ?_
  refine Xbu ?_
  refine q_c (fun hc0=>?_) (fun hc0=>?_)
  ·
   refine Jan ?_
   refine Ja5 tb [0,1,2,3,4,5,6,7,8,9] ([Blk.mk b5 _ _,Blk.mk bx _ _]) Jbh (by kernel_rfl) (by repeat (first | exact zs0 _ | exact zs1 _ | apply zs2 | apply zs3 | apply zs4 | apply zs5)) ?_
   refine Xbr ?_
   refine qal ?_
   refine qbc ?_
   refine qbd ?_
   refine Jdx rfl (Jgv a s A _ _ ha hs hA) rfl rfl ?_
   rintro v L' R' ⟨p,rfl,hpk,hpl,rfl,rfl⟩
   refine qas ?_
   refine Jbx (Jap rfl) rfl rfl rfl ?_
   refine Jbx (Jd8 rfl rfl) rfl rfl rfl ?_
   refine Jbx (Jd8 rfl rfl) rfl rfl rfl ?_
   refine Jbx (Jcy (show _=Value.slice _ _ _ from rfl)) rfl rfl rfl ?_
   refine qbu ?_
   refine Jbn (A:=[]) (wd:=2) [] (fun _=>rfl) (by decide) hpk (fun s hs=>by cases hs) ?_
   refine Jlf (by simp only [List.nil_append];rfl) ?_
   have hpf:p.arr.l=flS a A (Jj2 (Jak t) st.l d s0):=by show p.l=_;rw [hpl,← hsd,Jza]
   have hR1:∀r∈R,InR r (Jrc p.arr :: R):=fun r hr=>Jab (.tail _ hr)
   refine qay ?_
   refine qa6 ?_
   refine Jax (Ja3 rfl) rfl ?_
   refine Xah ?_
   refine qbm ?_
   refine Jhu (Jpn (v:=p.arr.val) J62 rfl rfl rfl (show UpdM bf fm _ _ _ from (by repeat (first | exact UpdM.here | apply UpdM.cons | apply UpdM.app)))) rfl rfl ?_
   rintro v L' R' ⟨rfl,rfl⟩
   refine qam ?_
   refine Xby ?_
   refine q_r (L':=Jr6 bx bf bd (Jmf a t fc st bf bd) (Ju5 fm (d:Int) p.arr.val) dm) (R':=Jrc p.arr :: R) (Jd4 rfl (Jal (show _=Value.slice _ _ _ from rfl))) ?_
   exact ⟨p.arr,Ju5 fm (d:Int) p.arr.val,[Jrc p.arr],rfl,Jab (.head _),by rw [hpf,hsd],(hF.mono hR1).put (Jab (.head _)) hpf,rfl,rfl⟩
  refine qbv ?_
  refine Xby ?_
  refine q_r (L':=Jr6 bx bf bd (Jmf a t fc st bf bd) fm dm) (R':=R) (Jd4 rfl (Jal (show _=Value.slice _ _ _ from rfl))) ?_
  exact ⟨y,fm,[],rfl,(hyb hc0).1,by rw [(hyb hc0).2,hsd],hF,rfl,rfl⟩
theorem Jtd {t s:Sts} {k:Nat} (h:k < s.1.length):Jgs t s (k:Int)=(s.1.set k (t.1.getD k 0),s.2):=by rw [Jgs,if_pos (by omega),Int.toNat_natCast]
theorem Jqj {t s:Sts} {k:Nat} (h:s.1.length≤k):Jgs t s (k:Int)=(s.1,s.2.set (k - s.1.length) (t.2.getD (k - s.1.length) 0)):=by
  rw [Jgs,if_neg (by omega),show ((k:Int) - s.1.length).toNat=k - s.1.length by omega]
theorem J3y {D:List XDoor} {t s:Sts} {k:Nat} (h:k < s.1.length):Jwg D t s (k:Int)=true:=by
  rw [Jwg,show decide ((k:Int) < s.1.length)=true from decide_eq_true (by omega)];rfl
theorem Jmr {D:List XDoor} {t s:Sts} {k:Nat} (h:s.1.length≤k):Jwg D t s (k:Int)=(decide (t.2.getD (k - s.1.length) 0= -1) || decide (Ji5 D s.2 (k - s.1.length:Int) (t.2.getD (k - s.1.length) 0)=0)):=by
  rw [Jwg,show decide ((k:Int) < s.1.length)=false from decide_eq_false (by omega),show ((k:Int) - s.1.length).toNat=k - s.1.length by omega,Bool.false_or]
theorem J4e (a:XAir) (t s:XSetting) (fc:Arr XFace) (st:Arr Int) (bx bf bd k:Nat) (R:List Sl) (ha:AirR a R) (ht:SetR t R) (hs:SetR s R) (hk:k < s.fans.l.length + s.doors.l.length) (hf:t.fans.l.length=s.fans.l.length) (hd:t.doors.l.length=s.doors.l.length) (hn:s.fans.l.length≤8∧s.doors.l.length≤16):
    Tri Try.prog 66 [.pointer (some ⟨bx, 0, none⟩), s.val, .int .i64 (k : Int)].toArray [⟨bx, Jmf a t fc st bf bd, 98⟩] R
      (fun w L' R'=>∃pf pd:OwL Int,w=.tuple #[.agg #[pf.val,pd.val],.bool (Jwg a.doors.l (Jak t) (Jak s) (k:Int))]∧(pf.ok 1 Jad∧pd.ok 1 Jad)∧(Jwg a.doors.l (Jak t) (Jak s) (k:Int)=true→(pf.l,pd.l)=Jgs (Jak t) (Jak s) (k:Int))∧pd.L 3 Jad ++ (pf.L 3 Jad ++ [⟨bx,Jmf a t fc st bf bd,98⟩])=L'∧R=R'):=by
  have hsf:=hs.fans
  have hsd:=hs.doors
  have htf:=ht.fans
  have htd:=ht.doors
  refine Jae 82 Try.call66 Try.func66 rfl rfl rfl ?_
  refine Xaj ?_
  intro b4
  refine qaq ?_
  intro b6
  refine qaz ?_
  refine qa4 ?_
  refine Ja5 tb [0,1,3,4,2,5,6,7,8] ([Blk.mk b4 _ _]) Jbh (by kernel_rfl) (by repeat (first | exact zs0 _ | exact zs1 _ | apply zs2 | apply zs3 | apply zs4 | apply zs5)) ?_
  refine Xad ?_
  refine Xad ?_
  refine Jmx (Jd5 (f:=Jad) (xs:=s.fans) tb rfl rfl rfl (by decide) rfl rfl (hsf) (fun _=>rfl) (by omega)) rfl rfl rfl ?_
  rintro v L' R' ⟨o15,rfl,hok15,rfl,rfl⟩
  refine qa1 ?_
  refine Jmx (Jd5 (f:=Jad) (xs:=s.doors) tb rfl rfl rfl (by decide) rfl rfl (hsd) (fun _=>rfl) (by omega)) rfl rfl rfl ?_
  rintro v L' R' ⟨o18,rfl,hok18,rfl,rfl⟩
  refine qa1 ?_
  refine qdq ?_
  refine qbr ?_
  intro b8
  refine qbg ?_
  refine qc6 ?_
  refine qaa ?_
  refine Xbd ?_
  refine q_c (fun hc0=>?_) (fun hc0=>?_)
  ·
   have hk1:k < s.fans.l.length:=by omega
   have hg1:=Jai (l:=s.fans.l) (k:=k) 0 hk1
   have hg2:=Jai (l:=t.fans.l) (k:=k) 0 (by omega)
   refine Jan ?_
   refine J2k ?_
   refine Xba ?_
   refine qb3 ?_
   refine Jb1 (Ja3 rfl) rfl rfl rfl rfl ?_
   refine qan ?_
   refine Xba ?_
   refine Jb1 (by first | exact Jaf tb rfl rfl rfl rfl (by first | assumption | exact zr (by simp)) (i:=k) (by first | rfl | omega | (simp;omega)) (by omega) | exact Jah tb rfl rfl rfl rfl (i:=k) (by first | rfl | omega | (simp;omega)) (by omega)) rfl rfl rfl rfl ?_
   refine qci ?_
   refine Jb1 (Jao tb ((⟨o15,s.fans.l⟩:OwL Int)) _ rfl rfl rfl rfl (by assumption) (i:=k) (by first | rfl | omega | (simp;omega)) (by first | omega | (dsimp only;omega) | (dsimp only;rw [List.length_set];omega) | (dsimp only;simp only [List.length_set];omega))) rfl rfl rfl rfl ?_
   refine qba ?_
   refine Jqb (Jav tb ((⟨o15,s.fans.l⟩:OwL Int)) (t.fans.l.getD k 0) rfl rfl rfl rfl (by repeat (first | apply OSeg.cons | exact OSeg.here | exact OSeg.last | exact OSeg.at (by assumption) | apply OSeg.app)) (by assumption) (fun _=>rfl) (by assumption) (by decide) (by rfl) (by rfl)) rfl rfl ?_
   rintro v L' R' ⟨rfl,rfl⟩
   refine qa1 ?_
   refine Jb8 (Jaa (Jan (Jaj ?_)))
   refine qbe ?_
   refine qak ?_
   refine qaz ?_
   refine qbh ?_
   refine q_r (L':=(⟨o18,s.doors.l⟩:OwL Int).L 3 Jad ++ ((⟨o15,s.fans.l.set k (t.fans.l.getD k 0)⟩:OwL Int).L 3 Jad ++ [⟨bx,Jmf a t fc st bf bd,98⟩])) (R':=R) (Jfb rfl (Ja0 (row:=[_,_]) tb rfl rfl rfl (by repeat (first | exact zi0 | apply zi1 | apply zi2)) (by rfl) (by rfl)) (Jal (show _=Value.bool _ from rfl))) ?_
   exact ⟨⟨o15,s.fans.l.set k (t.fans.l.getD k 0)⟩,(⟨o18,s.doors.l⟩:OwL Int),by rw [J3y hk1];simp only [OwL.val,List.length_set],⟨OwL.len_ok Jci hok15 (by simp),hok18⟩,fun _=>(Jtd (t:=Jak t) (s:=Jak s) hk1).symm,rfl,rfl⟩
  have hk1:s.fans.l.length≤k:=by omega
  obtain ⟨d,hdk⟩:∃d,d=k - s.fans.l.length:=⟨_,rfl⟩
  have hg1:=Jai (l:=s.doors.l) (k:=d) 0 (by omega)
  have hg2:=Jai (l:=t.doors.l) (k:=d) 0 (by omega)
  refine qbv ?_
  refine qaa ?_
  refine Xab ?_
  refine qa9 ?_
  refine Xaw ?_
  refine qa6 ?_
  refine Jax (Ja3 rfl) rfl ?_
  refine Xc2 ?_
  refine Jax (by first | exact Jaf tb rfl rfl rfl rfl (by first | assumption | exact zr (by simp)) (i:=d) (by first | rfl | omega | (simp;omega)) (by omega) | exact Jah tb rfl rfl rfl rfl (i:=d) (by first | rfl | omega | (simp;omega)) (by omega)) rfl ?_
  refine qa7 ?_
  refine Xbv ?_
  refine q_c (fun hc1=>?_) (fun hc1=>?_)
  ·
   refine Jan ?_
   refine Ja5 tb [0,1,2,3,4,5,6,7,8,9,10,11,12,13,14] ([Blk.mk b4 _ _,Blk.mk bx _ _]) Jbh (by kernel_rfl) (by repeat (first | exact zs0 _ | exact zs1 _ | apply zs2 | apply zs3 | apply zs4 | apply zs5)) ?_
   refine Xbr ?_
   refine qal ?_
   refine Xad ?_
   refine Xa0 ?_
   refine qao ?_
   refine Jdx rfl (Tri.cast (J3x a.doors s.doors (d:Int) (t.doors.l.getD d 0) _ _ ha.doors hsd) (by rw [show ((d:Nat):Int)=(k:Int) - s.fans.l.length by omega];rfl)) rfl rfl ?_
   rintro v L' R' ⟨z,rfl,hzk,hzl,rfl,rfl⟩
   refine qas ?_
   refine Jbx (Jap rfl) rfl rfl rfl ?_
   refine Jbx (Jd8 rfl rfl) rfl rfl rfl ?_
   refine Jbx (Jd8 rfl rfl) rfl rfl rfl ?_
   refine Jbx (Jcy (show _=Value.slice _ _ _ from rfl)) rfl rfl rfl ?_
   refine qcg ?_
   refine Jb8 (Jaa (Jan (Jaj ?_)))
   refine qaa ?_
   refine Xa3 ?_
   refine q_c (fun hc2=>?_) (fun hc2=>?_)
   ·
    refine qae ?_
    refine qbe ?_
    refine qak ?_
    refine qaz ?_
    refine qbh ?_
    refine q_r (L':=(⟨o18,s.doors.l⟩:OwL Int).L 3 Jad ++ ((⟨o15,s.fans.l⟩:OwL Int).L 3 Jad ++ [⟨bx,Jmf a t fc st bf bd,98⟩])) (R':=R) (Jfb rfl (Ja0 (row:=[_,_]) tb rfl rfl rfl (by repeat (first | exact zi0 | apply zi1 | apply zi2)) (by rfl) (by rfl)) (Jal (show _=Value.bool _ from rfl))) ?_
    have hcn:Jwg a.doors.l (Jak t) (Jak s) (k:Int)=false:=by
      rw [Jmr (t:=Jak t) (s:=Jak s) hk1]
      dsimp only [Jak]
      rw [← hdk,show ((k:Int) - (s.fans.l.length:Int))=(d:Int) by omega,decide_eq_false hc1,decide_eq_false hc2];rfl
    exact ⟨(⟨o15,s.fans.l⟩:OwL Int),(⟨o18,s.doors.l⟩:OwL Int),by rw [hcn] <;> rfl,⟨hok15,hok18⟩,fun h=>absurd (hcn.symm.trans h) (by decide),rfl,rfl⟩
   refine qcl ?_
   refine J2k ?_
   refine Xba ?_
   refine qb3 ?_
   refine Jb1 (Ja3 rfl) rfl rfl rfl rfl ?_
   refine qan ?_
   refine Xba ?_
   refine J45 ?_
   refine qci ?_
   refine J5w ?_
   refine qba ?_
   refine J4f ?_
   rintro v L' R' ⟨rfl,rfl⟩
   refine qa1 ?_
   refine Jb8 (Jaa (Jan (Jaj ?_)))
   refine qbe ?_
   refine qak ?_
   refine Xa9 ?_
   refine q_r (L':=(⟨o18,s.doors.l.set d (t.doors.l.getD d 0)⟩:OwL Int).L 3 Jad ++ ((⟨o15,s.fans.l⟩:OwL Int).L 3 Jad ++ [⟨bx,Jmf a t fc st bf bd,98⟩])) (R':=R) (Jfb rfl (Ja0 (row:=[_,_]) tb rfl rfl rfl (by repeat (first | exact zi0 | apply zi1 | apply zi2)) (by rfl) (by rfl)) (Jal (show _=Value.bool _ from rfl))) ?_
   have hcn:Jwg a.doors.l (Jak t) (Jak s) (k:Int)=true:=by
     rw [Jmr (t:=Jak t) (s:=Jak s) hk1]
     dsimp only [Jak]
     rw [← hdk,show ((k:Int) - (s.fans.l.length:Int))=(d:Int) by omega]
     first
       | rw [decide_eq_true (Decidable.not_not.1 hc1)];rfl
       | rw [decide_eq_true (Decidable.not_not.1 hc2),Bool.or_true]
   exact J5t
  refine qcl ?_
  refine J2k ?_
  refine Xba ?_
  refine qb3 ?_
  refine Jb1 (Ja3 rfl) rfl rfl rfl rfl ?_
  refine qan ?_
  refine Xba ?_
  refine J45 ?_
  refine qci ?_
  refine J5w ?_
  refine qba ?_
  refine J4f ?_
  rintro v L' R' ⟨rfl,rfl⟩
  refine qa1 ?_
  refine Jb8 (Jaa (Jan (Jaj ?_)))
  refine qbe ?_
  refine qak ?_
  refine Xa9 ?_
  refine q_r (L':=(⟨o18,s.doors.l.set d (t.doors.l.getD d 0)⟩:OwL Int).L 3 Jad ++ ((⟨o15,s.fans.l⟩:OwL Int).L 3 Jad ++ [⟨bx,Jmf a t fc st bf bd,98⟩])) (R':=R) (Jfb rfl (Ja0 (row:=[_,_]) tb rfl rfl rfl (by repeat (first | exact zi0 | apply zi1 | apply zi2)) (by rfl) (by rfl)) (Jal (show _=Value.bool _ from rfl))) ?_
  have hcn:Jwg a.doors.l (Jak t) (Jak s) (k:Int)=true:=by
    rw [Jmr (t:=Jak t) (s:=Jak s) hk1]
    dsimp only [Jak]
    rw [← hdk,show ((k:Int) - (s.fans.l.length:Int))=(d:Int) by omega]
    first
      | rw [decide_eq_true (Decidable.not_not.1 hc1)];rfl
      | rw [decide_eq_true (Decidable.not_not.1 hc2),Bool.or_true]
  exact J5t
end Go.Proofs.Ytihompplndcdeaa
end
