/-
  Rules: rule.part, rule.right, rule.Check and the reference's. By an AI agent; no person has read it.
-/
import Derived.Test.YtchfclmokpbldaaGreatRuleP
set_option linter.unusedVariables false
set_option linter.unusedSimpArgs false
namespace Go.Proofs.YtchfclmokpbldaaGreat
open Go.Aw Go
set_option maxRecDepth 20000
attribute [local irreducible] CJ LJ DJ Tri YV Gives Ui J0 Ke Uh RV J2 OwL.L
section
variable {A9 B9:Prop}
theorem Umc (a:A9) (h:A9→B9:=by exact Kv (Ud zdb) rfl rfl rfl):B9:=h a
theorem U9e (h:B9:=by exact ⟨i,1,_,rfl,⟨by omega,fun h=>by rw [hpf,if_pos zI],fun h=>by rw [hpf,if_neg zI]⟩,rfl,rfl⟩):B9:=h
theorem Zue (a:A9) (h:A9→B9:=by exact Js rfl (ih (i - 1) _ za za za) rfl):B9:=h a
theorem Umf (h:B9:=by exact ⟨f,max q r + 1,b2,rfl,⟨by omega,fun h=>by rw [hpf,hP2.yes h],fun h=>by rw [hpf,hP2.no h]⟩,rfl,rfl⟩):B9:=h
theorem Vqf (h:B9:=by exact ⟨0,0,false,rfl,⟨by omega,(fun h=>by cases h),fun _=>by rw [Zv,if_neg hc0,← hx,if_neg hc1,if_neg hc2,if_neg za]⟩,rfl,rfl⟩):B9:=h
end
structure PartR (l:List XNode) (n:Nat) (i f d:Int) (b:Bool):Prop where
  bnd:0≤d∧d≤n
  yes:b=true→Zv l n i=some (f,d)
  no:b=false→Zv l n i=none
theorem Yac {l : List XNode} {i : Int} (h : i < 0) : ∀ n, Zv l n i = none
  | 0=>rfl
  | n + 1=>by rw [Zv,if_pos h]
theorem Ucb {l:List XNode} {n:Nat} {i:Int} {x:XNode} (h0:¬ i < 0) (hx:x=l.getD i.toNat default) (h1:¬ x.kind=1) (h2:x.kind=2):
    Zv l (n + 1) i=match Zv l n (i - 1) with
      | none=>none
      | some (f,d)=>if x.cond=0∧x.right=0∧x.left=i - 1 then some (f,d + 1) else none:=by
  rw [Zv,if_neg h0,← hx,if_neg h1]
  exact if_pos h2
theorem J5d {l:List XNode} {n:Nat} {i:Int} {x:XNode} (h0:¬ i < 0) (hx:x=l.getD i.toNat default) (h1:¬ x.kind=1) (h2:¬ x.kind=2) (h3:x.kind=3∨x.kind=4):
    Zv l (n + 1) i=match Zv l n (i - 1) with
      | none=>none
      | some (m,r)=>if x.cond=0∧x.right=i - 1∧x.left=m - 1 then
          match Zv l n (m - 1) with
          | none=>none
          | some (f,q)=>some (f,max q r + 1) else none:=by
  rw [Zv,if_neg h0,← hx,if_neg h1,if_neg h2]
  exact if_pos h3
theorem Uyd (l:Arr XNode) (n:Nat) (i:Int) (L:List Blk) (R:List Sl) (hi:i < 0):
    Tri Tryz.prog 175 [l.val,.int .i64 i].toArray L R (fun v L' R'=>∃(f d:Int) (b:Bool),v=.tuple #[.int .i64 f,.int .i64 d,.bool b]∧PartR l.l n i f d b∧L=L'∧R=R'):=by
  refine Jg 122 Tryz.call175 Tryz.func175 rfl rfl rfl ?_
  refine Xab ?_
  refine Xbn ?_
  refine qaw ?_
  refine qaa ?_
  refine Xbo ?_
  refine q_c (fun hc0=>?_) (fun hc0=>?_)
  ·
   refine Xab ?_
   refine Xbn ?_
   refine qbh ?_
   refine q_r (L':=L) (R':=R) zMc ?_
   exact ⟨0,0,false,rfl,⟨by omega,(fun h=>by cases h),fun _=>Yac hi n⟩,rfl,rfl⟩
  (exfalso;omega)
theorem Y7c (l : Arr XNode) (n : Nat) (R : List Sl) (hl : InR (J1e l) R) (hn : n ≤ 64)
    (ih:∀(i:Int) (L:List Blk),i < n→i < l.l.length→-1≤i→Tri Tryz.prog 175 [l.val,.int .i64 i].toArray L R (fun v L' R'=>∃(f d:Int) (b:Bool),v=.tuple #[.int .i64 f,.int .i64 d,.bool b]∧PartR l.l n i f d b∧L=L'∧R=R'))
    (i:Int) (L:List Blk) (hi:i < n + 1) (hil:i < l.l.length) (hi1:-1≤i):
    Tri Tryz.prog 175 [l.val,.int .i64 i].toArray L R (fun v L' R'=>∃(f d:Int) (b:Bool),v=.tuple #[.int .i64 f,.int .i64 d,.bool b]∧PartR l.l (n + 1) i f d b∧L=L'∧R=R'):=by
  refine Jg 122 Tryz.call175 Tryz.func175 rfl rfl rfl ?_
  refine Xab ?_
  refine Xbn ?_
  refine qaw ?_
  refine qaa ?_
  refine Xbo ?_
  refine q_c (fun hc0=>?_) (fun hc0=>?_)
  ·
   refine Xab ?_
   refine Xbn ?_
   refine qbh ?_
   refine q_r (L':=L) (R':=R) zMc ?_
   exact ⟨0,0,false,rfl,⟨by omega,(fun h=>by cases h),fun _=>Yac hc0 _⟩,rfl,rfl⟩
  have hxg:=Jw (l:=l.l) (k:=i.toNat) default za
  obtain ⟨x,hx⟩:∃x,x=l.l.getD i.toNat default:=⟨_,rfl⟩
  rw [← hx] at hxg
  refine qbv ?_
  refine Xau ?_
  refine Jx (by first | exact Jf tb rfl rfl rfl rfl zt (i:=i.toNat) zk za | exact Jk tb rfl rfl rfl rfl (i:=i.toNat) zk za) rfl ?_
  refine Xcv ?_
  intro b7
  refine Xa9 ?_
  refine Xaa ?_
  refine J6 (Jb (Kg (Jn (Jh ?_))))
  refine Xay ?_
  refine q_c (fun hc1=>?_) (fun hc1=>?_)
  ·
   refine Jn ?_
   refine Kn tb [0,1,2,3,4,5,6,7,8,9,10,11,12,13,14,15,16,17,18,19,20,21] ([Blk.mk b7 _ _]) K1 ze zi ?_
   refine qao ?_
   refine Xan ?_
   refine Kv zRb rfl rfl rfl ?_
   refine qb2 ?_
   refine Vd (k:=30) zdb (fun hg4=>?_) (fun hg4=>?_)
   ·
    replace hg4:=qb hg4
    refine Xan ?_
    refine Kv zRb rfl rfl rfl ?_
    refine Xbf ?_
    refine Vd (k:=35) zdb (fun hg9=>?_) (fun hg9=>?_)
    ·
     replace hg9:=qb hg9
     refine Xan ?_
     refine Kv (Zob rfl rfl) rfl rfl rfl ?_
     refine Xbf ?_
     refine Vd (k:=40) zdb (fun hg14=>?_) (fun hg14=>?_)
     ·
      replace hg14:=qb hg14
      refine Xan ?_
      refine Kv zlc rfl rfl rfl ?_
      exact zad
     replace hg14:=qb hg14
     iterate 3 refine qap ?_
     exact zad
    replace hg9:=qb hg9
    iterate 3 refine qap ?_
    refine Xbf ?_
    iterate 3 refine qap ?_
    exact zad
   replace hg4:=qb hg4
   iterate 3 refine qap ?_
   refine Xbf ?_
   iterate 3 refine qap ?_
   refine Xbf ?_
   iterate 3 refine qap ?_
   exact zad
  refine Xbi ?_
  refine q_c (fun hc2=>?_) (fun hc2=>?_)
  ·
   refine qae ?_
   refine Xau ?_
   refine qa9 ?_
   refine Zue ?_
   rintro v L' R' ⟨f,d,b,rfl,hP,rfl,rfl⟩
   have hPb:=hP.bnd
   refine Jx zDb rfl ?_
   iterate 3 refine qbs ?_
   refine qad ?_
   refine Xbn ?_
   refine qa4 ?_
   refine Kn tb [0,1,2,3,4,5,6,7,8,9,10,11,12,13,14,15,16,17,18,19,20,21,22,23] ([Blk.mk b7 _ _]) K1 ze zi ?_
   refine qao ?_
   refine qao ?_
   refine qc2 ?_
   refine qb2 ?_
   refine qb2 ?_
   refine Vd (k:=59) zdb (fun hg4=>?_) (fun hg4=>?_)
   ·
    replace hg4:=qb hg4
    refine Xan ?_
    refine Kv zRb rfl rfl rfl ?_
    refine Xbf ?_
    refine Vd (k:=64) zdb (fun hg9=>?_) (fun hg9=>?_)
    ·
     replace hg9:=qb hg9
     refine Xan ?_
     refine Kv zRb rfl rfl rfl ?_
     refine Xbf ?_
     refine Vd (k:=69) zdb (fun hg14=>?_) (fun hg14=>?_)
     ·
      replace hg14:=qb hg14
      refine Xb1 ?_
      refine qb7 ?_
      refine Kv zRb rfl rfl rfl ?_
      refine qbp ?_
      refine Xdm ?_
      refine Umc ?_
      refine J1 (Jb (Uo (J3 (J7 ?_))))
      refine q_r (L':=L) (R':=R) zMc ?_
      have hpf:=Ucb (n:=n) hc0 hx hc1 hc2
      refine ⟨f,d + 1,_,rfl,⟨by omega,fun h=>?_,fun h=>?_⟩,rfl,rfl⟩
      · cases b with
        | false=>first | (cases h;done) | (simp at hg4;done)
        | true=>rw [hpf,hP.yes rfl];dsimp only;rw [if_pos zI]
      · cases b with
        | false=>rw [hpf,hP.no rfl]
        | true=>first | (simp at hg4;done) | (rw [hpf,hP.yes rfl];dsimp only;rw [if_neg zI])
     replace hg14:=qb hg14
     iterate 5 refine qap ?_
     refine qbp ?_
     refine Xdm ?_
     refine Umc ?_
     refine J1 (Jb (Uo (J3 (J7 ?_))))
     refine q_r (L':=L) (R':=R) zMc ?_
     have hpf:=Ucb (n:=n) hc0 hx hc1 hc2
     refine ⟨f,d + 1,_,rfl,⟨by omega,fun h=>?_,fun h=>?_⟩,rfl,rfl⟩
     · cases b with
       | false=>first | (cases h;done) | (simp at hg4;done)
       | true=>rw [hpf,hP.yes rfl];dsimp only;rw [if_pos zI]
     · cases b with
       | false=>rw [hpf,hP.no rfl]
       | true=>first | (simp at hg4;done) | (rw [hpf,hP.yes rfl];dsimp only;rw [if_neg zI])
    replace hg9:=qb hg9
    iterate 3 refine qap ?_
    refine Xbf ?_
    iterate 5 refine qap ?_
    refine qbp ?_
    refine Xdm ?_
    refine Umc ?_
    refine J1 (Jb (Uo (J3 (J7 ?_))))
    refine q_r (L':=L) (R':=R) zMc ?_
    have hpf:=Ucb (n:=n) hc0 hx hc1 hc2
    refine ⟨f,d + 1,_,rfl,⟨by omega,fun h=>?_,fun h=>?_⟩,rfl,rfl⟩
    · cases b with
      | false=>first | (cases h;done) | (simp at hg4;done)
      | true=>rw [hpf,hP.yes rfl];dsimp only;rw [if_pos zI]
    · cases b with
      | false=>rw [hpf,hP.no rfl]
      | true=>first | (simp at hg4;done) | (rw [hpf,hP.yes rfl];dsimp only;rw [if_neg zI])
   replace hg4:=qb hg4
   iterate 3 refine qap ?_
   refine Xbf ?_
   iterate 3 refine qap ?_
   refine Xbf ?_
   iterate 5 refine qap ?_
   refine qbp ?_
   refine Xdm ?_
   refine Umc ?_
   refine J1 (Jb (Uo (J3 (J7 ?_))))
   refine q_r (L':=L) (R':=R) zMc ?_
   have hpf:=Ucb (n:=n) hc0 hx hc1 hc2
   refine ⟨f,d + 1,_,rfl,⟨by omega,fun h=>?_,fun h=>?_⟩,rfl,rfl⟩
   · cases b with
     | false=>first | (cases h;done) | (simp at hg4;done)
     | true=>rw [hpf,hP.yes rfl];dsimp only;rw [if_pos zI]
   · cases b with
     | false=>rw [hpf,hP.no rfl]
     | true=>first | (simp at hg4;done) | (rw [hpf,hP.yes rfl];dsimp only;rw [if_neg zI])
  refine qbi ?_
  refine Xay ?_
  refine q_c (fun hc3=>?_) (fun hc3=>?_)
  ·
   refine J5 (Jb ?_)
   refine q_c (fun hc4=>?_) (fun hc4=>?_)
   ·
    refine qae ?_
    refine Xau ?_
    refine qa9 ?_
    refine Zue ?_
    rintro v L' R' ⟨m,r,b,rfl,hP,rfl,rfl⟩
    have hPb:=hP.bnd
    have hpf:=J5d (n:=n) hc0 hx hc1 hc2 (by first | exact .inl hc3 | exact .inr hc4)
    refine Jx zDb rfl ?_
    iterate 3 refine qbs ?_
    refine qad ?_
    refine Xbn ?_
    refine qaw ?_
    refine qah ?_
    refine Xcc ?_
    apply J9 (G:=[_,_,_]) (j:=2) (cj:=89) rfl rfl zb rfl zdb rfl
    ·
     intro hg3
     replace hg3:=qb hg3
     refine Xaa ?_
     exact zfd
    intro junk3
    refine qah ?_
    apply J9 (G:=[_,_,_,_,_]) (j:=7) (cj:=94) rfl rfl zb rfl zdb rfl
    ·
     intro hg8
     replace hg8:=qb hg8
     refine Xam ?_
     refine qa9 ?_
     exact zfd
    intro junk8
    refine qah ?_
    apply J9 (G:=[_,_,_,_,_]) (j:=14) (cj:=101) rfl rfl zb rfl zdb rfl
    ·
     exact zSd
    intro junk15
    refine qaf ?_
    refine q_c (fun hc5=>?_) (fun hc5=>?_)
    ·
     refine Xab ?_
     refine Xbn ?_
     refine J6 (Jb (Uo (J7 (J3 (J7 ?_)))))
     refine q_r (L':=L) (R':=R) zMc ?_
     refine ⟨0,0,false,rfl,⟨by omega,(fun h=>by cases h),fun _=>?_⟩,rfl,rfl⟩
     cases b with
     | false=>rw [hpf,hP.no rfl]
     | true=>rw [hpf,hP.yes rfl];dsimp only;rw [if_neg (by simp at hc5;omega)]
    exact zPd
   exact zEd
  refine qay ?_
  refine Xay ?_
  refine q_c (fun hc4=>?_) (fun hc4=>?_)
  ·
   refine qae ?_
   refine Xau ?_
   refine qa9 ?_
   refine Zue ?_
   rintro v L' R' ⟨m,r,b,rfl,hP,rfl,rfl⟩
   have hPb:=hP.bnd
   have hpf:=J5d (n:=n) hc0 hx hc1 hc2 (by first | exact .inl hc3 | exact .inr hc4)
   refine Jx zDb rfl ?_
   iterate 3 refine qbs ?_
   refine qad ?_
   refine Xbn ?_
   refine qaw ?_
   refine qah ?_
   refine Xcc ?_
   apply J9 (G:=[_,_,_]) (j:=2) (cj:=89) rfl rfl zb rfl zdb rfl
   ·
    intro hg3
    replace hg3:=qb hg3
    refine Xaa ?_
    exact zfd
   intro junk3
   refine qah ?_
   apply J9 (G:=[_,_,_,_,_]) (j:=7) (cj:=94) rfl rfl zb rfl zdb rfl
   ·
    intro hg8
    replace hg8:=qb hg8
    refine Xam ?_
    refine qa9 ?_
    exact zfd
   intro junk8
   refine qah ?_
   apply J9 (G:=[_,_,_,_,_]) (j:=14) (cj:=101) rfl rfl zb rfl zdb rfl
   ·
    exact zSd
   intro junk15
   refine qaf ?_
   refine q_c (fun hc5=>?_) (fun hc5=>?_)
   ·
    refine Xab ?_
    refine Xbn ?_
    refine J6 (Jb (Uo (J7 (J3 (J7 ?_)))))
    refine q_r (L':=L) (R':=R) zMc ?_
    refine ⟨0,0,false,rfl,⟨by omega,(fun h=>by cases h),fun _=>?_⟩,rfl,rfl⟩
    cases b with
    | false=>rw [hpf,hP.no rfl]
    | true=>rw [hpf,hP.yes rfl];dsimp only;rw [if_neg (by simp at hc5;omega)]
   exact zPd
  exact zEd
theorem Y4b (l:Arr XNode) (R:List Sl) (hl:InR (J1e l) R):∀(n:Nat),n≤64→∀(i:Int) (L:List Blk),i < n→i < l.l.length→-1≤i→
    Tri Tryz.prog 175 [l.val,.int .i64 i].toArray L R (fun v L' R'=>∃(f d:Int) (b:Bool),v=.tuple #[.int .i64 f,.int .i64 d,.bool b]∧PartR l.l n i f d b∧L=L'∧R=R')
  | 0,_,i,L,hi,_,_=>Uyd l 0 i L R za
  | n + 1,hn,i,L,hi,hil,hi1=>Y7c l n R hl za (fun i L h1 h2 h3=>Y4b l R hl n za i L h1 h2 h3) i L hi hil hi1
theorem Ydb (l:Arr XNode) (L:List Blk) (R:List Sl) (hl:InR (J1e l) R):
    Tri Tryz.prog 99 [l.val].toArray L R (fun v L' R'=>v=.bool (Kla l.l)∧L=L'∧R=R'):=by
  refine Jg 32 Tryz.call99 Tryz.func99 rfl rfl rfl ?_
  refine Xbb ?_
  refine qaw ?_
  refine Xap ?_
  refine Xav ?_
  apply J9 (G:=[_,_,_]) (j:=3) (cj:=9) rfl rfl zb rfl zdb rfl
  ·
   intro hg4
   replace hg4:=qb hg4
   refine Xap ?_
   refine qa5 ?_
   exact qai
  intro junk4
  refine qaf ?_
  refine q_c (fun hc0=>?_) (fun hc0=>?_)
  ·
   refine Xbb ?_
   refine qbh ?_
   refine q_b (L':=L) (R':=R) ?_
   exact ⟨by rw [Kla,decide_eq_false za];rfl,rfl,rfl⟩
  refine qbv ?_
  refine qbm ?_
  refine Xap ?_
  refine qa9 ?_
  refine Js rfl (Y4b l _ hl l.l.length za _ _ za za za) rfl ?_
  rintro v L' R' ⟨f,d,b,rfl,hP,rfl,rfl⟩
  refine Jx zDb rfl ?_
  iterate 3 refine qbs ?_
  refine qad ?_
  refine Xbn ?_
  refine qam ?_
  refine qah ?_
  refine qah ?_
  apply Ur (G:=[_,_]) (j:=1) (cj:=24) rfl rfl zb rfl zdb rfl
  ·
   intro hg2
   replace hg2:=qb hg2
   refine qaa ?_
   refine qbn ?_
   exact qai
  intro junk2
  refine qah ?_
  apply Ur (G:=[_,_]) (j:=5) (cj:=28) rfl rfl zb rfl zdb rfl
  ·
   intro hg6
   replace hg6:=qb hg6
   refine qaa ?_
   refine qbx ?_
   exact qai
  intro junk6
  refine Xba ?_
  refine q_b (L':=L) (R':=R) ?_
  refine ⟨?_,rfl,rfl⟩
  rw [Kla,show decide (1≤l.l.length∧l.l.length≤64)=true from decide_eq_true za]
  cases b with
  | false=>rw [hP.no rfl];rfl
  | true=>
    rw [hP.yes rfl]
    refine congrArg Value.bool ?_
    rw [Bool.eq_iff_iff]
    simp
theorem U4d {l:List XNode} {n:Nat} (h:Kla l=true) (k:Nat) (hk:k < l.length) (h1:(l.getD k default).kind=1) (h2:(n:Int)≤(l.getD k default).cond):Z2 l n=1:=by
  rw [Z2,if_neg (by rw [h];decide),if_pos ⟨_,List.mem_of_getElem? (Jw default hk),h1,h2⟩]
theorem Uoc {l:List XNode} {n:Nat} (h:Kla l=true) (hk:∀k:Nat,k < l.length→¬ ((l.getD k default).kind=1∧(n:Int)≤(l.getD k default).cond)):Z2 l n=0:=by
  rw [Z2,if_neg (by rw [h];decide),if_neg]
  rintro ⟨x,hx,h1,h2⟩
  obtain ⟨k,hk',rfl⟩:=List.mem_iff_getElem.1 hx
  have e:l.getD k default=l[k]:=by rw [List.getD_eq_getElem?_getD,List.getElem?_eq_getElem hk'];rfl
  exact hk k hk' (by rw [e];exact ⟨h1,h2⟩)
theorem Yuc (l:Arr XNode) (n:Nat) (L:List Blk) (R:List Sl) (hl:InR (J1e l) R):
    Tri Tryz.prog 225 [l.val,.int .i64 (n:Int)].toArray L R (fun v L' R'=>v=.int .i64 (Z2 l.l n)∧L=L'∧R=R'):=by
  refine Jg 26 Tryz.call225 Tryz.func225 rfl rfl rfl ?_
  refine Xab ?_
  refine qaw ?_
  refine qbm ?_
  refine q_l rfl (Ydb l _ _ hl) ?_
  refine Xbd ?_
  refine q_c (fun hc0=>?_) (fun hc0=>?_)
  ·
   refine Xa5 ?_
   refine q_i (L':=L) (R':=R) ?_
   exact ⟨by rw [Z2,if_pos zC],rfl,rfl⟩
  have hr:Kla l.l=true:=by simpa using hc0
  have hln:=(J7b.1 hr).1
  refine qbo ?_
  refine Xbt ?_
  refine Jo [(1,Value.int _ _),(10,Value.slice _ _ _),(11,Value.int _ _),(12,Value.int _ _)] zg fun tq0=>?_
  refine q_s [4,6,12,13,14,15,16,17,18,19,20,21,22,23,24,25] (fun g:{k:Nat // k≤l.l.length∧∀j:Nat,j < k→¬ ((l.l.getD j default).kind=1∧(n:Int)≤(l.l.getD j default).cond)}=>[(12,.int .i64 ((g.1:Nat):Int))]) (fun g=>l.l.length - g.1) (⟨0,by omega,fun j hj=>by omega⟩) ?_
  rintro ⟨k,hk,hal⟩ junk
  try dsimp only
  refine Xak ?_
  refine q_c (fun hc1=>?_) (fun hc1=>?_)
  ·
   have h1:=Jw (l:=l.l) (k:=k) default za
   refine qbb ?_
   refine Jx zB rfl ?_
   refine Xcv ?_
   intro b6
   refine Xa0 ?_
   refine Xbm ?_
   refine qah ?_
   apply Ur (G:=[_,_,_,_]) (j:=3) (cj:=19) rfl rfl zb rfl zdb rfl
   ·
    intro hg4
    replace hg4:=qb hg4
    refine Xam ?_
    exact zid
   intro junk4
   refine qaf ?_
   refine q_c (fun hc2=>?_) (fun hc2=>?_)
   ·
    refine Xbw ?_
    refine q_i (L':=L) (R':=R) ?_
    exact ⟨by rw [U4d hr k za hc2.1 hc2.2],rfl,rfl⟩
   refine Xax ?_
   exact Kf (⟨k + 1,by omega,fun j hj=>by
   rcases Nat.lt_or_ge j k with h | h
   · exact hal j h
   · obtain rfl : j = k := by omega
     omega⟩) zm zg zi zqb zx
  refine Xb7 ?_
  refine q_i (L':=L) (R':=R) ?_
  exact ⟨by rw [Uoc hr (fun j hj=>hal j za)],rfl,rfl⟩
end Go.Proofs.YtchfclmokpbldaaGreat
