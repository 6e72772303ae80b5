import Derived.Test.YtihompplndcdeaaGreatNarrow
import Derived.Test.YtihompplndcdeaaGreatCflowS
import Derived.Test.YtihompplndcdeaaGreatFits
section
/-
  Statements about chapter 15: the sanity check. By an AI agent; no person has read it.
-/
namespace Go.Proofs.YtihompplndcdeaaGreat
open Go.Aw Go
def road15:XRoad:=⟨0,1,1,1,false,false,⟨1,1⟩,⟨900,900⟩⟩
abbrev Jrp (b:Nat):XDoor:=⟨0,1,⟨some ⟨b,0,none⟩,2,[8,0]⟩⟩
abbrev Jrc (b:Nat):XDoor:=⟨0,0,⟨some ⟨b,0,none⟩,2,[5,0]⟩⟩
abbrev Jce (b1 b2 b3 b4 b5:Nat):XAir:=⟨⟨⟨some ⟨b1,0,none⟩,2,[⟨0,true⟩,⟨0,true⟩]⟩,⟨some ⟨b2,0,none⟩,1,[road15]⟩⟩,⟨none,0,[]⟩,⟨some ⟨b5,0,none⟩,2,[Jrp b3,Jrc b4]⟩⟩
abbrev Jfc (b:Nat) (x y:Int):XSetting:=⟨⟨none,0,[]⟩,⟨some ⟨b,0,none⟩,2,[x,y]⟩⟩
section
variable (b1 b2 b3 b4 b5 b:Nat)
theorem Jgn:Ja4 (Jce b1 b2 b3 b4 b5)=0:=by rfl
theorem Jhk:Jdq (Jce b1 b2 b3 b4 b5) (Jfc b 0 0)=true:=by rfl
theorem Jkp:Jdq (Jce b1 b2 b3 b4 b5) (Jfc b 1 0)=true:=by rfl
theorem Jve:Jdq (Jce b1 b2 b3 b4 b5) (Jfc b 1 1)=true:=by rfl
theorem Jsq (q:Int) (h:0≤q):Jbr (Jce b1 b2 b3 b4 b5) (Jfc b 0 0) 0 q=⟨14 * q * q - 900,14 * q * q - 900⟩:=by
  show Jma ⟨14,14⟩ ⟨900,900⟩ q=_
  rw [Jma,if_neg (by omega)]
theorem Jtc (q:Int) (h:0≤q):Jbr (Jce b1 b2 b3 b4 b5) (Jfc b 1 0) 0 q=⟨6 * q * q - 900,6 * q * q - 900⟩:=by
  show Jma ⟨6,6⟩ ⟨900,900⟩ q=_
  rw [Jma,if_neg (by omega)]
theorem J3d {s:XSetting} {n lo:Int} (hf:Jdq (Jce b1 b2 b3 b4 b5) s=true) (hi:∀q:Int,0≤q→Jbr (Jce b1 b2 b3 b4 b5) s 0 q=⟨n * q * q - 900,n * q * q - 900⟩) (h0:0≤lo∧lo < 1000) (h1:n * lo * lo < 900) (h2:900 < n * (lo + 1) * (lo + 1)):
    Jb3 (Jbr (Jce b1 b2 b3 b4 b5) s 0) 0=lo∧Jbs (Jbr (Jce b1 b2 b3 b4 b5) s 0) 0=lo + 1:=by
  have hok:=(Ji3 (a:=Jce b1 b2 b3 b4 b5) (s:=s) (by rw [Jdn,Jgn,hf];rfl)).1
  have hr:(0:Int)≤0∧(0:Int) < (Jce b1 b2 b3 b4 b5).mine.roads.l.length:=⟨by decide,by show (0:Int) < 1;decide⟩
  have l1:=Jjj (s:=s) hok hr 0
  have l2:=Jho (s:=s) hok hr 0
  have e1:=hi lo (by omega)
  have e2:=hi (lo + 1) (by omega)
  generalize Jbr (Jce b1 b2 b3 b4 b5) s 0=F at *
  constructor
  · generalize Jb3 F 0 = z at *
    rcases Int.lt_trichotomy z lo with h | h | h
    · have:=l1.gt lo h (by omega);rw [e1] at this;dsimp only at this;omega
    · exact h
    · have:=l1.le (lo + 1) (by omega) (by omega);rw [e2] at this;dsimp only at this;omega
  · generalize Jbs F 0 = z at *
    rcases Int.lt_trichotomy z (lo + 1) with h | h | h
    · have:=l2.ge lo (by omega) (by omega);rw [e1] at this;dsimp only at this;omega
    · exact h
    · have:=l2.lt (lo + 1) (by omega) h;rw [e2] at this;dsimp only at this;omega
theorem Jyn:AiryIs (Jce b1 b2 b3 b4 b5).mine [true,true]:=by
  have hs:Jud (Jce b1 b2 b3 b4 b5).mine=[true,true]:=rfl
  refine ⟨rfl,fun i hi=>?_⟩
  rw [hs] at hi ⊢
  simp only [List.length_cons,List.length_nil] at hi ⊢
  rcases Nat.lt_or_ge i 1 with h | h
  · obtain rfl : i = 0 := by omega
    exact ⟨fun _=>⟨0,by decide,rfl,.refl⟩,fun _=>rfl⟩
  · obtain rfl : i = 1 := by omega
    exact ⟨fun _=>⟨1,by decide,rfl,.refl⟩,fun _=>rfl⟩
section
variable {s:XSetting} (hf:Jdq (Jce b1 b2 b3 b4 b5) s=true)
include hf
theorem Jvi:StartOk (Jce b1 b2 b3 b4 b5) s [0,0] [true,true]:=by
  refine ⟨Jgn .., hf,rfl,fun p hp=>?_,fun i hi hf=>?_⟩
  · simp only [List.mem_cons, List.not_mem_nil, or_false] at hp
    omega
  · rcases Nat.lt_or_ge i 1 with h1 | h1
    · obtain rfl : i = 0 := by omega
      rfl
    · obtain rfl : i = 1 := by have : i < 2 := hi; omega
      rfl
theorem Juj (up:Bool):Jbj (Jce b1 b2 b3 b4 b5) s [true,true] up [0,0]=(0,[0,0]):=by
  have hsw:Jck (Jce b1 b2 b3 b4 b5) s [true,true] up [0,0] (Jce b1 b2 b3 b4 b5).mine.places.l.length=some [0,0]:=by
    have h0:Jlc (Jce b1 b2 b3 b4 b5) [true,true] 0=true:=rfl
    have h1:Jlc (Jce b1 b2 b3 b4 b5) [true,true] 1=true:=rfl
    show Jck (Jce b1 b2 b3 b4 b5) s [true,true] up [0,0] (0 + 1 + 1)=_
    rw [Jck,Jck,Jck,Option.bind_some,if_pos h0,Option.bind_some,if_pos h1]
  have r:Jcv (Jce b1 b2 b3 b4 b5) s [true,true] up 200 [0,0]=some [0,0]:=Jkh (n:=199) hsw
  rw [Jbj,if_neg (by rw [Jfz.2 (Jvi b1 b2 b3 b4 b5 hf)];decide),r]
theorem Jph:Jc1 (Jce b1 b2 b3 b4 b5) s [true,true]=(0,[0,0],[0,0]):=by
  have h0:List.replicate (Jce b1 b2 b3 b4 b5).mine.places.l.length (0:Int)=[0,0]:=rfl
  have h1:=Juj b1 b2 b3 b4 b5 hf
  rw [Jc1,h0,h1]
  dsimp only
  rw [if_neg (by decide),h1,if_neg (by decide),h1,if_neg (by decide)]
abbrev J0d:XBounds:=⟨⟨none,0,[0,0]⟩,⟨none,0,[0,0]⟩⟩
theorem Jvu:Jdb (Jce b1 b2 b3 b4 b5) s J0d [true,true]=0:=by
  refine Jqn.2 ⟨⟨Jgn .., hf,rfl,rfl,fun p hp=>?_,fun p hp=>?_⟩,fun i hi hf=>?_,fun i hi hf=>?_⟩
  · simp only [List.mem_cons, List.not_mem_nil, or_false] at hp
    omega
  · simp only [List.mem_cons, List.not_mem_nil, or_false] at hp
    omega
  · rcases Nat.lt_or_ge i 1 with h | h
    · obtain rfl : i = 0 := by omega
      exact ⟨rfl,rfl⟩
    · obtain rfl : i = 1 := by have : i < 2 := hi; omega
      exact ⟨rfl,rfl⟩
  · rcases Nat.lt_or_ge i 1 with h | h
    · obtain rfl : i = 0 := by omega
      exact absurd rfl hf
    · obtain rfl : i = 1 := by have : i < 2 := hi; omega
      exact absurd rfl hf
theorem Jta {lo hi:Int} (hl:Jb3 (Jbr (Jce b1 b2 b3 b4 b5) s 0) 0=lo∧Jbs (Jbr (Jce b1 b2 b3 b4 b5) s 0) 0=hi):Jgi (Jce b1 b2 b3 b4 b5) s [true,true]=(0,[⟨lo,hi⟩]):=by
  have h3:Jig (Jce b1 b2 b3 b4 b5) s [true,true]=J0d:=by rw [Jig,Jph b1 b2 b3 b4 b5 hf]
  rw [Jgi,if_neg (by rw [Jgn];decide),if_neg (by rw [hf];decide),Jph b1 b2 b3 b4 b5 hf,if_pos rfl,h3,Jb5,if_pos (Jvu b1 b2 b3 b4 b5 hf)]
  have h4:Jb2 (Jce b1 b2 b3 b4 b5) s J0d [true,true] 0=⟨lo,hi⟩:=by
    have e:Jb2 (Jce b1 b2 b3 b4 b5) s J0d [true,true] 0=⟨Jb3 (Jbr (Jce b1 b2 b3 b4 b5) s 0) 0,Jbs (Jbr (Jce b1 b2 b3 b4 b5) s 0) 0⟩:=rfl
    rw [e,hl.1,hl.2]
  show (0,[Jb2 (Jce b1 b2 b3 b4 b5) s J0d [true,true] 0])=_
  rw [h4]
end
theorem Juo:(Jgi (Jce b1 b2 b3 b4 b5) (Jfc b 0 0) [true,true])=(0,[⟨8,9⟩]):=Jta b1 b2 b3 b4 b5 (Jhk ..) (J3d b1 b2 b3 b4 b5 (Jhk ..) (Jsq b1 b2 b3 b4 b5 b) (by decide) (by decide) (by decide))
theorem Jvj:(Jgi (Jce b1 b2 b3 b4 b5) (Jfc b 1 0) [true,true])=(0,[⟨12,13⟩]):=Jta b1 b2 b3 b4 b5 (Jkp ..) (J3d b1 b2 b3 b4 b5 (Jkp ..) (Jtc b1 b2 b3 b4 b5 b) (by decide) (by decide) (by decide))
theorem J0c (c:Nat) (K:List XSpan→List Int):Jyj (Jce b1 b2 b3 b4 b5) (Jfc b 0 0) (Jfc c 1 1) [] [true,true] K=(13,[]):=by
  have hd:Jn5 (Jaj (Jfc b 0 0)) (Jaj (Jfc c 1 1))=[0,1]:=by
    show Jn5 ([],[0,0]) ([],[1,1])=[0,1]
    decide
  rw [Jvs (Jgn ..) ⟨Jhk .., Jve ..⟩ (by rw [hd];decide),hd]
  have key:Jfg (nxS (Jce b1 b2 b3 b4 b5) [true,true] K [] ([],[1,1])) ([],[0,0]) [0,1]=none:=by
    have c1:Jst (Jce b1 b2 b3 b4 b5).doors.l ([],[1,1]) ([],[1,0]) 1=false:=by rfl
    have c2:Jst (Jce b1 b2 b3 b4 b5).doors.l ([],[1,1]) ([],[0,1]) 0=false:=by rfl
    have p1:Jja ([],[1,1]) ([],[0,0]) 0=([],[1,0]):=by rfl
    have p2:Jja ([],[1,1]) ([],[0,0]) 1=([],[0,1]):=by rfl
    have n1:nxS (Jce b1 b2 b3 b4 b5) [true,true] K [] ([],[1,1]) ([],[1,0]) 1=none:=by rw [nxS,c1];rfl
    have n2:nxS (Jce b1 b2 b3 b4 b5) [true,true] K [] ([],[1,1]) ([],[0,1]) 0=none:=by rw [nxS,c2];rfl
    have s1:Jfg (nxS (Jce b1 b2 b3 b4 b5) [true,true] K [] ([],[1,1])) ([],[1,0]) [1]=none:=by
      rw [Jg8 (by decide)]
      show ([0]:List Nat).findSome? _=none
      rw [List.findSome?_cons,Jl3,show ([1]:List Int).getD 0 0=1 from rfl,n1];rfl
    have s2:Jfg (nxS (Jce b1 b2 b3 b4 b5) [true,true] K [] ([],[1,1])) ([],[0,1]) [0]=none:=by
      rw [Jg8 (by decide)]
      show ([0]:List Nat).findSome? _=none
      rw [List.findSome?_cons,Jl3,show ([0]:List Int).getD 0 0=0 from rfl,n2];rfl
    have t1:Jl3 (nxS (Jce b1 b2 b3 b4 b5) [true,true] K [] ([],[1,1])) (Jfg (nxS (Jce b1 b2 b3 b4 b5) [true,true] K [] ([],[1,1]))) ([],[0,0]) [0,1] 0=none:=by
      rw [Jl3,show ([0,1]:List Int).getD 0 0=0 from rfl,show ([0,1]:List Int).eraseIdx 0=[1] from rfl,nxS,p1]
      split
      · split
        · rw [Option.bind_some,s1];rfl
        · rfl
      · rfl
    have t2:Jl3 (nxS (Jce b1 b2 b3 b4 b5) [true,true] K [] ([],[1,1])) (Jfg (nxS (Jce b1 b2 b3 b4 b5) [true,true] K [] ([],[1,1]))) ([],[0,0]) [0,1] 1=none:=by
      rw [Jl3,show ([0,1]:List Int).getD 1 0=1 from rfl,show ([0,1]:List Int).eraseIdx 1=[0] from rfl,nxS,p2]
      split
      · split
        · rw [Option.bind_some,s2];rfl
        · rfl
      · rfl
    rw [Jg8 (by decide)]
    show ([0,1]:List Nat).findSome? _=none
    rw [List.findSome?_cons,t1,List.findSome?_cons,t2];rfl
  rw [show Jaj (Jfc c 1 1)=([],[1,1]) from rfl,show Jaj (Jfc b 0 0)=([],[0,0]) from rfl,key]
theorem Jtf (c:Nat) (C C':List Int):Jpo (Jce b1 b2 b3 b4 b5) (Jfc b 1 0) (Jce b1 b2 b3 b4 b5) (Jfc c 0 0)=0:=Jle.2 ⟨Jfs.2 ⟨Jgn .., Jkp ..⟩,Jfs.2 ⟨Jgn .., Jhk ..⟩,Nat.le_refl _,Nat.le_refl _⟩
theorem Jyc (c:Nat) (C C':List Int):(J1e (Jce b1 b2 b3 b4 b5) (Jfc b 1 0) (Jce b1 b2 b3 b4 b5) (Jfc c 0 0) [⟨0,12⟩] [true,true] [true,true] C C').turned=[]∧(J1e (Jce b1 b2 b3 b4 b5) (Jfc b 1 0) (Jce b1 b2 b3 b4 b5) (Jfc c 0 0) [⟨0,12⟩] [true,true] [true,true] C C').starved=[0]:=by
  rw [J1e,if_pos (Jtf b1 b2 b3 b4 b5 b c C C'),Juo,Jvj]
  exact ⟨by rfl,by rfl⟩
end
end Go.Proofs.YtihompplndcdeaaGreat
end
section
/-
  Statements about chapter 15: the sanity check's walk; verdicts that are compared. By an AI agent; no person has read it.
-/
namespace Go.Proofs.YtihompplndcdeaaGreat
open Go.Aw Go
section
variable {A9 B9:Prop}
theorem Jxw (a:A9) (h:A9→B9:=by exact Jfo (Jav (qs:=[(0,(Value.int _ _).cells.toList),(1,(Value.int _ _).cells.toList)]) (out:=[_,_]) tb rfl rfl rfl rfl rfl rfl rfl) rfl):B9:=h a
theorem J16 (a:A9) (h:A9→B9:=by exact Ja2 (Jbx (qs:=[(1,(Value.slice _ _ _).cells.toList)]) (out:=[_,_]) tb rfl rfl rfl rfl) rfl):B9:=h a
theorem J58 (a:A9) (h:A9→B9:=by exact Ja2 (Jbx (qs:=[(1,(Value.int _ _).cells.toList),(2,(Value.slice _ _ _).cells.toList)]) (out:=[_,_,_]) tb rfl rfl rfl rfl) rfl):B9:=h a
theorem J5n (a:A9) (h:A9→B9:=by exact Jnq (wd:=1) (len:=2) (cap:=2) (rows:=[Jad 0,Jad 0]) (subs:=[]) rfl (by decide) (by decide) (fun r hr=>by simp only [List.mem_cons,List.not_mem_nil,or_false] at hr;rcases hr with rfl | rfl <;> rfl) (by decide) rfl (fun s hs=>by cases hs)):B9:=h a
end
theorem Jvf {A:List Blk} {R:List Sl} {p:OwL Int} {y:Arr Int} (hp:InB (p.L 3 Jad) A) (okp:p.ok 1 Jad) (hy:InR (isl y) R) (he:p.l=y.l):
    Tri Tryz.prog 20 [p.val,y.val].toArray A R (fun v L' R'=>v=.bool true∧A=L'∧R=R'):=
  Tri.lendU (S:=[isl p.arr]) (fun w G hh s hs=>by
    rw [List.mem_singleton.1 hs]
    exact Jc3 hh hp okp (fun _=>rfl) (by decide) (fun s hs=>by cases hs)) (Jxm p.arr y [] _ (Jab (.head _)) (hy.mono fun r h=>Jab (.tail _ h)) he)
theorem Jd6 {A:List Blk} {R:List Sl} {p q:OwL Int} (hp:InB (p.L 3 Jad) A) (hq:InB (q.L 3 Jad) A) (okp:p.ok 1 Jad) (okq:q.ok 1 Jad) (he:p.l=q.l):
    Tri Tryz.prog 20 [p.val,q.val].toArray A R (fun v L' R'=>v=.bool true∧A=L'∧R=R'):=
  Tri.lendU (S:=[isl p.arr,isl q.arr]) (fun w G hh s hs=>by
    simp only [List.mem_cons,List.not_mem_nil,or_false] at hs
    rcases hs with rfl | rfl
    · exact Jc3 hh hp okp (fun _=>rfl) (by decide) (fun s hs=>by cases hs)
    · exact Jc3 hh hq okq (fun _=>rfl) (by decide) (fun s hs=>by cases hs)) (Jxm p.arr q.arr [] _ (Jab (.head _)) (Jab (.tail _ (.head _))) he)
set_option maxRecDepth 20000
attribute [local irreducible] CJ LJ DJ Tri YV Gives Jd5 Jbd Jbz Jd4 RV Jbf OwL.L
theorem Jku (L:List Blk) (R:List Sl):Tri Tryz.prog 16 ([]:List Value).toArray L R (fun v L' R'=>v=.bool true∧L=L'∧R=R'):=by
  refine Jae 66 Tryz.call16 Tryz.func16 rfl rfl rfl ?_
  refine qae ?_
  refine Xbr ?_
  refine qcd ?_
  refine qcd ?_
  refine Ja2 (Jbx (qs:=[(1,(Value.int _ _).cells.toList),(2,(Value.int _ _).cells.toList),(3,(Value.int _ _).cells.toList),(6,(Value.agg _).cells.toList),(7,(Value.agg _).cells.toList)]) (out:=[_,_,_,_,_,_,_,_,_,_]) tb rfl rfl rfl rfl) rfl ?_
  refine qaq ?_
  intro b1
  refine Xbf ?_
  refine Ja2 (Jbx (qs:=[(1,(Value.bool _).cells.toList)]) (out:=[_,_]) tb rfl rfl rfl rfl) rfl ?_
  refine Ja2 (Jbx (qs:=[(1,(Value.bool _).cells.toList)]) (out:=[_,_]) tb rfl rfl rfl rfl) rfl ?_
  refine Jfo (Jav (qs:=[(0,(Value.agg _).cells.toList),(1,(Value.agg _).cells.toList)]) (out:=[_,_,_,_]) tb rfl rfl rfl rfl rfl rfl rfl) rfl ?_
  rintro v L' R' ⟨b12,rfl,rfl,hR12⟩
  replace hR12:=hR12.symm;subst hR12
  refine Ja2 (Jbh (row:=[_,_,_,_,_,_,_,_,_,_]) tb rfl rfl rfl (by repeat (first | exact zi0 | apply zi1 | apply zi2)) (by rfl) (by rfl)) rfl ?_
  refine Jfo (Jav (qs:=[(0,(Value.agg _).cells.toList)]) (out:=[_,_,_,_,_,_,_,_,_,_]) tb rfl rfl rfl rfl rfl rfl rfl) rfl ?_
  rintro v L' R' ⟨b14,rfl,rfl,hR14⟩
  replace hR14:=hR14.symm;subst hR14
  refine Ja2 (Jbx (qs:=[(0,(Value.slice _ _ _).cells.toList),(1,(Value.slice _ _ _).cells.toList)]) (out:=[_,_]) tb rfl rfl rfl rfl) rfl ?_
  refine Jxw ?_
  rintro v L' R' ⟨b16,rfl,rfl,hR16⟩
  replace hR16:=hR16.symm;subst hR16
  refine J58 ?_
  refine Jxw ?_
  rintro v L' R' ⟨b18,rfl,rfl,hR18⟩
  replace hR18:=hR18.symm;subst hR18
  refine J58 ?_
  refine Jfo (Jav (qs:=[(0,(Value.agg _).cells.toList),(1,(Value.agg _).cells.toList)]) (out:=[_,_,_,_,_,_]) tb rfl rfl rfl rfl rfl rfl rfl) rfl ?_
  rintro v L' R' ⟨b20,rfl,rfl,hR20⟩
  replace hR20:=hR20.symm;subst hR20
  refine Ja2 (Jbx (qs:=[(0,(Value.agg _).cells.toList),(2,(Value.slice _ _ _).cells.toList)]) (out:=[_,_,_,_]) tb rfl rfl rfl rfl) rfl ?_
  refine qaq ?_
  intro b2
  refine Xd6 ?_
  refine Jkd (A:=[_,_]) (wd:=1) (len:=2) (cap:=2) (rows:=[Jad 5,Jad 0]) (subs:=[]) rfl (by decide) (by decide) (fun r hr=>by simp only [List.mem_cons,List.not_mem_nil,or_false] at hr;rcases hr with rfl | rfl <;> rfl) (by decide) rfl (fun s hs=>by cases hs) ?_
  refine qb1 ?_
  refine Jkd (A:=[_,_]) (wd:=1) (len:=2) (cap:=2) (rows:=[Jad 8,Jad 0]) (subs:=[]) rfl (by decide) (by decide) (fun r hr=>by simp only [List.mem_cons,List.not_mem_nil,or_false] at hr;rcases hr with rfl | rfl <;> rfl) (by decide) rfl (fun s hs=>by cases hs) ?_
  refine qb1 ?_
  refine Jkd (A:=[_]) (wd:=3) (len:=2) (cap:=2) (rows:=[XDoor.cells (Jrp b16),XDoor.cells (Jrc b18)]) (subs:=[(Jrp b16).sl,(Jrc b18).sl]) rfl (by decide) (by decide) (fun r hr=>by simp only [List.mem_cons,List.not_mem_nil,or_false] at hr;rcases hr with rfl | rfl <;> rfl) (by decide) rfl (fun s hs=>by
    simp only [List.mem_cons,List.not_mem_nil,or_false] at hs
    rcases hs with rfl | rfl
    · exact Jab (.head _)
    · exact Jab (.tail _ (.head _))) ?_
  refine qb1 ?_
  refine Jkd (A:=[_]) (wd:=10) (len:=1) (cap:=1) (rows:=[road15.cells]) (subs:=[]) rfl (by decide) (by decide) (fun r hr=>by rw [List.mem_singleton.1 hr];rfl) (by decide) rfl (fun s hs=>by cases hs) ?_
  refine qb1 ?_
  refine Jkd (A:=[_]) (wd:=2) (len:=2) (cap:=2) (rows:=[XPlace.cells ⟨0,true⟩,XPlace.cells ⟨0,true⟩]) (subs:=[]) rfl (by decide) (by decide) (fun r hr=>by simp only [List.mem_cons,List.not_mem_nil,or_false] at hr;rcases hr with rfl | rfl <;> rfl) (by decide) rfl (fun s hs=>by cases hs) ?_
  refine qb1 ?_
  refine J0z 4 (J0z 2 (J0z 1 ?_))
  obtain ⟨R1,hR1⟩:∃R1,R1=isl ⟨none,0,[]⟩ :: Jqk ⟨none,0,[]⟩ :: fsl ⟨none,0,[]⟩ :: psl (Jce b12 b14 b16 b18 b20).mine.places :: rsl (Jce b12 b14 b16 b18 b20).mine.roads :: dsl (Jce b12 b14 b16 b18 b20).doors :: (Jrp b16).sl :: (Jrc b18).sl :: R:=⟨_,rfl⟩
  have hA:AirR (Jce b12 b14 b16 b18 b20) R1:=by rw [hR1];exact ⟨Jab (by simp),Jab (by simp),Jab (by simp),Jab (by simp)⟩
  have hN:InR (isl ⟨none,0,[]⟩) R1:=by rw [hR1];exact Jab (.head _)
  have hNF:InR (Jqk ⟨none,0,[]⟩) R1:=by rw [hR1];exact Jab (.tail _ (.head _))
  have hRR:∀r∈R,InR r R1:=fun r h=>Jab (by simp [hR1,h])
  refine Jke (R':=R1) (List.Sublist.refl _) (fun r hr=>Jab (by rw [hR1] at hr;exact hr)) ?_
  obtain ⟨K,hK⟩:=Jgj (Jce b12 b14 b16 b18 b20).mine
  have hAy:=Jyn b12 b14 b16 b18 b20
  refine qay ?_
  refine qa8 ?_
  refine Jxw ?_
  rintro v L' R' ⟨b24,rfl,rfl,hR24⟩
  replace hR24:=hR24.symm;subst hR24
  refine J16 ?_
  refine Jxw ?_
  rintro v L' R' ⟨b26,rfl,rfl,hR26⟩
  replace hR26:=hR26.symm;subst hR26
  refine J16 ?_
  refine Jnq (wd:=1) (len:=2) (cap:=2) (rows:=[Jad 1,Jad 1]) (subs:=[]) rfl (by decide) (by decide) (fun r hr=>by simp only [List.mem_cons,List.not_mem_nil,or_false] at hr;rcases hr with rfl | rfl <;> rfl) (by decide) rfl (fun s hs=>by cases hs) ?_
  refine J5n ?_
  obtain ⟨R2,hR2⟩:∃R2,R2=isl ⟨some ⟨b24,0,none⟩,2,[0,0]⟩ :: isl ⟨some ⟨b26,0,none⟩,2,[1,1]⟩ :: R1:=⟨_,rfl⟩
  refine Ju6 (R':=R2) (List.Sublist.refl _) (fun r hr=>Jab (by rw [hR2] at hr;exact hr)) ?_
  have h12:∀r∈R1,InR r R2:=fun r h=>Jab (by simp [hR2,h])
  have hS1:SetR (Jfc b24 0 0) R2:=⟨hN.mono h12,Jab (by simp [hR2])⟩
  have hS2:SetR (Jfc b26 1 1) R2:=⟨hN.mono h12,Jab (by simp [hR2])⟩
  refine Jaq rfl (Jgp (Jce b12 b14 b16 b18 b20) (Jfc b24 0 0) (Jfc b26 1 1) ⟨none,0,[]⟩ [true,true] K _ _ (Jbm hA h12) hS1 hS2 (hNF.mono h12) (fun f hf=>by cases hf) (show 0≤1000 by decide) (fun _=>hAy) hK) rfl ?_
  rintro v L' R' ⟨p,rfl,hpk,hpl,rfl,rfl⟩
  rw [J0c]
  refine Ja2 (Jar rfl) rfl ?_
  refine Xcr ?_
  refine Xal ?_
  refine qa8 ?_
  refine Jxw ?_
  rintro v L' R' ⟨b33,rfl,rfl,hR33⟩
  replace hR33:=hR33.symm;subst hR33
  refine J16 ?_
  refine qa8 ?_
  refine Jxw ?_
  rintro v L' R' ⟨b36,rfl,rfl,hR36⟩
  replace hR36:=hR36.symm;subst hR36
  refine J16 ?_
  refine Ja2 (Jbx (qs:=[(1,(Value.int _ _).cells.toList)]) (out:=[_,_]) tb rfl rfl rfl rfl) rfl ?_
  refine Jfo (Jav (qs:=[(0,(Value.agg _).cells.toList)]) (out:=[_,_]) tb rfl rfl rfl rfl rfl rfl rfl) rfl ?_
  rintro v L' R' ⟨b39,rfl,rfl,hR39⟩
  replace hR39:=hR39.symm;subst hR39
  refine Jnq (wd:=2) (len:=1) (cap:=1) (rows:=[XFace.cells ⟨0,12⟩]) (subs:=[]) rfl (by decide) (by decide) (fun r hr=>by rw [List.mem_singleton.1 hr];rfl) (by decide) rfl (fun s hs=>by cases hs) ?_
  refine J5n ?_
  refine Jnq (wd:=1) (len:=2) (cap:=2) (rows:=[Jad 1,Jad 0]) (subs:=[]) rfl (by decide) (by decide) (fun r hr=>by simp only [List.mem_cons,List.not_mem_nil,or_false] at hr;rcases hr with rfl | rfl <;> rfl) (by decide) rfl (fun s hs=>by cases hs) ?_
  obtain ⟨R3,hR3⟩:∃R3,R3=isl ⟨some ⟨b33,0,none⟩,2,[1,0]⟩ :: isl ⟨some ⟨b36,0,none⟩,2,[0,0]⟩ :: Jqk ⟨some ⟨b39,0,none⟩,1,[⟨0,12⟩]⟩ :: R2:=⟨_,rfl⟩
  refine Ju6 (R':=R3) (List.Sublist.refl _) (fun r hr=>Jab (by rw [hR3] at hr;exact hr)) ?_
  have h23:∀r∈R2,InR r R3:=fun r h=>Jab (by simp [hR3,h])
  have h13:∀r∈R1,InR r R3:=fun r h=>(h12 r h).mono h23
  have hS3:SetR (Jfc b33 1 0) R3:=⟨hN.mono h13,Jab (by simp [hR3])⟩
  have hS4:SetR (Jfc b36 0 0) R3:=⟨hN.mono h13,Jab (by simp [hR3])⟩
  refine Jaq rfl (Jkl (Jce b12 b14 b16 b18 b20) (Jce b12 b14 b16 b18 b20) (Jfc b33 1 0) (Jfc b36 0 0) ⟨some ⟨b39,0,none⟩,1,[⟨0,12⟩]⟩ [true,true] [true,true] _ _ _ _ (Jbm hA h13) hS3 (Jbm hA h13) hS4 (Jab (by simp [hR3])) (fun f hf=>by rw [List.mem_singleton.1 hf];decide) (show 1≤1000 by decide) (fun _=>hAy) (fun _=>hAy) (hK _) (hK _)) rfl ?_
  rintro v L' R' ⟨v,rfl,hvk,hvg,rfl,rfl⟩
  rw [Jtf b12 b14 b16 b18 b20 b33 b36 [] []]
  obtain ⟨hv1,hv2⟩:=Jyc b12 b14 b16 b18 b20 b33 b36 (K (Jgi (Jce b12 b14 b16 b18 b20) (Jfc b33 1 0) [true,true]).2) (K (Jgi (Jce b12 b14 b16 b18 b20) (Jfc b36 0 0) [true,true]).2)
  rw [← hvg] at hv1 hv2
  have hvt:v.t.l=[]:=hv1
  have hvs:v.s.l=[0]:=hv2
  have hvq:v.get.quiet=false:=by rw [XVerd.quiet,hv1,hv2];rfl
  have hvn:v.t.l.length=0:=by rw [hvt];rfl
  have hRR3:∀r∈R,InR r R3:=fun r h=>(hRR r h).mono h13
  refine Ja2 (Jar rfl) rfl ?_
  refine Xea ?_
  intro b5
  refine qak ?_
  refine Xav ?_
  refine qbn ?_
  refine qah ?_
  apply Jcd (G:=[_,_]) (j:=2) (cj:=45) rfl rfl (by rfl) rfl (show _=Value.bool _ from rfl) rfl
  ·
   intro hg3
   replace hg3:=qb hg3
   refine qaa ?_
   refine qbn ?_
   exact qai
  intro junk3
  refine qah ?_
  apply Jcd (G:=[_,_,_,_]) (j:=6) (cj:=49) rfl rfl (by rfl) rfl (show _=Value.bool _ from rfl) rfl
  ·
   intro hg7
   replace hg7:=qb hg7
   refine Xcx ?_
   exact qai
  intro junk7
  refine qah ?_
  apply Jcd (G:=[_,_,_,_]) (j:=12) (cj:=55) rfl rfl (by rfl) rfl (show _=Value.bool _ from rfl) rfl
  ·
   intro hg13
   replace hg13:=qb hg13
   refine Xaa ?_
   refine qcx ?_
   rintro v L' R' ⟨b58,rfl,rfl,hR58⟩
   replace hR58:=hR58.symm;subst hR58
   refine Jnq (wd:=1) (len:=1) (cap:=1) (rows:=[Jad 0]) (subs:=[]) rfl (by decide) (by decide) (fun r hr=>by rw [List.mem_singleton.1 hr];rfl) (by decide) rfl (fun s hs=>by cases hs) ?_
   refine q_l rfl (Jvf (y:=⟨some ⟨b58,0,none⟩,1,[0]⟩) (by repeat (first | exact Jaw | apply Jau | apply Jba)) hvk.s (Jab (.head _)) hvs) ?_
   exact qai
  intro junk13
  refine qah ?_
  apply Jcd (G:=[_,_,_]) (j:=18) (cj:=61) rfl rfl (by rfl) rfl (show _=Value.bool _ from rfl) rfl
  ·
   intro hg19
   replace hg19:=qb hg19
   refine qa8 ?_
   refine q_l rfl (Jiy v _ _) ?_
   refine qb4 ?_
   exact qai
  intro junk19
  refine Xbb ?_
  refine Jbe (L':=L) (R':=R) (Jdi rfl (Jah (show _=Value.bool _ from rfl))) ?hp ?hL ?hR
  case hp=>exact ⟨by rw [hvn,hvq];rfl,rfl,rfl⟩
  case hL=>exact (by repeat (first | exact zs0 _ | exact zs1 _ | apply zs2 | apply zs3 | apply zs4 | apply zs5))
  case hR=>exact hRR3
theorem Jxa {A:List Blk} {R:List Sl} (v w:VerdO) (hv:v.Ok) (hw:w.Ok) (he:v.get=w.get) (h1:InB (v.t.L 3 Jad) A∧InB (v.s.L 3 Jad) A∧InB (v.c.L 3 Jad) A∧InB (v.l.L 3 Jad) A) (h2:InB (w.t.L 3 Jad) A∧InB (w.s.L 3 Jad) A∧InB (w.c.L 3 Jad) A∧InB (w.l.L 3 Jad) A):
    Tri Tryz.prog 13 [v.val,w.val].toArray A R (fun u L' R'=>u=.bool true∧A=L'∧R=R'):=by
  have e1:v.t.l=w.t.l:=congrArg XVerd.turned he
  have e2:v.s.l=w.s.l:=congrArg XVerd.starved he
  have e3:v.c.l=w.c.l:=congrArg XVerd.circles he
  have e4:v.l.l=w.l.l:=congrArg XVerd.lost he
  obtain ⟨a1,a2,a3,a4⟩:=h1
  obtain ⟨c1,c2,c3,c4⟩:=h2
  have up:∀{X:List Blk} {x y:Blk},InB X A→InB X (x :: y :: A):=fun h=>Jau (Jau h)
  refine Jae 31 Tryz.call13 Tryz.func13 rfl rfl rfl ?_
  refine Xai ?_
  intro b2
  refine qax ?_
  intro b3
  refine Xbr ?_
  refine Xa3 ?_
  refine q_l rfl (Jd6 (up a1) (up c1) hv.t hw.t e1) ?_
  refine qah ?_
  apply Jcd (G:=[_,_,_,_,_]) (j:=5) (cj:=10) rfl rfl (by rfl) rfl (show _=Value.bool _ from rfl) rfl
  ·
   intro hg6
   replace hg6:=qb hg6
   refine Xa3 ?_
   refine q_l rfl (Jd6 (up a2) (up c2) hv.s hw.s e2) ?_
   exact qai
  intro junk6
  refine qah ?_
  apply Jcd (G:=[_,_,_,_,_]) (j:=12) (cj:=17) rfl rfl (by rfl) rfl (show _=Value.bool _ from rfl) rfl
  ·
   intro hg13
   replace hg13:=qb hg13
   refine Xa3 ?_
   refine q_l rfl (Jd6 (up a3) (up c3) hv.c hw.c e3) ?_
   exact qai
  intro junk13
  refine qah ?_
  apply Jcd (G:=[_,_,_,_,_]) (j:=19) (cj:=24) rfl rfl (by rfl) rfl (show _=Value.bool _ from rfl) rfl
  ·
   intro hg20
   replace hg20:=qb hg20
   refine Xa3 ?_
   refine q_l rfl (Jd6 (up a4) (up c4) hv.l hw.l e4) ?_
   exact qai
  intro junk20
  refine Xbb ?_
  refine q_b (L':=A) (R':=R) ?_
  exact ⟨rfl,rfl,rfl⟩
end Go.Proofs.YtihompplndcdeaaGreat
end
section
/-
  The reference's copy of a mine. By an AI agent; no person has read it.
-/
namespace Go.Proofs.YtihompplndcdeaaGreat
open Go.Aw Go
set_option maxRecDepth 20000
attribute [local irreducible] CJ LJ DJ Tri YV Gives Jd5 Jbd Jbz Jd4 RV Jbf OwL.L
theorem Jur (m:XMine) (L:List Blk) (R:List Sl) (hm:MineR m R) (hok:MineOk m):
    Tri Tryz.prog 31 [m.val].toArray L R (fun w L' R'=>∃(p:OwL XPlace) (q:OwL XRoad),w=.agg #[p.val,q.val]∧(p.ok 2 XPlace.cells∧q.ok 10 XRoad.cells)∧p.l=m.places.l∧q.l=m.roads.l∧q.L 48 XRoad.cells ++ (p.L 44 XPlace.cells ++ L)=L'∧R=R'):=by
  have hmp:=hm.places
  have hmr:=hm.roads
  have hnp:=hok.places
  have hnr:=hok.roads
  refine Jae 10 Tryz.call31 Tryz.func31 rfl rfl rfl ?_
  refine Xai ?_
  intro b1
  refine qaq ?_
  intro b2
  refine qa4 ?_
  refine Ja8 tb [6,7] [0,1,3,4] [2,5,6,7] ([Blk.mk b1 _ _]) _ Jbn (by kernel_rfl) (by repeat (first | exact zs0 _ | exact zs1 _ | apply zs2 | apply zs3 | apply zs4 | apply zs5)) (by (repeat (first | apply List.Sublist.cons (a:=Blk.mk b2 _ _) | apply List.Sublist.cons_cons));exact List.Sublist.refl _) ?_
  refine Xaf ?_
  refine Xch ?_
  refine qba ?_
  refine Jlz (Jcx (f:=XPlace.cells) (xs:=m.places) tb rfl rfl rfl (by decide) rfl rfl (hmp) (fun _=>rfl) (by omega)) rfl rfl rfl ?_
  rintro v L' R' ⟨o5,rfl,hok5,rfl,rfl⟩
  refine qa1 ?_
  refine Jlz (Jcx (f:=XRoad.cells) (xs:=m.roads) tb rfl rfl rfl (by decide) rfl rfl (hmr) (fun _=>rfl) (by omega)) rfl rfl rfl ?_
  rintro v L' R' ⟨o8,rfl,hok8,rfl,rfl⟩
  refine qa1 ?_
  refine qdq ?_
  refine qbg ?_
  refine Jbt (Jaa (Jc5 ?_))
  refine q_r (L':=(⟨o8,m.roads.l⟩:OwL XRoad).L 48 XRoad.cells ++ ((⟨o5,m.places.l⟩:OwL XPlace).L 44 XPlace.cells ++ L)) (R':=R) (Jdi rfl (Jax (row:=[_,_]) tb rfl rfl rfl (by repeat (first | exact zi0 | apply zi1 | apply zi2)) (by rfl) (by rfl))) ?_
  exact ⟨⟨o5,m.places.l⟩,⟨o8,m.roads.l⟩,rfl,⟨hok5,hok8⟩,rfl,rfl,rfl,rfl⟩
end Go.Proofs.YtihompplndcdeaaGreat
end
