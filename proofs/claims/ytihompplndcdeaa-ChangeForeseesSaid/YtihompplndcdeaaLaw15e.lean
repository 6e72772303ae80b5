import Derived.Test.YtihompplndcdeaaNarrow
import Derived.Test.YtihompplndcdeaaCflowS
import Derived.Test.YtihompplndcdeaaSpans
set_option linter.unusedVariables false
set_option linter.unusedSimpArgs false
section
/-
  Statements about chapter 15: the sanity check. By an AI agent; no person has read it.
-/
namespace Go.Proofs.Ytihompplndcdeaa
open Go.Aw Go
def road15:XRoad:=⟨0,1,1,1,false,false,⟨1,1⟩,⟨900,900⟩⟩
abbrev Jqc (b:Nat):XDoor:=⟨0,1,⟨some ⟨b,0,none⟩,2,[8,0]⟩⟩
abbrev Jqw (b:Nat):XDoor:=⟨0,0,⟨some ⟨b,0,none⟩,2,[5,0]⟩⟩
abbrev Jbz (b1 b2 b3 b4 b5:Nat):XAir:=⟨⟨⟨some ⟨b1,0,none⟩,2,[⟨0,true⟩,⟨0,true⟩]⟩,⟨some ⟨b2,0,none⟩,1,[road15]⟩⟩,⟨none,0,[]⟩,⟨some ⟨b5,0,none⟩,2,[Jqc b3,Jqw b4]⟩⟩
abbrev Je2 (b:Nat) (x y:Int):XSetting:=⟨⟨none,0,[]⟩,⟨some ⟨b,0,none⟩,2,[x,y]⟩⟩
section
variable (b1 b2 b3 b4 b5 b:Nat)
theorem Jfz:Jat (Jbz b1 b2 b3 b4 b5)=0:=by rfl
theorem Jhi:Jdl (Jbz b1 b2 b3 b4 b5) (Je2 b 0 0)=true:=by rfl
theorem Jju:Jdl (Jbz b1 b2 b3 b4 b5) (Je2 b 1 0)=true:=by rfl
theorem Jtp:Jdl (Jbz b1 b2 b3 b4 b5) (Je2 b 1 1)=true:=by rfl
theorem Jsq (q:Int) (h:0≤q):Ja8 (Jbz b1 b2 b3 b4 b5) (Je2 b 0 0) 0 q=⟨14 * q * q - 900,14 * q * q - 900⟩:=by
  show Jlb ⟨14,14⟩ ⟨900,900⟩ q=_
  rw [Jlb,if_neg (by omega)]
theorem Jsr (q:Int) (h:0≤q):Ja8 (Jbz b1 b2 b3 b4 b5) (Je2 b 1 0) 0 q=⟨6 * q * q - 900,6 * q * q - 900⟩:=by
  show Jlb ⟨6,6⟩ ⟨900,900⟩ q=_
  rw [Jlb,if_neg (by omega)]
theorem J14 {s:XSetting} {n lo:Int} (hf:Jdl (Jbz b1 b2 b3 b4 b5) s=true) (hi:∀q:Int,0≤q→Ja8 (Jbz b1 b2 b3 b4 b5) s 0 q=⟨n * q * q - 900,n * q * q - 900⟩) (h0:0≤lo∧lo < 1000) (h1:n * lo * lo < 900) (h2:900 < n * (lo + 1) * (lo + 1)):
    Jbp (Ja8 (Jbz b1 b2 b3 b4 b5) s 0) 0=lo∧Jbc (Ja8 (Jbz b1 b2 b3 b4 b5) s 0) 0=lo + 1:=by
  have hok:=(Jfr (a:=Jbz b1 b2 b3 b4 b5) (s:=s) (by rw [Jea,Jfz,hf];rfl)).1
  have hr:(0:Int)≤0∧(0:Int) < (Jbz b1 b2 b3 b4 b5).mine.roads.l.length:=⟨by decide,by show (0:Int) < 1;decide⟩
  have l1:=Jfs (s:=s) hok hr 0
  have l2:=Je9 (s:=s) hok hr 0
  have e1:=hi lo (by omega)
  have e2:=hi (lo + 1) (by omega)
  generalize Ja8 (Jbz b1 b2 b3 b4 b5) s 0=F at *
  constructor
  · generalize Jbp F 0 = z at *
    rcases Int.lt_trichotomy z lo with h | h | h
    · have:=l1.gt lo h (by omega);rw [e1] at this;dsimp only at this;omega
    · exact h
    · have:=l1.le (lo + 1) (by omega) (by omega);rw [e2] at this;dsimp only at this;omega
  · generalize Jbc F 0 = z at *
    rcases Int.lt_trichotomy z (lo + 1) with h | h | h
    · have:=l2.ge lo (by omega) (by omega);rw [e1] at this;dsimp only at this;omega
    · exact h
    · have:=l2.lt (lo + 1) (by omega) h;rw [e2] at this;dsimp only at this;omega
theorem Jw0:AiryIs (Jbz b1 b2 b3 b4 b5).mine [true,true]:=by
  have hs:surf (Jbz b1 b2 b3 b4 b5).mine=[true,true]:=rfl
  refine ⟨rfl,fun i hi=>?_⟩
  rw [hs] at hi ⊢
  simp only [List.length_cons,List.length_nil] at hi ⊢
  rcases Nat.lt_or_ge i 1 with h | h
  · obtain rfl : i = 0 := by omega
    exact ⟨fun _=>⟨0,by decide,rfl,.refl⟩,fun _=>rfl⟩
  · obtain rfl : i = 1 := by omega
    exact ⟨fun _=>⟨1,by decide,rfl,.refl⟩,fun _=>rfl⟩
section
variable {s:XSetting} (hf:Jdl (Jbz b1 b2 b3 b4 b5) s=true)
include hf
theorem Jua:StartOk (Jbz b1 b2 b3 b4 b5) s [0,0] [true,true]:=by
  refine ⟨Jfz .., hf,rfl,fun p hp=>?_,fun i hi hf=>?_⟩
  · simp only [List.mem_cons, List.not_mem_nil, or_false] at hp
    omega
  · rcases Nat.lt_or_ge i 1 with h1 | h1
    · obtain rfl : i = 0 := by omega
      rfl
    · obtain rfl : i = 1 := by have : i < 2 := hi; omega
      rfl
theorem Js8 (up:Bool):Jbw (Jbz b1 b2 b3 b4 b5) s [true,true] up [0,0]=(0,[0,0]):=by
  have hsw:Jb4 (Jbz b1 b2 b3 b4 b5) s [true,true] up [0,0] (Jbz b1 b2 b3 b4 b5).mine.places.l.length=some [0,0]:=by
    have h0:Jmn (Jbz b1 b2 b3 b4 b5) [true,true] 0=true:=rfl
    have h1:Jmn (Jbz b1 b2 b3 b4 b5) [true,true] 1=true:=rfl
    show Jb4 (Jbz b1 b2 b3 b4 b5) s [true,true] up [0,0] (0 + 1 + 1)=_
    rw [Jb4,Jb4,Jb4,Option.bind_some,if_pos h0,Option.bind_some,if_pos h1]
  have r:Jcm (Jbz b1 b2 b3 b4 b5) s [true,true] up 200 [0,0]=some [0,0]:=Jnh (n:=199) hsw
  rw [Jbw,if_neg (by rw [Jf6.2 (Jua b1 b2 b3 b4 b5 hf)];decide),r]
theorem Jnb:Jdm (Jbz b1 b2 b3 b4 b5) s [true,true]=(0,[0,0],[0,0]):=by
  have h0:List.replicate (Jbz b1 b2 b3 b4 b5).mine.places.l.length (0:Int)=[0,0]:=rfl
  have h1:=Js8 b1 b2 b3 b4 b5 hf
  rw [Jdm,h0,h1]
  dsimp only
  rw [if_neg (by decide),h1,if_neg (by decide),h1,if_neg (by decide)]
abbrev Jxv:XBounds:=⟨⟨none,0,[0,0]⟩,⟨none,0,[0,0]⟩⟩
theorem Jui:Jd1 (Jbz b1 b2 b3 b4 b5) s Jxv [true,true]=0:=by
  refine Jo8.2 ⟨⟨Jfz .., hf,rfl,rfl,fun p hp=>?_,fun p hp=>?_⟩,fun i hi hf=>?_,fun i hi hf=>?_⟩
  · simp only [List.mem_cons, List.not_mem_nil, or_false] at hp
    omega
  · simp only [List.mem_cons, List.not_mem_nil, or_false] at hp
    omega
  · rcases Nat.lt_or_ge i 1 with h | h
    · obtain rfl : i = 0 := by omega
      exact ⟨rfl,rfl⟩
    · obtain rfl : i = 1 := by have : i < 2 := hi; omega
      exact ⟨rfl,rfl⟩
  · rcases Nat.lt_or_ge i 1 with h | h
    · obtain rfl : i = 0 := by omega
      exact absurd rfl hf
    · obtain rfl : i = 1 := by have : i < 2 := hi; omega
      exact absurd rfl hf
theorem Jrh {lo hi:Int} (hl:Jbp (Ja8 (Jbz b1 b2 b3 b4 b5) s 0) 0=lo∧Jbc (Ja8 (Jbz b1 b2 b3 b4 b5) s 0) 0=hi):Jf8 (Jbz b1 b2 b3 b4 b5) s [true,true]=(0,[⟨lo,hi⟩]):=by
  have h3:Jhv (Jbz b1 b2 b3 b4 b5) s [true,true]=Jxv:=by rw [Jhv,Jnb b1 b2 b3 b4 b5 hf]
  rw [Jf8,if_neg (by rw [Jfz];decide),if_neg (by rw [hf];decide),Jnb b1 b2 b3 b4 b5 hf,if_pos rfl,h3,Jce,if_pos (Jui b1 b2 b3 b4 b5 hf)]
  have h4:Jby (Jbz b1 b2 b3 b4 b5) s Jxv [true,true] 0=⟨lo,hi⟩:=by
    have e:Jby (Jbz b1 b2 b3 b4 b5) s Jxv [true,true] 0=⟨Jbp (Ja8 (Jbz b1 b2 b3 b4 b5) s 0) 0,Jbc (Ja8 (Jbz b1 b2 b3 b4 b5) s 0) 0⟩:=rfl
    rw [e,hl.1,hl.2]
  show (0,[Jby (Jbz b1 b2 b3 b4 b5) s Jxv [true,true] 0])=_
  rw [h4]
end
theorem Jtx:(Jf8 (Jbz b1 b2 b3 b4 b5) (Je2 b 0 0) [true,true])=(0,[⟨8,9⟩]):=Jrh b1 b2 b3 b4 b5 (Jhi ..) (J14 b1 b2 b3 b4 b5 (Jhi ..) (Jsq b1 b2 b3 b4 b5 b) (by decide) (by decide) (by decide))
theorem Jtt:(Jf8 (Jbz b1 b2 b3 b4 b5) (Je2 b 1 0) [true,true])=(0,[⟨12,13⟩]):=Jrh b1 b2 b3 b4 b5 (Jju ..) (J14 b1 b2 b3 b4 b5 (Jju ..) (Jsr b1 b2 b3 b4 b5 b) (by decide) (by decide) (by decide))
theorem Jxz (c:Nat) (K:List XSpan→List Int):Jo5 (Jbz b1 b2 b3 b4 b5) (Je2 b 0 0) (Je2 c 1 1) [] [true,true] K=(13,[]):=by
  have hd:Jmm (Jak (Je2 b 0 0)) (Jak (Je2 c 1 1))=[0,1]:=by
    show Jmm ([],[0,0]) ([],[1,1])=[0,1]
    decide
  rw [Jrb (Jfz ..) ⟨Jhi .., Jtp ..⟩ (by rw [hd];decide),hd]
  have key:Jgk (nxS (Jbz b1 b2 b3 b4 b5) [true,true] K [] ([],[1,1])) ([],[0,0]) [0,1]=none:=by
    have c1:Jwg (Jbz b1 b2 b3 b4 b5).doors.l ([],[1,1]) ([],[1,0]) 1=false:=by rfl
    have c2:Jwg (Jbz b1 b2 b3 b4 b5).doors.l ([],[1,1]) ([],[0,1]) 0=false:=by rfl
    have p1:Jgs ([],[1,1]) ([],[0,0]) 0=([],[1,0]):=by rfl
    have p2:Jgs ([],[1,1]) ([],[0,0]) 1=([],[0,1]):=by rfl
    have n1:nxS (Jbz b1 b2 b3 b4 b5) [true,true] K [] ([],[1,1]) ([],[1,0]) 1=none:=by rw [nxS,c1];rfl
    have n2:nxS (Jbz b1 b2 b3 b4 b5) [true,true] K [] ([],[1,1]) ([],[0,1]) 0=none:=by rw [nxS,c2];rfl
    have s1:Jgk (nxS (Jbz b1 b2 b3 b4 b5) [true,true] K [] ([],[1,1])) ([],[1,0]) [1]=none:=by
      rw [Jgo (by decide)]
      show ([0]:List Nat).findSome? _=none
      rw [List.findSome?_cons,Joq,show ([1]:List Int).getD 0 0=1 from rfl,n1];rfl
    have s2:Jgk (nxS (Jbz b1 b2 b3 b4 b5) [true,true] K [] ([],[1,1])) ([],[0,1]) [0]=none:=by
      rw [Jgo (by decide)]
      show ([0]:List Nat).findSome? _=none
      rw [List.findSome?_cons,Joq,show ([0]:List Int).getD 0 0=0 from rfl,n2];rfl
    have t1:Joq (nxS (Jbz b1 b2 b3 b4 b5) [true,true] K [] ([],[1,1])) (Jgk (nxS (Jbz b1 b2 b3 b4 b5) [true,true] K [] ([],[1,1]))) ([],[0,0]) [0,1] 0=none:=by
      rw [Joq,show ([0,1]:List Int).getD 0 0=0 from rfl,show ([0,1]:List Int).eraseIdx 0=[1] from rfl,nxS,p1]
      split
      · split
        · rw [Option.bind_some,s1];rfl
        · rfl
      · rfl
    have t2:Joq (nxS (Jbz b1 b2 b3 b4 b5) [true,true] K [] ([],[1,1])) (Jgk (nxS (Jbz b1 b2 b3 b4 b5) [true,true] K [] ([],[1,1]))) ([],[0,0]) [0,1] 1=none:=by
      rw [Joq,show ([0,1]:List Int).getD 1 0=1 from rfl,show ([0,1]:List Int).eraseIdx 1=[0] from rfl,nxS,p2]
      split
      · split
        · rw [Option.bind_some,s2];rfl
        · rfl
      · rfl
    rw [Jgo (by decide)]
    show ([0,1]:List Nat).findSome? _=none
    rw [List.findSome?_cons,t1,List.findSome?_cons,t2];rfl
  rw [show Jak (Je2 c 1 1)=([],[1,1]) from rfl,show Jak (Je2 b 0 0)=([],[0,0]) from rfl,key]
theorem Jse (c:Nat) (C C':List Int):Js2 (Jbz b1 b2 b3 b4 b5) (Je2 b 1 0) (Jbz b1 b2 b3 b4 b5) (Je2 c 0 0)=0:=Jh7.2 ⟨Jem.2 ⟨Jfz .., Jju ..⟩,Jem.2 ⟨Jfz .., Jhi ..⟩,Nat.le_refl _,Nat.le_refl _⟩
theorem Jws (c:Nat) (C C':List Int):(Jz0 (Jbz b1 b2 b3 b4 b5) (Je2 b 1 0) (Jbz b1 b2 b3 b4 b5) (Je2 c 0 0) [⟨0,12⟩] [true,true] [true,true] C C').turned=[]∧(Jz0 (Jbz b1 b2 b3 b4 b5) (Je2 b 1 0) (Jbz b1 b2 b3 b4 b5) (Je2 c 0 0) [⟨0,12⟩] [true,true] [true,true] C C').starved=[0]:=by
  rw [Jz0,if_pos (Jse b1 b2 b3 b4 b5 b c C C'),Jtx,Jtt]
  exact ⟨by rfl,by rfl⟩
end
end Go.Proofs.Ytihompplndcdeaa
end
section
/-
  Statements about chapter 15: the sanity check's walk; verdicts that are compared. By an AI agent; no person has read it.
-/
namespace Go.Proofs.Ytihompplndcdeaa
open Go.Aw Go
section
variable {A9 B9:Prop}
theorem Jw4 (a:A9) (h:A9→B9:=by exact Jh0 (Jas (qs:=[(0,(Value.int _ _).cells.toList),(1,(Value.int _ _).cells.toList)]) (out:=[_,_]) tb rfl rfl rfl rfl rfl rfl rfl) rfl):B9:=h a
theorem J0p (a:A9) (h:A9→B9:=by exact Jax (Jbo (qs:=[(1,(Value.slice _ _ _).cells.toList)]) (out:=[_,_]) tb rfl rfl rfl rfl) rfl):B9:=h a
theorem J5b (a:A9) (h:A9→B9:=by exact Jax (Jbo (qs:=[(1,(Value.int _ _).cells.toList),(2,(Value.slice _ _ _).cells.toList)]) (out:=[_,_,_]) tb rfl rfl rfl rfl) rfl):B9:=h a
theorem J4p (a:A9) (h:A9→B9:=by exact Jsn (wd:=1) (len:=2) (cap:=2) (rows:=[Jad 0,Jad 0]) (subs:=[]) rfl (by decide) (by decide) (fun r hr=>by simp only [List.mem_cons,List.not_mem_nil,or_false] at hr;rcases hr with rfl | rfl <;> rfl) (by decide) rfl (fun s hs=>by cases hs)):B9:=h a
end
theorem Jtv {A:List Blk} {R:List Sl} {p:OwL Int} {y:Arr Int} (hp:InB (p.L 3 Jad) A) (okp:p.ok 1 Jad) (hy:InR (isl y) R) (he:p.l=y.l):
    Tri Try.prog 20 [p.val,y.val].toArray A R (fun v L' R'=>v=.bool true∧A=L'∧R=R'):=
  Tri.lendU (S:=[isl p.arr]) (fun w G hh s hs=>by
    rw [List.mem_singleton.1 hs]
    exact Jdr hh hp okp (fun _=>rfl) (by decide) (fun s hs=>by cases hs)) (Jp5 p.arr y [] _ (Jab (.head _)) (hy.mono fun r h=>Jab (.tail _ h)) he)
set_option maxRecDepth 20000
attribute [local irreducible] CJ LJ DJ Tri YV Gives Jdn Jaw Jbk Jdo RV Jay OwL.L
theorem Jfv (L:List Blk) (R:List Sl):Tri Try.prog 16 ([]:List Value).toArray L R (fun v L' R'=>v=.bool true∧L=L'∧R=R'):=by
  refine Jae 66 Try.call16 Try.func16 rfl rfl rfl ?_
  refine Xbh ?_
  refine qam ?_
  refine qcd ?_
  refine qcd ?_
  refine Jax (Jbo (qs:=[(1,(Value.int _ _).cells.toList),(2,(Value.int _ _).cells.toList),(3,(Value.int _ _).cells.toList),(6,(Value.agg _).cells.toList),(7,(Value.agg _).cells.toList)]) (out:=[_,_,_,_,_,_,_,_,_,_]) tb rfl rfl rfl rfl) rfl ?_
  refine qaq ?_
  intro b1
  refine Xbe ?_
  refine Jax (Jbo (qs:=[(1,(Value.bool _).cells.toList)]) (out:=[_,_]) tb rfl rfl rfl rfl) rfl ?_
  refine Jax (Jbo (qs:=[(1,(Value.bool _).cells.toList)]) (out:=[_,_]) tb rfl rfl rfl rfl) rfl ?_
  refine Jh0 (Jas (qs:=[(0,(Value.agg _).cells.toList),(1,(Value.agg _).cells.toList)]) (out:=[_,_,_,_]) tb rfl rfl rfl rfl rfl rfl rfl) rfl ?_
  rintro v L' R' ⟨b12,rfl,rfl,hR12⟩
  replace hR12:=hR12.symm;subst hR12
  refine Jax (Jba (row:=[_,_,_,_,_,_,_,_,_,_]) tb rfl rfl rfl (by repeat (first | exact zi0 | apply zi1 | apply zi2)) (by rfl) (by rfl)) rfl ?_
  refine Jh0 (Jas (qs:=[(0,(Value.agg _).cells.toList)]) (out:=[_,_,_,_,_,_,_,_,_,_]) tb rfl rfl rfl rfl rfl rfl rfl) rfl ?_
  rintro v L' R' ⟨b14,rfl,rfl,hR14⟩
  replace hR14:=hR14.symm;subst hR14
  refine Jax (Jbo (qs:=[(0,(Value.slice _ _ _).cells.toList),(1,(Value.slice _ _ _).cells.toList)]) (out:=[_,_]) tb rfl rfl rfl rfl) rfl ?_
  refine Jw4 ?_
  rintro v L' R' ⟨b16,rfl,rfl,hR16⟩
  replace hR16:=hR16.symm;subst hR16
  refine J5b ?_
  refine Jw4 ?_
  rintro v L' R' ⟨b18,rfl,rfl,hR18⟩
  replace hR18:=hR18.symm;subst hR18
  refine J5b ?_
  refine Jh0 (Jas (qs:=[(0,(Value.agg _).cells.toList),(1,(Value.agg _).cells.toList)]) (out:=[_,_,_,_,_,_]) tb rfl rfl rfl rfl rfl rfl rfl) rfl ?_
  rintro v L' R' ⟨b20,rfl,rfl,hR20⟩
  replace hR20:=hR20.symm;subst hR20
  refine Jax (Jbo (qs:=[(0,(Value.agg _).cells.toList),(2,(Value.slice _ _ _).cells.toList)]) (out:=[_,_,_,_]) tb rfl rfl rfl rfl) rfl ?_
  refine qaq ?_
  intro b2
  refine qak ?_
  refine qa4 ?_
  refine Jjy (A:=[_,_]) (wd:=1) (len:=2) (cap:=2) (rows:=[Jad 5,Jad 0]) (subs:=[]) rfl (by decide) (by decide) (fun r hr=>by simp only [List.mem_cons,List.not_mem_nil,or_false] at hr;rcases hr with rfl | rfl <;> rfl) (by decide) rfl (fun s hs=>by cases hs) ?_
  refine qb1 ?_
  refine Jjy (A:=[_,_]) (wd:=1) (len:=2) (cap:=2) (rows:=[Jad 8,Jad 0]) (subs:=[]) rfl (by decide) (by decide) (fun r hr=>by simp only [List.mem_cons,List.not_mem_nil,or_false] at hr;rcases hr with rfl | rfl <;> rfl) (by decide) rfl (fun s hs=>by cases hs) ?_
  refine qb1 ?_
  refine Jjy (A:=[_]) (wd:=3) (len:=2) (cap:=2) (rows:=[XDoor.cells (Jqc b16),XDoor.cells (Jqw b18)]) (subs:=[(Jqc b16).sl,(Jqw b18).sl]) rfl (by decide) (by decide) (fun r hr=>by simp only [List.mem_cons,List.not_mem_nil,or_false] at hr;rcases hr with rfl | rfl <;> rfl) (by decide) rfl (fun s hs=>by
    simp only [List.mem_cons,List.not_mem_nil,or_false] at hs
    rcases hs with rfl | rfl
    · exact Jab (.head _)
    · exact Jab (.tail _ (.head _))) ?_
  refine qb1 ?_
  refine Jjy (A:=[_]) (wd:=10) (len:=1) (cap:=1) (rows:=[road15.cells]) (subs:=[]) rfl (by decide) (by decide) (fun r hr=>by rw [List.mem_singleton.1 hr];rfl) (by decide) rfl (fun s hs=>by cases hs) ?_
  refine qb1 ?_
  refine Jjy (A:=[_]) (wd:=2) (len:=2) (cap:=2) (rows:=[XPlace.cells ⟨0,true⟩,XPlace.cells ⟨0,true⟩]) (subs:=[]) rfl (by decide) (by decide) (fun r hr=>by simp only [List.mem_cons,List.not_mem_nil,or_false] at hr;rcases hr with rfl | rfl <;> rfl) (by decide) rfl (fun s hs=>by cases hs) ?_
  refine qb1 ?_
  refine Jxx 4 (Jxx 2 (Jxx 1 ?_))
  obtain ⟨R1,hR1⟩:∃R1,R1=isl ⟨none,0,[]⟩ :: Jty ⟨none,0,[]⟩ :: fsl ⟨none,0,[]⟩ :: psl (Jbz b12 b14 b16 b18 b20).mine.places :: rsl (Jbz b12 b14 b16 b18 b20).mine.roads :: dsl (Jbz b12 b14 b16 b18 b20).doors :: (Jqc b16).sl :: (Jqw b18).sl :: R:=⟨_,rfl⟩
  have hA:AirR (Jbz b12 b14 b16 b18 b20) R1:=by rw [hR1];exact ⟨Jab (by simp),Jab (by simp),Jab (by simp),Jab (by simp)⟩
  have hN:InR (isl ⟨none,0,[]⟩) R1:=by rw [hR1];exact Jab (.head _)
  have hNF:InR (Jty ⟨none,0,[]⟩) R1:=by rw [hR1];exact Jab (.tail _ (.head _))
  have hRR:∀r∈R,InR r R1:=fun r h=>Jab (by simp [hR1,h])
  refine Jmw (R':=R1) (List.Sublist.refl _) (fun r hr=>Jab (by rw [hR1] at hr;exact hr)) ?_
  obtain ⟨K,hK⟩:=Jhp (Jbz b12 b14 b16 b18 b20).mine
  have hAy:=Jw0 b12 b14 b16 b18 b20
  refine qay ?_
  refine qa8 ?_
  refine Jw4 ?_
  rintro v L' R' ⟨b24,rfl,rfl,hR24⟩
  replace hR24:=hR24.symm;subst hR24
  refine J0p ?_
  refine Jw4 ?_
  rintro v L' R' ⟨b26,rfl,rfl,hR26⟩
  replace hR26:=hR26.symm;subst hR26
  refine J0p ?_
  refine Jsn (wd:=1) (len:=2) (cap:=2) (rows:=[Jad 1,Jad 1]) (subs:=[]) rfl (by decide) (by decide) (fun r hr=>by simp only [List.mem_cons,List.not_mem_nil,or_false] at hr;rcases hr with rfl | rfl <;> rfl) (by decide) rfl (fun s hs=>by cases hs) ?_
  refine J4p ?_
  obtain ⟨R2,hR2⟩:∃R2,R2=isl ⟨some ⟨b24,0,none⟩,2,[0,0]⟩ :: isl ⟨some ⟨b26,0,none⟩,2,[1,1]⟩ :: R1:=⟨_,rfl⟩
  refine Jts (R':=R2) (List.Sublist.refl _) (fun r hr=>Jab (by rw [hR2] at hr;exact hr)) ?_
  have h12:∀r∈R1,InR r R2:=fun r h=>Jab (by simp [hR2,h])
  have hS1:SetR (Je2 b24 0 0) R2:=⟨hN.mono h12,Jab (by simp [hR2])⟩
  have hS2:SetR (Je2 b26 1 1) R2:=⟨hN.mono h12,Jab (by simp [hR2])⟩
  refine Jaq rfl (Jh6 (Jbz b12 b14 b16 b18 b20) (Je2 b24 0 0) (Je2 b26 1 1) ⟨none,0,[]⟩ [true,true] K _ _ (Jcd hA h12) hS1 hS2 (hNF.mono h12) (fun f hf=>by cases hf) (show 0≤1000 by decide) (fun _=>hAy) hK) rfl ?_
  rintro v L' R' ⟨p,rfl,hpk,hpl,rfl,rfl⟩
  rw [Jxz]
  refine Jax (Jap rfl) rfl ?_
  refine Xbw ?_
  refine Xai ?_
  refine qa8 ?_
  refine Jw4 ?_
  rintro v L' R' ⟨b33,rfl,rfl,hR33⟩
  replace hR33:=hR33.symm;subst hR33
  refine J0p ?_
  refine qa8 ?_
  refine Jw4 ?_
  rintro v L' R' ⟨b36,rfl,rfl,hR36⟩
  replace hR36:=hR36.symm;subst hR36
  refine J0p ?_
  refine Jax (Jbo (qs:=[(1,(Value.int _ _).cells.toList)]) (out:=[_,_]) tb rfl rfl rfl rfl) rfl ?_
  refine Jh0 (Jas (qs:=[(0,(Value.agg _).cells.toList)]) (out:=[_,_]) tb rfl rfl rfl rfl rfl rfl rfl) rfl ?_
  rintro v L' R' ⟨b39,rfl,rfl,hR39⟩
  replace hR39:=hR39.symm;subst hR39
  refine Jsn (wd:=2) (len:=1) (cap:=1) (rows:=[XFace.cells ⟨0,12⟩]) (subs:=[]) rfl (by decide) (by decide) (fun r hr=>by rw [List.mem_singleton.1 hr];rfl) (by decide) rfl (fun s hs=>by cases hs) ?_
  refine J4p ?_
  refine Jsn (wd:=1) (len:=2) (cap:=2) (rows:=[Jad 1,Jad 0]) (subs:=[]) rfl (by decide) (by decide) (fun r hr=>by simp only [List.mem_cons,List.not_mem_nil,or_false] at hr;rcases hr with rfl | rfl <;> rfl) (by decide) rfl (fun s hs=>by cases hs) ?_
  obtain ⟨R3,hR3⟩:∃R3,R3=isl ⟨some ⟨b33,0,none⟩,2,[1,0]⟩ :: isl ⟨some ⟨b36,0,none⟩,2,[0,0]⟩ :: Jty ⟨some ⟨b39,0,none⟩,1,[⟨0,12⟩]⟩ :: R2:=⟨_,rfl⟩
  refine Jts (R':=R3) (List.Sublist.refl _) (fun r hr=>Jab (by rw [hR3] at hr;exact hr)) ?_
  have h23:∀r∈R2,InR r R3:=fun r h=>Jab (by simp [hR3,h])
  have h13:∀r∈R1,InR r R3:=fun r h=>(h12 r h).mono h23
  have hS3:SetR (Je2 b33 1 0) R3:=⟨hN.mono h13,Jab (by simp [hR3])⟩
  have hS4:SetR (Je2 b36 0 0) R3:=⟨hN.mono h13,Jab (by simp [hR3])⟩
  refine Jaq rfl (Jhe (Jbz b12 b14 b16 b18 b20) (Jbz b12 b14 b16 b18 b20) (Je2 b33 1 0) (Je2 b36 0 0) ⟨some ⟨b39,0,none⟩,1,[⟨0,12⟩]⟩ [true,true] [true,true] _ _ _ _ (Jcd hA h13) hS3 (Jcd hA h13) hS4 (Jab (by simp [hR3])) (fun f hf=>by rw [List.mem_singleton.1 hf];decide) (show 1≤1000 by decide) (fun _=>hAy) (fun _=>hAy) (hK _) (hK _)) rfl ?_
  rintro v L' R' ⟨v,rfl,hvk,hvg,rfl,rfl⟩
  rw [Jse b12 b14 b16 b18 b20 b33 b36 [] []]
  obtain ⟨hv1,hv2⟩:=Jws b12 b14 b16 b18 b20 b33 b36 (K (Jf8 (Jbz b12 b14 b16 b18 b20) (Je2 b33 1 0) [true,true]).2) (K (Jf8 (Jbz b12 b14 b16 b18 b20) (Je2 b36 0 0) [true,true]).2)
  rw [← hvg] at hv1 hv2
  have hvt:v.t.l=[]:=hv1
  have hvs:v.s.l=[0]:=hv2
  have hvq:v.get.quiet=false:=by rw [XVerd.quiet,hv1,hv2];rfl
  have hvn:v.t.l.length=0:=by rw [hvt];rfl
  have hRR3:∀r∈R,InR r R3:=fun r h=>(hRR r h).mono h13
  refine Jax (Jap rfl) rfl ?_
  refine Xa6 ?_
  refine qaq ?_
  intro b5
  refine qak ?_
  refine Xax ?_
  refine Xcr ?_
  apply Jb3 (G:=[_,_]) (j:=2) (cj:=45) rfl rfl (by rfl) rfl (show _=Value.bool _ from rfl) rfl
  ·
   intro hg3
   replace hg3:=qb hg3
   refine qaa ?_
   refine qbn ?_
   exact qai
  intro junk3
  refine qah ?_
  apply Jb3 (G:=[_,_,_,_]) (j:=6) (cj:=49) rfl rfl (by rfl) rfl (show _=Value.bool _ from rfl) rfl
  ·
   intro hg7
   replace hg7:=qb hg7
   refine Xab ?_
   refine qbn ?_
   exact qai
  intro junk7
  refine qah ?_
  apply Jb3 (G:=[_,_,_,_]) (j:=12) (cj:=55) rfl rfl (by rfl) rfl (show _=Value.bool _ from rfl) rfl
  ·
   intro hg13
   replace hg13:=qb hg13
   refine Xaa ?_
   refine qcx ?_
   rintro v L' R' ⟨b58,rfl,rfl,hR58⟩
   replace hR58:=hR58.symm;subst hR58
   refine Jsn (wd:=1) (len:=1) (cap:=1) (rows:=[Jad 0]) (subs:=[]) rfl (by decide) (by decide) (fun r hr=>by rw [List.mem_singleton.1 hr];rfl) (by decide) rfl (fun s hs=>by cases hs) ?_
   refine q_l rfl (Jtv (y:=⟨some ⟨b58,0,none⟩,1,[0]⟩) (by repeat (first | exact Jcj | apply Jcl | apply Jdh)) hvk.s (Jab (.head _)) hvs) ?_
   exact qai
  intro junk13
  refine qah ?_
  apply Jb3 (G:=[_,_,_]) (j:=18) (cj:=61) rfl rfl (by rfl) rfl (show _=Value.bool _ from rfl) rfl
  ·
   intro hg19
   replace hg19:=qb hg19
   refine qa8 ?_
   refine q_l rfl (Jf9 v _ _) ?_
   refine qb4 ?_
   exact qai
  intro junk19
  refine Xa9 ?_
  refine Jbj (L':=L) (R':=R) (Jd4 rfl (Jal (show _=Value.bool _ from rfl))) ?hp ?hL ?hR
  case hp=>exact ⟨by rw [hvn,hvq];rfl,rfl,rfl⟩
  case hL=>exact (by repeat (first | exact zs0 _ | exact zs1 _ | apply zs2 | apply zs3 | apply zs4 | apply zs5))
  case hR=>exact hRR3
end Go.Proofs.Ytihompplndcdeaa
end
section
/-
  The draws of chapter 13: spans near flows, faces, sensors. By an AI agent; no person has read it.
-/
namespace Go.Proofs.Ytihompplndcdeaa
open Go.Aw Go
set_option maxRecDepth 20000
attribute [local irreducible] CJ LJ DJ Tri YV Gives Jdn Jaw Jbk Jdo RV Jay OwL.L
structure FacesD (n:Nat) (l:List XFace):Prop where
  at_:∀f∈l,(0≤f.road∧f.road≤n)∧-2≤f.need∧f.need≤40
  len:l.length≤3
theorem Jhk (c:Nat) (x:Arr Int) (k:Nat) (a:XAir) (R:List Sl) (hx:CodesR x R) (hk:k≤x.l.length) (hn:a.mine.roads.l.length≤1000):
    Tri Try.prog 9 [.pointer (some ⟨c, 0, none⟩), a.val].toArray [cblk c x k] R
      (fun v L' R'=>∃(p:OwL XFace) (k':Nat),v=p.val∧p.ok 2 XFace.cells∧FacesD a.mine.roads.l.length p.l∧k'≤x.l.length∧p.L 58 XFace.cells ++ (cblk c x k' :: [])=L'∧R=R'):=by
  refine Jae 27 Try.call9 Try.func9 rfl rfl rfl ?_
  refine Xaj ?_
  intro b3
  refine Xcf ?_
  refine Xbo ?_
  refine qa6 ?_
  refine Jaq rfl (Jgz (by repeat (first | apply USeg.here | apply USeg.cons | apply USeg.app)) hx hk (by omega)) rfl ?_
  rintro v L' R' ⟨n0,k0,rfl,g0,g0',g0'',hk0,rfl,rfl⟩
  have g0q:=g0' (by omega)
  refine Xav ?_
  refine Jag [(0,Value.pointer _),(3,Value.pointer _),(5,Value.slice _ _ _),(6,Value.int _ _)] (by repeat' (first | exact trivial | refine And.intro rfl ?_)) fun tq0=>?_
  refine Jcc [5,6,9,10,11,12,13,14,15,16,17,18,19,20,21,22,23,24,25] ((⟨fun g=>[(5,g.1.2.2.val),(6,.int .i64 g.1.2.1)],fun g=>g.1.2.2.L 58 XFace.cells ++ (⟨b3,a.cells,32⟩ :: cblk c x g.1.1 :: []),fun _=>R,fun g=>g.1.2.1.toNat⟩:Head {g:Nat×Int×OwL XFace // g.1≤x.l.length∧(0≤g.2.1∧g.2.2.l.length + g.2.1≤3)∧g.2.2.ok 2 XFace.cells∧FacesD a.mine.roads.l.length g.2.2.l})) (⟨(k0,n0,OwL.nil),hk0,by dsimp only [List.length_nil];omega,OwL.nil_ok,⟨fun f hf=>(by cases hf),show 0≤3 by decide⟩⟩) (by repeat' (first | exact trivial | refine And.intro rfl ?_)) (by dsimp only;rw [Jc7,List.nil_append];exact List.Sublist.refl _) (Jac _) ?_
  rintro ⟨⟨kk,n,p⟩,hkk,hi,hpk,hN⟩ junk
  try dsimp only
  dsimp only at hkk hi hpk hN
  refine Xap ?_
  refine Xbx ?_
  refine q_c (fun hc0=>?_) (fun hc0=>?_)
  ·
   refine Ja4 (Jaa (Jan (Ja9 (Jaj ?_))))
   refine qbm ?_
   refine qa6 ?_
   refine Xa7 ?_
   refine qar ?_
   refine Jaq rfl (Jgz (by repeat (first | apply USeg.here | apply USeg.cons | apply USeg.app)) hx hkk (by omega)) rfl ?_
   rintro v L' R' ⟨r1,k1,rfl,g1,g1',g1'',hk1,rfl,rfl⟩
   have g1q:=g1' (by omega)
   refine qa6 ?_
   refine Jaq rfl (Jlt (by repeat (first | apply USeg.here | apply USeg.cons | apply USeg.app)) hx hk1 (by omega)) rfl ?_
   rintro v L' R' ⟨r2,k2,rfl,g2,g2',hk2,rfl,rfl⟩
   refine qcd ?_
   refine Jh0 (Jas (qs:=[(0,(Value.agg _).cells.toList)]) (out:=[_,_]) tb rfl rfl rfl rfl rfl rfl rfl) rfl ?_
   rintro v L' R' ⟨b24,rfl,rfl,hR24⟩
   replace hR24:=hR24.symm;subst hR24
   refine Jh0 (Jam (f:=XFace.cells) (p:=p) (a:=⟨r1,r2⟩) tb rfl rfl rfl rfl (hpk) (by repeat (first | apply OSeg.cons | exact OSeg.here | exact OSeg.last | exact OSeg.at (by assumption) | apply OSeg.app)) (Ja1 (by repeat (first | exact zi0 | apply zi1 | apply zi2)) rfl rfl) rfl (by first | omega | (simp only [List.length_cons,List.length_nil,List.length_append];omega))) rfl ?_
   rintro v L' R' ⟨o25,rfl,hok25,rfl,rfl⟩
   refine qc4 ?_
   refine qcs ?_
   refine Xcb ?_
   refine Xak ?_
   exact Jau ⟨(k2,n - 1,_),hk2,by dsimp only;simp only [List.length_append,List.length_cons,List.length_nil];omega,hok25,⟨fun f hf=>by
   rcases List.mem_append.1 hf with h | h
   · exact hN.at_ f h
   · rw [List.mem_singleton.1 h];dsimp only;omega,by dsimp only;simp only [List.length_append,List.length_cons,List.length_nil];omega⟩⟩ (by repeat (first | exact Off.refl | apply Off.upd rfl | apply Off.havoc rfl | apply Off.updL rfl | apply Off.left rfl)) (by repeat' (first | exact trivial | refine And.intro rfl ?_)) (by repeat (first | exact zs0 _ | exact zs1 _ | apply zs2 | apply zs3 | apply zs4 | apply zs5)) (Jac _) (by dsimp only;omega)
  refine Xco ?_
  refine q_r (L':=p.L 58 XFace.cells ++ (cblk c x kk :: [])) (R':=R) (Jd4 rfl (Jal (show _=Value.slice _ _ _ from rfl))) ?_
  exact ⟨p,kk,rfl,hpk,hN,hkk,rfl,rfl⟩
end Go.Proofs.Ytihompplndcdeaa
end
section
/-
  Statements about chapter 15: a change that changes nothing. By an AI agent; no person has read it.
-/
namespace Go.Proofs.Ytihompplndcdeaa
open Go.Aw Go
section
variable {A9 B9:Prop}
theorem Jxw (a:A9) (h:A9→B9:=by exact Jax (by first | exact Jdf rfl rfl | exact Jcx rfl rfl | exact Jg7 rfl) rfl):B9:=h a
theorem J4k (a:A9) (h:A9→B9:=by exact Jc0 (Jba (row:=[_,_,_,_]) tb rfl rfl rfl (by repeat (first | exact zi0 | apply zi1 | apply zi2)) (by rfl) (by rfl)) rfl rfl):B9:=h a
theorem J4w (a:A9) (h:A9→B9:=by exact Jc0 (Jba (row:=[_,_]) tb rfl rfl rfl (by repeat (first | exact zi0 | apply zi1 | apply zi2)) (by rfl) (by rfl)) rfl rfl):B9:=h a
end
theorem Jj9 {P : Nat → Bool} : ∀ {k : Nat}, (∀ i, i < k → P i = false) → Jjg P k = []
  | 0,_=>rfl
  | k + 1,h=>by rw [Jon (h k (by omega)),Jj9 fun i hi=>h i (by omega)]
theorem Jof (s:Sts):Jmm s s=[]:=by
  have h:∀(l:List Int) (k:Nat),Jjg (Js4 l l) k=[]:=fun l k=>Jj9 fun i _=>by
    rw [← Bool.not_eq_true]
    intro h
    exact Jgt.1 h rfl
  rw [Jmm,h,h];rfl
theorem Jrm {a:XAir} {s:XSetting} {fc:List XFace} {A:List Bool} {K:List XSpan→List Int} (h:Jat a=0) (hf:Jdl a s=true):Jo5 a s s fc A K=(0,[]):=by
  rw [Jrb h ⟨hf,hf⟩ (by rw [Jof];decide),Jof,Jj8]
theorem Jtl (a:XAir) (s:XSetting):Jsp a s s=[]:=by
  rw [Jsp,Jof]
  split <;> rfl
theorem Jw5 (m:XMine) (fl:List XSpan) (fc:List XFace) (A:List Bool) (C:List Int):(Jwx m fl m fl fc A A C C).quiet=true:=by
  have h1:Jjg (Jso fl fl) m.roads.l.length=[]:=Jj9 fun i _=>by
    rw [← Bool.not_eq_true];intro h;exact (Jmc.1 h).2 rfl
  have h2:Jjg (Jsf fl fl fc) fc.length=[]:=Jj9 fun i _=>by
    rw [← Bool.not_eq_true];intro h;have:=Jmg.1 h;exact this.2 this.1
  rw [Jwx,XVerd.quiet]
  dsimp only
  rw [h1,h2,Jpd,Jpd];rfl
set_option maxRecDepth 20000
attribute [local irreducible] CJ LJ DJ Tri YV Gives Jdn Jaw Jbk Jdo RV Jay OwL.L
theorem Jle (y:Arr Int) (R:List Sl) (hy:CodesR y R):
    Tri Try.prog 5 [y.val].toArray [] R (fun v L' R'=>v=.bool true∧[]=L'∧R=R'):=by
  refine Jae 70 Try.call5 Try.func5 rfl rfl rfl ?_
  refine Xbh ?_
  refine qam ?_
  refine qbm ?_
  refine Jaq rfl (Jt1 y _ _ hy) rfl ?_
  rintro v L' R' ⟨c,rfl,hx,rfl,rfl⟩
  refine qc1 ?_
  refine qam ?_
  refine qa6 ?_
  refine Jaq rfl (J34 (.consL .nil) hx (Nat.zero_le _)) rfl ?_
  rintro v L' R' ⟨m,k1,S,rfl,hm,hMA,hif,hid,hk1,rfl,rfl⟩
  simp only [List.append_assoc,List.cons_append,List.nil_append]
  refine Jax (Jap rfl) rfl ?_
  iterate 3 refine qbs ?_
  refine qaq ?_
  intro b4
  refine qaq ?_
  intro b5
  refine qaq ?_
  intro b6
  iterate 3 refine qak ?_
  refine qa4 ?_
  refine Jt5 (A:=[]) hm hMA (fun f hf=>(hif f hf).mono fun r hr=>Jab (by simp [hr])) (fun f hf=>(hid f hf).mono fun r hr=>Jab (by simp [hr])) fun a s x R1 hMA hA hT hX hR1=>?_
  refine qb1 ?_
  obtain ⟨_,hae,hF,hri,hfo⟩:=hMA.b
  have hx1:CodesR (Jd6 y) R1:=hx.mono fun r hr=>hR1 r (by simp [hr])
  have hR0:∀r∈R,InR r R1:=fun r hr=>hR1 r (by simp [hr])
  have hnp:=hMA.nplaces
  have hnr:=hMA.nroads
  have hnf:=hMA.nfans
  have hnd:=hMA.ndoors
  obtain ⟨A,hAA⟩:=Juh a.mine
  obtain ⟨K,hK⟩:=Jhp a.mine
  refine Ja5 tb [0,1,3,4,2,5,6,7,8] ([Blk.mk b4 _ _]) Jbh (by kernel_rfl) (by repeat (first | exact zs0 _ | exact zs1 _ | apply zs2 | apply zs3 | apply zs4 | apply zs5)) ?_
  refine qb8 ?_
  refine qbc ?_
  refine qb8 ?_
  refine qbc ?_
  refine Jdx rfl (Jqx (a:=a) (.consB (.consB (.consB (.consL .nil)))) hx1 hk1 hA.doors (by omega) (by omega) hae.rests) rfl rfl ?_
  rintro v L' R' ⟨tf,td,k3,rfl,⟨ht1,ht2⟩,hAS,hk3,rfl,rfl⟩
  simp only [List.append_assoc,List.cons_append,List.nil_append]
  refine qas ?_
  refine Jdx rfl (Tri.spl (.consB (.consB (.consB (.consL .rest)))) (Jhk c (Jd6 y) k3 a _ hx1 hk3 (by omega))) rfl rfl ?_
  rintro v L' R' ⟨_,rfl,f,k4,rfl,hfk,hfd,hk4,rfl,rfl⟩
  simp only [List.append_assoc,List.cons_append,List.nil_append]
  refine qas ?_
  refine qbr ?_
  intro b7
  refine qbg ?_
  refine Jbx (Jcy (show _=Value.slice _ _ _ from rfl)) rfl rfl rfl ?_
  refine qb9 ?_
  refine Jbn (A:=[_,_,_,_]) (wd:=1) [] (fun _=>rfl) (by decide) ht1 (fun s hs=>by cases hs) ?_
  refine qb1 ?_
  refine Jbn (A:=[_,_,_,_]) (wd:=1) [] (fun _=>rfl) (by decide) ht2 (fun s hs=>by cases hs) ?_
  refine qb1 ?_
  refine Jbn (A:=[_,_,_,_]) (wd:=2) [] (fun _=>rfl) (by decide) hfk (fun s hs=>by cases hs) ?_
  refine qb1 ?_
  obtain ⟨R3,hR3e⟩:∃R3,R3=Jty f.arr :: isl td.arr :: isl tf.arr :: R1:=⟨_,rfl⟩
  have hR3:∀r∈R1,InR r R3:=fun r hr=>Jab (by simp [hR3e,hr])
  have hU:SetR ⟨tf.arr,td.arr⟩ R3:=⟨Jab (by simp [hR3e]),Jab (by simp [hR3e])⟩
  have hfR:InR (Jty f.arr) R3:=Jab (by simp [hR3e])
  have hfo:Jhn f.arr.l:=fun y hy=>by have:=(hfd.at_ y hy).2;omega
  have hfl:f.arr.l.length≤1000:=by have:=hfd.len;show f.l.length≤1000;omega
  have hA3:=Jcd hA hR3
  have hRR3:∀r∈R,InR r R3:=fun r hr=>(hR0 r hr).mono hR3
  have hfit:=hAS.fit
  refine Jz1 (show _=R3 by rw [hR3e]) ?_
  refine qay ?_
  refine Xaz ?_
  refine Xaz ?_
  refine qbm ?_
  refine Jaq rfl (Jhe a a ⟨tf.arr,td.arr⟩ ⟨tf.arr,td.arr⟩ f.arr A A _ _ _ _ hA3 hU hA3 hU hfR hfo hfl (fun _=>hAA) (fun _=>hAA) (hK _) (hK _)) rfl ?_
  rintro v L' R' ⟨v1,rfl,hk1',hv1,rfl,rfl⟩
  have hz:Juo a ⟨tf.arr,td.arr⟩=0:=Jem.2 ⟨hMA.err,hfit⟩
  have hce:Js2 a ⟨tf.arr,td.arr⟩ a ⟨tf.arr,td.arr⟩=0:=Jh7.2 ⟨hz,hz,Nat.le_refl _,Nat.le_refl _⟩
  have hq:v1.get.quiet=true:=by rw [hv1,Jz0,if_pos hce];exact Jw5 ..
  rw [hce]
  refine Jax (Jap rfl) rfl ?_
  refine Xa6 ?_
  refine qaq ?_
  intro b9
  refine qak ?_
  refine Xai ?_
  refine Xaz ?_
  refine qbe ?_
  refine qbm ?_
  refine Jaq rfl (Jh6 a ⟨tf.arr,td.arr⟩ ⟨tf.arr,td.arr⟩ f.arr A K _ _ hA3 hU hU hfR hfo hfl (fun _=>hAA) hK) rfl ?_
  rintro v L' R' ⟨p1,rfl,ok1,e1,rfl,rfl⟩
  rw [Jrm hMA.err hfit]
  rw [Jrm hMA.err hfit] at e1
  have hn1:p1.l.length=0:=by rw [e1];rfl
  refine Jax (Jap rfl) rfl ?_
  refine Xbw ?_
  refine Xax ?_
  refine Xcr ?_
  refine Jej (k:=46) (show _=Value.bool _ from rfl) (fun hg3=>?_) (fun hg3=>?_)
  ·
   replace hg3:=qb hg3
   refine J4k ?_
   refine Jiv rfl (Jf9 v1 _ _) rfl rfl ?_
   rintro v L' R' ⟨rfl,rfl,rfl⟩
   refine Jxw ?_
   refine qah ?_
   refine Jej (k:=50) (show _=Value.bool _ from rfl) (fun hg7=>?_) (fun hg7=>?_)
   ·
    replace hg7:=qb hg7
    refine Jc0 (Jap (show _=Value.int _ _ from rfl)) rfl rfl ?_
    refine Jc0 (Jm8 rfl rfl) rfl rfl ?_
    refine Jxw ?_
    refine qah ?_
    refine Jej (k:=54) (show _=Value.bool _ from rfl) (fun hg11=>?_) (fun hg11=>?_)
    ·
     replace hg11:=qb hg11
     refine Jc0 (Jap (show _=Value.slice _ _ _ from rfl)) rfl rfl ?_
     refine Jc0 (Jew tb rfl rfl rfl) rfl rfl ?_
     refine Jc0 (Jm8 rfl rfl) rfl rfl ?_
     refine Jxw ?_
     refine qah ?_
     refine Jej (k:=59) (show _=Value.bool _ from rfl) (fun hg16=>?_) (fun hg16=>?_)
     ·
      replace hg16:=qb hg16
      refine J4k ?_
      refine J4w ?_
      refine J4w ?_
      refine Jiv rfl (Jxj a ⟨tf.arr,td.arr⟩ ⟨tf.arr,td.arr⟩ _ _ hA3 hU hU) rfl rfl ?_
      rintro v L' R' ⟨q1,rfl,gk1,g1,rfl,rfl⟩
      rw [Jtl] at g1
      have hn2:q1.l.length=0:=by rw [g1];rfl
      refine Jc0 (Jew tb rfl rfl rfl) rfl rfl ?_
      refine Jc0 (Jm8 rfl rfl) rfl rfl ?_
      refine Jxw ?_
      refine qah ?_
      refine Jej (k:=67) (show _=Value.bool _ from rfl) (fun hg24=>?_) (fun hg24=>?_)
      ·
       replace hg24:=qb hg24
       refine Jiv rfl (Jfv _ _) rfl rfl ?_
       rintro v L' R' ⟨rfl,rfl,rfl⟩
       refine Jxw ?_
       refine Xa9 ?_
       refine Jbj (L':=[]) (R':=R) (Jd4 rfl (Jal (show _=Value.bool _ from rfl))) ?hp ?hL ?hR
       case hp=>exact ⟨rfl,rfl,rfl⟩
       case hL=>exact List.nil_sublist _
       case hR=>exact hRR3
      replace hg24:=qb hg24
      (exfalso;simp [hn2] at hg24)
     replace hg16:=qb hg16
     (exfalso;simp [hn1] at hg16)
    replace hg11:=qb hg11
    (exfalso;simp at hg11)
   replace hg7:=qb hg7
   (exfalso;simp [hq] at hg7)
  replace hg3:=qb hg3
  (exfalso;simp at hg3)
end Go.Proofs.Ytihompplndcdeaa
end
