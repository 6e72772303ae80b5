import Derived.Test.YtihompplndcdeaaSolveR
import Derived.Test.YtihompplndcdeaaCflowR
set_option linter.unusedVariables false
set_option linter.unusedSimpArgs false
section
/-
  The program's raising and lowering. By an AI agent; no person has read it.
-/
namespace Go.Proofs.Ytihompplndcdeaa
open Go.Aw Go
set_option maxRecDepth 20000
attribute [local irreducible] CJ LJ DJ Tri YV Gives Jdn Jaw Jbk Jdo RV Jay OwL.L
section
variable {A9 B9:Prop}
theorem J6j (a:A9) (h:A9→B9:=by exact Jax (by first | exact Jaf tb rfl rfl rfl rfl (by first | assumption | exact zr (by simp)) (i:=k1) (by first | rfl | omega | (simp;omega)) (by omega) | exact Jah tb rfl rfl rfl rfl (i:=k1) (by first | rfl | omega | (simp;omega)) (by omega)) rfl):B9:=h a
theorem J4s (a:A9) (h:A9→B9:=by exact Jax (Jbe tb (p) rfl rfl rfl (by repeat (first | apply OSeg.cons | exact OSeg.here | exact OSeg.last | exact OSeg.at (by assumption) | apply OSeg.app)) (by assumption) (fun _=>rfl) (by assumption) (by rfl)) rfl):B9:=h a
theorem J5l (h:B9:=by exact ⟨OwL.nil,Jiy n.pipes :: Jh1 n.at_ :: (S ++ S0),by rw [hrn];rfl,OwL.nil_ok,by rw [hrn],by rw [Jc7,List.nil_append],by rw [hR4];simp⟩):B9:=h
theorem J4b (a:A9) (h:A9→B9:=by exact Jax (Jao tb ((⟨o34,m⟩:OwL Int)) _ rfl rfl ((show _=Value.slice _ _ _ from rfl).trans (by simp only [OwL.val,hml,w3])) rfl (by assumption) (i:=i) (by first | rfl | omega | (simp;omega)) (by first | omega | (dsimp only;omega) | (dsimp only;rw [List.length_set];omega) | (dsimp only;simp only [List.length_set];omega))) rfl):B9:=h a
end
theorem Jrk (a:XAir) (s:XSetting) (ps:Arr Int) (A:List Bool) (L:List Blk) (R:List Sl) (hm:AirR a R) (hs:SetR s R) (hps:InR (isl ps) R) (hA:Jat a=0→AiryIs a.mine A):
    Tri Try.prog 88 [a.val,s.val,ps.val].toArray L R (fun v L' R'=>∃S:List Sl,v=.int .i64 (Jcw a s ps.l A)∧L=L'∧S ++ R=R'):=by
  have hmp:=hm.places
  refine Jb7 Try.call88 hps fun hpn=>?_
  refine Jb7 Try.call88 hmp fun hmpn=>?_
  refine Jae 70 Try.call88 Try.func88 rfl rfl rfl ?_
  refine Xaj ?_
  intro b3
  refine qax ?_
  intro b4
  refine Xaw ?_
  refine qa8 ?_
  refine q_l rfl (Jdy a _ _ hm) ?_
  refine Xbv ?_
  refine q_c (fun hc0=>?_) (fun hc0=>?_)
  ·
   refine Xbb ?_
   refine Xa4 ?_
   refine q_i (L':=L) (R':=R) ?_
   exact ⟨[],by rw [Jcw,if_pos hc0],rfl,rfl⟩
  have h0:Jat a=0:=by omega
  have hok:=Jey h0
  have hAA:=hA h0
  have hmn:=hok.mine.places
  refine qbo ?_
  refine Xaz ?_
  refine q_l rfl (Je8 a s _ _ hm hs) ?_
  refine Xbu ?_
  refine q_c (fun hc1=>?_) (fun hc1=>?_)
  ·
   refine Xbn ?_
   refine q_i (L':=L) (R':=R) ?_
   exact ⟨[],by rw [Jcw,if_neg hc0,if_pos (by simpa using hc1)],rfl,rfl⟩
  have hf0:Jdl a s=true:=by simpa using hc1
  have hff:¬ Jdl a s=false:=by rw [hf0];decide
  refine qbo ?_
  refine Xat ?_
  refine Xa7 ?_
  refine Xa3 ?_
  refine q_c (fun hc2=>?_) (fun hc2=>?_)
  ·
   refine Xbn ?_
   refine q_i (L':=L) (R':=R) ?_
   exact ⟨[],by rw [Jcw,if_neg hc0,if_neg hff,if_pos (by omega)],rfl,rfl⟩
  have hln:ps.l.length=a.mine.places.l.length:=by omega
  refine qbo ?_
  refine Xcl ?_
  refine Jag [(2,Value.slice _ _ _),(3,Value.pointer _),(29,Value.slice _ _ _),(30,Value.int _ _),(31,Value.int _ _)] (by repeat' (first | exact trivial | refine And.intro rfl ?_)) fun tq0=>?_
  refine q_s [6,9,31,32,33,34,35,36,37,38,39,40,41] (fun g:FS (Jb5) (ps.l)=>[(31,.int .i64 ((g.1:Nat):Int))]) (fun g=>(ps.l).length - g.1) ⟨0,Jec _ _⟩ ?_
  rintro ⟨k0,hk0,hp0⟩ junk
  try dsimp only
  refine Xar ?_
  refine q_c (fun hc3=>?_) (fun hc3=>?_)
  ·
   obtain ⟨y,hy⟩:=Jar (l:=ps.l) (k:=k0) (by omega)
   refine qbb ?_
   refine Jax (by first | exact Jaf tb rfl rfl rfl rfl (by first | assumption | exact zr (by simp)) (i:=k0) (by first | rfl | omega | (simp;omega)) (by omega) | exact Jah tb rfl rfl rfl rfl (i:=k0) (by first | rfl | omega | (simp;omega)) (by omega)) rfl ?_
   refine qa7 ?_
   refine Xax ?_
   refine Xa2 ?_
   apply Jbi (G:=[_,_]) (j:=2) (cj:=37) rfl rfl (by rfl) rfl (show _=Value.bool _ from rfl) rfl
   ·
    intro hg3
    replace hg3:=qb hg3
    refine qaa ?_
    refine qa5 ?_
    exact qai
   intro junk3
   refine qaf ?_
   refine q_c (fun hc4=>?_) (fun hc4=>?_)
   ·
    refine Xbj ?_
    refine q_i (L':=L) (R':=R) ?_
    have hpb:=Jc3 hp0 hy (show Jb5 y=some 1 from if_pos (by omega))
    exact ⟨[],by rw [Jcw,if_neg hc0,if_neg hff,if_neg (by omega),if_pos (by rw [hpb];rfl)],rfl,rfl⟩
   refine Xay ?_
   exact q_k ⟨k0 + 1,Jd3 hp0 hy (if_neg (by omega))⟩
  have hn0:=Jdv hp0 (by omega)
  refine qbk ?_
  refine Xb4 ?_
  refine Jaq rfl (Jme a.mine _ _ hm.mineR hok.mine (Jg4 h0)) rfl ?_
  rintro v L' R' ⟨p,A2,S,rfl,hpk,hA2,hpl,rfl,rfl⟩
  obtain rfl:A=A2:=hAA.unique hA2
  have hfx:p.l.length=a.mine.places.l.length:=by rw [hpl,List.length_map];exact hAA.length
  have hps2:InR (isl ps) (S ++ R):=hps.mono fun r h=>Jab (by simp [h])
  have hmp2:InR (psl a.mine.places) (S ++ R):=hmp.mono fun r h=>Jab (by simp [h])
  have hck:Jcw a s ps.l A=((List.range a.mine.places.l.length).findSome? (Jdq a ps.l A)).getD 0:=by rw [Jcw,if_neg hc0,if_neg hff,if_neg (by omega),if_neg (by rw [hn0];simp)]
  refine Xbo ?_
  refine Xa7 ?_
  refine Xas ?_
  refine Jag [(2,Value.slice _ _ _),(10,Value.slice _ _ _),(47,Value.slice _ _ _),(48,Value.int _ _),(49,Value.int _ _)] (by repeat' (first | exact trivial | refine And.intro rfl ?_)) fun tq1=>?_
  refine q_s [6,11,12,49,50,51,52,53,54,55,56,57,58,59,60,61,62,63,64,65,66,67,68,69] (fun g:FSR (Jdq a ps.l A) (a.mine.places.l.length)=>[(49,.int .i64 ((g.1:Nat):Int))]) (fun g=>(a.mine.places.l.length) - g.1) ⟨0,Jet _ _⟩ ?_
  rintro ⟨k1,hk1,hp1⟩ junk
  try dsimp only
  refine Xar ?_
  refine q_c (fun hc5=>?_) (fun hc5=>?_)
  ·
   have hmg:=Jai (l:=a.mine.places.l) (k:=k1) default (by omega)
   have hpg:p.l[k1]?=some (!(A.getD k1 false)):=by
     have:=hAA.length
     rw [hpl,List.getElem?_map,Jai (l:=A) (k:=k1) false (by omega)];rfl
   have hsg:=Jai (l:=ps.l) (k:=k1) 0 (by omega)
   refine Xa8 ?_
   refine J6j ?_
   refine Xcu ?_
   intro b12
   refine qad ?_
   refine Xcd ?_
   refine qah ?_
   apply Jbi (G:=[_,_,_,_]) (j:=2) (cj:=56) rfl rfl (by rfl) rfl (show _=Value.bool _ from rfl) rfl
   ·
    intro hg3
    replace hg3:=qb hg3
    refine Xal ?_
    refine Jax (Jao tb (p) _ rfl rfl rfl rfl (by assumption) (i:=k1) (by first | rfl | omega | (simp;omega)) (by first | omega | (dsimp only;omega) | (dsimp only;rw [List.length_set];omega) | (dsimp only;simp only [List.length_set];omega))) rfl ?_
    refine J4s ?_
    exact qai
   intro junk3
   refine qah ?_
   apply Jb3 (G:=[_,_,_,_,_]) (j:=8) (cj:=62) rfl rfl (by rfl) rfl (show _=Value.bool _ from rfl) rfl
   ·
    intro hg9
    replace hg9:=qb hg9
    refine Xal ?_
    refine J6j ?_
    refine qa7 ?_
    refine qbq ?_
    exact qai
   intro junk9
   refine qaf ?_
   refine q_c (fun hc6=>?_) (fun hc6=>?_)
   ·
    have hnb:Jdq a ps.l A k1=some 12:=if_pos ⟨by obtain ⟨h1 | h1,_⟩:=hc6;rw [Jmn,h1,Bool.or_true];rw [Jmn,h1];rfl,hc6.2⟩
    refine Xbj ?_
    refine q_i (L':=L) (R':=S ++ R) ?_
    exact ⟨S,by rw [hck,Jfc hp1 (by omega) hnb];rfl,rfl,rfl⟩
   have hnb:Jdq a ps.l A k1=none:=if_neg (fun ⟨h1,h2⟩=>by
   rcases hc6 with ⟨h3,h4⟩ | h3
   · rw [Jmn,h3,h4] at h1;cases h1
   · exact h3 h2)
   refine Xay ?_
   exact q_k ⟨k1 + 1,Jds hp1 (by omega) (hnb)⟩
  have hn1:=Je1 hp1 (by omega)
  refine Xce ?_
  refine q_i (L':=L) (R':=S ++ R) ?_
  exact ⟨S,by rw [hck,hn1];rfl,rfl,rfl⟩
theorem J6b {n:XNet} {a:XAir} {s:XSetting} {o:Ow} {l:List Int} {k:Nat} {A:List Blk} {R:List Sl} {vl:Value} (hvl:vl=(⟨o,l⟩:OwL Int).val) (h:HypsN n a s l k R) (hin:InB ((⟨o,l⟩:OwL Int).L 3 Jad) A) (hok:(⟨o,l⟩:OwL Int).ok 1 Jad):
    Tri Try.prog 79 [n.val,vl,.int .i64 (k:Int)].toArray A R (fun w L' R'=>w=J2b (Jft a s true l k)∧A=L'∧R=R'):=by
  subst hvl
  refine Tri.lend1 hin hok ((Jrs n a s (⟨o,l⟩:OwL Int).arr k [] _ ⟨h.pp.mono fun r hr=>Jab (.tail _ hr),h.aa.mono fun r hr=>Jab (.tail _ hr),h.is,h.ok,h.len,h.pres,h.v⟩ (Jab (.head _))).mono ?_)
  rintro v L' R' ⟨z,ok,rfl,hF,rfl,rfl⟩
  obtain ⟨rfl,rfl⟩:=Jpe (Jyi h.pres true (Int.toNat k)) hF
  exact ⟨rfl,rfl,rfl⟩
theorem Jys {n:XNet} {a:XAir} {s:XSetting} {o:Ow} {l:List Int} {k:Nat} {A:List Blk} {R:List Sl} {vl:Value} (hvl:vl=(⟨o,l⟩:OwL Int).val) (h:HypsN n a s l k R) (hin:InB ((⟨o,l⟩:OwL Int).L 3 Jad) A) (hok:(⟨o,l⟩:OwL Int).ok 1 Jad):
    Tri Try.prog 78 [n.val,vl,.int .i64 (k:Int)].toArray A R (fun w L' R'=>w=J2b (Jft a s false l k)∧A=L'∧R=R'):=by
  subst hvl
  refine Tri.lend1 hin hok ((Jm9 n a s (⟨o,l⟩:OwL Int).arr k [] _ ⟨h.pp.mono fun r hr=>Jab (.tail _ hr),h.aa.mono fun r hr=>Jab (.tail _ hr),h.is,h.ok,h.len,h.pres,h.v⟩ (Jab (.head _))).mono ?_)
  rintro v L' R' ⟨z,ok,rfl,hF,rfl,rfl⟩
  obtain ⟨rfl,rfl⟩:=Jpe (Jyi h.pres false (Int.toNat k)) hF
  exact ⟨rfl,rfl,rfl⟩
def Jxn : Bool → FuncId
  | true=>79
  | false=>78
theorem J23 (up:Bool) {n:XNet} {a:XAir} {s:XSetting} {o:Ow} {l:List Int} {k:Nat} {A:List Blk} {R:List Sl} {vl:Value} (hvl:vl=(⟨o,l⟩:OwL Int).val) (h:HypsN n a s l k R) (hin:InB ((⟨o,l⟩:OwL Int).L 3 Jad) A) (hok:(⟨o,l⟩:OwL Int).ok 1 Jad):
    Tri Try.prog (Jxn up) [n.val,vl,.int .i64 (k:Int)].toArray A R (fun w L' R'=>w=J2b (Jft a s up l k)∧A=L'∧R=R'):=by
  cases up with
  | true=>exact J6b hvl h hin hok
  | false=>exact Jys hvl h hin hok
theorem Jkk (a:XAir) (s:XSetting) (ps:Arr Int) (up:Bool) (A:List Bool) (L:List Blk) (R:List Sl) (hm:AirR a R) (hs:SetR s R) (hps:InR (isl ps) R) (hA:Jat a=0→AiryIs a.mine A):
    Tri Try.prog 77 [a.val,s.val,ps.val,.func (.func (Jxn up)) #[] #[]].toArray L R (fun w L' R'=>∃(p:OwL Int) (S:List Sl),w=.tuple #[p.val,.int .i64 (Jbw a s A up ps.l).1]∧p.ok 1 Jad∧p.l=(Jbw a s A up ps.l).2∧p.L 3 Jad ++ L=L'∧S ++ R=R'):=by
  refine Jae 80 Try.call77 Try.func77 rfl rfl rfl ?_
  refine Xaj ?_
  intro b4
  refine qax ?_
  intro b5
  refine qc4 ?_
  refine Xaw ?_
  refine Xaz ?_
  refine qbm ?_
  refine Jaq rfl (Jrk a s ps A _ _ hm hs hps hA) rfl ?_
  rintro v L' R' ⟨S0,rfl,rfl,rfl⟩
  refine Xbv ?_
  refine q_c (fun hc0=>?_) (fun hc0=>?_)
  ·
   refine Xbb ?_
   refine qc4 ?_
   refine Xa4 ?_
   refine q_r (L':=L) (R':=S0 ++ R) (Jfb rfl (Jal (show _=Value.slice _ _ _ from rfl)) (Jal (show _=Value.int _ _ from rfl))) ?_
   exact ⟨OwL.nil,S0,by rw [Jbw,if_pos hc0];rfl,OwL.nil_ok,by rw [Jbw,if_pos hc0],by rw [Jc7,List.nil_append],rfl⟩
  have hso:=Jf6.1 (show Jcw a s ps.l A=0 by omega)
  have hok:=Jey hso.h0
  have hfo:=Jf3 hso.hf
  have hAA:=hA hso.h0
  have hln:=hso.hl
  have hnp:=hok.mine.places
  have hrx:Jbw a s A up ps.l=match Jcm a s A up 200 ps.l with
    | none=>(2,[])
    | some l=>(0,l):=by rw [Jbw,if_neg hc0] <;> rfl
  have hR1:∀r∈R,InR r (S0 ++ R):=fun r h=>Jab (by simp [h])
  have hm1:=Jcd hm hR1
  have hs1:=Jbu hs hR1
  refine qbv ?_
  refine Xb4 ?_
  refine Jaq rfl (Jme a.mine _ _ hm1.mineR hok.mine (Jg4 hso.h0)) rfl ?_
  rintro v L' R' ⟨p,A2,S,rfl,hpk,hA2,hpl,rfl,rfl⟩
  obtain rfl:A=A2:=hAA.unique hA2
  have hfx:p.l.length=a.mine.places.l.length:=by rw [hpl,List.length_map];exact hAA.length
  have hAl:=hAA.length
  have hR2:∀r∈S0 ++ R,InR r (S ++ (S0 ++ R)):=fun r h=>Jab (by simp only [List.mem_append] at h ⊢;exact .inr h)
  refine Xcf ?_
  refine Xaz ?_
  refine Jaq rfl (Jqv a s _ _ (Jcd hm1 hR2) (Jbu hs1 hR2) hok hfo) rfl ?_
  rintro v L' R' ⟨n,rfl,hn,rfl,rfl⟩
  have hR3:∀r∈S ++ (S0 ++ R),InR r (Jiy n.pipes :: Jh1 n.at_ :: (S ++ (S0 ++ R))):=fun r h=>Jab (by simp only [List.mem_cons];exact .inr (.inr h))
  have hps3:InR (isl ps) (Jiy n.pipes :: Jh1 n.at_ :: (S ++ (S0 ++ R))):=((hps.mono hR1).mono hR2).mono hR3
  have hmp3:InR (psl a.mine.places) (Jiy n.pipes :: Jh1 n.at_ :: (S ++ (S0 ++ R))):=((hm1.places).mono hR2).mono hR3
  have hpp:InR (Jiy n.pipes) (Jiy n.pipes :: Jh1 n.at_ :: (S ++ (S0 ++ R))):=Jab (.head _)
  have haa:InR (Jh1 n.at_) (Jiy n.pipes :: Jh1 n.at_ :: (S ++ (S0 ++ R))):=Jab (.tail _ (.head _))
  obtain ⟨R4,hR4⟩:∃R4,R4=Jiy n.pipes :: Jh1 n.at_ :: (S ++ (S0 ++ R)):=⟨_,rfl⟩
  rw [← hR4] at hps3 hmp3 hpp haa ⊢
  refine qaq ?_
  intro b12
  refine Xbe ?_
  refine qbm ?_
  refine Jh0 (Jd5 (f:=Jad) (xs:=ps) tb rfl rfl rfl (by decide) rfl rfl (hps3) (fun _=>rfl) (by omega)) rfl ?_
  rintro v L' R' ⟨o34,rfl,hok34,rfl,rfl⟩
  refine Xbo ?_
  refine Xav ?_
  refine Jag [(3,_),(4,Value.pointer _),(11,Value.slice _ _ _),(12,Value.pointer _),(13,Value.slice _ _ _),(14,Value.int _ _)] (by repeat' (first | exact trivial | refine And.intro rfl ?_)) fun tq0=>?_
  refine q_p [8,9,14,15,16,17,18,19,35,36,37,38,39,40,41,42,43,44,45,46,47,48,49,50,51,52,53,54,55,56,57,58,59,60,61,62,63,64,65,66,67,68,69,70,71,72,73,74,75,76,77,78,79] ((⟨fun q=>[(14,.int .i64 ((q.1.1:Nat):Int))],fun q=>(⟨o34,q.1.2⟩:OwL Int).L 3 Jad ++ (⟨b12,n.cells,124⟩ :: (p.L 4 blc ++ (⟨b5,s.cells,35⟩ :: ⟨b4,a.cells,32⟩ :: L))),fun _=>R4,fun q=>200 - q.1.1⟩:Head {q:Nat×List Int // q.1≤200∧Jcm a s A up 200 ps.l=Jcm a s A up (200 - q.1) q.2∧q.2.length=ps.l.length∧PresOk q.2∧(⟨o34,q.2⟩:OwL Int).ok 1 Jad})) (⟨(0,ps.l),by dsimp only;omega,rfl,rfl,hso.hp,hok34⟩) ?_
  rintro ⟨⟨n1,l⟩,w1,w2,w3,w4,w5⟩ junk
  try dsimp only
  dsimp only at w1 w2 w3 w4 w5
  refine Xap ?_
  refine Xan ?_
  refine q_c (fun hc1=>?_) (fun hc1=>?_)
  ·
   have e200:200 - n1=(200 - (n1 + 1)) + 1:=by omega
   rw [e200] at w2
   refine qbb ?_
   refine Xc3 ?_
   refine Xa7 ?_
   refine Xas ?_
   refine Jcv [8,9,14,15,16,17,18,19,35,36,37,38,39,40,41,42,43,44,45,46,47,48,49,50,51,52,53,54,55,56,57,58,59,60,61,62,63,64,65,66,67,68,69,70,71,72,73,74,75,76,77,78,79] (by repeat (first | apply Off.upd rfl | apply Off.havoc rfl | refine Off.updL (t':=havoc _ _ _) rfl ?_ | exact Off.refl)) [(14,Value.int _ _),(15,Value.bool _),(41,Value.slice _ _ _),(42,Value.int _ _),(43,Value.int _ _)] (by repeat' (first | exact trivial | refine And.intro rfl ?_)) fun tq1=>?_
   refine Jcc [8,9,15,16,17,18,19,43,44,45,46,47,48,49,50,51,52,53,54,55,56,57,58,59,60,61,62,63,64,65,66,67,68,69,70,71,72,73,74,75,76] ((⟨fun q=>[(43,.int .i64 ((q.1.1:Nat):Int)),(15,.bool (decide (q.1.2≠l)))],fun q=>(⟨o34,q.1.2⟩:OwL Int).L 3 Jad ++ (⟨b12,n.cells,124⟩ :: (p.L 4 blc ++ (⟨b5,s.cells,35⟩ :: ⟨b4,a.cells,32⟩ :: L))),fun _=>R4,fun q=>a.mine.places.l.length - q.1.1⟩:Head {q:Nat×List Int // q.1≤a.mine.places.l.length∧Swept a s A up l q.1 q.2∧(⟨o34,q.2⟩:OwL Int).ok 1 Jad})) (⟨(0,l),by dsimp only;omega,.zero w4,w5⟩) ⟨rfl,by simp;rfl,trivial⟩ (by repeat (first | exact zs0 _ | exact zs1 _ | apply zs2 | apply zs3 | apply zs4 | apply zs5)) (Jac _) ?_
   rintro ⟨⟨i,m⟩,q1,q2,q3⟩ junk
   try dsimp only
   dsimp only at q1 q2 q3
   have hml:=q2.len
   refine Xar ?_
   refine q_c (fun hc2=>?_) (fun hc2=>?_)
   ·
    have hgg:=Jai (l:=a.mine.places.l) (k:=i) default (by omega)
    obtain ⟨fb,hfb⟩:∃fb,fb=A.getD i false:=⟨_,rfl⟩
    have hpg:p.l[i]?=some (!fb):=by rw [hpl,List.getElem?_map,Jai (l:=A) (k:=i) false (by omega),hfb];rfl
    have hmg:=Jai (l:=m) (k:=i) 0 (by omega)
    refine Xa8 ?_
    refine Jax (by first | exact Jaf tb rfl rfl rfl rfl (by first | assumption | exact zr (by simp)) (i:=i) (by first | rfl | omega | (simp;omega)) (by omega) | exact Jah tb rfl rfl rfl rfl (i:=i) (by first | rfl | omega | (simp;omega)) (by omega)) rfl ?_
    refine Xcu ?_
    intro b17
    refine qad ?_
    refine Xcv ?_
    refine qah ?_
    apply Jbi (G:=[_,_,_,_]) (j:=2) (cj:=50) rfl rfl (by rfl) rfl (show _=Value.bool _ from rfl) rfl
    ·
     intro hg3
     replace hg3:=qb hg3
     refine Xal ?_
     refine Jax (Jao tb (p) _ rfl rfl rfl rfl (by assumption) (i:=i) (by first | rfl | omega | (simp;omega)) (by first | omega | (dsimp only;omega) | (dsimp only;rw [List.length_set];omega) | (dsimp only;simp only [List.length_set];omega))) rfl ?_
     refine J4s ?_
     exact qai
    intro junk3
    refine qaf ?_
    refine q_c (fun hc3=>?_) (fun hc3=>?_)
    ·
     have hfi:Jmn a A i=true:=by rw [Jmn,← hfb];rcases hc3 with h | h;rw [h,Bool.or_true];rw [h];rfl
     refine Jcs (Jbv (Jbf (Jaa (Jaj ?_))))
     refine Xag ?_
     exact q_k ⟨(i + 1,m),by dsimp only;omega,q2.skip hfi,q3⟩
    have hfi:¬ Jmn a A i=true:=by rw [Jmn,← hfb,hc3.1,hc3.2];decide
    have hH:HypsN n a s m i R4:=⟨hpp,haa,hn,hok,by omega,q2.pres,by omega⟩
    refine qbv ?_
    refine Jax (Jap rfl) rfl ?_
    refine qbe ?_
    refine Xal ?_
    refine Jwj (Jfw rfl rfl (J23 up (o:=o34) (l:=m) ((show _=Value.slice _ _ _ from rfl).trans (by simp only [OwL.val,hml,w3])) hH (by repeat (first | exact Jcj | apply Jcl | apply Jdh)) q3)) rfl rfl ?_
    rintro v L' R' ⟨rfl,rfl,rfl⟩
    refine Jax (Jap rfl) rfl ?_
    refine Xa6 ?_
    refine qad ?_
    refine Xc3 ?_
    refine qah ?_
    refine Xbu ?_
    refine q_c (fun hc4=>?_) (fun hc4=>?_)
    ·
     have hv:Jft a s up m i=none:=by simpa using hc4
     have hrn:Jbw a s A up ps.l=(2,[]):=by rw [hrx,w2,Juu (q2.fail hfi hv _ (by omega))]
     refine Xbf ?_
     refine qad ?_
     refine Jbr (Jaa (Jee (Jbg (Ja6 (Jbg (Jdb (Ja6 (Jbg (Ja6 (Jbg (Jdb (Ja6 (Jbg ?_)))))))))))))
     refine q_r (L':=L) (R':=R4) (Jfb rfl (Jal (show _=Value.slice _ _ _ from rfl)) (Jal (show _=Value.int _ _ from rfl))) ?_
     exact J5l
    obtain ⟨u,hv⟩:=Option.isSome_iff_exists.1 hc4
    have hfl:=q2.flag (k:=i) (by omega) u
    refine qcl ?_
    rw [hv]
    refine Xbs ?_
    refine Xal ?_
    refine J4b ?_
    refine Jax (Jbe tb ((⟨o34,m⟩:OwL Int)) rfl rfl rfl (by repeat (first | apply OSeg.cons | exact OSeg.here | exact OSeg.last | exact OSeg.at (by assumption) | apply OSeg.app)) (by assumption) (fun _=>rfl) (by assumption) (by rfl)) rfl ?_
    refine Xa3 ?_
    refine q_c (fun hc5=>?_) (fun hc5=>?_)
    ·
     refine Xcg ?_
     refine qaa ?_
     refine J4b ?_
     refine Jhw (Jav tb ((⟨o34,m⟩:OwL Int)) (u) rfl rfl rfl rfl (by repeat (first | apply OSeg.cons | exact OSeg.here | exact OSeg.last | exact OSeg.at (by assumption) | apply OSeg.app)) (by assumption) (fun _=>rfl) (by assumption) (by decide) (by rfl) (by rfl)) ?_
     rintro v L' R' ⟨rfl,rfl⟩
     refine qaz ?_
     refine Xa5 ?_
     exact Jau ⟨(i + 1,m.set i u),by dsimp only;omega,q2.next hfi hv,OwL.len_ok Jci q3 (by simp)⟩ (by repeat (first | exact Off.refl | apply Off.upd rfl | apply Off.havoc rfl | apply Off.updL rfl | apply Off.left rfl)) ⟨rfl,by dsimp only;rw [hfl,decide_eq_true (show u≠m.getD i 0 from hc5),Bool.or_true];rfl,trivial⟩ (by repeat (first | exact zs0 _ | exact zs1 _ | apply zs2 | apply zs3 | apply zs4 | apply zs5)) (Jac _) (by dsimp only;omega)
    refine Xay ?_
    have hse:m.set i u=m:=by rw [show u=m.getD i 0 by simpa using hc5,Jir]
    exact q_k ⟨(i + 1,m),by dsimp only;omega,hse ▸ q2.next hfi hv,q3⟩
   obtain rfl:i=a.mine.places.l.length:=by omega
   have hsw:=q2.to
   refine qbk ?_
   refine qah ?_
   refine Xbu ?_
   refine q_c (fun hc6=>?_) (fun hc6=>?_)
   ·
    have hme:m=l:=by simpa using hc6
    have hrn:Jbw a s A up ps.l=(0,m):=by rw [hrx,w2,hme,Jnh (by rw [← hme] at hsw ⊢;exact hsw)]
    refine qae ?_
    refine Xbl ?_
    refine qad ?_
    refine qbt ?_
    refine q_r (L':=(⟨o34,m⟩:OwL Int).L 3 Jad ++ L) (R':=R4) (Jfb rfl (Jal (show _=Value.slice _ _ _ from rfl)) (Jal (show _=Value.int _ _ from rfl))) ?_
    exact ⟨⟨o34,m⟩,Jiy n.pipes :: Jh1 n.at_ :: (S ++ S0),by rw [hrn];simp only [OwL.val,hml,w3],q3,by rw [hrn],rfl,by rw [hR4];simp⟩
   have hme:m≠l:=by simpa using hc6
   refine Xbg ?_
   exact q_k ⟨(n1 + 1,m),by dsimp only;omega,w2.trans (Jtn hsw hme),hml.trans w3,q2.pres,q3⟩
  obtain rfl:n1=200:=by omega
  have hrn:Jbw a s A up ps.l=(2,[]):=by rw [hrx,w2];rfl
  refine qbk ?_
  refine qc4 ?_
  refine Xau ?_
  refine q_r (L':=L) (R':=R4) (Jfb rfl (Jal (show _=Value.slice _ _ _ from rfl)) (Jal (show _=Value.int _ _ from rfl))) ?_
  exact J5l
theorem Jt7 (a:XAir) (s:XSetting) (ps:Arr Int) (A:List Bool) (L:List Blk) (R:List Sl) (hm:AirR a R) (hs:SetR s R) (hps:InR (isl ps) R) (hA:Jat a=0→AiryIs a.mine A):
    Tri Try.prog 60 [a.val,s.val,ps.val].toArray L R (fun w L' R'=>∃(p:OwL Int) (S:List Sl),w=.tuple #[p.val,.int .i64 (Jbw a s A true ps.l).1]∧p.ok 1 Jad∧p.l=(Jbw a s A true ps.l).2∧p.L 3 Jad ++ L=L'∧S ++ R=R'):=by
  refine Jae 14 Try.call60 Try.func60 rfl rfl rfl ?_
  refine Xaj ?_
  intro b3
  refine qax ?_
  intro b4
  refine qc4 ?_
  refine Xai ?_
  refine Xaz ?_
  refine qbm ?_
  refine Jaq rfl (Jkk a s ps true A _ _ hm hs hps hA) rfl ?_
  rintro v L' R' ⟨p,S,rfl,hpk,hpl,rfl,rfl⟩
  refine Xbw ?_
  refine Xau ?_
  refine q_r (L':=p.L 3 Jad ++ L) (R':=S ++ R) (Jfb rfl (Jal (show _=Value.slice _ _ _ from rfl)) (Jal (show _=Value.int _ _ from rfl))) ?_
  exact ⟨p,S,rfl,hpk,hpl,rfl,rfl⟩
theorem Jtr (a:XAir) (s:XSetting) (ps:Arr Int) (A:List Bool) (L:List Blk) (R:List Sl) (hm:AirR a R) (hs:SetR s R) (hps:InR (isl ps) R) (hA:Jat a=0→AiryIs a.mine A):
    Tri Try.prog 59 [a.val,s.val,ps.val].toArray L R (fun w L' R'=>∃(p:OwL Int) (S:List Sl),w=.tuple #[p.val,.int .i64 (Jbw a s A false ps.l).1]∧p.ok 1 Jad∧p.l=(Jbw a s A false ps.l).2∧p.L 3 Jad ++ L=L'∧S ++ R=R'):=by
  refine Jae 14 Try.call59 Try.func59 rfl rfl rfl ?_
  refine Xaj ?_
  intro b3
  refine qax ?_
  intro b4
  refine qc4 ?_
  refine Xai ?_
  refine Xaz ?_
  refine qbm ?_
  refine Jaq rfl (Jkk a s ps false A _ _ hm hs hps hA) rfl ?_
  rintro v L' R' ⟨p,S,rfl,hpk,hpl,rfl,rfl⟩
  refine Xbw ?_
  refine Xau ?_
  refine q_r (L':=p.L 3 Jad ++ L) (R':=S ++ R) (Jfb rfl (Jal (show _=Value.slice _ _ _ from rfl)) (Jal (show _=Value.int _ _ from rfl))) ?_
  exact ⟨p,S,rfl,hpk,hpl,rfl,rfl⟩
end Go.Proofs.Ytihompplndcdeaa
end
section
/-
  The program's bounds. By an AI agent; no person has read it.
-/
namespace Go.Proofs.Ytihompplndcdeaa
open Go.Aw Go
set_option maxRecDepth 20000
attribute [local irreducible] CJ LJ DJ Tri YV Gives Jdn Jaw Jbk Jdo RV Jay OwL.L
section
variable {A9 B9:Prop}
theorem J2l (h:B9:=by exact ⟨OwL.nil,OwL.nil,by rw [hsv];rfl,OwL.nil_ok,OwL.nil_ok,by rw [hsv],by rw [hsv],by rw [Jc7,List.nil_append,List.nil_append],rfl⟩):B9:=h
end
theorem J01 (a:XAir) (s:XSetting) (ps:Arr Int) (A:List Bool) (L:List Blk) (R:List Sl) (hm:AirR a R) (hs:SetR s R) (hps:InR (isl ps) R) (hA:Jat a=0→AiryIs a.mine A):
    Tri Try.prog 60 [a.val,s.val,ps.val].toArray L R (fun w L' R'=>∃p:OwL Int,w=.tuple #[p.val,.int .i64 (Jbw a s A true ps.l).1]∧p.ok 1 Jad∧p.l=(Jbw a s A true ps.l).2∧p.L 3 Jad ++ L=L'∧R=R'):=
  Tri.turn (Jt7 a s ps A L R hm hs hps hA) fun v L' R' ⟨p,S,a1,a2,a3,a4,a5⟩=>⟨L',R,List.Perm.refl _,fun r h=>Jab (by rw [← a5];simp [h]),p,a1,a2,a3,a4,rfl⟩
theorem J1m (a:XAir) (s:XSetting) (ps:Arr Int) (A:List Bool) (L:List Blk) (R:List Sl) (hm:AirR a R) (hs:SetR s R) (hps:InR (isl ps) R) (hA:Jat a=0→AiryIs a.mine A):
    Tri Try.prog 59 [a.val,s.val,ps.val].toArray L R (fun w L' R'=>∃p:OwL Int,w=.tuple #[p.val,.int .i64 (Jbw a s A false ps.l).1]∧p.ok 1 Jad∧p.l=(Jbw a s A false ps.l).2∧p.L 3 Jad ++ L=L'∧R=R'):=
  Tri.turn (Jtr a s ps A L R hm hs hps hA) fun v L' R' ⟨p,S,a1,a2,a3,a4,a5⟩=>⟨L',R,List.Perm.refl _,fun r h=>Jab (by rw [← a5];simp [h]),p,a1,a2,a3,a4,rfl⟩
theorem Jvw {a:XAir} {s:XSetting} {q:OwL Int} {A:List Bool} {L:List Blk} {R:List Sl} {vl:Value} (hvl:vl=q.val) (hm:AirR a R) (hs:SetR s R) (hA:Jat a=0→AiryIs a.mine A) (hin:InB (q.L 3 Jad) L) (hok:q.ok 1 Jad):
    Tri Try.prog 59 [a.val,s.val,vl].toArray L R (fun w L' R'=>∃p:OwL Int,w=.tuple #[p.val,.int .i64 (Jbw a s A false q.l).1]∧p.ok 1 Jad∧p.l=(Jbw a s A false q.l).2∧p.L 3 Jad ++ L=L'∧R=R'):=by
  subst hvl
  have h2:=Tri.lend (S:=[isl q.arr]) (Post:=fun v L'=>∃p:OwL Int,v=.tuple #[p.val,.int .i64 (Jbw a s A false q.l).1]∧p.ok 1 Jad∧p.l=(Jbw a s A false q.l).2∧p.L 3 Jad ++ []=L') (Spl.rest (L:=L)) (fun w G hh s hs=>by
    rw [List.mem_singleton.1 hs]
    exact Jdr hh hin hok (fun _=>rfl) (by decide) (fun s hs=>by cases hs)) ((J1m a s q.arr A [] _ (Jcd hm fun r h=>Jab (.tail _ h)) (Jbu hs fun r h=>Jab (.tail _ h)) (Jab (.head _)) hA).mono fun v L' R' ⟨p,a1,a2,a3,a4,a5⟩=>⟨⟨p,a1,a2,a3,a4⟩,a5⟩)
  exact Tri.turn h2 fun v L'' R' ⟨L',e,⟨p,a1,a2,a3,a4⟩,a5⟩=>⟨_,R',by rw [← e,← a4,List.append_nil];exact List.perm_append_comm,fun r hr=>Jab hr,p,a1,a2,a3,rfl,a5⟩
theorem Jr0 (a:XAir) (s:XSetting) (A:List Bool) (L:List Blk) (R:List Sl) (hm:AirR a R) (hs:SetR s R) (hA:Jat a=0→AiryIs a.mine A) (hnp:a.mine.places.l.length≤64):
    Tri Try.prog 35 [a.val,s.val].toArray L R (fun w L' R'=>∃lo hi:OwL Int,w=.tuple #[.agg #[lo.val,hi.val],.int .i64 (Jdm a s A).1]∧lo.ok 1 Jad∧hi.ok 1 Jad∧lo.l=(Jdm a s A).2.1∧hi.l=(Jdm a s A).2.2∧lo.L 3 Jad ++ (hi.L 3 Jad ++ L)=L'∧R=R'):=by
  have hmp:=hm.places
  have hzok:∀b,(⟨.own b a.mine.places.l.length [],List.replicate a.mine.places.l.length 0⟩:OwL Int).ok 1 Jad:=fun b=>Jfa (fun _=>rfl) (by simp only [maxLen];omega)
  refine Jae 49 Try.call35 Try.func35 rfl rfl rfl ?_
  refine Xaj ?_
  intro b2
  refine qax ?_
  intro b3
  refine qaq ?_
  intro b4
  refine Xb3 ?_
  refine Ja5 tb [0,1,2,3,4,5,6,7,8,9,10,11,12] ([Blk.mk b3 _ _,Blk.mk b2 _ _]) Jbh (by kernel_rfl) (by repeat (first | exact zs0 _ | exact zs1 _ | apply zs2 | apply zs3 | apply zs4 | apply zs5)) ?_
  refine qbc ?_
  refine qbd ?_
  refine qal ?_
  refine Xad ?_
  refine Jbx (Jew tb rfl rfl rfl) rfl rfl rfl ?_
  refine Jmx (Jia tb rfl rfl rfl rfl rfl rfl rfl (by omega) (by omega)) rfl rfl rfl ?_
  rintro v L' R' ⟨b16,rfl,rfl,hR16⟩
  replace hR16:=hR16.symm;subst hR16
  refine qa1 ?_
  refine Jdx rfl (Jvw (q:=⟨.own b16 a.mine.places.l.length [],List.replicate a.mine.places.l.length 0⟩) (Jyr (α:=Int)).symm hm hs hA (J1r (f:=Jad) (x:=0) rfl) (hzok b16)) rfl rfl ?_
  rintro v L' R' ⟨p,rfl,hpk,hpl,rfl,rfl⟩
  refine qas ?_
  replace hpl:p.l=(Jbw a s A false (List.replicate a.mine.places.l.length 0)).2:=hpl
  refine Jbx (Jap rfl) rfl rfl rfl ?_
  refine Jbx (Jd8 rfl rfl) rfl rfl rfl ?_
  refine Jbx (Jd8 rfl rfl) rfl rfl rfl ?_
  refine Jbx (Jcy (show _=Value.slice _ _ _ from rfl)) rfl rfl rfl ?_
  refine qcg ?_
  refine Jb8 (Jaa (Jan (Jan ?_)))
  refine Jbn (A:=[]) (wd:=1) [] (fun _=>rfl) (by decide) hpk (fun s hs=>by cases hs) ?_
  refine Jlf (by simp only [List.nil_append];rfl) ?_
  have hm1:AirR a (isl p.arr :: R):=Jcd hm fun r h=>Jab (.tail _ h)
  have hs1:SetR s (isl p.arr :: R):=Jbu hs fun r h=>Jab (.tail _ h)
  obtain ⟨x,hx⟩:∃x,x=Jbw a s A false (List.replicate a.mine.places.l.length 0):=⟨_,rfl⟩
  rw [← hx] at hpl ⊢
  refine Xbs ?_
  refine Xa3 ?_
  refine q_c (fun hc0=>?_) (fun hc0=>?_)
  ·
   refine qae ?_
   refine qck ?_
   refine qaa ?_
   refine qak ?_
   refine Xa4 ?_
   refine Jbj (L':=L) (R':=R) (Jfb rfl (Ja0 (row:=[_,_]) tb rfl rfl rfl (by repeat (first | exact zi0 | apply zi1 | apply zi2)) (by rfl) (by rfl)) (Jal (show _=Value.int _ _ from rfl))) ?hp ?hL ?hR
   case hp=>
    have hsv:Jdm a s A=(x.1,[],[]):=by rw [Jdm];dsimp only;rw [← hx,if_pos hc0]
    exact J2l
   case hL=>exact (by repeat (first | exact zs0 _ | exact zs1 _ | apply zs2 | apply zs3 | apply zs4 | apply zs5))
   case hR=>exact fun r h=>Jab (by simp [h])
  refine qbv ?_
  refine Xaz ?_
  refine qbm ?_
  refine Jaq rfl (J01 a s p.arr A _ _ hm1 hs1 (Jab (.head _)) hA) rfl ?_
  rintro v L' R' ⟨q,rfl,hqk,hql,rfl,rfl⟩
  replace hql:q.l=(Jbw a s A true p.l).2:=hql
  obtain ⟨y,hy⟩:∃y,y=Jbw a s A true p.l:=⟨_,rfl⟩
  rw [← hy] at hql ⊢
  have hxy:y=Jbw a s A true x.2:=by rw [hy,hpl]
  refine Jax (Jap rfl) rfl ?_
  refine Xbw ?_
  refine Xcm ?_
  refine Xa3 ?_
  refine q_c (fun hc1=>?_) (fun hc1=>?_)
  ·
   refine qae ?_
   refine qck ?_
   refine qaa ?_
   refine qak ?_
   refine Xa4 ?_
   refine Jbj (L':=L) (R':=R) (Jfb rfl (Ja0 (row:=[_,_]) tb rfl rfl rfl (by repeat (first | exact zi0 | apply zi1 | apply zi2)) (by rfl) (by rfl)) (Jal (show _=Value.int _ _ from rfl))) ?hp ?hL ?hR
   case hp=>
    have hsv:Jdm a s A=(y.1,[],[]):=by rw [Jdm];dsimp only;rw [← hx,if_neg hc0,← hxy,if_pos hc1]
    exact J2l
   case hL=>exact (by repeat (first | exact zs0 _ | exact zs1 _ | apply zs2 | apply zs3 | apply zs4 | apply zs5))
   case hR=>exact fun r h=>Jab (by simp [h])
  refine qbv ?_
  refine Xaz ?_
  refine qbm ?_
  refine Jaq rfl (Jvw (q:=q) rfl hm1 hs1 hA (by repeat (first | exact Jcj | apply Jcl | apply Jdh)) hqk) rfl ?_
  rintro v L' R' ⟨u,rfl,huk,hul,rfl,rfl⟩
  obtain ⟨z,hz⟩:∃z,z=Jbw a s A false q.l:=⟨_,rfl⟩
  rw [← hz] at hul ⊢
  have hyz:z=Jbw a s A false y.2:=by rw [hz,hql]
  refine Jax (Jap rfl) rfl ?_
  refine Xbw ?_
  refine Xcm ?_
  refine Xa3 ?_
  refine q_c (fun hc2=>?_) (fun hc2=>?_)
  ·
   refine qae ?_
   refine qck ?_
   refine qaa ?_
   refine qak ?_
   refine Xa4 ?_
   refine Jbj (L':=L) (R':=R) (Jfb rfl (Ja0 (row:=[_,_]) tb rfl rfl rfl (by repeat (first | exact zi0 | apply zi1 | apply zi2)) (by rfl) (by rfl)) (Jal (show _=Value.int _ _ from rfl))) ?hp ?hL ?hR
   case hp=>
    have hsv:Jdm a s A=(z.1,[],[]):=by rw [Jdm];dsimp only;rw [← hx,if_neg hc0,← hxy,if_neg hc1,← hyz,if_pos hc2]
    exact J2l
   case hL=>exact (by repeat (first | exact zs0 _ | exact zs1 _ | apply zs2 | apply zs3 | apply zs4 | apply zs5))
   case hR=>exact fun r h=>Jab (by simp [h])
  refine qbv ?_
  refine qbm ?_
  refine qbm ?_
  refine Jax (Jbo (qs:=[(0,(Value.slice _ _ _).cells.toList),(1,(Value.slice _ _ _).cells.toList)]) (out:=[_,_]) tb rfl rfl rfl rfl) rfl ?_
  refine qak ?_
  refine Xau ?_
  refine Jbj (L':=u.L 3 Jad ++ (q.L 3 Jad ++ L)) (R':=R) (Jfb rfl (Ja0 (row:=[_,_]) tb rfl rfl rfl (by repeat (first | exact zi0 | apply zi1 | apply zi2)) (by rfl) (by rfl)) (Jal (show _=Value.int _ _ from rfl))) ?hp ?hL ?hR
  case hp=>
   have hsv:Jdm a s A=(0,z.2,y.2):=by rw [Jdm];dsimp only;rw [← hx,if_neg hc0,← hxy,if_neg hc1,← hyz,if_neg hc2]
   exact ⟨u,q,by rw [hsv];rfl,huk,hqk,by rw [hsv];exact hul,by rw [hsv];exact hql,rfl,rfl⟩
  case hL=>exact (by repeat (first | exact zs0 _ | exact zs1 _ | apply zs2 | apply zs3 | apply zs4 | apply zs5))
  case hR=>exact fun r h=>Jab (by simp [h])
end Go.Proofs.Ytihompplndcdeaa
end
section
/-
  The state of certify.Flows' loop, in plain numbers. By an AI agent; no person has read it.
-/
namespace Go.Proofs.Ytihompplndcdeaa
open Go.Aw Go
structure FlowTo (a:XAir) (s:XSetting) (b:XBounds) (A:List Bool) (n:XNet) (k:Nat) (l:List XSpan):Prop where
  len:l.length=a.mine.roads.l.length
  don:∀(j:Nat) (p:XPipe),j < k→n.pipes.l[j]?=some p→l[p.num.toNat]?=some (Jby a s b A p.num.toNat)
  non:∀i:Nat,i < a.mine.roads.l.length→(∀(j:Nat) (p:XPipe),j < k→n.pipes.l[j]?=some p→p.num.toNat≠i)→l[i]?=some ⟨0,0⟩
theorem FlowTo.zero (a:XAir) (s:XSetting) (b:XBounds) (A:List Bool) (n:XNet):FlowTo a s b A n 0 (List.replicate a.mine.roads.l.length ⟨0,0⟩):=
  ⟨by simp,fun j p hj=>by omega,fun i hi _=>by rw [List.getElem?_replicate,if_pos hi]⟩
theorem FlowTo.next {a:XAir} {s:XSetting} {b:XBounds} {A:List Bool} {n:XNet} {k:Nat} {l:List XSpan} (h:FlowTo a s b A n k l) {p:XPipe} (hp:n.pipes.l[k]?=some p) (hr:p.num.toNat < a.mine.roads.l.length) {x:XSpan} (hx:x=Jby a s b A p.num.toNat):FlowTo a s b A n (k + 1) (l.set p.num.toNat x):=by
  have hl:=h.len
  subst hx
  refine ⟨by simp [hl],fun j q hj hq=>?_,fun i hi hn=>?_⟩
  · rw [List.getElem?_set]
    split
    · rename_i e;rw [if_pos (by omega),e]
    · rename_i e
      rcases Nat.lt_or_ge j k with h1 | h1
      · exact h.don j q h1 hq
      · obtain rfl : j = k := by omega
        rw [hp] at hq
        cases hq
        exact absurd rfl e
  · rw [List.getElem?_set_ne (hn k p (by omega) hp)]
    exact h.non i hi fun j q hj hq=>hn j q (by omega) hq
theorem FlowTo.done {a:XAir} {s:XSetting} {b:XBounds} {A:List Bool} {n:XNet} {l:List XSpan} (h:FlowTo a s b A n n.pipes.l.length l) (hn:NetIs a s n):l=(List.range a.mine.roads.l.length).map (Jby a s b A):=by
  have hl:=h.len
  refine List.ext_getElem? fun i=>?_
  rcases Nat.lt_or_ge i a.mine.roads.l.length with hi | hi
  · rw [List.getElem?_map, List.getElem?_range hi]
    show _=some (Jby a s b A i)
    cases hc:(a.mine.roads.l.getD i default).closed with
    | true=>
      rw [Jby,if_pos hc]
      refine h.non i hi fun j p hj hp e=>?_
      have:=(hn.open (List.mem_of_getElem? hp)).2
      rw [e,hc] at this
      cases this
    | false=>
      obtain ⟨j,p,hj,hp⟩:=hn.find (r:=(i:Int)) (by omega) (by rw [Int.toNat_natCast];exact hc)
      have:=h.don j p (List.getElem?_eq_some_iff.1 hj).1 hj
      rw [hp,Int.toNat_natCast] at this
      exact this
  · rw [List.getElem?_eq_none (by omega),List.getElem?_eq_none (by simp;omega)]
end Go.Proofs.Ytihompplndcdeaa
end
