import Derived.Test.YtihompplndcdeaaCircS
import Derived.Test.YtihompplndcdeaaCflowR
import Derived.Test.YtihompplndcdeaaSpans
import Derived.Test.YtihompplndcdeaaApp0
set_option linter.unusedVariables false
set_option linter.unusedSimpArgs false
section
/-
  recirculate.Circles, and the reference's. By an AI agent; no person has read it.
-/
namespace Go.Proofs.Ytihompplndcdeaa
open Go.Aw Go
set_option maxRecDepth 20000
attribute [local irreducible] CJ LJ DJ Tri YV Gives Jdn Jaw Jbk Jdo RV Jay OwL.L
section
variable {A9 B9:Prop}
theorem Jzv (a:A9) (h:A9→B9:=by exact Jax (by first | exact Jaf tb rfl rfl rfl rfl (by first | assumption | exact zr (by simp)) (i:=k) (by first | rfl | omega | (simp;omega)) (by omega) | exact Jah tb rfl rfl rfl rfl (i:=k) (by first | rfl | omega | (simp;omega)) (by omega)) rfl):B9:=h a
theorem J0n (a:A9) (h:A9→B9:=by exact Jh0 (Jas (qs:=[(0,(Value.agg _).cells.toList)]) (out:=[_,_,_]) tb rfl rfl rfl rfl rfl rfl rfl) rfl):B9:=h a
theorem J30 (a:A9) (h:A9→B9:=by exact Jax (Jbo (qs:=[(0,(Value.int _ _).cells.toList),(1,(Value.int _ _).cells.toList),(2,(Value.int _ _).cells.toList)]) (out:=[_,_,_]) tb rfl rfl rfl rfl) rfl):B9:=h a
theorem J48 (a:A9) (h:A9→B9:=by exact Jax (Jbe tb ((⟨o14,l⟩:OwL Bool)) rfl rfl rfl (by repeat (first | apply OSeg.cons | exact OSeg.here | exact OSeg.last | exact OSeg.at (by assumption) | apply OSeg.app)) (by assumption) (fun _=>rfl) (by assumption) (by rfl)) rfl):B9:=h a
theorem J4c (a:A9) (h:A9→B9:=by exact Jax (Jao tb ((⟨o14,l⟩:OwL Bool)) _ rfl rfl ((show _=Value.slice _ _ _ from rfl).trans (by simp only [OwL.val,hll])) rfl (by assumption) (i:=a.to.toNat) (by first | rfl | omega | (simp;omega)) (by first | omega | (dsimp only;omega) | (dsimp only;rw [List.length_set];omega) | (dsimp only;simp only [List.length_set];omega))) rfl):B9:=h a
theorem J41 (a:A9) (h:A9→B9:=by exact Jax (by first | exact Jaf tb rfl rfl rfl rfl (by first | assumption | exact zr (by simp)) (i:=a.to.toNat) (by first | rfl | omega | (simp;omega)) (by omega) | exact Jah tb rfl rfl rfl rfl (i:=a.to.toNat) (by first | rfl | omega | (simp;omega)) (by omega)) rfl):B9:=h a
end
theorem Jll {m : XMine} {fl : List XSpan} : ∀ k, (Je4 m fl k).length ≤ 2 * k
  | 0=>Nat.le_refl _
  | k + 1=>by
    have:=Jll (m:=m) (fl:=fl) k
    have h2:(Jgc m fl k).length≤2:=by unfold Jgc;(repeat' split) <;> simp
    rw [Je4,List.length_append];omega
theorem J09 (m:XMine) (fl:Arr XSpan) (L:List Blk) (R:List Sl) (hm:MineR m R) (hfl:InR (Jrc fl) R) (hv:Jbs m=0) (hn:fl.l.length=m.roads.l.length):
    Tri Try.prog 72 [m.val,fl.val].toArray L R (fun w L' R'=>∃p:OwL XArc,w=.tuple #[p.val,.bool true]∧p.ok 3 XArc.cells∧p.l=Jlg m fl.l∧p.L 143 XArc.cells ++ L=L'∧R=R'):=by
  have hmr:=hm.roads
  have hok:=Jip hv
  have hnr:=hok.roads
  refine Jae 62 Try.call72 Try.func72 rfl rfl rfl ?_
  refine Xaj ?_
  intro b2
  refine qc4 ?_
  refine Xc3 ?_
  refine qbe ?_
  refine q_l rfl (Jsc m _ _ hm) ?_
  refine qb4 ?_
  refine qah ?_
  apply Jbi (G:=[_,_,_,_,_,_]) (j:=3) (cj:=12) rfl rfl (by rfl) rfl (show _=Value.bool _ from rfl) rfl
  ·
   intro hg4
   replace hg4:=qb hg4
   refine Xat ?_
   refine Xab ?_
   refine qbq ?_
   exact qai
  intro junk4
  refine qaf ?_
  refine q_c (fun hc0=>?_) (fun hc0=>?_)
  ·
   (exfalso;rcases hc0 with h | h <;> omega)
  refine qbv ?_
  refine Xbo ?_
  refine Xbm ?_
  refine Jag [(1,Value.slice _ _ _),(6,Value.slice _ _ _),(21,Value.slice _ _ _),(22,Value.int _ _),(23,Value.int _ _)] (by repeat' (first | exact trivial | refine And.intro rfl ?_)) fun tq0=>?_
  refine Jcc [6,7,8,23,24,25,26,27,28,29,30,31,32,33,34,35,36,37,38,39,40,41,42,43,44,45,46,47,48,49,50,51,52,53,54,55,56,57,58,59,60] ((⟨fun g=>[(23,.int .i64 ((g.1.1:Nat):Int)),(6,g.1.2.val)],fun g=>g.1.2.L 143 XArc.cells ++ (⟨b2,m.cells,28⟩ :: L),fun _=>R,fun g=>m.roads.l.length - g.1.1⟩:Head {g:Nat×OwL XArc // g.1≤m.roads.l.length∧g.2.ok 3 XArc.cells∧g.2.l=Je4 m fl.l g.1})) (⟨(0,OwL.nil),by dsimp only;omega,OwL.nil_ok,rfl⟩) (by repeat' (first | exact trivial | refine And.intro rfl ?_)) (by dsimp only;rw [Jc7,List.nil_append];exact List.Sublist.refl _) (Jac _) ?_
  rintro ⟨⟨k,p⟩,w1,w2,w3⟩ junk
  try dsimp only
  dsimp only at w1 w2 w3
  have hpl:=Jll (m:=m) (fl:=fl.l) k
  rw [← w3] at hpl
  refine Xar ?_
  refine q_c (fun hc1=>?_) (fun hc1=>?_)
  ·
   have hrg:=Jai (l:=m.roads.l) (k:=k) default (by omega)
   have hsg:=Jai (l:=fl.l) (k:=k) default (by omega)
   refine Xa8 ?_
   refine Jzv ?_
   refine qc8 ?_
   refine qaq ?_
   intro b8
   refine qad ?_
   refine Xcv ?_
   refine qaf ?_
   refine q_c (fun hc2=>?_) (fun hc2=>?_)
   ·
    refine Jcs (Jbv (Jbf (Jaa (Jaj ?_))))
    refine Xag ?_
    exact q_k ⟨(k + 1,p),by dsimp only;omega,w2,by dsimp only;rw [Je4,w3,Jgc,if_pos hc2,List.append_nil]⟩
   refine qbo ?_
   refine Xal ?_
   refine Jzv ?_
   refine Xbc ?_
   refine Xbx ?_
   refine q_c (fun hc3=>?_) (fun hc3=>?_)
   ·
    refine Xcg ?_
    refine Xa1 ?_
    refine J30 ?_
    refine J0n ?_
    rintro v L' R' ⟨b43,rfl,rfl,hR43⟩
    replace hR43:=hR43.symm;subst hR43
    refine Jh0 (Jam (f:=XArc.cells) (a:=⟨(k:Int),(m.roads.l.getD k default).fr,(m.roads.l.getD k default).to⟩) tb rfl rfl rfl rfl (w2) (by repeat (first | apply OSeg.cons | exact OSeg.here | exact OSeg.last | exact OSeg.at (by assumption) | apply OSeg.app)) (Ja1 (by repeat (first | exact zi0 | apply zi1 | apply zi2)) rfl rfl) rfl (by first | omega | (simp only [List.length_cons,List.length_nil,List.length_append];omega))) rfl ?_
    rintro v L' R' ⟨o44,rfl,hok44,rfl,rfl⟩
    refine Xcf ?_
    refine Xal ?_
    refine Jzv ?_
    refine Xbc ?_
    refine Xan ?_
    refine q_c (fun hc4=>?_) (fun hc4=>?_)
    ·
     refine Xcg ?_
     refine Xa1 ?_
     refine J30 ?_
     refine J0n ?_
     rintro v L' R' ⟨b58,rfl,rfl,hR58⟩
     replace hR58:=hR58.symm;subst hR58
     refine Jh0 (Jam (f:=XArc.cells) (a:=⟨(k:Int),(m.roads.l.getD k default).to,(m.roads.l.getD k default).fr⟩) tb rfl rfl rfl rfl (hok44) (by repeat (first | apply OSeg.cons | exact OSeg.here | exact OSeg.last | exact OSeg.at (by assumption) | apply OSeg.app)) (Ja1 (by repeat (first | exact zi0 | apply zi1 | apply zi2)) rfl rfl) rfl (by first | omega | (simp only [List.length_cons,List.length_nil,List.length_append];omega))) rfl ?_
     rintro v L' R' ⟨o59,rfl,hok59,rfl,rfl⟩
     refine Xcz ?_
     exact Jau ⟨(k + 1,(⟨o59,_⟩:OwL XArc)),by dsimp only;omega,hok59,by
     dsimp only
     rw [Je4,w3,Jgc,if_neg (by rw [hc2];decide),if_pos hc4]
     first
       | rw [if_pos hc3,List.append_assoc]
       | rw [if_neg hc3];rfl⟩ (by repeat (first | exact Off.refl | apply Off.upd rfl | apply Off.havoc rfl | apply Off.updL rfl | apply Off.left rfl)) (by repeat' (first | exact trivial | refine And.intro rfl ?_)) (by repeat (first | exact zs0 _ | exact zs1 _ | apply zs2 | apply zs3 | apply zs4 | apply zs5)) (Jac _) (by dsimp only;omega)
    refine Xay ?_
    first
      | (have hz:=hok44;exact q_k ⟨(k + 1,(⟨o44,_⟩:OwL XArc)),by dsimp only;omega,hok44,by dsimp only;rw [Je4,w3,Jgc,if_neg (by rw [hc2];decide),if_neg hc4,if_pos hc3];rfl⟩)
      | exact q_k ⟨(k + 1,p),by dsimp only;omega,w2,by dsimp only;rw [Je4,w3,Jgc,if_neg (by rw [hc2];decide),if_neg hc4,if_neg hc3];simp⟩
   refine qbv ?_
   refine Xal ?_
   refine Jzv ?_
   refine Xbc ?_
   refine Xan ?_
   refine q_c (fun hc4=>?_) (fun hc4=>?_)
   ·
    refine Xcg ?_
    refine Xa1 ?_
    refine J30 ?_
    refine J0n ?_
    rintro v L' R' ⟨b58,rfl,rfl,hR58⟩
    replace hR58:=hR58.symm;subst hR58
    refine Jh0 (Jam (f:=XArc.cells) (a:=⟨(k:Int),(m.roads.l.getD k default).to,(m.roads.l.getD k default).fr⟩) tb rfl rfl rfl rfl (w2) (by repeat (first | apply OSeg.cons | exact OSeg.here | exact OSeg.last | exact OSeg.at (by assumption) | apply OSeg.app)) (Ja1 (by repeat (first | exact zi0 | apply zi1 | apply zi2)) rfl rfl) rfl (by first | omega | (simp only [List.length_cons,List.length_nil,List.length_append];omega))) rfl ?_
    rintro v L' R' ⟨o59,rfl,hok59,rfl,rfl⟩
    refine Xcz ?_
    exact Jau ⟨(k + 1,(⟨o59,_⟩:OwL XArc)),by dsimp only;omega,hok59,by
    dsimp only
    rw [Je4,w3,Jgc,if_neg (by rw [hc2];decide),if_pos hc4]
    first
      | rw [if_pos hc3,List.append_assoc]
      | rw [if_neg hc3];rfl⟩ (by repeat (first | exact Off.refl | apply Off.upd rfl | apply Off.havoc rfl | apply Off.updL rfl | apply Off.left rfl)) (by repeat' (first | exact trivial | refine And.intro rfl ?_)) (by repeat (first | exact zs0 _ | exact zs1 _ | apply zs2 | apply zs3 | apply zs4 | apply zs5)) (Jac _) (by dsimp only;omega)
   refine Xay ?_
   first
     | (have hz:=hok44;exact q_k ⟨(k + 1,(⟨o44,_⟩:OwL XArc)),by dsimp only;omega,hok44,by dsimp only;rw [Je4,w3,Jgc,if_neg (by rw [hc2];decide),if_neg hc4,if_pos hc3];rfl⟩)
     | exact q_k ⟨(k + 1,p),by dsimp only;omega,w2,by dsimp only;rw [Je4,w3,Jgc,if_neg (by rw [hc2];decide),if_neg hc4,if_neg hc3];simp⟩
  obtain rfl:k=m.roads.l.length:=by omega
  refine qbk ?_
  refine Xbl ?_
  refine Xa9 ?_
  refine q_r (L':=p.L 143 XArc.cells ++ L) (R':=R) (Jfb rfl (Jal (show _=Value.slice _ _ _ from rfl)) (Jal (show _=Value.bool _ from rfl))) ?_
  exact ⟨p,rfl,w2,w3,rfl,rfl⟩
def Jp2 (n:Nat) (l:List XArc):Prop:=∀a∈l,(0≤a.fr∧a.fr < n)∧0≤a.to∧a.to < n
theorem Jyq {m:XMine} {fl:List XSpan} (hok:MineOk m):Jp2 m.places.l.length (Jlg m fl):=fun a ha=>by
  obtain ⟨i,b,hi,_,rfl⟩:=Jm2.1 ha
  have hr:=hok.road i _ (Jai (l:=m.roads.l) (k:=i) default hi)
  have h1:=hr.fr
  have h2:=hr.to
  cases b with
  | false=>exact ⟨h1,h2⟩
  | true=>exact ⟨h2,h1⟩
theorem J6r {m:XMine} {l:List XArc} {w:Int} {a:XArc} (ha:a∈l) (h1:a.road≠w) (h2:0≤a.fr) (h3:0≤a.to) (h4:(m.places.l.getD a.to.toNat default).surface=false):Wy m l w a.fr.toNat a.to.toNat:=⟨a,ha,h1,by omega,by omega,h4⟩
theorem Jwt (m:XMine) (ar:Arr XArc) (seen:Arr Bool) (w:Int) (L:List Blk) (R:List Sl) (hm:MineR m R) (har:InR (J3e ar) R) (hs:InR (J6s seen) R) (hin:Jp2 m.places.l.length ar.l) (hl:seen.l.length=m.places.l.length) (hnp:m.places.l.length≤64) (hnl:ar.l.length≤1000):
    Tri Try.prog 87 [m.val,ar.val,seen.val,.int .i64 w].toArray L R (fun v L' R'=>∃p:OwL Bool,v=p.val∧p.ok 1 blc∧SprIs m ar.l w seen.l p.l∧p.L 4 blc ++ L=L'∧R=R'):=by
  have hmp:=hm.places
  refine Jae 57 Try.call87 Try.func87 rfl rfl rfl ?_
  refine Xaj ?_
  intro b4
  refine Xcf ?_
  refine qbm ?_
  refine Jh0 (Jd5 (f:=blc) (xs:=seen) tb rfl rfl rfl (by decide) rfl rfl (hs) (fun _=>rfl) (by omega)) rfl ?_
  rintro v L' R' ⟨o14,rfl,hok14,rfl,rfl⟩
  refine Xbo ?_
  refine qaz ?_
  refine qa2 ?_
  refine Jag [(1,Value.slice _ _ _),(3,Value.int _ _),(4,Value.pointer _),(9,Value.slice _ _ _),(10,Value.bool _)] (by repeat' (first | exact trivial | refine And.intro rfl ?_)) fun tq0=>?_
  refine q_p [10,12,15,16,17,18,19,20,21,22,23,24,25,26,27,28,29,30,31,32,33,34,35,36,37,38,39,40,41,42,43,44,45,46,47,48,49,50,51,52,53,54,55] ((⟨fun q=>[(10,.bool q.1.1)],fun q=>(⟨o14,q.1.2⟩:OwL Bool).L 4 blc ++ (⟨b4,m.cells,28⟩ :: L),fun _=>R,fun q=>Jje q.1.2 * 2 + (if q.1.1=true then 1 else 0)⟩:Head {q:Bool×List Bool // (⟨o14,q.2⟩:OwL Bool).ok 1 blc∧SprTo m ar.l w seen.l q.2∧(q.1=false→∀a∈ar.l,a.road≠w→(m.places.l.getD a.to.toNat default).surface=false→q.2.getD a.fr.toNat false=true→q.2.getD a.to.toNat false=true)})) (⟨(true,seen.l),hok14,SprTo.init,fun h=>by cases h⟩) ?_
  rintro ⟨⟨again,l0⟩,q1,q2,q3⟩ junk
  try dsimp only
  dsimp only at q1 q2 q3
  refine qbi ?_
  refine qah ?_
  refine qaf ?_
  refine q_c (fun hc0=>?_) (fun hc0=>?_)
  ·
   refine Ja4 (Jaa (Ja9 (Jan (Jaj ?_))))
   refine Xct ?_
   refine Xcl ?_
   refine Jcv [10,12,15,16,17,18,19,20,21,22,23,24,25,26,27,28,29,30,31,32,33,34,35,36,37,38,39,40,41,42,43,44,45,46,47,48,49,50,51,52,53,54,55] (by repeat (first | apply Off.upd rfl | apply Off.havoc rfl | refine Off.updL (t':=havoc _ _ _) rfl ?_ | exact Off.refl)) [(10,Value.bool _),(16,Value.slice _ _ _),(17,Value.int _ _),(18,Value.int _ _)] (by repeat' (first | exact trivial | refine And.intro rfl ?_)) fun tq1=>?_
   refine q_p [10,12,18,19,20,21,22,23,24,25,26,27,28,29,30,31,32,33,34,35,36,37,38,39,40,41,42,43,44,45,46,47,48,49,50,51,52,53,54,55] ((⟨fun q=>[(18,.int .i64 ((q.1.1:Nat):Int)),(10,.bool q.1.2.1)],fun q=>(⟨o14,q.1.2.2⟩:OwL Bool).L 4 blc ++ (⟨b4,m.cells,28⟩ :: L),fun _=>R,fun q=>ar.l.length - q.1.1⟩:Head {q:Nat×Bool×List Bool // q.1≤ar.l.length∧(⟨o14,q.2.2⟩:OwL Bool).ok 1 blc∧SprTo m ar.l w seen.l q.2.2∧(q.2.1=true→Jje q.2.2 < Jje l0)∧(q.2.1=false→q.2.2=l0∧∀(j:Nat) (a:XArc),j < q.1→ar.l[j]?=some a→a.road≠w→(m.places.l.getD a.to.toNat default).surface=false→l0.getD a.fr.toNat false=true→l0.getD a.to.toNat false=true)})) (⟨(0,false,l0),by dsimp only;omega,q1,q2,(fun h=>by cases h),fun _=>⟨rfl,fun j r hj=>by omega⟩⟩) ?_
   rintro ⟨⟨i,ch,l⟩,w1,w2,w3,w4,w5⟩ junk
   try dsimp only
   dsimp only at w1 w2 w3 w4 w5
   have hll:=w3.len
   refine Xar ?_
   refine q_c (fun hc1=>?_) (fun hc1=>?_)
   ·
    have hr0:=Jai (l:=ar.l) (k:=i) default (by omega)
    obtain ⟨a,haa⟩:∃a,a=ar.l.getD i default:=⟨_,rfl⟩
    rw [← haa] at hr0
    have hmem:=List.mem_of_getElem? hr0
    have hai:=hin a hmem
    have hgf:=Jai (l:=l) (k:=a.fr.toNat) false (by omega)
    have hgt:=Jai (l:=l) (k:=a.to.toNat) false (by omega)
    have hgp:=Jai (l:=m.places.l) (k:=a.to.toNat) default (by omega)
    refine qbb ?_
    refine Jax (by first | exact Jaf tb rfl rfl rfl rfl (by first | assumption | exact zr (by simp)) (i:=i) (by first | rfl | omega | (simp;omega)) (by omega) | exact Jah tb rfl rfl rfl rfl (i:=i) (by first | rfl | omega | (simp;omega)) (by omega)) rfl ?_
    refine qdk ?_
    refine qaq ?_
    intro b12
    refine Xbe ?_
    refine Xah ?_
    refine Xb5 ?_
    apply Jb3 (G:=[_,_,_,_,_]) (j:=4) (cj:=26) rfl rfl (by rfl) rfl (show _=Value.bool _ from rfl) rfl
    ·
     intro hg5
     replace hg5:=qb hg5
     refine Xch ?_
     refine Jax (Jao tb ((⟨o14,l⟩:OwL Bool)) _ rfl rfl ((show _=Value.slice _ _ _ from rfl).trans (by simp only [OwL.val,hll])) rfl (by assumption) (i:=a.fr.toNat) (by first | rfl | omega | (simp;omega)) (by first | omega | (dsimp only;omega) | (dsimp only;rw [List.length_set];omega) | (dsimp only;simp only [List.length_set];omega))) rfl ?_
     refine J48 ?_
     exact qai
    intro junk5
    refine qah ?_
    apply Jb3 (G:=[_,_,_,_,_,_]) (j:=11) (cj:=33) rfl rfl (by rfl) rfl (show _=Value.bool _ from rfl) rfl
    ·
     intro hg12
     replace hg12:=qb hg12
     refine Xch ?_
     refine J4c ?_
     refine J48 ?_
     refine qb4 ?_
     exact qai
    intro junk12
    refine qah ?_
    apply Jb3 (G:=[_,_,_,_,_,_,_,_]) (j:=19) (cj:=41) rfl rfl (by rfl) rfl (show _=Value.bool _ from rfl) rfl
    ·
     intro hg20
     replace hg20:=qb hg20
     refine Xa1 ?_
     refine J41 ?_
     refine Xbc ?_
     refine qb4 ?_
     exact qai
    intro junk20
    refine qaf ?_
    refine q_c (fun hc2=>?_) (fun hc2=>?_)
    ·
     refine qay ?_
     refine Xch ?_
     refine J4c ?_
     refine Jhw (Jav tb ((⟨o14,l⟩:OwL Bool)) (true) rfl rfl rfl rfl (by repeat (first | apply OSeg.cons | exact OSeg.here | exact OSeg.last | exact OSeg.at (by assumption) | apply OSeg.app)) (by assumption) (fun _=>rfl) (by assumption) (by decide) (by rfl) (by rfl)) ?_
     rintro v L' R' ⟨rfl,rfl⟩
     refine qaz ?_
     refine Xa5 ?_
     have hf:l.getD a.to.toNat false=false:=hc2.1.2
     have hlt:=Jwn (l:=l) (i:=a.to.toNat) (by omega) hf
     have hle:Jje l≤Jje l0:=by
       cases ch with
       | true=>have:=w4 rfl;omega
       | false=>rw [(w5 rfl).1];exact Nat.le_refl _
     exact q_k ⟨(i + 1,true,l.set a.to.toNat true),by dsimp only;omega,OwL.len_ok Jid w2 (by simp),w3.next (J6r hmem hc2.1.1.1 hai.1.1 hai.2.1 hc2.2) hc2.1.1.2 (by omega),fun _=>by dsimp only;omega,fun h=>by cases h⟩
    refine Xay ?_
    exact Jau ⟨(i + 1,ch,l),by dsimp only;omega,w2,w3,w4,fun h=>⟨(w5 h).1,fun j r2 hj hj2 g1 g2 g3=>by
      rcases Nat.lt_or_ge j i with h1 | h1
      · exact (w5 h).2 j r2 h1 hj2 g1 g2 g3
      · obtain rfl : j = i := by omega
        rw [hr0] at hj2
        cases hj2
        cases hz:l0.getD a.to.toNat false with
        | true=>rfl
        | false=>
          exfalso
          rw [← (w5 h).1] at g3 hz
          rcases hc2 with ((h1 | h1) | h1) | h1 <;> first | exact h1 g1 | (rw [g3] at h1;cases h1) | (rw [hz] at h1;cases h1) | (rw [g2] at h1;cases h1)⟩⟩ (by repeat (first | exact Off.refl | apply Off.upd rfl | apply Off.havoc rfl | apply Off.updL rfl | apply Off.left rfl)) (by repeat' (first | exact trivial | refine And.intro rfl ?_)) (by repeat (first | exact zs0 _ | exact zs1 _ | apply zs2 | apply zs3 | apply zs4 | apply zs5)) (Jac _) (by dsimp only;omega)
   obtain rfl:i=ar.l.length:=by omega
   have hmeas:Jje l * 2 + (if ch=true then 1 else 0) < Jje l0 * 2 + (if again=true then 1 else 0):=by
     rw [if_pos hc0]
     cases ch with
     | true=>have:=w4 rfl;simp;omega
     | false=>rw [(w5 rfl).1];simp
   refine Jcs (Jbv (Jcp (Jbf (Ja7 ?_))))
   exact Jau ⟨(ch,l),w2,w3,fun h a ha g1 g2 g3=>by obtain ⟨j,hj⟩:=List.mem_iff_getElem?.1 ha;rw [(w5 h).1] at g3 ⊢;exact (w5 h).2 j a (List.getElem?_eq_some_iff.1 hj).1 hj g1 g2 g3⟩ (by repeat (first | exact Off.refl | apply Off.upd rfl | apply Off.havoc rfl | apply Off.updL rfl | apply Off.left rfl)) (by repeat' (first | exact trivial | refine And.intro rfl ?_)) (by repeat (first | exact zs0 _ | exact zs1 _ | apply zs2 | apply zs3 | apply zs4 | apply zs5)) (Jac _) hmeas
  have hll:=q2.len
  refine Xco ?_
  refine q_r (L':=(⟨o14,l0⟩:OwL Bool).L 4 blc ++ L) (R':=R) (Jd4 rfl (Jal (show _=Value.slice _ _ _ from rfl))) ?_
  exact ⟨⟨o14,l0⟩,by simp only [OwL.val,hll],q1,q2.done (fun u v hw hu=>by
  obtain ⟨a,ha,h1,h2,h3,h4⟩:=hw
  have:=q3 (by simpa using hc0) a ha h1 (by rw [h3,Int.toNat_natCast];exact h4) (by rw [h2,Int.toNat_natCast];exact hu)
  rw [h3,Int.toNat_natCast] at this
  exact this),rfl,rfl⟩
theorem Jud {m:XMine} {ar:Arr XArc} {p:OwL Bool} {w:Int} {A:List Blk} {R:List Sl} (hB:InB (p.L 4 blc) A) (hk:p.ok 1 blc) (hm:MineR m R) (har:InR (J3e ar) R) (hin:Jp2 m.places.l.length ar.l) (hl:p.l.length=m.places.l.length) (hnp:m.places.l.length≤64) (hnl:ar.l.length≤1000):
    Tri Try.prog 87 [m.val,ar.val,p.val,.int .i64 w].toArray A R (fun v L' R'=>∃q:OwL Bool,v=q.val∧q.ok 1 blc∧SprIs m ar.l w p.l q.l∧A ++ q.L 4 blc=L'∧R=R'):=by
  have h:=Jwt m ar p.arr w [] ([J6s p.arr] ++ R) ⟨hm.places.mono fun r h=>Jab (.tail _ h),hm.roads.mono fun r h=>Jab (.tail _ h)⟩ (har.mono fun r h=>Jab (.tail _ h)) (Jab (.head _)) hin hl hnp hnl
  have h2:=Tri.lend (S:=[J6s p.arr]) (Post:=fun v L'=>∃q:OwL Bool,v=q.val∧q.ok 1 blc∧SprIs m ar.l w p.l q.l∧q.L 4 blc ++ []=L') (Spl.rest (L:=A)) (fun w G hh s hs=>by
    rw [List.mem_singleton.1 hs]
    exact Jdr hh hB hk Jid (by decide) (fun s hs=>by cases hs)) (h.mono fun v L' R' ⟨q,a1,a2,a3,a4,a5⟩=>⟨⟨q,a1,a2,a3,a4⟩,a5⟩)
  exact h2.mono fun v L'' R' ⟨L',e,⟨q,a1,a2,a3,a4⟩,a5⟩=>⟨q,a1,a2,a3,by rw [← a4,List.append_nil] at e;exact e,a5⟩
theorem Jtq (m:XMine) (ar:Arr XArc) (L:List Blk) (R:List Sl) (hm:MineR m R) (har:InR (J3e ar) R) (hin:Jp2 m.places.l.length ar.l) (hnp:m.places.l.length≤64) (hnl:ar.l.length≤1000):
    Tri Try.prog 73 [m.val,ar.val].toArray L R (fun v L' R'=>∃p:OwL XArc,v=p.val∧p.ok 3 XArc.cells∧OnTo m ar.l ar.l.length p.l∧p.L 143 XArc.cells ++ L=L'∧R=R'):=by
  have hmp:=hm.places
  refine Jae 55 Try.call73 Try.func73 rfl rfl rfl ?_
  refine Xaj ?_
  intro b2
  refine Xcf ?_
  refine Xbo ?_
  refine Xcl ?_
  refine Jag [(1,Value.slice _ _ _),(2,Value.pointer _),(5,Value.slice _ _ _),(9,Value.slice _ _ _),(10,Value.int _ _),(11,Value.int _ _)] (by repeat' (first | exact trivial | refine And.intro rfl ?_)) fun tq0=>?_
  refine Jcc [5,7,8,11,12,13,14,15,16,17,18,19,20,21,22,23,24,25,26,27,28,29,30,31,32,33,34,35,36,37,38,39,40,41,42,43,44,45,46,47,48,49,50,51,52,53] ((⟨fun g=>[(11,.int .i64 ((g.1.1:Nat):Int)),(5,g.1.2.val)],fun g=>g.1.2.L 143 XArc.cells ++ (⟨b2,m.cells,28⟩ :: L),fun _=>R,fun g=>ar.l.length - g.1.1⟩:Head {g:Nat×OwL XArc // g.1≤ar.l.length∧g.2.ok 3 XArc.cells∧OnTo m ar.l g.1 g.2.l})) (⟨(0,OwL.nil),by dsimp only;omega,OwL.nil_ok,OnTo.zero⟩) (by repeat' (first | exact trivial | refine And.intro rfl ?_)) (by dsimp only;rw [Jc7,List.nil_append];exact List.Sublist.refl _) (Jac _) ?_
  rintro ⟨⟨k,p⟩,w1,w2,w3⟩ junk
  try dsimp only
  dsimp only at w1 w2 w3
  have hpl:=w3.sub.length_le
  rw [List.length_take] at hpl
  refine Xar ?_
  refine q_c (fun hc0=>?_) (fun hc0=>?_)
  ·
   have hr0:=Jai (l:=ar.l) (k:=k) default (by omega)
   obtain ⟨a,haa⟩:∃a,a=ar.l.getD k default:=⟨_,rfl⟩
   rw [← haa] at hr0
   have hai:=hin a (List.mem_of_getElem? hr0)
   have hgf:=Jai (l:=m.places.l) (k:=a.fr.toNat) default (by omega)
   have hgt:=Jai (l:=m.places.l) (k:=a.to.toNat) default (by omega)
   refine qbb ?_
   refine Jzv ?_
   refine qdk ?_
   refine qaq ?_
   intro b7
   refine Xbk ?_
   refine Xa1 ?_
   refine Jax (by first | exact Jaf tb rfl rfl rfl rfl (by first | assumption | exact zr (by simp)) (i:=a.fr.toNat) (by first | rfl | omega | (simp;omega)) (by omega) | exact Jah tb rfl rfl rfl rfl (i:=a.fr.toNat) (by first | rfl | omega | (simp;omega)) (by omega)) rfl ?_
   refine Xbc ?_
   refine qah ?_
   apply Jbi (G:=[_,_,_,_,_,_,_]) (j:=7) (cj:=22) rfl rfl (by rfl) rfl (show _=Value.bool _ from rfl) rfl
   ·
    intro hg8
    replace hg8:=qb hg8
    refine Xa1 ?_
    refine J41 ?_
    refine Xbc ?_
    exact qai
   intro junk8
   refine qaf ?_
   refine q_c (fun hc1=>?_) (fun hc1=>?_)
   ·
    refine Jcs (Jbv (Jbf (Jaa (Jaj ?_))))
    refine Xag ?_
    exact q_k ⟨(k + 1,p),by dsimp only;omega,w2,w3.no hr0 (fun h=>by rcases hc1 with e | e;exact absurd (h.1.symm.trans e) (by decide);exact absurd (h.2.1.symm.trans e) (by decide))⟩
   have hs1:(m.places.l.getD a.fr.toNat default).surface=false:=by cases e:(m.places.l.getD a.fr.toNat default).surface <;> simp_all
   have hs2:(m.places.l.getD a.to.toNat default).surface=false:=by cases e:(m.places.l.getD a.to.toNat default).surface <;> simp_all
   refine qbv ?_
   refine Xab ?_
   refine qc7 ?_
   rintro v L' R' ⟨b34,rfl,rfl,hR34⟩
   replace hR34:=hR34.symm;subst hR34
   refine qc4 ?_
   refine qa4 ?_
   refine Jlf (Jgh (f:=blc) (x:=false) rfl _) ?_
   obtain ⟨l0,hl0⟩:∃l0,l0=List.replicate m.places.l.length false:=⟨_,rfl⟩
   have hl0n:l0.length=m.places.l.length:=by rw [hl0];simp
   have hQ1:(⟨.own b34 m.places.l.length [],l0⟩:OwL Bool).ok 1 blc:=by rw [hl0];exact Jfa Jid (by simp only [maxLen];omega)
   have hQ2:=Jai (l:=l0) (k:=a.to.toNat) false (by omega)
   have hS1:(⟨.own b34 m.places.l.length [],Jxc m.places.l.length a.to.toNat⟩:OwL Bool).ok 1 blc:=OwL.len_ok Jid hQ1 (by simp [Jxc,hl0n])
   refine Jlf (show _=(⟨.own b34 m.places.l.length [],l0⟩:OwL Bool).L 4 blc ++ _ by rw [hl0]) ?_
   have hSl:(⟨.own b34 m.places.l.length [],Jxc m.places.l.length a.to.toNat⟩:OwL Bool).l.length=m.places.l.length:=by simp [Jxc]
   refine qay ?_
   refine Xch ?_
   refine Jax (Jao tb ((⟨.own b34 m.places.l.length [],l0⟩:OwL Bool)) _ rfl rfl ((show _=Value.slice _ _ _ from rfl).trans (Jei hl0n)) rfl (by assumption) (i:=a.to.toNat) (by first | rfl | omega | (simp;omega)) (by first | omega | (dsimp only;omega) | (dsimp only;rw [List.length_set];omega) | (dsimp only;simp only [List.length_set];omega))) rfl ?_
   refine Jhw (Jav tb ((⟨.own b34 m.places.l.length [],l0⟩:OwL Bool)) (true) rfl rfl rfl rfl (by repeat (first | apply OSeg.cons | exact OSeg.here | exact OSeg.last | exact OSeg.at (by assumption) | apply OSeg.app)) (by assumption) (fun _=>rfl) (by assumption) (by decide) (by rfl) (by rfl)) ?_
   rintro v L' R' ⟨rfl,rfl⟩
   refine qa4 ?_
   refine Jlf (show _=(⟨.own b34 m.places.l.length [],Jxc m.places.l.length a.to.toNat⟩:OwL Bool).L 4 blc ++ _ by rw [hl0];rfl) ?_
   refine Jqe tb [] [0,1,2,3,4,6,7,5,8,9] [] ([Blk.mk b7 _ _,Blk.mk b2 _ _]) [] 10 Jbh (by kernel_rfl) rfl rfl (by repeat (first | exact zs0 _ | exact zs1 _ | apply zs2 | apply zs3 | apply zs4 | apply zs5)) fun hT8=>?_
   refine Jjq 0 hT8 (List.nil_sublist _) (by kernel_rfl) rfl rfl rfl rfl rfl (Jba (row:=[_,_]) tb rfl rfl rfl (by repeat (first | exact zi0 | apply zi1 | apply zi2)) (by rfl) (by rfl)) ?_
   refine Jjq 1 hT8 (List.nil_sublist _) (by kernel_rfl) rfl rfl rfl rfl rfl (Jap (show _=Value.slice _ _ _ from rfl)) ?_
   refine Jjq 2 hT8 (List.nil_sublist _) (by kernel_rfl) rfl rfl rfl rfl rfl (Jap (show _=Value.slice _ _ _ from rfl)) ?_
   refine Jjq 3 hT8 (List.nil_sublist _) (by kernel_rfl) rfl rfl rfl rfl rfl (Jcr tb rfl rfl rfl) ?_
   refine Jjq 4 hT8 (List.nil_sublist _) (by kernel_rfl) rfl rfl rfl rfl rfl (Jbl tb rfl rfl rfl (by repeat (first | exact zi0 | apply zi1 | apply zi2)) (by rfl)) ?_
   refine Jjq 6 hT8 (List.nil_sublist _) (by kernel_rfl) rfl rfl rfl rfl rfl (Jcr tb rfl rfl rfl) ?_
   refine Jjq 7 hT8 (List.nil_sublist _) (by kernel_rfl) rfl rfl rfl rfl rfl (Jbl tb rfl rfl rfl (by repeat (first | exact zi0 | apply zi1 | apply zi2)) (by rfl)) ?_
   refine Jbb [5] hT8 (List.nil_sublist _) (by kernel_rfl) ?_
   refine qca ?_
   refine Jdi rfl (Joa rfl (Tri.cast (Jud (A:=(⟨.own b34 m.places.l.length [],Jxc m.places.l.length a.to.toNat⟩:OwL Bool).L 4 blc ++ _) (p:=(⟨.own b34 m.places.l.length [],Jxc m.places.l.length a.to.toNat⟩:OwL Bool)) (w:=a.road) (by repeat (first | exact Jcj | apply Jcl | apply Jdh)) hS1 hm har hin hSl hnp hnl) (by show #[_,_,Value.slice _ (List.length _) _,_]=_;rw [hSl];rfl))) rfl rfl ?_
   rintro v L' R' ⟨q,rfl,hqk,hqS,rfl,rfl⟩
   simp only [List.append_assoc,List.cons_append,List.nil_append]
   refine qas ?_
   have hql:=hqS.len
   rw [hSl] at hql
   have hqg:=Jai (l:=q.l) (k:=a.fr.toNat) false (by omega)
   have hqi:=J24 hqS (show a.to.toNat < m.places.l.length by omega) (show a.fr.toNat < m.places.l.length by omega)
   refine Jjq 8 hT8 (List.nil_sublist _) (by kernel_rfl) rfl rfl rfl rfl rfl (Jao tb (q) _ rfl rfl rfl rfl (by assumption) (i:=a.fr.toNat) (by first | rfl | omega | (simp;omega)) (by first | omega | (dsimp only;omega) | (dsimp only;rw [List.length_set];omega) | (dsimp only;simp only [List.length_set];omega))) ?_
   refine Jbb [9] hT8 (List.nil_sublist _) (by kernel_rfl) ?_
   refine qca ?_
   refine Jdi rfl (Go.Proofs.Ytihompplndcdeaa.YV.gives2 (Jbe tb (q) rfl rfl rfl (by repeat (first | apply OSeg.cons | exact OSeg.here | exact OSeg.last | exact OSeg.at (by assumption) | apply OSeg.app)) (by assumption) (fun _=>rfl) (by assumption) (by rfl))) rfl rfl ?_
   rintro v L' R' ⟨rfl,rfl,rfl⟩
   refine qa1 ?_
   refine Je7 hT8 (List.nil_sublist _) (by kernel_rfl) rfl ?_
   refine qbu ?_
   refine q_c (fun hc2=>?_) (fun hc2=>?_)
   ·
    refine qay ?_
    refine qbm ?_
    refine Jax (Jba (row:=[_,_,_]) tb rfl rfl rfl (by repeat (first | exact zi0 | apply zi1 | apply zi2)) (by rfl) (by rfl)) rfl ?_
    refine J0n ?_
    rintro v L' R' ⟨b51,rfl,rfl,hR51⟩
    replace hR51:=hR51.symm;subst hR51
    refine Jh0 (Jam (f:=XArc.cells) (p:=p) (a:=a) tb rfl rfl rfl rfl (w2) (by repeat (first | apply OSeg.cons | exact OSeg.here | exact OSeg.last | exact OSeg.at (by assumption) | apply OSeg.app)) (Ja1 (by repeat (first | exact zi0 | apply zi1 | apply zi2)) rfl rfl) rfl (by first | omega | (simp only [List.length_cons,List.length_nil,List.length_append];omega))) rfl ?_
    rintro v L' R' ⟨o52,rfl,hok52,rfl,rfl⟩
    refine Xcz ?_
    exact Jau ⟨(k + 1,(⟨o52,_⟩:OwL XArc)),by dsimp only;omega,hok52,w3.yes hr0 ⟨hs1,hs2,hqi.1 hc2⟩⟩ (by repeat (first | exact Off.refl | apply Off.upd rfl | apply Off.havoc rfl | apply Off.updL rfl | apply Off.left rfl)) (by repeat' (first | exact trivial | refine And.intro rfl ?_)) (by repeat (first | exact zs0 _ | exact zs1 _ | exact List.sublist_append_left _ _ | apply zs2 | apply zs3 | apply zs4 | apply zs5)) (Jac _) (by dsimp only;omega)
   refine Xay ?_
   exact Jau ⟨(k + 1,p),by dsimp only;omega,w2,w3.no hr0 (fun h=>by rw [hqi.2 h.2.2] at hc2;cases hc2)⟩ (by repeat (first | exact Off.refl | apply Off.upd rfl | apply Off.havoc rfl | apply Off.updL rfl | apply Off.left rfl)) (by repeat' (first | exact trivial | refine And.intro rfl ?_)) (by repeat (first | exact zs0 _ | exact zs1 _ | exact List.sublist_append_left _ _ | apply zs2 | apply zs3 | apply zs4 | apply zs5)) (Jac _) (by dsimp only;omega)
  obtain rfl:k=ar.l.length:=by omega
  refine Xco ?_
  refine q_r (L':=p.L 143 XArc.cells ++ L) (R':=R) (Jd4 rfl (Jal (show _=Value.slice _ _ _ from rfl))) ?_
  exact ⟨p,rfl,w2,w3,rfl,rfl⟩
end Go.Proofs.Ytihompplndcdeaa
end
section
/-
  recirculate.Circles whole, and the reference's circles. By an AI agent; no person has read it.
-/
namespace Go.Proofs.Ytihompplndcdeaa
open Go.Aw Go
section
variable {A9 B9:Prop}
theorem J2a (a:A9) (h:A9→B9:=by exact Jbx (Jap (show _=Value.slice _ _ _ from rfl)) rfl rfl rfl):B9:=h a
theorem J5e (a:A9) (h:A9→B9:=by exact Jh0 (Jam (f:=Jad) (p:=r) (a:=a.road) tb rfl rfl rfl rfl (w2) (by repeat (first | apply OSeg.cons | exact OSeg.here | exact OSeg.last | exact OSeg.at (by assumption) | apply OSeg.app)) (Ja1 (by repeat (first | exact zi0 | apply zi1 | apply zi2)) rfl rfl) rfl (by first | omega | (simp only [List.length_cons,List.length_nil,List.length_append];omega))) rfl):B9:=h a
end
theorem Tri.post_perm {P:Program} {f:FuncId} {args:Array Value} {L:List Blk} {R:List Sl} {Post Post':Jed} (h:Tri P f args L R Post) (k:∀v L' R',Post v L' R'→∃L'',L'.Perm L''∧Post' v L'' R'):Tri P f args L R Post':=
  ⟨h.1,fun w G hh=>(h.2 w G hh).mono fun _ _ ⟨v,L',R',e,p,s⟩=>let ⟨L'',hp,p'⟩:=k v L' R' p;⟨v,L'',R',e,p',s.perm hp⟩⟩
set_option maxRecDepth 20000
attribute [local irreducible] CJ LJ DJ Tri YV Gives Jdn Jaw Jbk Jdo RV Jay OwL.L
theorem Jjx {l:List Int} (h:0 < l.length):l.getLast?=some (l.getD (l.length - 1) 0):=by
  rw [List.getLast?_eq_getElem?,Jai (l:=l) (k:=l.length - 1) 0 (by omega)]
theorem Juz (m:XMine) (fl:Arr XSpan) (L:List Blk) (R:List Sl) (hm:MineR m R) (hfl:InR (Jrc fl) R) (hv:Jbs m=0) (hn:fl.l.length=m.roads.l.length):
    Tri Try.prog 54 [m.val,fl.val].toArray L R (fun w L' R'=>∃(p:OwL Int) (S:List Sl),w=p.val∧p.ok 1 Jad∧CircIs m fl.l p.l∧p.L 3 Jad ++ L=L'∧S ++ R=R'):=by
  have hok:=Jip hv
  have hnp:=hok.places
  have hnr:=hok.roads
  refine Jae 45 Try.call54 Try.func54 rfl rfl rfl ?_
  refine Xaj ?_
  intro b2
  refine Xcf ?_
  refine qbe ?_
  refine qbm ?_
  refine Jaq rfl (J09 m fl _ _ hm hfl hv hn) rfl ?_
  rintro v L' R' ⟨p,rfl,hpk,hpl,rfl,rfl⟩
  refine Jax (Jap rfl) rfl ?_
  refine Xbw ?_
  refine qaz ?_
  refine qa4 ?_
  refine Jbn (A:=[]) (wd:=3) [] (fun _=>rfl) (by decide) hpk (fun s hs=>by cases hs) ?_
  refine Jlf (by simp only [List.nil_append];rfl) ?_
  obtain ⟨R1,hR1⟩:∃R1,R1=J3e p.arr :: R:=⟨_,rfl⟩
  have hRR:∀r∈R,InR r R1:=fun r hr=>Jab (by rw [hR1];exact .tail _ hr)
  have har:InR (J3e p.arr) R1:=Jab (by rw [hR1];exact .head _)
  refine Jz1 (show _=R1 by rw [hR1]) ?_
  have hm1:MineR m R1:=⟨hm.places.mono hRR,hm.roads.mono hRR⟩
  have hin:Jp2 m.places.l.length p.arr.l:=by show Jp2 _ p.l;rw [hpl];exact Jyq hok
  have hpn:p.l.length≤2 * m.roads.l.length:=by rw [hpl];exact Jll _
  refine qay ?_
  refine Xbo ?_
  refine qbe ?_
  refine qbm ?_
  refine Jaq rfl (Jtq m p.arr _ _ hm1 har hin hnp (by show p.l.length≤1000;omega)) rfl ?_
  rintro v L' R' ⟨q,rfl,hqk,hqO,rfl,rfl⟩
  have hqO':OnTo m (Jlg m fl.l) (Jlg m fl.l).length q.l:=by have:=hqO;rw [show p.arr.l=Jlg m fl.l from hpl] at this;exact this
  have hqs:=hqO'.sorted
  have hqn:=hqO.sub.length_le
  rw [List.length_take] at hqn
  refine qag ?_
  refine Xas ?_
  refine Jag [(7,Value.slice _ _ _),(18,Value.slice _ _ _),(19,Value.int _ _),(20,Value.int _ _)] (by repeat' (first | exact trivial | refine And.intro rfl ?_)) fun tq0=>?_
  refine Jcc [7,9,20,21,22,23,24,25,26,27,28,29,30,31,32,33,34,35,36,37,38,39,40,41,42,43] ((⟨fun g=>[(20,.int .i64 ((g.1.1:Nat):Int)),(7,g.1.2.val)],fun g=>g.1.2.L 3 Jad ++ (q.L 143 XArc.cells ++ (⟨b2,m.cells,28⟩ :: L)),fun _=>R1,fun g=>q.l.length - g.1.1⟩:Head {g:Nat×OwL Int // g.1≤q.l.length∧g.2.ok 1 Jad∧RdsTo q.l g.1 g.2.l})) (⟨(0,OwL.nil),by dsimp only;omega,OwL.nil_ok,RdsTo.zero⟩) (by repeat' (first | exact trivial | refine And.intro rfl ?_)) (by dsimp only;rw [Jc7,List.nil_append];exact List.Sublist.refl _) (Jac _) ?_
  rintro ⟨⟨k,r⟩,w1,w2,w3⟩ junk
  try dsimp only
  dsimp only at w1 w2 w3
  have hrl:=w3.len
  have hpn':p.arr.l.length≤256:=by show p.l.length≤256;omega
  refine Xar ?_
  refine q_c (fun hc0=>?_) (fun hc0=>?_)
  ·
   have hr0:=Jai (l:=q.l) (k:=k) default (by omega)
   obtain ⟨a,haa⟩:∃a,a=q.l.getD k default:=⟨_,rfl⟩
   rw [← haa] at hr0
   refine qbb ?_
   refine Jax (Jao tb (q) _ rfl rfl rfl rfl (by assumption) (i:=k) (by first | rfl | omega | (simp;omega)) (by first | omega | (dsimp only;omega) | (dsimp only;rw [List.length_set];omega) | (dsimp only;simp only [List.length_set];omega))) rfl ?_
   refine Jax (Jnv (row:=[_,_,_]) tb (q) rfl rfl rfl (by repeat (first | apply OSeg.cons | exact OSeg.here | exact OSeg.last | exact OSeg.at (by assumption) | apply OSeg.app)) (by assumption) (fun _=>rfl) (by assumption) (by rfl) (by rfl)) rfl ?_
   refine qaq ?_
   intro b9
   refine qak ?_
   refine qa4 ?_
   refine Ja5 tb [0,1,2,3,4,5,6,7,8,9,10,11,12,13] ([Blk.mk b9 _ _] ++ (r.L 3 Jad ++ [])) Jbh (by kernel_rfl) (by repeat (first | exact zs0 _ | exact zs1 _ | apply zs2 | apply zs3 | apply zs4 | apply zs5)) ?_
   refine J2a ?_
   refine Jbx (Jew tb rfl rfl rfl) rfl rfl rfl ?_
   refine Jbx (Jm8 rfl rfl) rfl rfl rfl ?_
   refine qb2 ?_
   refine Jep (k:=27) (show _=Value.bool _ from rfl) (fun hg3=>?_) (fun hg3=>?_)
   ·
    replace hg3:=qb hg3
    iterate 9 refine qap ?_
    refine Xbi ?_
    refine Jco rfl ?_
    refine qay ?_
    refine Xch ?_
    refine qcx ?_
    rintro v L' R' ⟨b41,rfl,rfl,hR41⟩
    replace hR41:=hR41.symm;subst hR41
    refine J5e ?_
    rintro v L' R' ⟨o42,rfl,hok42,rfl,rfl⟩
    refine Xcz ?_
    exact Jau ⟨(k + 1,(⟨o42,_⟩:OwL Int)),by dsimp only;omega,hok42,w3.yes hqs hr0 (by
    first
      | exact .inl (List.eq_nil_of_length_eq_zero (by omega))
      | (refine .inr ?_
         rw [Jjx (by omega)]
         intro e
         exact hc1 (Option.some.inj e)))⟩ (by repeat (first | exact Off.refl | apply Off.upd rfl | apply Off.havoc rfl | apply Off.updL rfl | apply Off.left rfl)) (by repeat' (first | exact trivial | refine And.intro rfl ?_)) (by repeat (first | exact zs0 _ | exact zs1 _ | apply zs2 | apply zs3 | apply zs4 | apply zs5)) (Jac _) (by dsimp only;omega)
   replace hg3:=qb hg3
   have hgl:=Jai (l:=r.l) (k:=r.l.length - 1) 0 (by omega)
   refine J2a ?_
   refine J2a ?_
   refine Jbx (Jew tb rfl rfl rfl) rfl rfl rfl ?_
   refine qb7 ?_
   refine Jbx (Jao tb (r) _ rfl rfl rfl rfl (by assumption) (i:=r.l.length - 1) (by first | rfl | omega | (simp;omega)) (by first | omega | (dsimp only;omega) | (dsimp only;rw [List.length_set];omega) | (dsimp only;simp only [List.length_set];omega))) rfl rfl rfl ?_
   refine Jbx (Jbe tb (r) rfl rfl rfl (by repeat (first | apply OSeg.cons | exact OSeg.here | exact OSeg.last | exact OSeg.at (by assumption) | apply OSeg.app)) (by assumption) (fun _=>rfl) (by assumption) (by rfl)) rfl rfl rfl ?_
   refine Xad ?_
   refine Jbx (Jlo rfl rfl) rfl rfl rfl ?_
   refine Xbi ?_
   refine q_c (fun hc1=>?_) (fun hc1=>?_)
   ·
    refine qay ?_
    refine Xch ?_
    refine qcx ?_
    rintro v L' R' ⟨b41,rfl,rfl,hR41⟩
    replace hR41:=hR41.symm;subst hR41
    refine J5e ?_
    rintro v L' R' ⟨o42,rfl,hok42,rfl,rfl⟩
    refine Xcz ?_
    exact Jau ⟨(k + 1,(⟨o42,_⟩:OwL Int)),by dsimp only;omega,hok42,w3.yes hqs hr0 (by
    first
      | exact .inl (List.eq_nil_of_length_eq_zero (by omega))
      | (refine .inr ?_
         rw [Jjx (by omega)]
         intro e
         exact hc1 (Option.some.inj e)))⟩ (by repeat (first | exact Off.refl | apply Off.upd rfl | apply Off.havoc rfl | apply Off.updL rfl | apply Off.left rfl)) (by repeat' (first | exact trivial | refine And.intro rfl ?_)) (by repeat (first | exact zs0 _ | exact zs1 _ | apply zs2 | apply zs3 | apply zs4 | apply zs5)) (Jac _) (by dsimp only;omega)
   refine Xay ?_
   exact q_k ⟨(k + 1,r),by dsimp only;omega,w2,w3.no hr0 (by rw [Jjx (by omega)];exact congrArg some (by omega))⟩
  obtain rfl:k=q.l.length:=by omega
  refine Xco ?_
  refine Jbj (L':=r.L 3 Jad ++ L) (R':=J3e p.arr :: R) (Jd4 rfl (Jal (show _=Value.slice _ _ _ from rfl))) ?hp ?hL ?hR
  case hp=>exact ⟨r,[J3e p.arr],rfl,w2,RdsTo.done hqO' w3,rfl,rfl⟩
  case hL=>exact (by repeat (first | exact zs0 _ | exact zs1 _ | apply zs2 | apply zs3 | apply zs4 | apply zs5))
  case hR=>exact fun x hx=>Jab (by rw [hR1];exact hx)
end Go.Proofs.Ytihompplndcdeaa
end
section
/-
  The reference's circles. By an AI agent; no person has read it.
-/
namespace Go.Proofs.Ytihompplndcdeaa
open Go.Aw Go
set_option maxRecDepth 20000
attribute [local irreducible] CJ LJ DJ Tri YV Gives Jdn Jaw Jbk Jdo RV Jay OwL.L
end Go.Proofs.Ytihompplndcdeaa
end
