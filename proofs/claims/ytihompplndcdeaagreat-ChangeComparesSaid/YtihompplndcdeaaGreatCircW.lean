/-
  recirculate.Circles, and the reference's. By an AI agent; no person has read it.
-/
import Derived.Test.YtihompplndcdeaaGreatCircS
import Derived.Test.YtihompplndcdeaaGreatReach
import Derived.Test.YtihompplndcdeaaGreatChangeS
import Derived.Test.YtihompplndcdeaaGreatApp0
namespace Go.Proofs.YtihompplndcdeaaGreat
open Go.Aw Go
set_option maxRecDepth 20000
attribute [local irreducible] CJ LJ DJ Tri YV Gives Jd5 Jbd Jbz Jd4 RV Jbf OwL.L
section
variable {A9 B9:Prop}
theorem Jzl (a:A9) (h:A9→B9:=by exact Ja2 (by first | exact Jag tb rfl rfl rfl rfl (by first | assumption | exact zr (by simp)) (i:=k) (by first | rfl | omega | (simp;omega)) (by omega) | exact Jal tb rfl rfl rfl rfl (i:=k) (by first | rfl | omega | (simp;omega)) (by omega)) rfl):B9:=h a
theorem J26 (a:A9) (h:A9→B9:=by exact Jfo (Jav (qs:=[(0,(Value.agg _).cells.toList)]) (out:=[_,_,_]) tb rfl rfl rfl rfl rfl rfl rfl) rfl):B9:=h a
theorem J35 (a:A9) (h:A9→B9:=by exact Ja2 (Jbx (qs:=[(0,(Value.int _ _).cells.toList),(1,(Value.int _ _).cells.toList),(2,(Value.int _ _).cells.toList)]) (out:=[_,_,_]) tb rfl rfl rfl rfl) rfl):B9:=h a
theorem J65 (a:A9) (h:A9→B9:=by exact Ja2 (Jaz tb ((⟨o14,l⟩:OwL Bool)) rfl rfl rfl (by repeat (first | apply OSeg.cons | exact OSeg.here | exact OSeg.last | exact OSeg.at (by assumption) | apply OSeg.app)) (by assumption) (fun _=>rfl) (by assumption) (by rfl)) rfl):B9:=h a
theorem J6z (a:A9) (h:A9→B9:=by exact Ja2 (Jak tb ((⟨o14,l⟩:OwL Bool)) _ rfl rfl ((show _=Value.slice _ _ _ from rfl).trans (by simp only [OwL.val,hll])) rfl (by assumption) (i:=a.to.toNat) (by first | rfl | omega | (simp;omega)) (by first | omega | (dsimp only;omega) | (dsimp only;rw [List.length_set];omega) | (dsimp only;simp only [List.length_set];omega))) rfl):B9:=h a
theorem J8w (a:A9) (h:A9→B9:=by exact Ja2 (by first | exact Jag tb rfl rfl rfl rfl (by first | assumption | exact zr (by simp)) (i:=a.to.toNat) (by first | rfl | omega | (simp;omega)) (by omega) | exact Jal tb rfl rfl rfl rfl (i:=a.to.toNat) (by first | rfl | omega | (simp;omega)) (by omega)) rfl):B9:=h a
end
theorem Jmf {m : XMine} {fl : List XSpan} : ∀ k, (Jfh m fl k).length ≤ 2 * k
  | 0=>Nat.le_refl _
  | k + 1=>by
    have:=Jmf (m:=m) (fl:=fl) k
    have h2:(Jgv m fl k).length≤2:=by unfold Jgv;(repeat' split) <;> simp
    rw [Jfh,List.length_append];omega
theorem J12 (m:XMine) (fl:Arr XSpan) (L:List Blk) (R:List Sl) (hm:MineR m R) (hfl:InR (Jl8 fl) R) (hv:Jbv m=0) (hn:fl.l.length=m.roads.l.length):
    Tri Tryz.prog 88 [m.val,fl.val].toArray L R (fun w L' R'=>∃p:OwL XArc,w=.tuple #[p.val,.bool true]∧p.ok 3 XArc.cells∧p.l=Jhe m fl.l∧p.L 153 XArc.cells ++ L=L'∧R=R'):=by
  have hmr:=hm.roads
  have hok:=Jd1 hv
  have hnr:=hok.roads
  refine Jae 62 Tryz.call88 Tryz.func88 rfl rfl rfl ?_
  refine Xai ?_
  intro b2
  refine qc4 ?_
  refine Xb2 ?_
  refine qbe ?_
  refine q_l rfl (Js2 m _ _ hm) ?_
  refine Xdx ?_
  apply Jbw (G:=[_,_,_,_,_,_]) (j:=3) (cj:=12) rfl rfl (by rfl) rfl (show _=Value.bool _ from rfl) rfl
  ·
   intro hg4
   replace hg4:=qb hg4
   refine Xat ?_
   refine Xab ?_
   refine qbq ?_
   exact qai
  intro junk4
  refine qaf ?_
  refine q_c (fun hc0=>?_) (fun hc0=>?_)
  ·
   (exfalso;rcases hc0 with h | h <;> omega)
  refine qbv ?_
  refine Xa4 ?_
  refine Xbz ?_
  refine Jai [(1,Value.slice _ _ _),(6,Value.slice _ _ _),(21,Value.slice _ _ _),(22,Value.int _ _),(23,Value.int _ _)] (by repeat' (first | exact trivial | refine And.intro rfl ?_)) fun tq0=>?_
  refine Jb0 [6,7,8,23,24,25,26,27,28,29,30,31,32,33,34,35,36,37,38,39,40,41,42,43,44,45,46,47,48,49,50,51,52,53,54,55,56,57,58,59,60] ((⟨fun g=>[(23,.int .i64 ((g.1.1:Nat):Int)),(6,g.1.2.val)],fun g=>g.1.2.L 153 XArc.cells ++ (⟨b2,m.cells,31⟩ :: L),fun _=>R,fun g=>m.roads.l.length - g.1.1⟩:Head {g:Nat×OwL XArc // g.1≤m.roads.l.length∧g.2.ok 3 XArc.cells∧g.2.l=Jfh m fl.l g.1})) (⟨(0,OwL.nil),by dsimp only;omega,OwL.nil_ok,rfl⟩) (by repeat' (first | exact trivial | refine And.intro rfl ?_)) (by dsimp only;rw [Jcl,List.nil_append];exact List.Sublist.refl _) (Jac _) ?_
  rintro ⟨⟨k,p⟩,w1,w2,w3⟩ junk
  try dsimp only
  dsimp only at w1 w2 w3
  have hpl:=Jmf (m:=m) (fl:=fl.l) k
  rw [← w3] at hpl
  refine Xay ?_
  refine q_c (fun hc1=>?_) (fun hc1=>?_)
  ·
   have hrg:=Jan (l:=m.roads.l) (k:=k) default (by omega)
   have hsg:=Jan (l:=fl.l) (k:=k) default (by omega)
   refine Xb3 ?_
   refine Jzl ?_
   refine Xda ?_
   intro b8
   refine qad ?_
   refine Xct ?_
   refine qaf ?_
   refine q_c (fun hc2=>?_) (fun hc2=>?_)
   ·
    refine Jb6 (Jbk (Ja6 (Jaa (Jaf ?_))))
    refine Xan ?_
    exact q_k ⟨(k + 1,p),by dsimp only;omega,w2,by dsimp only;rw [Jfh,w3,Jgv,if_pos hc2,List.append_nil]⟩
   refine qbo ?_
   refine Xad ?_
   refine Jzl ?_
   refine Xba ?_
   refine Xb9 ?_
   refine q_c (fun hc3=>?_) (fun hc3=>?_)
   ·
    refine Xby ?_
    refine Xa3 ?_
    refine J35 ?_
    refine J26 ?_
    rintro v L' R' ⟨b43,rfl,rfl,hR43⟩
    replace hR43:=hR43.symm;subst hR43
    refine Jfo (Jap (f:=XArc.cells) (a:=⟨(k:Int),(m.roads.l.getD k default).fr,(m.roads.l.getD k default).to⟩) tb rfl rfl rfl rfl (w2) (by repeat (first | apply OSeg.cons | exact OSeg.here | exact OSeg.last | exact OSeg.at (by assumption) | apply OSeg.app)) (Ja5 (by repeat (first | exact zi0 | apply zi1 | apply zi2)) rfl rfl) rfl (by first | omega | (simp only [List.length_cons,List.length_nil,List.length_append];omega))) rfl ?_
    rintro v L' R' ⟨o44,rfl,hok44,rfl,rfl⟩
    refine Xbn ?_
    refine Xad ?_
    refine Jzl ?_
    refine Xba ?_
    refine Xao ?_
    refine q_c (fun hc4=>?_) (fun hc4=>?_)
    ·
     refine Xby ?_
     refine Xa3 ?_
     refine J35 ?_
     refine J26 ?_
     rintro v L' R' ⟨b58,rfl,rfl,hR58⟩
     replace hR58:=hR58.symm;subst hR58
     refine Jfo (Jap (f:=XArc.cells) (a:=⟨(k:Int),(m.roads.l.getD k default).to,(m.roads.l.getD k default).fr⟩) tb rfl rfl rfl rfl (hok44) (by repeat (first | apply OSeg.cons | exact OSeg.here | exact OSeg.last | exact OSeg.at (by assumption) | apply OSeg.app)) (Ja5 (by repeat (first | exact zi0 | apply zi1 | apply zi2)) rfl rfl) rfl (by first | omega | (simp only [List.length_cons,List.length_nil,List.length_append];omega))) rfl ?_
     rintro v L' R' ⟨o59,rfl,hok59,rfl,rfl⟩
     refine Xdl ?_
     exact Jat ⟨(k + 1,(⟨o59,_⟩:OwL XArc)),by dsimp only;omega,hok59,by
     dsimp only
     rw [Jfh,w3,Jgv,if_neg (by rw [hc2];decide),if_pos hc4]
     first
       | rw [if_pos hc3,List.append_assoc]
       | rw [if_neg hc3];rfl⟩ (by repeat (first | exact Off.refl | apply Off.upd rfl | apply Off.havoc rfl | apply Off.updL rfl | apply Off.left rfl)) (by repeat' (first | exact trivial | refine And.intro rfl ?_)) (by repeat (first | exact zs0 _ | exact zs1 _ | apply zs2 | apply zs3 | apply zs4 | apply zs5)) (Jac _) (by dsimp only;omega)
    refine Xa6 ?_
    first
      | (have hz:=hok44;exact q_k ⟨(k + 1,(⟨o44,_⟩:OwL XArc)),by dsimp only;omega,hok44,by dsimp only;rw [Jfh,w3,Jgv,if_neg (by rw [hc2];decide),if_neg hc4,if_pos hc3];rfl⟩)
      | exact q_k ⟨(k + 1,p),by dsimp only;omega,w2,by dsimp only;rw [Jfh,w3,Jgv,if_neg (by rw [hc2];decide),if_neg hc4,if_neg hc3];simp⟩
   refine qbv ?_
   refine Xad ?_
   refine Jzl ?_
   refine Xba ?_
   refine Xao ?_
   refine q_c (fun hc4=>?_) (fun hc4=>?_)
   ·
    refine Xby ?_
    refine Xa3 ?_
    refine J35 ?_
    refine J26 ?_
    rintro v L' R' ⟨b58,rfl,rfl,hR58⟩
    replace hR58:=hR58.symm;subst hR58
    refine Jfo (Jap (f:=XArc.cells) (a:=⟨(k:Int),(m.roads.l.getD k default).to,(m.roads.l.getD k default).fr⟩) tb rfl rfl rfl rfl (w2) (by repeat (first | apply OSeg.cons | exact OSeg.here | exact OSeg.last | exact OSeg.at (by assumption) | apply OSeg.app)) (Ja5 (by repeat (first | exact zi0 | apply zi1 | apply zi2)) rfl rfl) rfl (by first | omega | (simp only [List.length_cons,List.length_nil,List.length_append];omega))) rfl ?_
    rintro v L' R' ⟨o59,rfl,hok59,rfl,rfl⟩
    refine Xdl ?_
    exact Jat ⟨(k + 1,(⟨o59,_⟩:OwL XArc)),by dsimp only;omega,hok59,by
    dsimp only
    rw [Jfh,w3,Jgv,if_neg (by rw [hc2];decide),if_pos hc4]
    first
      | rw [if_pos hc3,List.append_assoc]
      | rw [if_neg hc3];rfl⟩ (by repeat (first | exact Off.refl | apply Off.upd rfl | apply Off.havoc rfl | apply Off.updL rfl | apply Off.left rfl)) (by repeat' (first | exact trivial | refine And.intro rfl ?_)) (by repeat (first | exact zs0 _ | exact zs1 _ | apply zs2 | apply zs3 | apply zs4 | apply zs5)) (Jac _) (by dsimp only;omega)
   refine Xa6 ?_
   first
     | (have hz:=hok44;exact q_k ⟨(k + 1,(⟨o44,_⟩:OwL XArc)),by dsimp only;omega,hok44,by dsimp only;rw [Jfh,w3,Jgv,if_neg (by rw [hc2];decide),if_neg hc4,if_pos hc3];rfl⟩)
     | exact q_k ⟨(k + 1,p),by dsimp only;omega,w2,by dsimp only;rw [Jfh,w3,Jgv,if_neg (by rw [hc2];decide),if_neg hc4,if_neg hc3];simp⟩
  obtain rfl:k=m.roads.l.length:=by omega
  refine Xbp ?_
  refine qc4 ?_
  refine Xbb ?_
  refine q_r (L':=p.L 153 XArc.cells ++ L) (R':=R) (Jc8 rfl (Jah (show _=Value.slice _ _ _ from rfl)) (Jah (show _=Value.bool _ from rfl))) ?_
  exact ⟨p,rfl,w2,w3,rfl,rfl⟩
def Jqu (n:Nat) (l:List XArc):Prop:=∀a∈l,(0≤a.fr∧a.fr < n)∧0≤a.to∧a.to < n
theorem J03 {m:XMine} {fl:List XSpan} (hok:MineOk m):Jqu m.places.l.length (Jhe m fl):=fun a ha=>by
  obtain ⟨i,b,hi,_,rfl⟩:=Jis.1 ha
  have hr:=hok.road i _ (Jan (l:=m.roads.l) (k:=i) default hi)
  have h1:=hr.fr
  have h2:=hr.to
  cases b with
  | false=>exact ⟨h1,h2⟩
  | true=>exact ⟨h2,h1⟩
theorem J9c {m:XMine} {l:List XArc} {w:Int} {a:XArc} (ha:a∈l) (h1:a.road≠w) (h2:0≤a.fr) (h3:0≤a.to) (h4:(m.places.l.getD a.to.toNat default).surface=false):Wy m l w a.fr.toNat a.to.toNat:=⟨a,ha,h1,by omega,by omega,h4⟩
theorem Jyi (m:XMine) (ar:Arr XArc) (seen:Arr Bool) (w:Int) (L:List Blk) (R:List Sl) (hm:MineR m R) (har:InR (J4m ar) R) (hs:InR (J2v seen) R) (hin:Jqu m.places.l.length ar.l) (hl:seen.l.length=m.places.l.length) (hnp:m.places.l.length≤64) (hnl:ar.l.length≤1000):
    Tri Tryz.prog 110 [m.val,ar.val,seen.val,.int .i64 w].toArray L R (fun v L' R'=>∃p:OwL Bool,v=p.val∧p.ok 1 blc∧SprIs m ar.l w seen.l p.l∧p.L 4 blc ++ L=L'∧R=R'):=by
  have hmp:=hm.places
  refine Jae 57 Tryz.call110 Tryz.func110 rfl rfl rfl ?_
  refine Xai ?_
  intro b4
  refine Xbn ?_
  refine qbm ?_
  refine Jfo (Jcx (f:=blc) (xs:=seen) tb rfl rfl rfl (by decide) rfl rfl (hs) (fun _=>rfl) (by omega)) rfl ?_
  rintro v L' R' ⟨o14,rfl,hok14,rfl,rfl⟩
  refine Xa4 ?_
  refine qaz ?_
  refine qa2 ?_
  refine Jai [(1,Value.slice _ _ _),(3,Value.int _ _),(4,Value.pointer _),(9,Value.slice _ _ _),(10,Value.bool _)] (by repeat' (first | exact trivial | refine And.intro rfl ?_)) fun tq0=>?_
  refine q_p [10,12,15,16,17,18,19,20,21,22,23,24,25,26,27,28,29,30,31,32,33,34,35,36,37,38,39,40,41,42,43,44,45,46,47,48,49,50,51,52,53,54,55] ((⟨fun q=>[(10,.bool q.1.1)],fun q=>(⟨o14,q.1.2⟩:OwL Bool).L 4 blc ++ (⟨b4,m.cells,31⟩ :: L),fun _=>R,fun q=>Jda q.1.2 * 2 + (if q.1.1=true then 1 else 0)⟩:Head {q:Bool×List Bool // (⟨o14,q.2⟩:OwL Bool).ok 1 blc∧SprTo m ar.l w seen.l q.2∧(q.1=false→∀a∈ar.l,a.road≠w→(m.places.l.getD a.to.toNat default).surface=false→q.2.getD a.fr.toNat false=true→q.2.getD a.to.toNat false=true)})) (⟨(true,seen.l),hok14,SprTo.init,fun h=>by cases h⟩) ?_
  rintro ⟨⟨again,l0⟩,q1,q2,q3⟩ junk
  try dsimp only
  dsimp only at q1 q2 q3
  refine qbi ?_
  refine Xdi ?_
  refine q_c (fun hc0=>?_) (fun hc0=>?_)
  ·
   refine Ja3 (Jaa (Ja1 (Jam (Jaf ?_))))
   refine Xbr ?_
   refine Xdj ?_
   refine Jb8 [10,12,15,16,17,18,19,20,21,22,23,24,25,26,27,28,29,30,31,32,33,34,35,36,37,38,39,40,41,42,43,44,45,46,47,48,49,50,51,52,53,54,55] (by repeat (first | apply Off.upd rfl | apply Off.havoc rfl | refine Off.updL (t':=havoc _ _ _) rfl ?_ | exact Off.refl)) [(10,Value.bool _),(16,Value.slice _ _ _),(17,Value.int _ _),(18,Value.int _ _)] (by repeat' (first | exact trivial | refine And.intro rfl ?_)) fun tq1=>?_
   refine q_p [10,12,18,19,20,21,22,23,24,25,26,27,28,29,30,31,32,33,34,35,36,37,38,39,40,41,42,43,44,45,46,47,48,49,50,51,52,53,54,55] ((⟨fun q=>[(18,.int .i64 ((q.1.1:Nat):Int)),(10,.bool q.1.2.1)],fun q=>(⟨o14,q.1.2.2⟩:OwL Bool).L 4 blc ++ (⟨b4,m.cells,31⟩ :: L),fun _=>R,fun q=>ar.l.length - q.1.1⟩:Head {q:Nat×Bool×List Bool // q.1≤ar.l.length∧(⟨o14,q.2.2⟩:OwL Bool).ok 1 blc∧SprTo m ar.l w seen.l q.2.2∧(q.2.1=true→Jda q.2.2 < Jda l0)∧(q.2.1=false→q.2.2=l0∧∀(j:Nat) (a:XArc),j < q.1→ar.l[j]?=some a→a.road≠w→(m.places.l.getD a.to.toNat default).surface=false→l0.getD a.fr.toNat false=true→l0.getD a.to.toNat false=true)})) (⟨(0,false,l0),by dsimp only;omega,q1,q2,(fun h=>by cases h),fun _=>⟨rfl,fun j r hj=>by omega⟩⟩) ?_
   rintro ⟨⟨i,ch,l⟩,w1,w2,w3,w4,w5⟩ junk
   try dsimp only
   dsimp only at w1 w2 w3 w4 w5
   have hll:=w3.len
   refine Xay ?_
   refine q_c (fun hc1=>?_) (fun hc1=>?_)
   ·
    have hr0:=Jan (l:=ar.l) (k:=i) default (by omega)
    obtain ⟨a,haa⟩:∃a,a=ar.l.getD i default:=⟨_,rfl⟩
    rw [← haa] at hr0
    have hmem:=List.mem_of_getElem? hr0
    have hai:=hin a hmem
    have hgf:=Jan (l:=l) (k:=a.fr.toNat) false (by omega)
    have hgt:=Jan (l:=l) (k:=a.to.toNat) false (by omega)
    have hgp:=Jan (l:=m.places.l) (k:=a.to.toNat) default (by omega)
    refine qbb ?_
    refine Ja2 (by first | exact Jag tb rfl rfl rfl rfl (by first | assumption | exact zr (by simp)) (i:=i) (by first | rfl | omega | (simp;omega)) (by omega) | exact Jal tb rfl rfl rfl rfl (i:=i) (by first | rfl | omega | (simp;omega)) (by omega)) rfl ?_
    refine qdk ?_
    refine qaq ?_
    intro b12
    refine Xbf ?_
    refine Xak ?_
    refine Xcp ?_
    apply Jcd (G:=[_,_,_,_,_]) (j:=4) (cj:=26) rfl rfl (by rfl) rfl (show _=Value.bool _ from rfl) rfl
    ·
     intro hg5
     replace hg5:=qb hg5
     refine Xcw ?_
     refine Ja2 (Jak tb ((⟨o14,l⟩:OwL Bool)) _ rfl rfl ((show _=Value.slice _ _ _ from rfl).trans (by simp only [OwL.val,hll])) rfl (by assumption) (i:=a.fr.toNat) (by first | rfl | omega | (simp;omega)) (by first | omega | (dsimp only;omega) | (dsimp only;rw [List.length_set];omega) | (dsimp only;simp only [List.length_set];omega))) rfl ?_
     refine J65 ?_
     exact qai
    intro junk5
    refine qah ?_
    apply Jcd (G:=[_,_,_,_,_,_]) (j:=11) (cj:=33) rfl rfl (by rfl) rfl (show _=Value.bool _ from rfl) rfl
    ·
     intro hg12
     replace hg12:=qb hg12
     refine Xcw ?_
     refine J6z ?_
     refine J65 ?_
     refine qb4 ?_
     exact qai
    intro junk12
    refine qah ?_
    apply Jcd (G:=[_,_,_,_,_,_,_,_]) (j:=19) (cj:=41) rfl rfl (by rfl) rfl (show _=Value.bool _ from rfl) rfl
    ·
     intro hg20
     replace hg20:=qb hg20
     refine Xa3 ?_
     refine J8w ?_
     refine Xba ?_
     refine qb4 ?_
     exact qai
    intro junk20
    refine qaf ?_
    refine q_c (fun hc2=>?_) (fun hc2=>?_)
    ·
     refine qay ?_
     refine Xcw ?_
     refine J6z ?_
     refine Jfa (Jas tb ((⟨o14,l⟩:OwL Bool)) (true) rfl rfl rfl rfl (by repeat (first | apply OSeg.cons | exact OSeg.here | exact OSeg.last | exact OSeg.at (by assumption) | apply OSeg.app)) (by assumption) (fun _=>rfl) (by assumption) (by decide) (by rfl) (by rfl)) ?_
     rintro v L' R' ⟨rfl,rfl⟩
     refine qaz ?_
     refine Xbj ?_
     have hf:l.getD a.to.toNat false=false:=hc2.1.2
     have hlt:=Jjc (l:=l) (i:=a.to.toNat) (by omega) hf
     have hle:Jda l≤Jda l0:=by
       cases ch with
       | true=>have:=w4 rfl;omega
       | false=>rw [(w5 rfl).1];exact Nat.le_refl _
     exact q_k ⟨(i + 1,true,l.set a.to.toNat true),by dsimp only;omega,OwL.len_ok Jdk w2 (by simp),w3.next (J9c hmem hc2.1.1.1 hai.1.1 hai.2.1 hc2.2) hc2.1.1.2 (by omega),fun _=>by dsimp only;omega,fun h=>by cases h⟩
    refine Xa6 ?_
    exact Jat ⟨(i + 1,ch,l),by dsimp only;omega,w2,w3,w4,fun h=>⟨(w5 h).1,fun j r2 hj hj2 g1 g2 g3=>by
      rcases Nat.lt_or_ge j i with h1 | h1
      · exact (w5 h).2 j r2 h1 hj2 g1 g2 g3
      · obtain rfl : j = i := by omega
        rw [hr0] at hj2
        cases hj2
        cases hz:l0.getD a.to.toNat false with
        | true=>rfl
        | false=>
          exfalso
          rw [← (w5 h).1] at g3 hz
          rcases hc2 with ((h1 | h1) | h1) | h1 <;> first | exact h1 g1 | (rw [g3] at h1;cases h1) | (rw [hz] at h1;cases h1) | (rw [g2] at h1;cases h1)⟩⟩ (by repeat (first | exact Off.refl | apply Off.upd rfl | apply Off.havoc rfl | apply Off.updL rfl | apply Off.left rfl)) (by repeat' (first | exact trivial | refine And.intro rfl ?_)) (by repeat (first | exact zs0 _ | exact zs1 _ | apply zs2 | apply zs3 | apply zs4 | apply zs5)) (Jac _) (by dsimp only;omega)
   obtain rfl:i=ar.l.length:=by omega
   have hmeas:Jda l * 2 + (if ch=true then 1 else 0) < Jda l0 * 2 + (if again=true then 1 else 0):=by
     rw [if_pos hc0]
     cases ch with
     | true=>have:=w4 rfl;simp;omega
     | false=>rw [(w5 rfl).1];simp
   refine Jb6 (Jbk (Jcf (Ja6 (Jao ?_))))
   exact Jat ⟨(ch,l),w2,w3,fun h a ha g1 g2 g3=>by obtain ⟨j,hj⟩:=List.mem_iff_getElem?.1 ha;rw [(w5 h).1] at g3 ⊢;exact (w5 h).2 j a (List.getElem?_eq_some_iff.1 hj).1 hj g1 g2 g3⟩ (by repeat (first | exact Off.refl | apply Off.upd rfl | apply Off.havoc rfl | apply Off.updL rfl | apply Off.left rfl)) (by repeat' (first | exact trivial | refine And.intro rfl ?_)) (by repeat (first | exact zs0 _ | exact zs1 _ | apply zs2 | apply zs3 | apply zs4 | apply zs5)) (Jac _) hmeas
  have hll:=q2.len
  refine Xb5 ?_
  refine q_r (L':=(⟨o14,l0⟩:OwL Bool).L 4 blc ++ L) (R':=R) (Jdi rfl (Jah (show _=Value.slice _ _ _ from rfl))) ?_
  exact ⟨⟨o14,l0⟩,by simp only [OwL.val,hll],q1,q2.done (fun u v hw hu=>by
  obtain ⟨a,ha,h1,h2,h3,h4⟩:=hw
  have:=q3 (by simpa using hc0) a ha h1 (by rw [h3,Int.toNat_natCast];exact h4) (by rw [h2,Int.toNat_natCast];exact hu)
  rw [h3,Int.toNat_natCast] at this
  exact this),rfl,rfl⟩
theorem Juf {m:XMine} {ar:Arr XArc} {p:OwL Bool} {w:Int} {A:List Blk} {R:List Sl} (hB:InB (p.L 4 blc) A) (hk:p.ok 1 blc) (hm:MineR m R) (har:InR (J4m ar) R) (hin:Jqu m.places.l.length ar.l) (hl:p.l.length=m.places.l.length) (hnp:m.places.l.length≤64) (hnl:ar.l.length≤1000):
    Tri Tryz.prog 110 [m.val,ar.val,p.val,.int .i64 w].toArray A R (fun v L' R'=>∃q:OwL Bool,v=q.val∧q.ok 1 blc∧SprIs m ar.l w p.l q.l∧A ++ q.L 4 blc=L'∧R=R'):=by
  have h:=Jyi m ar p.arr w [] ([J2v p.arr] ++ R) ⟨hm.places.mono fun r h=>Jab (.tail _ h),hm.roads.mono fun r h=>Jab (.tail _ h)⟩ (har.mono fun r h=>Jab (.tail _ h)) (Jab (.head _)) hin hl hnp hnl
  have h2:=Tri.lend (S:=[J2v p.arr]) (Post:=fun v L'=>∃q:OwL Bool,v=q.val∧q.ok 1 blc∧SprIs m ar.l w p.l q.l∧q.L 4 blc ++ []=L') (Spl.rest (L:=A)) (fun w G hh s hs=>by
    rw [List.mem_singleton.1 hs]
    exact Jc3 hh hB hk Jdk (by decide) (fun s hs=>by cases hs)) (h.mono fun v L' R' ⟨q,a1,a2,a3,a4,a5⟩=>⟨⟨q,a1,a2,a3,a4⟩,a5⟩)
  exact h2.mono fun v L'' R' ⟨L',e,⟨q,a1,a2,a3,a4⟩,a5⟩=>⟨q,a1,a2,a3,by rw [← a4,List.append_nil] at e;exact e,a5⟩
theorem Jvt (m:XMine) (ar:Arr XArc) (L:List Blk) (R:List Sl) (hm:MineR m R) (har:InR (J4m ar) R) (hin:Jqu m.places.l.length ar.l) (hnp:m.places.l.length≤64) (hnl:ar.l.length≤1000):
    Tri Tryz.prog 89 [m.val,ar.val].toArray L R (fun v L' R'=>∃p:OwL XArc,v=p.val∧p.ok 3 XArc.cells∧OnTo m ar.l ar.l.length p.l∧p.L 153 XArc.cells ++ L=L'∧R=R'):=by
  have hmp:=hm.places
  refine Jae 55 Tryz.call89 Tryz.func89 rfl rfl rfl ?_
  refine Xai ?_
  intro b2
  refine Xbn ?_
  refine Xa4 ?_
  refine Xdj ?_
  refine Jai [(1,Value.slice _ _ _),(2,Value.pointer _),(5,Value.slice _ _ _),(9,Value.slice _ _ _),(10,Value.int _ _),(11,Value.int _ _)] (by repeat' (first | exact trivial | refine And.intro rfl ?_)) fun tq0=>?_
  refine Jb0 [5,7,8,11,12,13,14,15,16,17,18,19,20,21,22,23,24,25,26,27,28,29,30,31,32,33,34,35,36,37,38,39,40,41,42,43,44,45,46,47,48,49,50,51,52,53] ((⟨fun g=>[(11,.int .i64 ((g.1.1:Nat):Int)),(5,g.1.2.val)],fun g=>g.1.2.L 153 XArc.cells ++ (⟨b2,m.cells,31⟩ :: L),fun _=>R,fun g=>ar.l.length - g.1.1⟩:Head {g:Nat×OwL XArc // g.1≤ar.l.length∧g.2.ok 3 XArc.cells∧OnTo m ar.l g.1 g.2.l})) (⟨(0,OwL.nil),by dsimp only;omega,OwL.nil_ok,OnTo.zero⟩) (by repeat' (first | exact trivial | refine And.intro rfl ?_)) (by dsimp only;rw [Jcl,List.nil_append];exact List.Sublist.refl _) (Jac _) ?_
  rintro ⟨⟨k,p⟩,w1,w2,w3⟩ junk
  try dsimp only
  dsimp only at w1 w2 w3
  have hpl:=w3.sub.length_le
  rw [List.length_take] at hpl
  refine Xay ?_
  refine q_c (fun hc0=>?_) (fun hc0=>?_)
  ·
   have hr0:=Jan (l:=ar.l) (k:=k) default (by omega)
   obtain ⟨a,haa⟩:∃a,a=ar.l.getD k default:=⟨_,rfl⟩
   rw [← haa] at hr0
   have hai:=hin a (List.mem_of_getElem? hr0)
   have hgf:=Jan (l:=m.places.l) (k:=a.fr.toNat) default (by omega)
   have hgt:=Jan (l:=m.places.l) (k:=a.to.toNat) default (by omega)
   refine qbb ?_
   refine Jzl ?_
   refine qdk ?_
   refine qaq ?_
   intro b7
   refine Xbm ?_
   refine Xa3 ?_
   refine Ja2 (by first | exact Jag tb rfl rfl rfl rfl (by first | assumption | exact zr (by simp)) (i:=a.fr.toNat) (by first | rfl | omega | (simp;omega)) (by omega) | exact Jal tb rfl rfl rfl rfl (i:=a.fr.toNat) (by first | rfl | omega | (simp;omega)) (by omega)) rfl ?_
   refine Xba ?_
   refine qah ?_
   apply Jbw (G:=[_,_,_,_,_,_,_]) (j:=7) (cj:=22) rfl rfl (by rfl) rfl (show _=Value.bool _ from rfl) rfl
   ·
    intro hg8
    replace hg8:=qb hg8
    refine Xa3 ?_
    refine J8w ?_
    refine Xba ?_
    exact qai
   intro junk8
   refine qaf ?_
   refine q_c (fun hc1=>?_) (fun hc1=>?_)
   ·
    refine Jb6 (Jbk (Ja6 (Jaa (Jaf ?_))))
    refine Xan ?_
    exact q_k ⟨(k + 1,p),by dsimp only;omega,w2,w3.no hr0 (fun h=>by rcases hc1 with e | e;exact absurd (h.1.symm.trans e) (by decide);exact absurd (h.2.1.symm.trans e) (by decide))⟩
   have hs1:(m.places.l.getD a.fr.toNat default).surface=false:=by cases e:(m.places.l.getD a.fr.toNat default).surface <;> simp_all
   have hs2:(m.places.l.getD a.to.toNat default).surface=false:=by cases e:(m.places.l.getD a.to.toNat default).surface <;> simp_all
   refine qbv ?_
   refine Xab ?_
   refine qc7 ?_
   rintro v L' R' ⟨b34,rfl,rfl,hR34⟩
   replace hR34:=hR34.symm;subst hR34
   refine qc4 ?_
   refine qa4 ?_
   refine Jg5 (Jf1 (f:=blc) (x:=false) rfl _) ?_
   obtain ⟨l0,hl0⟩:∃l0,l0=List.replicate m.places.l.length false:=⟨_,rfl⟩
   have hl0n:l0.length=m.places.l.length:=by rw [hl0];simp
   have hQ1:(⟨.own b34 m.places.l.length [],l0⟩:OwL Bool).ok 1 blc:=by rw [hl0];exact Jen Jdk (by simp only [maxLen];omega)
   have hQ2:=Jan (l:=l0) (k:=a.to.toNat) false (by omega)
   have hS1:(⟨.own b34 m.places.l.length [],Jqr m.places.l.length a.to.toNat⟩:OwL Bool).ok 1 blc:=OwL.len_ok Jdk hQ1 (by simp [Jqr,hl0n])
   refine Jg5 (show _=(⟨.own b34 m.places.l.length [],l0⟩:OwL Bool).L 4 blc ++ _ by rw [hl0]) ?_
   have hSl:(⟨.own b34 m.places.l.length [],Jqr m.places.l.length a.to.toNat⟩:OwL Bool).l.length=m.places.l.length:=by simp [Jqr]
   refine qay ?_
   refine Xcw ?_
   refine Ja2 (Jak tb ((⟨.own b34 m.places.l.length [],l0⟩:OwL Bool)) _ rfl rfl ((show _=Value.slice _ _ _ from rfl).trans (Jed hl0n)) rfl (by assumption) (i:=a.to.toNat) (by first | rfl | omega | (simp;omega)) (by first | omega | (dsimp only;omega) | (dsimp only;rw [List.length_set];omega) | (dsimp only;simp only [List.length_set];omega))) rfl ?_
   refine Jfa (Jas tb ((⟨.own b34 m.places.l.length [],l0⟩:OwL Bool)) (true) rfl rfl rfl rfl (by repeat (first | apply OSeg.cons | exact OSeg.here | exact OSeg.last | exact OSeg.at (by assumption) | apply OSeg.app)) (by assumption) (fun _=>rfl) (by assumption) (by decide) (by rfl) (by rfl)) ?_
   rintro v L' R' ⟨rfl,rfl⟩
   refine qa4 ?_
   refine Jg5 (show _=(⟨.own b34 m.places.l.length [],Jqr m.places.l.length a.to.toNat⟩:OwL Bool).L 4 blc ++ _ by rw [hl0];rfl) ?_
   refine Jr3 tb [] [0,1,2,3,4,6,7,5,8,9] [] ([Blk.mk b7 _ _,Blk.mk b2 _ _]) [] 10 Jbn (by kernel_rfl) rfl rfl (by repeat (first | exact zs0 _ | exact zs1 _ | apply zs2 | apply zs3 | apply zs4 | apply zs5)) fun hT8=>?_
   refine Jkc 0 hT8 (List.nil_sublist _) (by kernel_rfl) rfl rfl rfl rfl rfl (Jbh (row:=[_,_]) tb rfl rfl rfl (by repeat (first | exact zi0 | apply zi1 | apply zi2)) (by rfl) (by rfl)) ?_
   refine Jkc 1 hT8 (List.nil_sublist _) (by kernel_rfl) rfl rfl rfl rfl rfl (Jar (show _=Value.slice _ _ _ from rfl)) ?_
   refine Jkc 2 hT8 (List.nil_sublist _) (by kernel_rfl) rfl rfl rfl rfl rfl (Jar (show _=Value.slice _ _ _ from rfl)) ?_
   refine Jkc 3 hT8 (List.nil_sublist _) (by kernel_rfl) rfl rfl rfl rfl rfl (Jcq tb rfl rfl rfl) ?_
   refine Jkc 4 hT8 (List.nil_sublist _) (by kernel_rfl) rfl rfl rfl rfl rfl (Jbo tb rfl rfl rfl (by repeat (first | exact zi0 | apply zi1 | apply zi2)) (by rfl)) ?_
   refine Jkc 6 hT8 (List.nil_sublist _) (by kernel_rfl) rfl rfl rfl rfl rfl (Jcq tb rfl rfl rfl) ?_
   refine Jkc 7 hT8 (List.nil_sublist _) (by kernel_rfl) rfl rfl rfl rfl rfl (Jbo tb rfl rfl rfl (by repeat (first | exact zi0 | apply zi1 | apply zi2)) (by rfl)) ?_
   refine Jbq [5] hT8 (List.nil_sublist _) (by kernel_rfl) ?_
   refine qca ?_
   refine Jd0 rfl (Jnv rfl (Tri.cast (Juf (A:=(⟨.own b34 m.places.l.length [],Jqr m.places.l.length a.to.toNat⟩:OwL Bool).L 4 blc ++ _) (p:=(⟨.own b34 m.places.l.length [],Jqr m.places.l.length a.to.toNat⟩:OwL Bool)) (w:=a.road) (by repeat (first | exact Jaw | apply Jau | apply Jba)) hS1 hm har hin hSl hnp hnl) (by show #[_,_,Value.slice _ (List.length _) _,_]=_;rw [hSl];rfl))) rfl rfl ?_
   rintro v L' R' ⟨q,rfl,hqk,hqS,rfl,rfl⟩
   simp only [List.append_assoc,List.cons_append,List.nil_append]
   refine qas ?_
   have hql:=hqS.len
   rw [hSl] at hql
   have hqg:=Jan (l:=q.l) (k:=a.fr.toNat) false (by omega)
   have hqi:=J05 hqS (show a.to.toNat < m.places.l.length by omega) (show a.fr.toNat < m.places.l.length by omega)
   refine Jkc 8 hT8 (List.nil_sublist _) (by kernel_rfl) rfl rfl rfl rfl rfl (Jak tb (q) _ rfl rfl rfl rfl (by assumption) (i:=a.fr.toNat) (by first | rfl | omega | (simp;omega)) (by first | omega | (dsimp only;omega) | (dsimp only;rw [List.length_set];omega) | (dsimp only;simp only [List.length_set];omega))) ?_
   refine Jbq [9] hT8 (List.nil_sublist _) (by kernel_rfl) ?_
   refine qca ?_
   refine Jd0 rfl (Go.Proofs.YtihompplndcdeaaGreat.YV.gives2 (Jaz tb (q) rfl rfl rfl (by repeat (first | apply OSeg.cons | exact OSeg.here | exact OSeg.last | exact OSeg.at (by assumption) | apply OSeg.app)) (by assumption) (fun _=>rfl) (by assumption) (by rfl))) rfl rfl ?_
   rintro v L' R' ⟨rfl,rfl,rfl⟩
   refine qa1 ?_
   refine Jfn hT8 (List.nil_sublist _) (by kernel_rfl) rfl ?_
   refine qbu ?_
   refine q_c (fun hc2=>?_) (fun hc2=>?_)
   ·
    refine qay ?_
    refine qbm ?_
    refine Ja2 (Jbh (row:=[_,_,_]) tb rfl rfl rfl (by repeat (first | exact zi0 | apply zi1 | apply zi2)) (by rfl) (by rfl)) rfl ?_
    refine J26 ?_
    rintro v L' R' ⟨b51,rfl,rfl,hR51⟩
    replace hR51:=hR51.symm;subst hR51
    refine Jfo (Jap (f:=XArc.cells) (p:=p) (a:=a) tb rfl rfl rfl rfl (w2) (by repeat (first | apply OSeg.cons | exact OSeg.here | exact OSeg.last | exact OSeg.at (by assumption) | apply OSeg.app)) (Ja5 (by repeat (first | exact zi0 | apply zi1 | apply zi2)) rfl rfl) rfl (by first | omega | (simp only [List.length_cons,List.length_nil,List.length_append];omega))) rfl ?_
    rintro v L' R' ⟨o52,rfl,hok52,rfl,rfl⟩
    refine Xdl ?_
    exact Jat ⟨(k + 1,(⟨o52,_⟩:OwL XArc)),by dsimp only;omega,hok52,w3.yes hr0 ⟨hs1,hs2,hqi.1 hc2⟩⟩ (by repeat (first | exact Off.refl | apply Off.upd rfl | apply Off.havoc rfl | apply Off.updL rfl | apply Off.left rfl)) (by repeat' (first | exact trivial | refine And.intro rfl ?_)) (by repeat (first | exact zs0 _ | exact zs1 _ | exact List.sublist_append_left _ _ | apply zs2 | apply zs3 | apply zs4 | apply zs5)) (Jac _) (by dsimp only;omega)
   refine Xa6 ?_
   exact Jat ⟨(k + 1,p),by dsimp only;omega,w2,w3.no hr0 (fun h=>by rw [hqi.2 h.2.2] at hc2;cases hc2)⟩ (by repeat (first | exact Off.refl | apply Off.upd rfl | apply Off.havoc rfl | apply Off.updL rfl | apply Off.left rfl)) (by repeat' (first | exact trivial | refine And.intro rfl ?_)) (by repeat (first | exact zs0 _ | exact zs1 _ | exact List.sublist_append_left _ _ | apply zs2 | apply zs3 | apply zs4 | apply zs5)) (Jac _) (by dsimp only;omega)
  obtain rfl:k=ar.l.length:=by omega
  refine Xb5 ?_
  refine q_r (L':=p.L 153 XArc.cells ++ L) (R':=R) (Jdi rfl (Jah (show _=Value.slice _ _ _ from rfl))) ?_
  exact ⟨p,rfl,w2,w3,rfl,rfl⟩
end Go.Proofs.YtihompplndcdeaaGreat
