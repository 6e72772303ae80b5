/-
  Merged texts. By an AI agent.
-/
import Derived.Test.YtchfclmokpbldaaGreatCircS
import Derived.Test.YtchfclmokpbldaaGreatCflowR
import Derived.Test.YtchfclmokpbldaaGreatSiteD
set_option linter.all false
set_option maxHeartbeats 4000000
set_option maxRecDepth 20000
namespace Go.Proofs.YtchfclmokpbldaaGreat
open Go.Aw Go
section
attribute [local irreducible] CJ LJ DJ Tri YV Gives Uq J2 Kj Ut RV J3 OwL.L
section
variable {A B:Prop}
def Uue(h:A→B:=by exact Jw zD rfl):=h
def Yqe(h:A→B:=by exact Za zyb rfl):=h
def Ycf(h:A→B:=by exact Jw zbc rfl):=h
def Zvf(h:A→B:=by exact Jw (J4 tb ((⟨o14,l⟩:OwL Bool)) rfl rfl rfl zj zg yf zg zb) rfl):=h
def Jfg(h:A→B:=by exact Jw (Jo tb ((⟨o14,l⟩:OwL Bool)) _ rfl rfl ((show _=Value.slice _ _ _ from rfl).trans (by simp only [OwL.val,hll])) rfl zg (i:=a.to.toNat) zk zp) rfl):=h
def Z2f(h:A→B:=by exact Jw (by first | exact Jd tb rfl rfl rfl rfl zu (i:=a.to.toNat) zk za | exact Jl tb rfl rfl rfl rfl (i:=a.to.toNat) zk za) rfl):=h
end
def Zna {m : XMine} {fl : List XSpan} : ∀ k, (Una m fl k).length ≤ 2 * k
 | 0=>ym _
 | k + 1=>by
  have:=Zna (m:=m) (fl:=fl) k
  have h2:(Uua m fl k).length≤2:=by unfold Uua;(repeat' split) <;> simp
  rw [Una,yl];omega
def Y6d (m:XMine) (fl:Arr XSpan) (L:LB) (R:LS) (hm:MineR m R) (hfl:InR (Jkc fl) R) (hv:Ul m=0) (hn:fl.l.length=m.roads.l.length):
 Tri Tryz.prog 118 [m.val,fl.val].toArray L R (fun w U J=>∃p:OwL XArc,w=.tuple #[p.val,.bool true]∧p.ok 3 XArc.cells∧p.l=Yse m fl.l∧p.L 234 XArc.cells ++ L=U∧R=J):=by
 have hmr:=hm.roads;have hok:=U6a hv;have hnr:=hok.roads;refine Je 62 Tryz.call118 Tryz.func118 rfl rfl rfl ?_;apply (Xaf);intro b2;apply qc4∘qaz∘qaw∘qbe;refine q_l rfl (Zqc m _ _ hm) ?_;apply (Xcm);apply Kf (G:=[_,_,_,_,_,_]) (j:=3) (cj:=12) rfl rfl zb rfl zmb rfl;·intro hg4;replace hg4:=qb hg4;exact (Xap∘Xab) zvd
 intro junk4;apply (qaf);refine q_c ?_ ?_<;>intro hc0;·(exfalso;rcases hc0 with h | h <;> omega)
 apply qbv∘Xb5∘Xay;refine Jm [(1,.slice _ _ _),(6,.slice _ _ _),(21,.slice _ _ _),(22,.int _ _),(23,.int _ _)] zh fun tq0=>?_;refine Up ([6,7,8]++rg 23 38) ((⟨fun g=>[(23,.int .i64 ((g.1.1:Nat):Int)),(6,g.1.2.val)],fun g=>g.1.2.L 234 XArc.cells ++ (⟨b2,m.cells,28⟩ :: L),fun _=>R,fun g=>m.roads.l.length - g.1.1⟩:Head {g:Nat×OwL XArc // g.1≤m.roads.l.length∧g.2.ok 3 XArc.cells∧g.2.l=Una m fl.l g.1})) (⟨(0,OwL.nil),by dsimp only;omega,OwL.nil_ok,rfl⟩) zh zW zAb ?_;rintro ⟨⟨k,p⟩,w1,w2,w3⟩ junk;try dsimp only
 dsimp only at w1 w2 w3;have hpl:=Zna (m:=m) (fl:=fl.l) k;rw [← w3] at hpl;apply (Xaj);refine q_c ?_ ?_<;>intro hc1;·
  have hrg:=Jp (l:=m.roads.l) (k:=k) default za;have hsg:=Jp (l:=fl.l) (k:=k) default za;apply Xa1∘Uue∘qc8∘qaq;intro b8;apply qad∘Xa9∘Xaa∘qaf;refine q_c ?_ ?_<;>intro hc2;·refine K9 (Km (J6 (Jb (Jg ?_))));apply (Xad);exact q_k ⟨(k + 1,p),by dsimp only;omega,w2,by dsimp only;rw [Una,w3,Uua,if_pos hc2,yaa]⟩
  apply qbo∘Xaq∘Uue∘Xbc∘Xb6;refine q_c ?_ ?_<;>intro hc3;·
   apply Xb3∘Xa0∘Ycf∘Yqe;rintro v U J ⟨b43,rfl,rfl,hR43⟩;replace hR43:=hR43.symm;subst hR43;refine Za (Jy (f:=XArc.cells) (a:=⟨(k:Int),(m.roads.l.getD k default).fr,(m.roads.l.getD k default).to⟩) tb rfl rfl rfl rfl (w2) zj zwb rfl zy) rfl ?_;rintro v U J ⟨o44,rfl,hok44,rfl,rfl⟩;apply Xb8∘Xaq∘Uue∘Xbc∘Xbd;refine q_c ?_ ?_<;>intro hc4;·apply Xb3∘Xa0∘Ycf∘Yqe;rintro v U J ⟨b58,rfl,rfl,hR58⟩;replace hR58:=hR58.symm;subst hR58;refine Za (Jy (f:=XArc.cells) (a:=⟨(k:Int),(m.roads.l.getD k default).to,(m.roads.l.getD k default).fr⟩) tb rfl rfl rfl rfl (hok44) zj zwb rfl zy) rfl ?_;exact uaD
   exact uat
  apply qbv∘Xaq∘Uue∘Xbc∘Xbd;refine q_c ?_ ?_<;>intro hc4;·apply Xb3∘Xa0∘Ycf∘Yqe;rintro v U J ⟨b58,rfl,rfl,hR58⟩;replace hR58:=hR58.symm;subst hR58;refine Za (Jy (f:=XArc.cells) (a:=⟨(k:Int),(m.roads.l.getD k default).to,(m.roads.l.getD k default).fr⟩) tb rfl rfl rfl rfl (w2) zj zwb rfl zy) rfl ?_;exact uaD
  exact uat
 obtain rfl:k=m.roads.l.length:=by omega
 apply Xch∘qc4∘Xbs;refine q_r (p.L 234 XArc.cells ++ L) R (U3 rfl zRc zTc) ?_;exact ⟨p,rfl,w2,w3,rfl,rfl⟩
def Vfb (n:Nat) (l:List XArc):Prop:=∀a∈l,(0≤a.fr∧a.fr < n)∧0≤a.to∧a.to < n
def Jdd {m:XMine} {fl:List XSpan} (hok:MineOk m):Vfb m.places.l.length (Yse m fl):=fun a ha=>by
 obtain ⟨i,b,hi,_,rfl⟩:=Vfe.1 ha
 have hr:=hok.road i _ (Jp (l:=m.roads.l) (k:=i) default hi)
 have h1:=hr.fr
 have h2:=hr.to
 cases b with
 | false=>exact ⟨h1,h2⟩
 | true=>exact ⟨h2,h1⟩
def U5g {m:XMine} {l:List XArc} {w:Int} {a:XArc} (ha:a∈l) (h1:a.road≠w) (h2:0≤a.fr) (h3:0≤a.to) (h4:(m.places.l.getD a.to.toNat default).surface=false):Wy m l w a.fr.toNat a.to.toNat:=⟨a,ha,h1,by omega,by omega,h4⟩
def Zbd (m:XMine) (ar:Arr XArc) (seen:Arr Bool) (w:Int) (L:LB) (R:LS) (hm:MineR m R) (har:InR (Vff ar) R) (hs:InR (Vcg seen) R) (hin:Vfb m.places.l.length ar.l) (hl:seen.l.length=m.places.l.length) (hnp:m.places.l.length≤64) (hnl:ar.l.length≤1000):
 Tri Tryz.prog 197 [m.val,ar.val,seen.val,.int .i64 w].toArray L R (fun v U J=>∃p:OwL Bool,v=p.val∧p.ok 1 blc∧SprIs m ar.l w seen.l p.l∧p.L 4 blc ++ L=U∧R=J):=by
 have hmp:=hm.places;refine Je 57 Tryz.call197 Tryz.func197 rfl rfl rfl ?_;apply (Xaf);intro b4;apply Xb8∘qbm;refine Za (Kt (f:=blc) (xs:=seen) tb rfl rfl rfl ze rfl rfl (hs) yf za) rfl ?_;rintro v U J ⟨o14,rfl,hok14,rfl,rfl⟩;apply Xb5∘qaz∘qa2;refine Jm [(1,.slice _ _ _),(3,.int _ _),(4,.pointer _),(9,.slice _ _ _),(10,.bool _)] zh fun tq0=>?_;refine q_p ([10,12]++rg 15 41) ((⟨fun q=>[(10,.bool q.1.1)],fun q=>(⟨o14,q.1.2⟩:OwL Bool).L 4 blc ++ (⟨b4,m.cells,28⟩ :: L),fun _=>R,fun q=>Z4a q.1.2 * 2 + (if q.1.1=true then 1 else 0)⟩:Head {q:Bool×List Bool // (⟨o14,q.2⟩:OwL Bool).ok 1 blc∧SprTo m ar.l w seen.l q.2∧(q.1=false→∀a∈ar.l,a.road≠w→(m.places.l.getD a.to.toNat default).surface=false→q.2.getD a.fr.toNat false=true→q.2.getD a.to.toNat false=true)})) (⟨(true,seen.l),hok14,SprTo.init,fun h=>by cases h⟩) ?_;rintro ⟨⟨again,l0⟩,q1,q2,q3⟩ junk;try dsimp only
 dsimp only at q1 q2 q3;apply qbi∘Xds;refine q_c ?_ ?_<;>intro hc0;·
  refine J5 (Jb (Ki (Jq (Jg ?_))));apply qaz∘qam∘Xbr;refine Vw ([10,12]++rg 15 41) zJ [(10,.bool _),(16,.slice _ _ _),(17,.int _ _),(18,.int _ _)] zh fun tq1=>?_;refine q_p ([10,12]++rg 18 38) ((⟨fun q=>[(18,.int .i64 ((q.1.1:Nat):Int)),(10,.bool q.1.2.1)],fun q=>(⟨o14,q.1.2.2⟩:OwL Bool).L 4 blc ++ (⟨b4,m.cells,28⟩ :: L),fun _=>R,fun q=>ar.l.length - q.1.1⟩:Head {q:Nat×Bool×List Bool // q.1≤ar.l.length∧(⟨o14,q.2.2⟩:OwL Bool).ok 1 blc∧SprTo m ar.l w seen.l q.2.2∧(q.2.1=true→Z4a q.2.2 < Z4a l0)∧(q.2.1=false→q.2.2=l0∧∀(j:Nat) (a:XArc),j < q.1→ar.l[j]?=some a→a.road≠w→(m.places.l.getD a.to.toNat default).surface=false→l0.getD a.fr.toNat false=true→l0.getD a.to.toNat false=true)})) (⟨(0,false,l0),by dsimp only;omega,q1,q2,(fun h=>by cases h),fun _=>⟨rfl,fun j r hj=>by omega⟩⟩) ?_;rintro ⟨⟨i,ch,l⟩,w1,w2,w3,w4,w5⟩ junk;try dsimp only
  dsimp only at w1 w2 w3 w4 w5;have hll:=w3.len;apply (Xaj);refine q_c ?_ ?_<;>intro hc1;·
   have hr0:=Jp (l:=ar.l) (k:=i) default za;obtain ⟨a,haa⟩:∃a,a=ar.l.getD i default:=⟨_,rfl⟩;rw [← haa] at hr0;have hmem:=yh hr0;have hai:=hin a hmem;have hgf:=Jp (l:=l) (k:=a.fr.toNat) false za;have hgt:=Jp (l:=l) (k:=a.to.toNat) false za;have hgp:=Jp (l:=m.places.l) (k:=a.to.toNat) default za;apply (qbb);refine Jw zV rfl ?_;apply (Xc7);intro b12;apply Xaz∘Xah∘Xb7;apply Ui (G:=[_,_,_,_,_]) (j:=4) (cj:=26) rfl rfl zb rfl zmb rfl;·intro hg5;replace hg5:=qb hg5;apply (Xbx);refine Jw (Jo tb ((⟨o14,l⟩:OwL Bool)) _ rfl rfl ((show _=Value.slice _ _ _ from rfl).trans (by simp only [OwL.val,hll])) rfl zg (i:=a.fr.toNat) zk zp) rfl ?_;exact (Zvf) qai
   intro junk5;apply (qah);apply Ui (G:=[_,_,_,_,_,_]) (j:=11) (cj:=33) rfl rfl zb rfl zmb rfl;·intro hg12;replace hg12:=qb hg12;exact (Xbx∘Jfg∘Zvf) zNd
   intro junk12;apply (qah);apply Ui (G:=[_,_,_,_,_,_,_,_]) (j:=19) (cj:=41) rfl rfl zb rfl zmb rfl;·intro hg20;replace hg20:=qb hg20;exact (Xa0∘Z2f∘Xbc) zNd
   intro junk20;apply (qaf);refine q_c ?_ ?_<;>intro hc2;·
    apply qay∘Xbx∘Jfg;refine Vk (Jn tb ((⟨o14,l⟩:OwL Bool)) (true) rfl rfl rfl rfl zj zg yf zg ze zb zb) ?_;rintro v U J ⟨rfl,rfl⟩;apply qaz∘Xa4;have hf:l.getD a.to.toNat false=false:=hc2.1.2;have hlt:=Jve (l:=l) (i:=a.to.toNat) za hf;have hle:Z4a l≤Z4a l0:=by
     cases ch with
     | true=>have:=w4 rfl;omega
     | false=>rw [(w5 rfl).1];exact ym _
    exact q_k ⟨(i + 1,true,l.set a.to.toNat true),by dsimp only;omega,OwL.len_ok V5 w2 zo,w3.next (U5g hmem hc2.1.1.1 hai.1.1 hai.2.1 hc2.2) hc2.1.1.2 za,fun _=>by dsimp only;omega,fun h=>by cases h⟩
   apply (Xaw);exact Ka ⟨(i + 1,ch,l),by dsimp only;omega,w2,w3,w4,fun h=>⟨(w5 h).1,fun j r2 hj hj2 g1 g2 g3=>by
    rcases yk j i with h1 | h1;·exact (w5 h).2 j r2 h1 hj2 g1 g2 g3
    ·
     (obtain rfl : j = i := by omega);rw [hr0] at hj2;cases hj2;cases hz:l0.getD a.to.toNat false with
     | true=>rfl
     | false=>exfalso;rw [← (w5 h).1] at g3 hz;rcases hc2 with ((h1 | h1) | h1) | h1 <;> first | exact h1 g1 | (rw [g3] at h1;cases h1) | (rw [hz] at h1;cases h1) | (rw [g2] at h1;cases h1)⟩⟩ zm zh zi zAb zx
  obtain rfl:i=ar.l.length:=by omega
  have hmeas:Z4a l * 2 + (if ch=true then 1 else 0) < Z4a l0 * 2 + (if again=true then 1 else 0):=by
   rw [if_pos hc0];cases ch with
   | true=>have:=w4 rfl;simp;omega
   | false=>rw [(w5 rfl).1];simp
  refine K9 (Km (Uc (J6 (Jh ?_))));exact Ka ⟨(ch,l),w2,w3,fun h a ha g1 g2 g3=>by obtain ⟨j,hj⟩:=List.mem_iff_getElem?.1 ha;rw [(w5 h).1] at g3 ⊢;exact (w5 h).2 j a (List.getElem?_eq_some_iff.1 hj).1 hj g1 g2 g3⟩ zm zh zi zAb hmeas
 have hll:=q2.len;apply Xch∘Xci;refine q_r ((⟨o14,l0⟩:OwL Bool).L 4 blc ++ L) R zhd ?_;exact ⟨⟨o14,l0⟩,by simp only [OwL.val,hll],q1,q2.done (fun u v hw hu=>by
 obtain ⟨a,ha,h1,h2,h3,h4⟩:=hw;have:=q3 zF a ha h1 (by rw [h3,yw];exact h4) (by rw [h2,yw];exact hu);rw [h3,yw] at this;exact this),rfl,rfl⟩
def Zgb {m:XMine} {ar:Arr XArc} {p:OwL Bool} {w:Int} {A:LB} {R:LS} (hB:InB (p.L 4 blc) A) (hk:p.ok 1 blc) (hm:MineR m R) (har:InR (Vff ar) R) (hin:Vfb m.places.l.length ar.l) (hl:p.l.length=m.places.l.length) (hnp:m.places.l.length≤64) (hnl:ar.l.length≤1000):
 Tri Tryz.prog 197 [m.val,ar.val,p.val,.int .i64 w].toArray A R (fun v U J=>∃q:OwL Bool,v=q.val∧q.ok 1 blc∧SprIs m ar.l w p.l q.l∧A ++ q.L 4 blc=U∧R=J):=by have h:=Zbd m ar p.arr w [] ([Vcg p.arr] ++ R) ⟨hm.places.mono fun r h=>Ja (.tail _ h),hm.roads.mono fun r h=>Ja (.tail _ h)⟩ (har.mono fun r h=>Ja (.tail _ h)) zFb hin hl hnp hnl;have h2:=Tri.lend (S:=[Vcg p.arr]) (Post:=fun v U=>∃q:OwL Bool,v=q.val∧q.ok 1 blc∧SprIs m ar.l w p.l q.l∧q.L 4 blc ++ []=U) (Spl.rest (L:=A)) (fun w G hh s hs=>by rw [List.mem_singleton.1 hs];exact Yw hh hB hk V5 ze yg) (h.mono fun v U J ⟨q,a1,a2,a3,a4,a5⟩=>⟨⟨q,a1,a2,a3,a4⟩,a5⟩);exact h2.mono fun v L'' J ⟨U,e,⟨q,a1,a2,a3,a4⟩,a5⟩=>⟨q,a1,a2,a3,by rw [← a4,yaa] at e;exact e,a5⟩
def Uld (m:XMine) (ar:Arr XArc) (L:LB) (R:LS) (hm:MineR m R) (har:InR (Vff ar) R) (hin:Vfb m.places.l.length ar.l) (hnp:m.places.l.length≤64) (hnl:ar.l.length≤1000):
 Tri Tryz.prog 119 [m.val,ar.val].toArray L R (fun v U J=>∃p:OwL XArc,v=p.val∧p.ok 3 XArc.cells∧OnTo m ar.l ar.l.length p.l∧p.L 234 XArc.cells ++ L=U∧R=J):=by
 have hmp:=hm.places;refine Je 55 Tryz.call119 Tryz.func119 rfl rfl rfl ?_;apply (Xaf);intro b2;apply Xb8∘Xb5∘Xbr;refine Jm [(1,.slice _ _ _),(2,.pointer _),(5,.slice _ _ _),(9,.slice _ _ _),(10,.int _ _),(11,.int _ _)] zh fun tq0=>?_;refine Up ([5,7,8]++rg 11 43) ((⟨fun g=>[(11,.int .i64 ((g.1.1:Nat):Int)),(5,g.1.2.val)],fun g=>g.1.2.L 234 XArc.cells ++ (⟨b2,m.cells,28⟩ :: L),fun _=>R,fun g=>ar.l.length - g.1.1⟩:Head {g:Nat×OwL XArc // g.1≤ar.l.length∧g.2.ok 3 XArc.cells∧OnTo m ar.l g.1 g.2.l})) (⟨(0,OwL.nil),by dsimp only;omega,OwL.nil_ok,OnTo.zero⟩) zh zW zAb ?_;rintro ⟨⟨k,p⟩,w1,w2,w3⟩ junk;try dsimp only
 dsimp only at w1 w2 w3;have hpl:=w3.sub.length_le;rw [yHa] at hpl;apply (Xaj);refine q_c ?_ ?_<;>intro hc0;·
  have hr0:=Jp (l:=ar.l) (k:=k) default za;obtain ⟨a,haa⟩:∃a,a=ar.l.getD k default:=⟨_,rfl⟩;rw [← haa] at hr0;have hai:=hin a (yh hr0);have hgf:=Jp (l:=m.places.l) (k:=a.fr.toNat) default za;have hgt:=Jp (l:=m.places.l) (k:=a.to.toNat) default za;apply qbb∘Uue∘Xc7;intro b7;apply Xa9∘Xa0;refine Jw (by first | exact Jd tb rfl rfl rfl rfl zu (i:=a.fr.toNat) zk za | exact Jl tb rfl rfl rfl rfl (i:=a.fr.toNat) zk za) rfl ?_;apply Xbc∘qah;apply Kf (G:=[_,_,_,_,_,_,_]) (j:=7) (cj:=22) rfl rfl zb rfl zmb rfl;·intro hg8;replace hg8:=qb hg8;exact (Xa0∘Z2f∘Xbc) qai
  intro junk8;apply (qaf);refine q_c ?_ ?_<;>intro hc1;·refine K9 (Km (J6 (Jb (Jg ?_))));apply (Xad);exact q_k ⟨(k + 1,p),by dsimp only;omega,w2,w3.no hr0 (fun h=>by rcases hc1 with e | e;exact absurd (h.1.symm.trans e) ze;exact absurd (h.2.1.symm.trans e) ze)⟩
  have hs1:(m.places.l.getD a.fr.toNat default).surface=false:=by cases e:(m.places.l.getD a.fr.toNat default).surface <;> simp_all
  have hs2:(m.places.l.getD a.to.toNat default).surface=false:=by cases e:(m.places.l.getD a.to.toNat default).surface <;> simp_all
  apply qbv∘Xab∘qc7;rintro v U J ⟨b34,rfl,rfl,hR34⟩;replace hR34:=hR34.symm;subst hR34;apply (Xc0);refine U2 zUb ?_;obtain ⟨l0,hl0⟩:∃l0,l0=List.replicate m.places.l.length false:=⟨_,rfl⟩;have hl0n:l0.length=m.places.l.length:=by rw [hl0];simp
  have hQ1:(⟨.own b34 m.places.l.length [],l0⟩:OwL Bool).ok 1 blc:=by rw [hl0];exact U0 V5 zB
  have hQ2:=Jp (l:=l0) (k:=a.to.toNat) false za;have hS1:(⟨.own b34 m.places.l.length [],J2e m.places.l.length a.to.toNat⟩:OwL Bool).ok 1 blc:=OwL.len_ok V5 hQ1 (by simp [J2e,hl0n]);refine U2 (show _=(⟨.own b34 m.places.l.length [],l0⟩:OwL Bool).L 4 blc ++ _ by rw [hl0]) ?_;have hSl:(⟨.own b34 m.places.l.length [],J2e m.places.l.length a.to.toNat⟩:OwL Bool).l.length=m.places.l.length:=by simp [J2e]
  apply qay∘Xbx;refine Jw (Jo tb ((⟨.own b34 m.places.l.length [],l0⟩:OwL Bool)) _ rfl rfl ((show _=Value.slice _ _ _ from rfl).trans (K6 hl0n)) rfl zg (i:=a.to.toNat) zk zp) rfl ?_;refine Vk (Jn tb ((⟨.own b34 m.places.l.length [],l0⟩:OwL Bool)) (true) rfl rfl rfl rfl zj zg yf zg ze zb zb) ?_;rintro v U J ⟨rfl,rfl⟩;apply (qa4);refine U2 (show _=(⟨.own b34 m.places.l.length [],J2e m.places.l.length a.to.toNat⟩:OwL Bool).L 4 blc ++ _ by rw [hl0];rfl) ?_;refine Job tb [] [0,1,2,3,4,6,7,5,8,9] [] ([Blk.mk b7 _ _,Blk.mk b2 _ _]) [] 10 Ko zc rfl rfl zi fun hT8=>?_;refine J6a 0 hT8 yd zc rfl rfl rfl rfl rfl zGb ?_;refine J6a 1 hT8 yd zc rfl rfl rfl rfl rfl zZc ?_;refine J6a 2 hT8 yd zc rfl rfl rfl rfl rfl zZc ?_;refine J6a 3 hT8 yd zc rfl rfl rfl rfl rfl zzb ?_;refine J6a 4 hT8 yd zc rfl rfl rfl rfl rfl zHb ?_;refine J6a 6 hT8 yd zc rfl rfl rfl rfl rfl zzb ?_;refine J6a 7 hT8 yd zc rfl rfl rfl rfl rfl zHb ?_;refine Jf [5] hT8 yd zc ?_;apply (qca);refine Kq rfl (Zsb rfl (Tri.cast (Zgb (A:=(⟨.own b34 m.places.l.length [],J2e m.places.l.length a.to.toNat⟩:OwL Bool).L 4 blc ++ _) (p:=(⟨.own b34 m.places.l.length [],J2e m.places.l.length a.to.toNat⟩:OwL Bool)) (w:=a.road) zG hS1 hm har hin hSl hnp hnl) (by show #[_,_,Value.slice _ (List.length _) _,_]=_;rw [hSl];rfl))) rfl rfl ?_;rintro v U J ⟨q,rfl,hqk,hqS,rfl,rfl⟩;simp only [yn,yr,yv];refine ⟨zi,zt,?_⟩;have hql:=hqS.len;rw [hSl] at hql;have hqg:=Jp (l:=q.l) (k:=a.fr.toNat) false za;have hqi:=Vzf hqS (show a.to.toNat < m.places.l.length by omega) (show a.fr.toNat < m.places.l.length by omega);refine J6a 8 hT8 yd zc rfl rfl rfl rfl rfl (Jo tb (q) _ rfl rfl rfl rfl zg (i:=a.fr.toNat) zk zp) ?_;refine Jf [9] hT8 yd zc ?_;apply (qca);refine Kq rfl (Go.Proofs.YtchfclmokpbldaaGreat.YV.gives2 (J4 tb (q) rfl rfl rfl zj zg yf zg zb)) rfl rfl ?_;rintro v U J ⟨rfl,rfl,rfl⟩;apply (qa1);refine Kb hT8 yd zc rfl ?_;apply (qbu);refine q_c ?_ ?_<;>intro hc2;·apply (Xcj);refine Jw zrb rfl ?_;apply (Yqe);rintro v U J ⟨b51,rfl,rfl,hR51⟩;replace hR51:=hR51.symm;subst hR51;refine Za (Jy (f:=XArc.cells) (p:=p) (a:=a) tb rfl rfl rfl rfl (w2) zj zwb rfl zy) rfl ?_;rintro v U J ⟨o52,rfl,hok52,rfl,rfl⟩;apply (Xdr);exact Ka ⟨(k + 1,(⟨o52,_⟩:OwL XArc)),by dsimp only;omega,hok52,w3.yes hr0 ⟨hs1,hs2,hqi.1 hc2⟩⟩ zm zh zTa zAb zx
  apply (Xaw);exact Ka ⟨(k + 1,p),by dsimp only;omega,w2,w3.no hr0 (fun h=>by rw [hqi.2 h.2.2] at hc2;cases hc2)⟩ zm zh zTa zAb zx
 obtain rfl:k=ar.l.length:=by omega
 apply Xch∘Xci;refine q_r (p.L 234 XArc.cells ++ L) R zhd ?_;exact ⟨p,rfl,w2,w3,rfl,rfl⟩
end
section
attribute [local irreducible] CJ LJ DJ Tri YV Gives Uq J2 Kj Ut RV J3 OwL.L
end
end Go.Proofs.YtchfclmokpbldaaGreat
