/-
  Texts of one chapter, merged. By an AI agent; no person has read it.
-/
import Derived.Test.YtchfclmokpbldaaGreatTelG
import Derived.Test.YtchfclmokpbldaaGreatCloneS
import Derived.Test.YtchfclmokpbldaaGreatRuleP
set_option linter.unusedVariables false
set_option linter.unusedSimpArgs false
set_option maxRecDepth 20000
namespace Go.Proofs.YtchfclmokpbldaaGreat
open Go.Aw Go
section
attribute [local irreducible] CJ LJ DJ Tri YV Gives Ui J0 Ke Uh RV J2 OwL.L
def Jif (address raw:Int):XTele:=⟨address,1,[raw / 256,raw % 256]⟩
def V1f (address raw:Int):List Int:=Y8b (Jif address raw)
theorem Y4d {address raw:Int} (ha:0≤address∧address≤255):K1a (Jif address raw)=0:=by
  rw [K1a,if_neg (by simp only [Jif];omega),if_neg (by simp [Jif])]
theorem Yfc {f:XTele} (h:K1a f=0) (hb:BytesOk f.data):BytesOk (Y8b f):=by
  have hcr:=Khc (Vaa f).tail
  rw [Crc] at hcr
  rw [K1a] at h
  split at h
  · cases h
  split at h
  · cases h
  intro x hx
  rw [Y8b,Vaa] at hx
  rw [Vaa] at hcr
  simp only [List.cons_append,List.mem_cons,List.mem_append,List.not_mem_nil,or_false] at hx
  rcases hx with h | h | h | h | h | h | h
  · omega
  · omega
  · omega
  · omega
  · exact hb x h
  · omega
  · omega
theorem Vhd {address raw:Int} (ha:0≤address∧address≤255) (hr:0≤raw∧raw≤65535):BytesOk (V1f address raw):=Yfc (Y4d ha) (fun x hx=>by
  simp only [Jif,List.mem_cons,List.not_mem_nil,or_false] at hx
  rcases hx with h | h <;> omega)
theorem Zfc (address raw:Int) (L:List Blk) (R:List Sl) (ha:0≤address∧address≤255) (hr:0≤raw∧raw≤65535):
    Tri Tryz.prog 19 [.int .i64 address,.int .i64 raw].toArray L R (fun v L' R'=>∃q:Arr Int,v=q.val∧q.l=V1f address raw∧InR (bsl q) R'∧(∀r∈R,InR r R')∧L=L'):=by
  refine Jg 20 Tryz.call19 Tryz.func19 rfl rfl rfl ?_
  refine Xcw ?_
  refine qam ?_
  refine Xbh ?_
  refine Jx (J3b rfl rfl zc Zbd) rfl ?_
  refine qdg ?_
  refine qaa ?_
  refine qdg ?_
  refine Y9 znb rfl ?_
  rintro v L' R' ⟨b14,rfl,rfl,hR14⟩
  replace hR14:=hR14.symm;subst hR14
  have e4:IntKind.u8.wrap (raw / 256)=raw / 256:=u8w za
  have e5:IntKind.u8.wrap raw=raw % 256:=u8m za
  rw [e4,e5]
  refine Jua (wd:=1) (len:=2) (cap:=2) (rows:=[Zw (raw / 256),Zw (raw % 256)]) (subs:=[]) rfl zc zc (fun r hr=>by rcases List.mem_cons.1 hr with rfl | hr;rfl;rw [List.mem_singleton.1 hr];rfl) zc rfl (fun s hs=>by cases hs) ?_
  refine Jx zLb rfl ?_
  refine Js rfl (Vyc (⟨address,1,⟨some ⟨b14,0,none⟩,2,[raw / 256,raw % 256]⟩⟩:XFrame) _ (bsl (⟨some ⟨b14,0,none⟩,2,[raw / 256,raw % 256]⟩:Arr Int) :: R) zpb (fun x hx=>by
  simp only [List.mem_cons,List.not_mem_nil,or_false] at hx
  rcases hx with h | h <;> omega)) rfl ?_
  rintro v L' R' ⟨q,rfl,hqk,hql,rfl,hR1⟩
  refine Jx zDb rfl ?_
  refine Xa4 ?_
  refine qc4 ?_
  refine Xb3 ?_
  have hE:K1a (XFrame.tele ⟨address,1,⟨some ⟨b14,0,none⟩,2,[raw / 256,raw % 256]⟩⟩)=0:=Y4d (raw:=raw) ha
  rw [if_pos hE] at hql
  refine Kd (T:=5) (f:=Zw) (wd:=1) q [] zj (fun _=>rfl) zc hqk (fun s hs=>by cases hs) ?_
  refine Uv zp ?_
  refine Xcy ?_
  refine Xcq ?_
  refine q_r (L':=L) (R':=bsl q.arr :: R') zSc ?_
  exact ⟨q.arr,rfl,hql,Ja (.head _),fun r hr=>(hR1 r (.tail _ hr)).mono fun r hr=>Ja (.tail _ hr),rfl⟩
end
section
attribute [local irreducible] CJ LJ DJ Tri YV Gives Ui J0 Ke Uh RV J2 OwL.L
section
variable {A9 B9:Prop}
theorem Zie (a:A9) (h:A9→B9:=by exact Jx (Kb (qs:=[(4,(Value.slice _ _ _).cells.toList),(3,(Value.int _ _).cells.toList)]) (out:=[_,_,_,_,_]) tb rfl rfl rfl rfl) rfl):B9:=h a
theorem Zye (a:A9) (h:A9→B9:=by exact Y9 zFb rfl):B9:=h a
theorem Zge (a:A9) (h:A9→B9:=by exact Y9 (Jv (qs:=[(0,(Value.agg _).cells.toList),(1,(Value.agg _).cells.toList)]) (out:=[_,_,_,_,_,_,_,_,_,_]) tb rfl rfl rfl rfl rfl rfl rfl) rfl):B9:=h a
theorem Vzf (a:A9) (h:A9→B9:=by exact Jx (Kb (qs:=[(0,(Value.int _ _).cells.toList),(1,(Value.int _ _).cells.toList),(3,(Value.int _ _).cells.toList)]) (out:=[_,_,_,_,_]) tb rfl rfl rfl rfl) rfl):B9:=h a
theorem Vof (a:A9) (h:A9→B9:=by exact Jx (Kb (qs:=[(0,(Value.int _ _).cells.toList),(3,(Value.int _ _).cells.toList)]) (out:=[_,_,_,_,_]) tb rfl rfl rfl rfl) rfl):B9:=h a
theorem U4f (a:A9) (h:A9→B9:=by exact Jx (Kb (qs:=[(0,(Value.int _ _).cells.toList),(1,(Value.int _ _).cells.toList),(2,(Value.int _ _).cells.toList),(3,(Value.int _ _).cells.toList)]) (out:=[_,_,_,_,_]) tb rfl rfl rfl rfl) rfl):B9:=h a
end
abbrev Uqf (x:Arr XAct):Sl:=x.sl 5 XAct.cells (x.l.map fun a=>bsl a.bytes)
structure ActR (a:XAct) (R:List Sl):Prop where
  ok:ActOk a.p
  bytes:InR (bsl a.bytes) R
structure ActsQ (q:OwL XAct) (R:List Sl):Prop where
  ok:q.ok 5 XAct.cells
  all:∀a∈q.l,ActR a R
theorem ActsQ.mono {q:OwL XAct} {R R':List Sl} (h:ActsQ q R) (k:∀r∈R,InR r R'):ActsQ q R':=⟨h.ok,fun a ha=>⟨(h.all a ha).ok,(h.all a ha).bytes.mono k⟩⟩
theorem ActsQ.app {o o':Ow} {l m:List XAct} {R:List Sl} (h:ActsQ ⟨o,l⟩ R) (h1:(⟨o',l ++ m⟩:OwL XAct).ok 5 XAct.cells) (h2:∀a∈m,ActR a R):ActsQ ⟨o',l ++ m⟩ R:=⟨h1,fun a ha=>by
  rcases List.mem_append.1 ha with ha | ha
  · exact h.all a ha
  · exact h2 a ha⟩
theorem ActR.small {k n m w:Int} {R:List Sl} (hn:0≤n∧n≤100) (hm:0≤m∧m≤100) (hw:0≤w∧w≤100) (h:InR (bsl ⟨none,0,[]⟩) R):ActR ⟨k,n,m,w,⟨none,0,[]⟩⟩ R:=⟨⟨by show _≤n∧n≤_;omega,by show _≤m∧m≤_;omega,by show _≤w∧w≤_;omega,fun x hx=>(by cases hx),Nat.zero_le _⟩,h⟩
theorem ActR.gas {w ad raw:Int} {b:Arr Int} {R:List Sl} (hw:0≤w∧w≤100) (h:InR (bsl b) R) (hb:b.l=V1f ad raw) (ha:0≤ad∧ad≤255) (hr:0≤raw∧raw≤65535):ActR ⟨0,0,0,w,b⟩ R:=⟨⟨by show _≤(0:Int)∧(0:Int)≤_;omega,by show _≤(0:Int)∧(0:Int)≤_;omega,by show _≤w∧w≤_;omega,by show BytesOk b.l;rw [hb];exact Vhd ha hr,by show b.l.length≤_;rw [hb,V1f,Vtd];simp [Jif]⟩,h⟩
theorem Uze (c:Nat) (x:Arr Int) (k:Nat) (f:XFeeder) (R:List Sl) (hx:CodesR x R) (hk:k≤x.l.length) (hf:FeederR f R) (hn:f.switches.l.length≤3):
    Tri Tryz.prog 63 [.pointer (some ⟨c, 0, none⟩), f.val].toArray [cblk c x k] R
      (fun v L' R'=>∃(q:OwL XAct) (k':Nat),v=q.val∧ActsQ q R'∧q.l.length≤22∧k'≤x.l.length∧(∀r∈R,InR r R')∧q.L 144 XAct.cells ++ (cblk c x k' :: [])=L'):=by
  refine Jg 85 Tryz.call63 Tryz.func63 rfl rfl rfl ?_
  refine Xag ?_
  intro b3
  refine Xcm ?_
  refine K1d 1 ?_
  have hnb:InR (bsl (⟨none,0,[]⟩:Arr Int)) (bsl (⟨none,0,[]⟩:Arr Int) :: R):=Ja (.head _)
  have hx1:CodesR x (bsl (⟨none,0,[]⟩:Arr Int) :: R):=⟨hx.1.mono fun r hr=>Ja (.tail _ hr),hx.2⟩
  refine qay ?_
  refine Xac ?_
  refine Xaf ?_
  refine qa6 ?_
  refine Js rfl (Kfc zG hx1 hk za) rfl ?_
  rintro v L' R' ⟨r1,k1,rfl,g1,g1',g1'',hk1,rfl,rfl⟩
  have g1q:=g1' za
  refine qar ?_
  refine Js rfl (Zfc 0 (10 + r1) _ _ za za) rfl ?_
  rintro v L' R' ⟨q17,rfl,hql,hqR,hR1,rfl⟩
  refine Zie ?_
  refine Zye ?_
  rintro v L' R' ⟨b19,rfl,rfl,hR19⟩
  replace hR19:=hR19.symm;subst hR19
  refine qc4 ?_
  refine qco ?_
  have hR1':∀r∈bsl (⟨none,0,[]⟩:Arr Int) :: R,InR r R':=hR1
  have hok19:(⟨.own b19 1 [],[⟨0,0,0,1,q17⟩]⟩:OwL XAct).ok 5 XAct.cells:=⟨rfl,Nat.le_refl _,by decide,rfl⟩
  refine Uv (show _=(⟨.own b19 1 [],[⟨0,0,0,1,q17⟩]⟩:OwL XAct).L 144 XAct.cells ++ (⟨b3,f.cells,42⟩ :: cblk c x k1 :: []) by (simp [OwL.L,Ow.L,XAct.cells,XFeeder.cells,Arr.val];exact ⟨rfl,rfl⟩)) ?_
  have hq19:ActsQ (⟨.own b19 1 [],[⟨0,0,0,1,q17⟩]⟩:OwL XAct) R':=⟨hok19,fun a ha=>by rw [List.mem_singleton.1 ha];exact ActR.gas za hqR hql za za⟩
  refine qay ?_
  refine Xb4 ?_
  refine Jo [(0,Value.pointer _),(5,Value.int _ _),(6,Value.slice _ _ _),(7,Value.int _ _)] zg fun tq0=>?_
  refine q_p [6,7,20,21,22,23,24,25,26,27,28,29,30,31] ((⟨fun g=>[(7,.int .i64 ((g.1.1:Nat):Int)),(6,g.1.2.1.val)],fun g=>g.1.2.1.L 144 XAct.cells ++ (⟨b3,f.cells,42⟩ :: cblk c x g.1.2.2.1 :: []),fun g=>g.1.2.2.2,fun g=>f.switches.l.length - g.1.1⟩:Head {g:Nat×OwL XAct×Nat×List Sl // g.1≤f.switches.l.length∧ActsQ g.2.1 g.2.2.2∧g.2.1.l.length=1 + g.1∧g.2.2.1≤x.l.length∧∀r∈bsl (⟨none,0,[]⟩:Arr Int) :: R,InR r g.2.2.2})) (⟨(0,(⟨.own b19 1 [],[⟨0,0,0,1,q17⟩]⟩:OwL XAct),k1,R'),by dsimp only;omega,hq19,rfl,hk1,hR1'⟩) ?_
  rintro ⟨⟨i,q,k2,S⟩,hi,hq,hqn,hk2,hS⟩ junk
  try dsimp only
  dsimp only at hi hq hqn hk2 hS
  have hqk:=hq.ok
  have hxS:CodesR x S:=⟨hx1.1.mono hS,hx1.2⟩
  have hnbS:=hS _ (.head _)
  refine qbi ?_
  refine Xbh ?_
  refine Xbo ?_
  refine q_c (fun hc0=>?_) (fun hc0=>?_)
  ·
   refine J5 (Jb (Jn (Kg (Jh ?_))))
   refine Xau ?_
   refine qa6 ?_
   refine Js rfl (Kfc zG hxS hk2 za) rfl ?_
   rintro v L' R' ⟨r2,k3,rfl,e1,e1',e1'',hk3,rfl,rfl⟩
   have e1q:=e1' za
   refine Vzf ?_
   refine Zye ?_
   rintro v L' R' ⟨b30,rfl,rfl,hR30⟩
   replace hR30:=hR30.symm;subst hR30
   refine Y9 (J8 (f:=XAct.cells) (p:=q) (a:=⟨3,(i:Int),0,r2,(⟨none,0,[]⟩:Arr Int)⟩) tb rfl rfl rfl rfl (hqk) zj zsb rfl zy) rfl ?_
   rintro v L' R' ⟨o31,rfl,hok31,rfl,rfl⟩
   refine qc4 ?_
   refine qcs ?_
   refine Xdo ?_
   exact q_k ⟨(i + 1,⟨o31,q.l ++ [⟨3,(i:Int),0,r2,(⟨none,0,[]⟩:Arr Int)⟩]⟩,k3,S),by dsimp only;omega,hq.app hok31 (fun a ha=>by rw [List.mem_singleton.1 ha];exact ActR.small za za za hnbS),by dsimp only;rw [List.length_append,hqn];simp;omega,hk3,hS⟩
  obtain rfl:i=f.switches.l.length:=by omega
  refine qcf ?_
  refine Xb4 ?_
  refine Jo [(0,Value.pointer _),(5,Value.int _ _),(6,Value.slice _ _ _),(8,Value.int _ _)] zg fun tq1=>?_
  refine q_p [6,8,32,33,34,35,36,37,38,39,40,41,42,43] ((⟨fun g=>[(8,.int .i64 ((g.1.1:Nat):Int)),(6,g.1.2.1.val)],fun g=>g.1.2.1.L 144 XAct.cells ++ (⟨b3,f.cells,42⟩ :: cblk c x g.1.2.2.1 :: []),fun g=>g.1.2.2.2,fun g=>4 - g.1.1⟩:Head {g:Nat×OwL XAct×Nat×List Sl // g.1≤4∧ActsQ g.2.1 g.2.2.2∧g.2.1.l.length=1 + f.switches.l.length + g.1∧g.2.2.1≤x.l.length∧∀r∈bsl (⟨none,0,[]⟩:Arr Int) :: R,InR r g.2.2.2})) (⟨(0,q,k2,S),by dsimp only;omega,hq,by dsimp only;omega,hk2,hS⟩) ?_
  rintro ⟨⟨j,p,k4,S1⟩,hj,hp,hpn,hk4,hS1⟩ junk
  try dsimp only
  dsimp only at hj hp hpn hk4 hS1
  have hpk:=hp.ok
  have hxS1:CodesR x S1:=⟨hx1.1.mono hS1,hx1.2⟩
  have hnbS1:=hS1 _ (.head _)
  refine Xce ?_
  refine Xbo ?_
  refine q_c (fun hc1=>?_) (fun hc1=>?_)
  ·
   refine J5 (Jb (Jn (Kg (Jh ?_))))
   refine qbm ?_
   refine qa6 ?_
   refine Js rfl (Kfc zG hxS1 hk4 za) rfl ?_
   rintro v L' R' ⟨r3,k5,rfl,e3,e3',e3'',hk5,rfl,rfl⟩
   have e3q:=e3' za
   refine qar ?_
   refine Js rfl (Zfc 0 (10 + r3) _ _ za za) rfl ?_
   rintro v L' R' ⟨q40,rfl,hql40,hqR40,hR40,rfl⟩
   refine Zie ?_
   refine Zye ?_
   rintro v L' R' ⟨b42,rfl,rfl,hR42⟩
   replace hR42:=hR42.symm;subst hR42
   refine Y9 (J8 (f:=XAct.cells) (p:=p) (a:=⟨0,0,0,14,q40⟩) tb rfl rfl rfl rfl (hpk) zj zsb rfl zy) rfl ?_
   rintro v L' R' ⟨o43,rfl,hok43,rfl,rfl⟩
   refine qc4 ?_
   refine qcs ?_
   refine Xdo ?_
   exact q_k ⟨(j + 1,⟨o43,p.l ++ [⟨0,0,0,14,q40⟩]⟩,k5,_),by dsimp only;omega,(hp.mono hR40).app hok43 (fun a ha=>by rw [List.mem_singleton.1 ha];exact ActR.gas za hqR40 hql40 za za),by dsimp only;rw [List.length_append,hpn];simp;omega,hk5,fun r hr=>(hS1 r hr).mono hR40⟩
  obtain rfl:j=4:=by omega
  refine Xcp ?_
  refine Vof ?_
  refine Vzf ?_
  refine Zge ?_
  rintro v L' R' ⟨b47,rfl,rfl,hR47⟩
  replace hR47:=hR47.symm;subst hR47
  refine Jua (wd:=5) (len:=2) (cap:=2) (rows:=[XAct.cells ⟨4,0,0,1,(⟨none,0,[]⟩:Arr Int)⟩,XAct.cells ⟨5,1,0,1,(⟨none,0,[]⟩:Arr Int)⟩]) (subs:=[bsl (⟨none,0,[]⟩:Arr Int),bsl (⟨none,0,[]⟩:Arr Int)]) rfl zc zc (fun r hr=>by rcases List.mem_cons.1 hr with rfl | hr;rfl;rw [List.mem_singleton.1 hr];rfl) zc rfl (fun s hs=>by simp only [List.mem_cons,List.not_mem_nil,or_false] at hs;rcases hs with rfl | rfl <;> exact hnbS1) ?_
  refine Y9 (Yo tb p (⟨some ⟨b47,0,none⟩,2,[⟨4,0,0,1,(⟨none,0,[]⟩:Arr Int)⟩,⟨5,1,0,1,(⟨none,0,[]⟩:Arr Int)⟩]⟩:Arr XAct) rfl rfl rfl zc rfl rfl hpk (subs:=[bsl (⟨none,0,[]⟩:Arr Int),bsl (⟨none,0,[]⟩:Arr Int)]) zpb zj (fun _=>rfl) zla) rfl ?_
  rintro v L' R' ⟨o48,rfl,hok48,rfl,rfl⟩
  refine qc4 ?_
  refine qco ?_
  obtain ⟨S2,hS2e⟩:∃S2,S2=Uqf (⟨some ⟨b47,0,none⟩,2,[⟨4,0,0,1,(⟨none,0,[]⟩:Arr Int)⟩,⟨5,1,0,1,(⟨none,0,[]⟩:Arr Int)⟩]⟩:Arr XAct) :: S1:=⟨_,rfl⟩
  have hS2:∀r∈bsl (⟨none,0,[]⟩:Arr Int) :: R,InR r S2:=fun r hr=>(hS1 r hr).mono fun r hr=>Ja (by rw [hS2e];exact .tail _ hr)
  have hnb2:=hS2 _ (.head _)
  have hp2:ActsQ ⟨o48,p.l ++ (⟨some ⟨b47,0,none⟩,2,[⟨4,0,0,1,(⟨none,0,[]⟩:Arr Int)⟩,⟨5,1,0,1,(⟨none,0,[]⟩:Arr Int)⟩]⟩:Arr XAct).l⟩ S2:=(hp.mono fun r hr=>Ja (by rw [hS2e];exact .tail _ hr)).app hok48 (fun a ha=>by
    simp only [List.mem_cons,List.not_mem_nil,or_false] at ha
    rcases ha with rfl | rfl
    · exact ActR.small za za za hnb2
    · exact ActR.small za za za hnb2)
  have hp2n:(p.l ++ (⟨some ⟨b47,0,none⟩,2,[⟨4,0,0,1,(⟨none,0,[]⟩:Arr Int)⟩,⟨5,1,0,1,(⟨none,0,[]⟩:Arr Int)⟩]⟩:Arr XAct).l).length=7 + f.switches.l.length:=by rw [List.length_append,hpn];simp;omega
  refine Ymb (show _=S2 by rw [hS2e];rfl) ?_
  refine qay ?_
  refine Xb4 ?_
  refine Jo [(0,Value.pointer _),(5,Value.int _ _),(6,Value.slice _ _ _),(9,Value.int _ _)] zg fun tq2=>?_
  refine q_p [6,9,49,50,51,52,53,54,55,56,57,58,59] ((⟨fun g=>[(9,.int .i64 ((g.1.1:Nat):Int)),(6,g.1.2.1.val)],fun g=>g.1.2.1.L 144 XAct.cells ++ (⟨b3,f.cells,42⟩ :: cblk c x k4 :: []),fun g=>g.1.2.2,fun g=>f.switches.l.length - g.1.1⟩:Head {g:Nat×OwL XAct×List Sl // g.1≤f.switches.l.length∧ActsQ g.2.1 g.2.2∧g.2.1.l.length=7 + f.switches.l.length + 2 * g.1∧∀r∈bsl (⟨none,0,[]⟩:Arr Int) :: R,InR r g.2.2})) (⟨(0,⟨o48,p.l ++ (⟨some ⟨b47,0,none⟩,2,[⟨4,0,0,1,(⟨none,0,[]⟩:Arr Int)⟩,⟨5,1,0,1,(⟨none,0,[]⟩:Arr Int)⟩]⟩:Arr XAct).l⟩,S2),by dsimp only;omega,hp2,hp2n,hS2⟩) ?_
  rintro ⟨⟨l,u,S3⟩,hl,hu,hun,hS3⟩ junk
  try dsimp only
  dsimp only at hl hu hun hS3
  have huk:=hu.ok
  have hxS3:CodesR x S3:=⟨hx1.1.mono hS3,hx1.2⟩
  have hnbS3:=hS3 _ (.head _)
  refine qbi ?_
  refine Xbh ?_
  refine Xbo ?_
  refine q_c (fun hc2=>?_) (fun hc2=>?_)
  ·
   refine J5 (Jb (Jn (Kg (Jh ?_))))
   refine qbm ?_
   refine Vof ?_
   refine qaa ?_
   refine U4f ?_
   refine Zge ?_
   rintro v L' R' ⟨b58,rfl,rfl,hR58⟩
   replace hR58:=hR58.symm;subst hR58
   refine Jua (wd:=5) (len:=2) (cap:=2) (rows:=[XAct.cells ⟨6,0,0,1,(⟨none,0,[]⟩:Arr Int)⟩,XAct.cells ⟨3,(l:Int),2,1,(⟨none,0,[]⟩:Arr Int)⟩]) (subs:=[bsl (⟨none,0,[]⟩:Arr Int),bsl (⟨none,0,[]⟩:Arr Int)]) rfl zc zc (fun r hr=>by rcases List.mem_cons.1 hr with rfl | hr;rfl;rw [List.mem_singleton.1 hr];rfl) zc rfl (fun s hs=>by simp only [List.mem_cons,List.not_mem_nil,or_false] at hs;rcases hs with rfl | rfl <;> exact hnbS3) ?_
   refine Y9 (Yo tb u (⟨some ⟨b58,0,none⟩,2,[⟨6,0,0,1,(⟨none,0,[]⟩:Arr Int)⟩,⟨3,(l:Int),2,1,(⟨none,0,[]⟩:Arr Int)⟩]⟩:Arr XAct) rfl rfl rfl zc rfl rfl huk (subs:=[bsl (⟨none,0,[]⟩:Arr Int),bsl (⟨none,0,[]⟩:Arr Int)]) zpb zj (fun _=>rfl) zla) rfl ?_
   rintro v L' R' ⟨o59,rfl,hok59,rfl,rfl⟩
   refine qc4 ?_
   refine qcs ?_
   refine Xdo ?_
   exact Kf ⟨(l + 1,⟨o59,u.l ++ (⟨some ⟨b58,0,none⟩,2,[⟨6,0,0,1,(⟨none,0,[]⟩:Arr Int)⟩,⟨3,(l:Int),2,1,(⟨none,0,[]⟩:Arr Int)⟩]⟩:Arr XAct).l⟩,Uqf (⟨some ⟨b58,0,none⟩,2,[⟨6,0,0,1,(⟨none,0,[]⟩:Arr Int)⟩,⟨3,(l:Int),2,1,(⟨none,0,[]⟩:Arr Int)⟩]⟩:Arr XAct) :: S3),by dsimp only;omega,(hu.mono fun r hr=>Ja (.tail _ hr)).app hok59 (fun a ha=>by
   simp only [List.mem_cons,List.not_mem_nil,or_false] at ha
   rcases ha with rfl | rfl
   · exact ActR.small za za za (hnbS3.mono fun r hr=>Ja (.tail _ hr))
   · exact ActR.small za za za (hnbS3.mono fun r hr=>Ja (.tail _ hr))),by dsimp only;rw [List.length_append,hun];simp;omega,fun r hr=>(hS3 r hr).mono fun r hr=>Ja (.tail _ hr)⟩ zm zg zi zqb zx
  obtain rfl:l=f.switches.l.length:=by omega
  refine qcf ?_
  refine qa6 ?_
  refine Js rfl (Kfc zG hxS3 hk4 za) rfl ?_
  rintro v L' R' ⟨m0,k6,rfl,d1,d1',d1'',hk6,rfl,rfl⟩
  have d1q:=d1' za
  refine Xb4 ?_
  refine Jo [(0,Value.pointer _),(6,Value.slice _ _ _),(10,Value.int _ _)] zg fun tq3=>?_
  refine q_p [6,10,62,63,64,65,66,67,68,69,70,71,72,73,74,75,76,77,78,79,80,81,82,83] ((⟨fun g=>[(10,.int .i64 g.1.1),(6,g.1.2.1.val)],fun g=>g.1.2.1.L 144 XAct.cells ++ (⟨b3,f.cells,42⟩ :: cblk c x g.1.2.2.1 :: []),fun g=>g.1.2.2.2,fun g=>g.1.1.toNat⟩:Head {g:Int×OwL XAct×Nat×List Sl // (0≤g.1∧g.1≤m0)∧ActsQ g.2.1 g.2.2.2∧(g.2.1.l.length:Int)=7 + f.switches.l.length * 3 + 2 * (m0 - g.1)∧g.2.2.1≤x.l.length∧∀r∈bsl (⟨none,0,[]⟩:Arr Int) :: R,InR r g.2.2.2})) (⟨(m0,u,k6,S3),by dsimp only;omega,hu,by dsimp only;omega,hk6,hS3⟩) ?_
  rintro ⟨⟨m,v,k7,S4⟩,hm,hv,hvn,hk7,hS4⟩ junk
  try dsimp only
  dsimp only at hm hv hvn hk7 hS4
  have hvk:=hv.ok
  have hxS4:CodesR x S4:=⟨hx1.1.mono hS4,hx1.2⟩
  refine qbi ?_
  refine Xbz ?_
  refine qaf ?_
  refine q_c (fun hc3=>?_) (fun hc3=>?_)
  ·
   refine J5 (Jb (Jn (Kg (Jh ?_))))
   refine qbm ?_
   refine qa6 ?_
   refine Js rfl (Kfc zG hxS4 hk7 za) rfl ?_
   rintro v L' R' ⟨y1,j1,rfl,u1,u1',u1'',hj1,rfl,rfl⟩
   have u1q:=u1' za
   refine Js rfl (Zfc 0 y1 _ _ za za) rfl ?_
   rintro v L' R' ⟨q69,rfl,hql69,hqR69,hR69,rfl⟩
   have hxS5:CodesR x R':=⟨hxS4.1.mono hR69,hxS4.2⟩
   have hnbS5:=(hS4 _ (.head _)).mono hR69
   refine qa6 ?_
   refine Js rfl (Kfc zG hxS5 hj1 za) rfl ?_
   rintro v L' R' ⟨y2,j2,rfl,u2,u2',u2'',hj2,rfl,rfl⟩
   have u2q:=u2' za
   refine Zie ?_
   refine qa6 ?_
   refine Js rfl (Jsf zG hxS5 hj2 za) rfl ?_
   rintro v L' R' ⟨y3,j3,rfl,u3,u3',hj3,rfl,rfl⟩
   refine qa6 ?_
   refine Js rfl (Kfc zG hxS5 hj3 za) rfl ?_
   rintro v L' R' ⟨y4,j4,rfl,u4,u4',u4'',hj4,rfl,rfl⟩
   have u4q:=u4' za
   refine qa6 ?_
   refine Js rfl (Kfc zG hxS5 hj4 za) rfl ?_
   rintro v L' R' ⟨y5,j5,rfl,u5,u5',u5'',hj5,rfl,rfl⟩
   have u5q:=u5' za
   refine qa6 ?_
   refine Js rfl (Kfc zG hxS5 hj5 za) rfl ?_
   rintro v L' R' ⟨y6,j6,rfl,u6,u6',u6'',hj6,rfl,rfl⟩
   have u6q:=u6' za
   refine U4f ?_
   refine Zge ?_
   rintro v L' R' ⟨b82,rfl,rfl,hR82⟩
   replace hR82:=hR82.symm;subst hR82
   refine Jua (wd:=5) (len:=2) (cap:=2) (rows:=[XAct.cells ⟨0,0,0,y2,q69⟩,XAct.cells ⟨y3,y4,y5,y6,(⟨none,0,[]⟩:Arr Int)⟩]) (subs:=[bsl q69,bsl (⟨none,0,[]⟩:Arr Int)]) rfl zc zc (fun r hr=>by rcases List.mem_cons.1 hr with rfl | hr;rfl;rw [List.mem_singleton.1 hr];rfl) zc rfl (fun s hs=>by simp only [List.mem_cons,List.not_mem_nil,or_false] at hs;rcases hs with rfl | rfl;exact hqR69;exact hnbS5) ?_
   refine Y9 (Yo tb v (⟨some ⟨b82,0,none⟩,2,[⟨0,0,0,y2,q69⟩,⟨y3,y4,y5,y6,(⟨none,0,[]⟩:Arr Int)⟩]⟩:Arr XAct) rfl rfl rfl zc rfl rfl hvk (subs:=[bsl q69,bsl (⟨none,0,[]⟩:Arr Int)]) zpb zj (fun _=>rfl) zla) rfl ?_
   rintro v' L' R'' ⟨o83,rfl,hok83,rfl,rfl⟩
   refine qc4 ?_
   refine qcs ?_
   refine Xci ?_
   exact Kf ⟨(m - 1,⟨o83,v.l ++ (⟨some ⟨b82,0,none⟩,2,[⟨0,0,0,y2,q69⟩,⟨y3,y4,y5,y6,(⟨none,0,[]⟩:Arr Int)⟩]⟩:Arr XAct).l⟩,j6,Uqf (⟨some ⟨b82,0,none⟩,2,[⟨0,0,0,y2,q69⟩,⟨y3,y4,y5,y6,(⟨none,0,[]⟩:Arr Int)⟩]⟩:Arr XAct) :: R'),by dsimp only;omega,((hv.mono hR69).mono fun r hr=>Ja (.tail _ hr)).app hok83 (fun a ha=>by
   simp only [List.mem_cons,List.not_mem_nil,or_false] at ha
   rcases ha with rfl | rfl
   · exact ActR.gas za (hqR69.mono fun r hr=>Ja (.tail _ hr)) hql69 za za
   · exact ActR.small za za za (hnbS5.mono fun r hr=>Ja (.tail _ hr))),by dsimp only;rw [List.length_append];simp;omega,hj6,fun r hr=>((hS4 r hr).mono hR69).mono fun r hr=>Ja (.tail _ hr)⟩ zm zg zi zqb zx
  refine Xcp ?_
  refine Xcq ?_
  refine q_r (L':=v.L 144 XAct.cells ++ (cblk c x k7 :: [])) (R':=S4) zSc ?_
  exact ⟨v,k7,rfl,hv,by omega,hk7,fun r hr=>hS4 r (.tail _ hr),rfl⟩
end
section
def Wd (x y:XSpan):Prop:=x.low≤x.high∧y.low≤x.low∧x.high≤y.high
structure MLoose (m m':XMeas):Prop where
  sensor:m'.sensor=m.sensor
  time:m'.time=m.time
  span:m'=m∨(Wd m.span m'.span∧(-1000000000≤m'.span.low∧m'.span.high≤1000000000))
section
variable {S:List XSens} {m m':List XMeas} {fl fl':List XSpan} {c:XCond} {w:XWatch} {t:Int} (hl:m'.length=m.length) (h:∀i:Nat,i < m.length→MLoose (m.getD i default) (m'.getD i default)) (hfl:fl'.length=fl.length) (hf:∀i:Nat,i < fl.length→Wd (fl.getD i default) (fl'.getD i default))
include hl h
include hfl hf
end
theorem Vjc {s : XSite} {v : List Int} {c : List XCut} {i : Int} : ∀ n, i ∈ Zu s v c n ↔ ∃ k : Nat, k < n ∧ i = (k : Int) ∧ J1a (s.zones.l.getD k default).rule.l v ≠ -1 ∧ (c.getD k default).off = false
  | 0=>by rw [Zu];simp
  | n + 1=>by
    have ih:=Vjc (s:=s) (v:=v) (c:=c) (i:=i) n
    rw [Zu]
    constructor
    · intro hi
      split at hi
      · rename_i hc
        rcases List.mem_append.1 hi with hi | hi
        · obtain ⟨k, k1, k2⟩ := ih.1 hi
          exact ⟨k,by omega,k2⟩
        · exact ⟨n,by omega,List.mem_singleton.1 hi,hc⟩
      · obtain ⟨k, k1, k2⟩ := ih.1 hi
        exact ⟨k,by omega,k2⟩
    · rintro ⟨k, k1, k2, k3⟩
      rcases Nat.lt_or_ge k n with hk | hk
      · split
        · exact List.mem_append_left _ (ih.2 ⟨k,hk,k2,k3⟩)
        · exact ih.2 ⟨k,hk,k2,k3⟩
      · obtain rfl : k = n := by omega
        rw [if_pos k3]
        exact List.mem_append_right _ (List.mem_singleton.2 k2)
end
end Go.Proofs.YtchfclmokpbldaaGreat
