import Derived.Test.YtchfclmokpbldaaGreatCloneS
import Derived.Test.YtchfclmokpbldaaGreatEasy
import Derived.Test.YtchfclmokpbldaaGreatSliW
import Derived.Test.YtchfclmokpbldaaGreatFeedX
import Derived.Test.YtchfclmokpbldaaGreatFlows
import Derived.Laws.IdiomStrings
import Derived.Test.YtchfclmokpbldaaGreatRestP
import Derived.Test.YtchfclmokpbldaaGreatVals
import Derived.Test.YtchfclmokpbldaaGreatStrEq
import Derived.Test.YtchfclmokpbldaaGreatLaw11b
import Derived.Test.YtchfclmokpbldaaGreatCutC
import Derived.Test.YtchfclmokpbldaaGreatRestN
import Derived.Test.YtchfclmokpbldaaGreatAwakeP
import Derived.Test.YtchfclmokpbldaaGreatStaE
set_option linter.unusedVariables false
set_option linter.unusedSimpArgs false
section
/-
  The draws: the site with one zone, its network as it stands. By an AI agent; no person has read it.
-/
namespace Go.Proofs.YtchfclmokpbldaaGreat
open Go.Aw Go
set_option maxRecDepth 20000
attribute [local irreducible] CJ LJ DJ Tri YV Gives Jcj Ja1 Jbg Jci RV Ja2 OwL.L
structure EasyN (f:XFeeder) (n:Nat):Prop where
  rng:1≤n∧n≤3
  sw:f.switches.l=Ji9 n
  zn:f.zones.l=[(n:Int) - 1]
  rp:f.reply=3
theorem Jtq (c:Nat) (x:Arr Int) (k:Nat) (R:List Sl) (hx:CodesR x R) (hk:k≤x.l.length):
    Tri Tryz.prog 15 [.pointer (some ⟨c, 0, none⟩)].toArray [cblk c x k] R
      (fun v L' R'=>∃(s:XSite) (len dl ho:Int) (f:XFeeder) (n k':Nat),v=.tuple #[s.val,f.val]∧EasyD s len dl ho∧EasyN f n∧(k'≤x.l.length∧(x.l.length≤k→len=1∧dl=1∧ho=1∧n=1∧k'=k))∧(SiteR s R'∧FeederR f R'∧∀r∈R,InR r R')∧cblk c x k' :: []=L'):=by
  refine Tri.postW (Jt1 c x k R hx hk) ?_
  rintro v L' R' c w ⟨s,len,dl,ho,sw,zn,n,k',rfl,hE,⟨hsk,hzk⟩,hn,hsl,hzl,hk',⟨hs,hR⟩,rfl⟩ hst
  have h1:=hst.frzO (subs:=[]) hsk (fun _=>rfl) ze (fun s hs=>by cases hs)
  have h2:=h1.frzO (subs:=[]) hzk (fun _=>rfl) ze (fun s hs=>by cases hs)
  have h3:∀r∈R',InR r (isl zn.arr :: Jpm sw.arr :: R'):=fun r hr=>Jaa (.tail _ (.tail _ hr))
  exact ⟨_,_,h2,s,len,dl,ho,⟨sw.arr,zn.arr,3⟩,n,k',rfl,hE,⟨hn,hsl,hzl,rfl⟩,hk',⟨hs.mono h3,⟨Jaa (.tail _ (.head _)),Jaa (.head _)⟩,fun r hr=>(hR r hr).mono h3⟩,rfl⟩
end Go.Proofs.YtchfclmokpbldaaGreat
end
section
/-
  Bytes as strings, and '==' between them. By an AI agent; no person has read it.
-/
namespace Go.Proofs.YtchfclmokpbldaaGreat
open Go.Aw Go
def Kdc (l:List Int):ByteArray:=⟨(l.map fun n=>UInt8.ofNat n.toNat).toArray⟩
section
variable {P:Program} {ρ:Operand→Value} {L:List Blk} {R:List Sl} {dst:Option Tmp} {ty:TypeId} {pos:String} {after:Array Edge} {guard:Option (Nat×Bool)} (tb:Tabs P) {T T2:TypeId} {x y:Operand}
theorem Jnc {ti:TI} (h:Jet P T=some ti) (hk:ti.k=.string):P.underlying T=some .string:=by
  obtain ⟨i,u,z,hi,hu,hz,rfl⟩:=Jce h
  cases u <;> simp [Jy8] at hk
  rw [hu]
theorem Joq {xs:Arr Int} {e n1 f1 b1 z1 n2 f2 b2 z2 n3 f3 b3 z3} (hT:Jdy tb.tab T=some ⟨.slice e,n1,f1,b1,z1⟩) (hE:Jdy tb.tab e=some ⟨.int .u8,n2,f2,b2,z2⟩) (hS:Jdy tb.tab T2=some ⟨.string,n3,f3,b3,z3⟩) (hx:ρ x=xs.val) (hR:InR (bsl xs) R) (hb:BytesOk xs.l):
    YV P ⟨dst,.convert T T2 x,ty,pos,after,guard⟩ ρ L R (.string (Kdc xs.l)):=fun c w hst=>by
  obtain ⟨ar,cap,l⟩:=xs
  dsimp only at hx hR hb ⊢
  have u1:=Jct (tb.ok _ _ hT) rfl
  have u2:=Jpa (tb.ok _ _ hE) rfl
  have u3:=Jnc (tb.ok _ _ hS) rfl
  have hsome:0 < l.length→∃b off,ar=some ⟨b,off,none⟩:=fun hx0=>by
    have hst':=hst
    obtain ⟨⟨G,hh,_⟩,_,_⟩:=hst'
    obtain ⟨r,hr,hsub⟩:=hR
    have hrep:=(hh.rep r hr).sub hsub
    cases hrep with
    | mk _ _ _ _ hm _=>
      rcases hm with h | ⟨b,off,ha,_⟩
      · have h' := congrArg List.length h
        simp at h'
        rw [h'] at hx0
        simp at hx0
      · exact ⟨b,off,ha⟩
  have hl:(l.map fun n=>UInt8.ofNat n.toNat).length=l.length:=List.length_map _
  have key:(convert T T2 (.slice ar l.length cap)).run P w=.ok (.string (Kdc l)) w:=by
    cases ar with
    | some a=>
      have h1:=run_convert_bytes_back (P:=P) w T T2 e a cap (l.map fun n=>UInt8.ofNat n.toNat) u1 u2 u3 (fun j hj=>by
        have hj2:j < l.length:=by rw [hl] at hj;exact hj
        have hg:=List.getElem?_eq_getElem hj2
        have hc:=Js5 hst hR (i:=j) (j:=0) (row:=Jkz l[j]) (by rw [List.getElem?_map,hg];rfl) (v:=.int .u8 l[j]) rfl
        have hbj:=hb _ (List.getElem_mem hj2)
        have e1:((l.map fun n=>UInt8.ofNat n.toNat)[j].toNat:Int)=l[j]:=by
          rw [List.getElem_map,UInt8.toNat_ofNat']
          omega
        rw [e1]
        obtain ⟨b,off,ha⟩:=hsome za
        obtain rfl:=Option.some.inj ha
        have ea:(Addr.add ⟨b,off,none⟩ j)=⟨adB (some ⟨b,off,none⟩),eo (some ⟨b,off,none⟩) 1 j 0,none⟩:=by
          rw [Addr.add]
          split
          · rename_i h0;subst h0;rfl
          · show (⟨b, off + j, none⟩ : Addr) = ⟨b, off + j * 1 + 0, none⟩
            rw [Nat.mul_one,Nat.add_zero]
        rw [ea];exact hc)
      rw [hl] at h1
      exact h1
    | none=>
      rcases Nat.eq_zero_or_pos l.length with h0 | h0
      · obtain rfl := List.length_eq_zero_iff.1 h0
        rw [run_convert_bytes_string w T T2 e none _ cap u1 u2 u3]
        simp [Conv.bytesToString,Kdc]
        rfl
      · obtain ⟨b, off, ha⟩ := hsome h0
        cases ha
  simp [execOp,hx,key]
theorem Jta {a b:ByteArray} {n1 f1 b1 z1} (hT:Jdy tb.tab T=some ⟨.string,n1,f1,b1,z1⟩) (hx:ρ x=.string a) (hy:ρ y=.string b) (h:a=b):YV P ⟨dst,.binOp .eql T x y T2,ty,pos,after,guard⟩ ρ L R (.bool true):=fun _ w _=>by
  have u3:=Jnc (tb.ok _ _ hT) rfl
  subst h
  simp [execOp,hx,hy,eqGuard,binOp,Op.stringOp]
end
end Go.Proofs.YtchfclmokpbldaaGreat
end
section
/-
  The values of conditions, the reference's. By an AI agent; no person has read it.
-/
namespace Go.Proofs.YtchfclmokpbldaaGreat
open Go.Aw Go
set_option maxRecDepth 20000
attribute [local irreducible] CJ LJ DJ Tri YV Gives Jcj Ja1 Jbg Jci RV Ja2 OwL.L
end Go.Proofs.YtchfclmokpbldaaGreat
end
section
/-
  The values of conditions and the states of zones, the reference's; lists that are compared. By an AI agent; no person has read it.
-/
namespace Go.Proofs.YtchfclmokpbldaaGreat
open Go.Aw Go
set_option maxRecDepth 20000
attribute [local irreducible] CJ LJ DJ Tri YV Gives Jcj Ja1 Jbg Jci RV Ja2 OwL.L
section
variable {A9 B9:Prop}
theorem J4x (a:A9) (h:A9→B9:=by exact Jbu (Jav (show _=Value.slice _ _ _ from rfl)) rfl rfl rfl):B9:=h a
theorem Kax (a:A9) (h:A9→B9:=by exact Jbf tb [0,1,2,3,4,5,6,7,8] ([]) Jby zc zi):B9:=h a
end
theorem Jpg (x y:Arr XWatch) (L:List Blk) (R:List Sl) (hx:InR (Jwm x) R) (hy:InR (Jwm y) R) (he:x.l=y.l):
    Tri Tryz.prog 126 [x.val,y.val].toArray L R (fun v L' R'=>v=.bool true∧L=L'∧R=R'):=by
  have hle:x.l.length=y.l.length:=by rw [he]
  refine Jc1 Tryz.call126 hx fun hxn=>?_
  refine Jad 26 Tryz.call126 Tryz.func126 rfl rfl rfl ?_
  refine Xax ?_
  refine Xdr ?_
  refine Xao ?_
  refine Xaq ?_
  refine q_c (fun hc0=>?_) (fun hc0=>?_)
  ·
   refine Xch ?_
   refine q_b (L':=L) (R':=R) ?_
   exact absurd hle za
  refine qbo ?_
  refine Xb2 ?_
  refine Jan [(0,Value.slice _ _ _),(1,Value.slice _ _ _),(5,Value.int _ _)] zh fun tq0=>?_
  refine q_s [4,5,11,12,13,14,15,16,17,18,19,20,21,22,23,24,25] (fun g:{k:Nat // k≤x.l.length}=>[(5,.int .i64 ((g.1:Nat):Int))]) (fun g=>x.l.length - g.1) (⟨0,by omega⟩) ?_
  rintro ⟨k,hk⟩ junk
  try dsimp only
  refine Xbn ?_
  refine Xao ?_
  refine Xbe ?_
  refine q_c (fun hc1=>?_) (fun hc1=>?_)
  ·
   have hxg:=Jau (l:=x.l) (k:=k) default za
   have hyg:y.l[k]?=some (x.l.getD k default):=by rw [← he];exact hxg
   refine Ja4 (Jab (Jam (Jbd (Jam ?_))))
   refine Kax ?_
   refine J4x ?_
   refine Xdp ?_
   refine qdv ?_
   refine J4x ?_
   refine Xdp ?_
   refine qdv ?_
   refine Jbu (Jfj J8y rfl rfl zD zD rfl) rfl rfl rfl ?_
   refine qbu ?_
   refine q_c (fun hc2=>?_) (fun hc2=>?_)
   ·
    refine Xca ?_
    refine q_b (L':=L) (R':=R) ?_
    exact absurd hc2 zO
   refine Xdb ?_
   exact q_k (⟨k + 1,by omega⟩)
  refine Xdf ?_
  refine q_b (L':=L) (R':=R) ?_
  exact ⟨rfl,rfl,rfl⟩
theorem Jua (x y:Arr XCut) (L:List Blk) (R:List Sl) (hx:InR (Jp3 x) R) (hy:InR (Jp3 y) R) (he:x.l=y.l):
    Tri Tryz.prog 69 [x.val,y.val].toArray L R (fun v L' R'=>v=.bool true∧L=L'∧R=R'):=by
  have hle:x.l.length=y.l.length:=by rw [he]
  refine Jc1 Tryz.call69 hx fun hxn=>?_
  refine Jad 26 Tryz.call69 Tryz.func69 rfl rfl rfl ?_
  refine Xax ?_
  refine Xdr ?_
  refine Xao ?_
  refine Xaq ?_
  refine q_c (fun hc0=>?_) (fun hc0=>?_)
  ·
   refine Xch ?_
   refine q_b (L':=L) (R':=R) ?_
   exact absurd hle za
  refine qbo ?_
  refine Xb2 ?_
  refine Jan [(0,Value.slice _ _ _),(1,Value.slice _ _ _),(5,Value.int _ _)] zh fun tq0=>?_
  refine q_s [4,5,11,12,13,14,15,16,17,18,19,20,21,22,23,24,25] (fun g:{k:Nat // k≤x.l.length}=>[(5,.int .i64 ((g.1:Nat):Int))]) (fun g=>x.l.length - g.1) (⟨0,by omega⟩) ?_
  rintro ⟨k,hk⟩ junk
  try dsimp only
  refine Xbn ?_
  refine Xao ?_
  refine Xbe ?_
  refine q_c (fun hc1=>?_) (fun hc1=>?_)
  ·
   have hxg:=Jau (l:=x.l) (k:=k) default za
   have hyg:y.l[k]?=some (x.l.getD k default):=by rw [← he];exact hxg
   refine Ja4 (Jab (Jam (Jbd (Jam ?_))))
   refine Kax ?_
   refine J4x ?_
   refine Xdp ?_
   refine qdv ?_
   refine J4x ?_
   refine Xdp ?_
   refine qdv ?_
   refine Jbu (Jfj Kdg rfl rfl zD zD rfl) rfl rfl rfl ?_
   refine qbu ?_
   refine q_c (fun hc2=>?_) (fun hc2=>?_)
   ·
    refine Xca ?_
    refine q_b (L':=L) (R':=R) ?_
    exact absurd hc2 zO
   refine Xdb ?_
   exact q_k (⟨k + 1,by omega⟩)
  refine Xdf ?_
  refine q_b (L':=L) (R':=R) ?_
  exact ⟨rfl,rfl,rfl⟩
end Go.Proofs.YtchfclmokpbldaaGreat
end
section
/-
  The reference's comparison of stations. By an AI agent; no person has read it.
-/
namespace Go.Proofs.YtchfclmokpbldaaGreat
open Go.Aw Go
section
variable {A9 B9:Prop}
theorem J45 (a:A9) (h:A9→B9:=by exact Jbu (Jav (show _=Value.slice _ _ _ from rfl)) rfl rfl rfl):B9:=h a
theorem Kco (a:A9) (h:A9→B9:=by exact Jbf tb [0,1,2,3,4,5,6,7,8] ([]) Jby zc zi):B9:=h a
theorem Kcl (a:A9) (h:A9→B9:=by exact Jbu zta rfl rfl rfl):B9:=h a
theorem Kbj (a:A9) (h:A9→B9:=by exact Jbu zEa rfl rfl rfl):B9:=h a
theorem Kb8 (a:A9) (h:A9→B9:=by exact Jax (Jal (row:=[_,_,_]) tb rfl rfl rfl zf zb zb) rfl):B9:=h a
theorem Kad (a:A9) (h:A9→B9:=by exact Jax (Jal (row:=[_,_,_,_,_]) tb rfl rfl rfl zf zb zb) rfl):B9:=h a
end
theorem J20:StrEq Tryz.prog 150 [.i,.i,.i,.i]:=
  Jhl [(3,[.i]),(3,[.i]),(3,[.i]),(3,[.i])] zc zc zc zc rfl (by
    intro p hp
    simp only [List.mem_cons,List.not_mem_nil,or_false] at hp
    rcases hp with rfl | rfl | rfl | rfl <;> exact Jel zc)
theorem J8d:StrEq Tryz.prog 159 [.i,.b]:=
  Jhl [(3,[.i]),(4,[.b])] zc zc zc zc rfl (by
    intro p hp
    simp only [List.mem_cons,List.not_mem_nil,or_false] at hp
    rcases hp with rfl | rfl
    · exact Jel zc
    · exact Jk0 zc)
theorem J8n {T:TypeId} {ti:TI} (h:Jdy tb.tab T=some ti):∃i,Tryz.prog.info? T=some i:=by
  obtain ⟨i,u,z,hi,_⟩:=Jce (tb.ok _ _ h)
  exact ⟨i,hi⟩
theorem Jx6 {d:Nat}:FE Tryz.prog (d + 2) 90 [.i,.i]:=by
  obtain ⟨i,hi⟩:=J8n (T:=90) rfl
  exact Kch (pl:=[(3,[.i]),(3,[.i])]) zc zc hi zc zc (by
    intro p hp
    simp only [List.mem_cons,List.not_mem_nil,or_false] at hp
    rcases hp with rfl | rfl <;> exact Jel zc)
theorem Kbg:StrEq Tryz.prog 93 [.i,.i,.i,.i]:=
  Jhl [(3,[.i]),(3,[.i]),(90,[.i,.i])] zc zc zc zc rfl (by
    intro p hp
    simp only [List.mem_cons,List.not_mem_nil,or_false] at hp
    rcases hp with rfl | rfl | rfl
    · exact Jel zc
    · exact Jel zc
    · exact Jx6)
theorem Kaq:StrEq Tryz.prog 157 [.i,.i,.i,.i,.b,.b,.i,.i,.i,.i]:=
  Jhl [(3,[.i]),(3,[.i]),(3,[.i]),(3,[.i]),(4,[.b]),(4,[.b]),(90,[.i,.i]),(90,[.i,.i])] zc zc zc zc rfl (by
    intro p hp
    simp only [List.mem_cons,List.not_mem_nil,or_false] at hp
    rcases hp with rfl | rfl | rfl | rfl | rfl | rfl | rfl | rfl
    · exact Jel zc
    · exact Jel zc
    · exact Jel zc
    · exact Jel zc
    · exact Jk0 zc
    · exact Jk0 zc
    · exact Jx6
    · exact Jx6)
set_option maxRecDepth 20000
attribute [local irreducible] CJ LJ DJ Tri YV Gives Jcj Ja1 Jbg Jci RV Ja2 OwL.L
theorem Jws (x y:Arr XEntry) (L:List Blk) (R:List Sl) (hx:InR (Jey x) R) (hy:InR (Jey y) R) (he:x.l=y.l):
    Tri Tryz.prog 64 [x.val,y.val].toArray L R (fun v L' R'=>v=.bool true∧L=L'∧R=R'):=by
  have hle:x.l.length=y.l.length:=by rw [he]
  refine Jgv Tryz.call64 hx fun hxn=>?_
  refine Jad 26 Tryz.call64 Tryz.func64 rfl rfl rfl ?_
  refine Xax ?_
  refine Xdr ?_
  refine Xao ?_
  refine Xaq ?_
  refine q_c (fun hc0=>?_) (fun hc0=>?_)
  ·
   refine Xch ?_
   refine q_b (L':=L) (R':=R) ?_
   exact absurd hle za
  refine qbo ?_
  refine Xb2 ?_
  refine Jan [(0,Value.slice _ _ _),(1,Value.slice _ _ _),(5,Value.int _ _)] zh fun tq0=>?_
  refine q_s [4,5,11,12,13,14,15,16,17,18,19,20,21,22,23,24,25] (fun g:{k:Nat // k≤x.l.length}=>[(5,.int .i64 ((g.1:Nat):Int))]) (fun g=>x.l.length - g.1) (⟨0,by omega⟩) ?_
  rintro ⟨k,hk⟩ junk
  try dsimp only
  refine Xbn ?_
  refine Xao ?_
  refine Xbe ?_
  refine q_c (fun hc1=>?_) (fun hc1=>?_)
  ·
   have hxg:=Jau (l:=x.l) (k:=k) default za
   have hyg:y.l[k]?=some (x.l.getD k default):=by rw [← he];exact hxg
   refine Ja4 (Jab (Jam (Jbd (Jam ?_))))
   refine Kco ?_
   refine J45 ?_
   refine Xdp ?_
   refine qdp ?_
   refine J45 ?_
   refine Xdp ?_
   refine qdp ?_
   refine Jbu (Jfj J20 rfl rfl zD zD rfl) rfl rfl rfl ?_
   refine qbu ?_
   refine q_c (fun hc2=>?_) (fun hc2=>?_)
   ·
    refine Xca ?_
    refine q_b (L':=L) (R':=R) ?_
    exact absurd hc2 zO
   refine Xdb ?_
   exact q_k (⟨k + 1,by omega⟩)
  refine Xdf ?_
  refine q_b (L':=L) (R':=R) ?_
  exact ⟨rfl,rfl,rfl⟩
theorem Jvb (x y:Arr XMeas) (L:List Blk) (R:List Sl) (hx:InR (Jde x) R) (hy:InR (Jde y) R) (he:x.l=y.l):
    Tri Tryz.prog 61 [x.val,y.val].toArray L R (fun v L' R'=>v=.bool true∧L=L'∧R=R'):=by
  have hle:x.l.length=y.l.length:=by rw [he]
  refine Jgv Tryz.call61 hx fun hxn=>?_
  refine Jad 26 Tryz.call61 Tryz.func61 rfl rfl rfl ?_
  refine Xax ?_
  refine Xdr ?_
  refine Xao ?_
  refine Xaq ?_
  refine q_c (fun hc0=>?_) (fun hc0=>?_)
  ·
   refine Xch ?_
   refine q_b (L':=L) (R':=R) ?_
   exact absurd hle za
  refine qbo ?_
  refine Xb2 ?_
  refine Jan [(0,Value.slice _ _ _),(1,Value.slice _ _ _),(5,Value.int _ _)] zh fun tq0=>?_
  refine q_s [4,5,11,12,13,14,15,16,17,18,19,20,21,22,23,24,25] (fun g:{k:Nat // k≤x.l.length}=>[(5,.int .i64 ((g.1:Nat):Int))]) (fun g=>x.l.length - g.1) (⟨0,by omega⟩) ?_
  rintro ⟨k,hk⟩ junk
  try dsimp only
  refine Xbn ?_
  refine Xao ?_
  refine Xbe ?_
  refine q_c (fun hc1=>?_) (fun hc1=>?_)
  ·
   have hxg:=Jau (l:=x.l) (k:=k) default za
   have hyg:y.l[k]?=some (x.l.getD k default):=by rw [← he];exact hxg
   refine Ja4 (Jab (Jam (Jbd (Jam ?_))))
   refine Kco ?_
   refine J45 ?_
   refine Xdp ?_
   refine qdp ?_
   refine J45 ?_
   refine Xdp ?_
   refine qdp ?_
   refine Jbu (Jfj Kbg rfl rfl zD zD rfl) rfl rfl rfl ?_
   refine qbu ?_
   refine q_c (fun hc2=>?_) (fun hc2=>?_)
   ·
    refine Xca ?_
    refine q_b (L':=L) (R':=R) ?_
    exact absurd hc2 zO
   refine Xdb ?_
   exact q_k (⟨k + 1,by omega⟩)
  refine Xdf ?_
  refine q_b (L':=L) (R':=R) ?_
  exact ⟨rfl,rfl,rfl⟩
theorem Ju5 (m w:XMine) (L:List Blk) (R:List Sl) (hm:MineR m R) (hw:MineR w R) (h1:m.places.l=w.places.l) (h2:m.roads.l=w.roads.l) (hn:m.places.l.length≤1000∧m.roads.l.length≤1000):
    Tri Tryz.prog 127 [m.val,w.val].toArray L R (fun v L' R'=>v=.bool true∧L=L'∧R=R'):=by
  have hp1:=hm.places
  have hp2:=hw.places
  have hr1:=hm.roads
  have hr2:=hw.roads
  have hl1:m.places.l.length=w.places.l.length:=by rw [h1]
  have hl2:m.roads.l.length=w.roads.l.length:=by rw [h2]
  refine Jad 59 Tryz.call127 Tryz.func127 rfl rfl rfl ?_
  refine Xaf ?_
  intro b2
  refine qax ?_
  intro b3
  refine qaz ?_
  refine qaw ?_
  refine Xab ?_
  refine Xab ?_
  refine Xbu ?_
  apply Ja7 (G:=[_,_,_,_,_,_,_]) (j:=7) (cj:=14) rfl rfl zb rfl (show _=Value.bool _ from rfl) rfl
  ·
   intro hg8
   replace hg8:=qb hg8
   refine Xab ?_
   refine Xab ?_
   refine qbq ?_
   exact qai
  intro junk8
  refine qaf ?_
  refine q_c (fun hc0=>?_) (fun hc0=>?_)
  ·
   refine Xch ?_
   refine q_b (L':=L) (R':=R) ?_
   exact absurd hl2 za
  refine qbo ?_
  refine Xb2 ?_
  refine Jan [(2,Value.pointer _),(3,Value.pointer _),(5,Value.int _ _)] zh fun tq0=>?_
  refine q_s [4,5,23,24,25,26,27,28,29,30,31,32,33,34,35,36,37,38,39,40] (fun g:{k:Nat // k≤m.places.l.length}=>[(5,.int .i64 ((g.1:Nat):Int))]) (fun g=>m.places.l.length - g.1) (⟨0,by omega⟩) ?_
  rintro ⟨k,hk⟩ junk
  try dsimp only
  refine Xbn ?_
  refine Xab ?_
  refine Xbe ?_
  refine q_c (fun hc1=>?_) (fun hc1=>?_)
  ·
   have hxg:=Jau (l:=m.places.l) (k:=k) default za
   have hyg:w.places.l[k]?=some (m.places.l.getD k default):=by rw [← h1];exact hxg
   refine Ja4 (Jab (Jam (Jbd (Jam ?_))))
   refine Jbf tb [0,1,2,3,4,5,6,7,8,9,10] _ Jby zc (List.Sublist.refl _) ?_
   refine Xbo ?_
   refine qds ?_
   refine qdo ?_
   refine Xbo ?_
   refine qds ?_
   refine qdo ?_
   refine Jbu (Jfj J8d rfl rfl zD zD rfl) rfl rfl rfl ?_
   refine qbu ?_
   refine q_c (fun hc2=>?_) (fun hc2=>?_)
   ·
    refine Xca ?_
    refine q_b (L':=L) (R':=R) ?_
    exact absurd hc2 zO
   refine Xdb ?_
   exact q_k (⟨k + 1,by omega⟩)
  refine qcf ?_
  refine Xb2 ?_
  refine Jan [(2,Value.pointer _),(3,Value.pointer _),(6,Value.int _ _)] zh fun tq1=>?_
  refine q_s [4,6,41,42,43,44,45,46,47,48,49,50,51,52,53,54,55,56,57,58] (fun g:{j:Nat // j≤m.roads.l.length}=>[(6,.int .i64 ((g.1:Nat):Int))]) (fun g=>m.roads.l.length - g.1) (⟨0,by omega⟩) ?_
  rintro ⟨j,hj⟩ junk
  try dsimp only
  refine Xbn ?_
  refine Xab ?_
  refine Xbe ?_
  refine q_c (fun hc3=>?_) (fun hc3=>?_)
  ·
   have hxg:=Jau (l:=m.roads.l) (k:=j) default za
   have hyg:w.roads.l[j]?=some (m.roads.l.getD j default):=by rw [← h2];exact hxg
   refine Ja4 (Jab (Jam (Jbd (Jam ?_))))
   refine Jbf tb [0,1,2,3,4,5,6,7,8,9,10] _ Jby zc (List.Sublist.refl _) ?_
   refine Xbo ?_
   refine Kcl ?_
   refine Kbj ?_
   refine Xbo ?_
   refine Kcl ?_
   refine Kbj ?_
   refine Jbu (Jfj Kaq rfl rfl zD zD rfl) rfl rfl rfl ?_
   refine qbu ?_
   refine q_c (fun hc4=>?_) (fun hc4=>?_)
   ·
    refine Xca ?_
    refine q_b (L':=L) (R':=R) ?_
    exact absurd hc4 zO
   refine Xdb ?_
   exact q_k (⟨j + 1,by omega⟩)
  refine Xdf ?_
  refine q_b (L':=L) (R':=R) ?_
  exact ⟨rfl,rfl,rfl⟩
set_option maxHeartbeats 1000000 in
theorem Jv6 (x y : XSta) (L : List Blk) (R : List Sl) (hx : StaR x R) (hy : StaR y R) (hb : BytesOk x.held.l) (e1 : x.time = y.time) (e2 : x.dropped = y.dropped) (e3 : x.held.l = y.held.l) (e4 : x.meas.l = y.meas.l) (e5 : x.watches.l = y.watches.l) (e6 : x.cuts.l = y.cuts.l) (e7 : x.feeder.switches.l = y.feeder.switches.l ∧ x.feeder.zones.l = y.feeder.zones.l ∧ x.feeder.reply = y.feeder.reply) (e8 : x.rest = y.rest) (e9 : x.log.l = y.log.l) (e10 : x.site.air.mine.places.l = y.site.air.mine.places.l ∧ x.site.air.mine.roads.l = y.site.air.mine.roads.l) (e11 : x.site.zones.l.length = y.site.zones.l.length)
    (hn:x.site.air.mine.places.l.length≤1000∧x.site.air.mine.roads.l.length≤1000):
    Tri Tryz.prog 53 [x.val,y.val].toArray L R (fun v L' R'=>v=.bool true∧L=L'∧R=R'):=by
  have hh1:=hx.held
  have hh2:=hy.held
  have hb2:BytesOk y.held.l:=by rw [← e3];exact hb
  refine Jad 94 Tryz.call53 Tryz.func53 rfl rfl rfl ?_
  refine Xaf ?_
  intro b2
  refine qax ?_
  intro b3
  refine qaz ?_
  refine qam ?_
  refine Xa1 ?_
  refine Xb7 ?_
  apply Jb7 (G:=[_,_,_,_,_,_,_]) (j:=5) (cj:=10) rfl rfl zb rfl (show _=Value.bool _ from rfl) rfl
  ·
   intro hg6
   replace hg6:=qb hg6
   refine Xcn ?_
   refine Xcn ?_
   refine qbn ?_
   exact qai
  intro junk6
  refine qah ?_
  apply Jb7 (G:=[_,_,_,_,_,_,_,_,_]) (j:=14) (cj:=19) rfl rfl zb rfl (show _=Value.bool _ from rfl) rfl
  ·
   intro hg15
   replace hg15:=qb hg15
   refine Xcn ?_
   refine Jax (Joq tb rfl rfl rfl rfl hh1 hb) rfl ?_
   refine Xcn ?_
   refine Jax (Joq tb rfl rfl rfl rfl hh2 hb2) rfl ?_
   refine Jax (Jta tb rfl rfl rfl (by rw [e3])) rfl ?_
   exact qai
  intro junk15
  refine qah ?_
  apply Jb7 (G:=[_,_,_,_,_]) (j:=25) (cj:=30) rfl rfl zb rfl (show _=Value.bool _ from rfl) rfl
  ·
   intro hg26
   replace hg26:=qb hg26
   refine Xa1 ?_
   refine q_l rfl (Jvb x.meas y.meas _ _ hx.meas hy.meas e4) ?_
   exact qai
  intro junk26
  refine qah ?_
  apply Jb7 (G:=[_,_,_,_,_]) (j:=32) (cj:=37) rfl rfl zb rfl (show _=Value.bool _ from rfl) rfl
  ·
   intro hg33
   replace hg33:=qb hg33
   refine Xa1 ?_
   refine q_l rfl (Jpg x.watches y.watches _ _ hx.watches hy.watches e5) ?_
   exact qai
  intro junk33
  refine qah ?_
  apply Jb7 (G:=[_,_,_,_,_]) (j:=39) (cj:=44) rfl rfl zb rfl (show _=Value.bool _ from rfl) rfl
  ·
   intro hg40
   replace hg40:=qb hg40
   refine Xa1 ?_
   refine q_l rfl (Jua x.cuts y.cuts _ _ hx.cuts hy.cuts e6) ?_
   exact qai
  intro junk40
  refine qah ?_
  apply Jb7 (G:=[_,_,_,_,_]) (j:=46) (cj:=51) rfl rfl zb rfl (show _=Value.bool _ from rfl) rfl
  ·
   intro hg47
   replace hg47:=qb hg47
   refine qab ?_
   refine Kb8 ?_
   refine qab ?_
   refine Kb8 ?_
   refine q_l rfl (Jp2 x.feeder y.feeder _ _ hx.feeder hy.feeder e7.1 e7.2.1 e7.2.2) ?_
   exact qai
  intro junk47
  refine qah ?_
  apply Jb7 (G:=[_,_,_,_,_]) (j:=53) (cj:=58) rfl rfl zb rfl (show _=Value.bool _ from rfl) rfl
  ·
   intro hg54
   replace hg54:=qb hg54
   refine qab ?_
   refine Kad ?_
   refine qab ?_
   refine Kad ?_
   refine Jax (Jq2 Jwk rfl rfl zD zD rfl) rfl ?_
   exact qai
  intro junk54
  refine qah ?_
  apply Jb7 (G:=[_,_,_,_,_]) (j:=60) (cj:=65) rfl rfl zb rfl (show _=Value.bool _ from rfl) rfl
  ·
   intro hg61
   replace hg61:=qb hg61
   refine Xa1 ?_
   refine q_l rfl (Jws x.log y.log _ _ hx.log hy.log e9) ?_
   exact qai
  intro junk61
  refine qah ?_
  apply Jb7 (G:=[_,_,_,_,_,_,_,_,_]) (j:=67) (cj:=72) rfl rfl zb rfl (show _=Value.bool _ from rfl) rfl
  ·
   intro hg68
   replace hg68:=qb hg68
   iterate 3 refine qab ?_
   refine qbe ?_
   iterate 3 refine qab ?_
   refine qbe ?_
   refine q_l rfl (Ju5 x.site.air.mine y.site.air.mine _ _ hx.site.air.mineR hy.site.air.mineR e10.1 e10.2 hn) ?_
   exact qai
  intro junk68
  refine qah ?_
  apply Jb7 (G:=[_,_,_,_,_,_,_,_,_]) (j:=78) (cj:=83) rfl rfl zb rfl (show _=Value.bool _ from rfl) rfl
  ·
   intro hg79
   replace hg79:=qb hg79
   refine Xb8 ?_
   refine Xb8 ?_
   refine qbn ?_
   exact qai
  intro junk79
  refine Xa3 ?_
  refine q_b (L':=L) (R':=R) ?_
  exact ⟨by rw [e1,e2,e8,e11];simp [Jcl,Ji6],rfl,rfl⟩
theorem StaIs.same {g:PSite} {p:PSta} {x y:XSta} {L:List Blk} {R:List Sl} (hI:Inv g p) (hx:StaIs g p x) (hy:StaIs g p y) (h1:StaR x R) (h2:StaR y R):
    Tri Tryz.prog 53 [x.val,y.val].toArray L R (fun v L' R'=>v=.bool true∧L=L'∧R=R'):=by
  have hao:=(Jeo hI.air).mine
  have e:=hx.site.trans hy.site.symm
  refine Jv6 x y L R h1 h2 (by rw [hx.held];exact hI.held.1) (hx.time.trans hy.time.symm) (hx.dropped.trans hy.dropped.symm) (hx.held.trans hy.held.symm) (hx.meas.trans hy.meas.symm) (hx.watches.trans hy.watches.symm) (hx.cuts.trans hy.cuts.symm) ⟨hx.sw.trans hy.sw.symm,hx.zn.trans hy.zn.symm,hx.rp.trans hy.rp.symm⟩ (hx.rest.trans hy.rest.symm) (hx.log.trans hy.log.symm) ⟨SiteE.places e,SiteE.roads e⟩ (SiteE.nzones e) ?_
  rw [SiteE.places hx.site,SiteE.roads hx.site]
  have:=hao.places
  have:=hao.roads
  omega
end Go.Proofs.YtchfclmokpbldaaGreat
end
section
/-
  Statements about chapter 22: the sanity check. By an AI agent; no person has read it.
-/
namespace Go.Proofs.YtchfclmokpbldaaGreat
open Go.Aw Go
set_option maxRecDepth 20000
attribute [local irreducible] CJ LJ DJ Tri YV Gives Jcj Ja1 Jbg Jci RV Ja2 OwL.L
section
variable {A9 B9:Prop}
theorem J0s (a:A9) (h:A9→B9:=by exact Jax zL rfl):B9:=h a
theorem J5l (a:A9) (h:A9→B9:=by exact Jdi (Jbz tb rfl rfl rfl zf zb) rfl rfl):B9:=h a
theorem Ka2 (a:A9) (h:A9→B9:=by exact Jdi zua rfl rfl):B9:=h a
end
set_option maxHeartbeats 1000000 in
theorem Jxp (L:List Blk) (R:List Sl):Tri Tryz.prog 51 ([]:List Value).toArray L R (fun v L' R'=>v=.bool true∧L=L'∧R=R'):=by
  refine Jad 62 Tryz.call51 Tryz.func51 rfl rfl rfl ?_
  refine Xax ?_
  refine qa4 ?_
  refine J2i 1 ?_
  refine qay ?_
  refine Jaw rfl (J1k ⟨none,0,[]⟩ _ _ ⟨Jaa (.head _),fun i q hq=>by simp at hq⟩) rfl ?_
  rintro v L' R' ⟨c,rfl,hx,rfl,rfl⟩
  refine Jaw rfl (Tri.spl (.consL .rest) (Jtq c _ 0 _ hx (Nat.zero_le _))) rfl ?_
  rintro v L' R' ⟨_,rfl,s,len,dl,ho,f,n,k1,rfl,hE,hN,⟨hk1,he0⟩,⟨hs,hf,hR0⟩,rfl⟩
  refine Jax (Jav rfl) rfl ?_
  refine Xcs ?_
  intro b1
  refine qaq ?_
  intro b2
  refine qak ?_
  refine Xcw ?_
  obtain ⟨rfl,rfl,rfl,rfl,_⟩:=he0 (Nat.zero_le _)
  have hRR:∀r∈R,InR r R':=fun r hr=>hR0 r (.tail _ (.tail _ hr))
  obtain ⟨A,hA⟩:=J3z s.air.mine
  refine Jc3 (L':=⟨b2,f.cells,42⟩ :: ⟨b1,s.cells,38⟩ :: L) (List.sublist_append_left _ _) (Jac _) ?_
  have h0:=Jmj (f:=f) hE hN.rng hN.sw hN.zn hN.rp
  have hI:=Jsf (A:=A) h0 hA
  have hq:=J1q (f:=f) (A:=A) hE hN.sw hN.zn hN.rp hA
  refine qay ?_
  refine Jax (Jal (row:=[_,_,_,_,_,_,_,_]) tb rfl rfl rfl zf zb zb) rfl ?_
  refine Jax (Jal (row:=[_,_,_]) tb rfl rfl rfl zf zb zb) rfl ?_
  refine Jaw rfl (Jn8 s f A _ _ hs hf hA) rfl ?_
  rintro v L' R' ⟨x,S1,rfl,hxR,hx0,_,rfl,rfl⟩
  rw [h0]
  have hx:=hx0 h0
  refine Jax (Jav rfl) rfl ?_
  refine Xcs ?_
  intro b3
  refine qak ?_
  refine Xag ?_
  refine Jax (Jal (row:=[_,_,_,_,_,_,_,_,_,_,_,_,_,_,_,_,_,_,_,_,_,_,_]) tb rfl rfl rfl zf zb zb) rfl ?_
  refine Jaw rfl (Jq0 (gOf s f A) (Jo1 s f) x 0 0 2 _ _ hI hx hxR) rfl ?_
  rintro v L' R' ⟨y,S2,rfl,hy,hyR,rfl,rfl⟩
  rw [hq] at hy ⊢
  refine Jax (Jav rfl) rfl ?_
  refine Xcs ?_
  intro b5
  refine qak ?_
  refine Xcd ?_
  obtain ⟨z,h7,_⟩:=hE.zone
  have hxc:x.cuts.l=[⟨true,-1,0⟩]:=by rw [hx.cuts,Jrd hE hN.sw];rfl
  have hyl:y.log.l=[⟨2,7,0,20⟩]:=hy.log
  have hcn:x.cuts.l.length=1:=by rw [hxc];rfl
  have hln:y.log.l.length=1:=by rw [hyl];rfl
  have hcg:x.cuts.l[0]?=some ⟨true,-1,0⟩:=by rw [hxc];rfl
  have hlg:y.log.l[0]?=some ⟨2,7,0,20⟩:=by rw [hyl];rfl
  have hxR2:=hxR.mono (R':=S2 ++ (S1 ++ R')) fun r hr=>Jaa (List.mem_append_right _ hr)
  have hcR:=hxR2.cuts
  have hlR:=hyR.log
  have hv:StaV x (S2 ++ (S1 ++ R')):=StaV.of hI hx hxR2.site hxR2.meas
  have hfl1:(Jiz x.site (gOf s f A).air x.meas.l x.time).length=1:=by
    rw [StaIs.flows hx,hI.flLen]
    exact congrArg List.length hE.roads
  refine Xa4 ?_
  refine Xb7 ?_
  refine Jgh (k:=25) (show _=Value.bool _ from rfl) (fun hg3=>?_) (fun hg3=>?_)
  ·
   replace hg3:=qb hg3
   refine Jdi (Jc5 tb rfl rfl rfl) rfl rfl ?_
   refine J5l ?_
   refine Jdi (Jhf tb rfl rfl rfl) rfl rfl ?_
   refine Jdi (Jhx rfl rfl) rfl rfl ?_
   refine J0s ?_
   refine qah ?_
   refine Jgh (k:=31) (show _=Value.bool _ from rfl) (fun hg9=>?_) (fun hg9=>?_)
   ·
    replace hg9:=qb hg9
    refine Jdi (Jc5 tb rfl rfl rfl) rfl rfl ?_
    refine J5l ?_
    refine Ka2 ?_
    refine Jdi (Jio tb rfl rfl rfl) rfl rfl ?_
    refine Jdi zfa rfl rfl ?_
    refine J0s ?_
    refine qah ?_
    refine Jgh (k:=38) (show _=Value.bool _ from rfl) (fun hg16=>?_) (fun hg16=>?_)
    ·
     replace hg16:=qb hg16
     refine Jdi (Jav (show _=Value.int _ _ from rfl)) rfl rfl ?_
     refine Jdi (Jhx rfl rfl) rfl rfl ?_
     refine J0s ?_
     refine qah ?_
     refine Jgh (k:=42) (show _=Value.bool _ from rfl) (fun hg20=>?_) (fun hg20=>?_)
     ·
      replace hg20:=qb hg20
      refine Jdi (Jc5 tb rfl rfl rfl) rfl rfl ?_
      refine J5l ?_
      refine Jdi (Jhf tb rfl rfl rfl) rfl rfl ?_
      refine Jdi (Jhx rfl rfl) rfl rfl ?_
      refine J0s ?_
      refine qah ?_
      refine Jgh (k:=48) (show _=Value.bool _ from rfl) (fun hg26=>?_) (fun hg26=>?_)
      ·
       replace hg26:=qb hg26
       refine Jdi (Jc5 tb rfl rfl rfl) rfl rfl ?_
       refine J5l ?_
       refine Ka2 ?_
       refine Jdi zsa rfl rfl ?_
       refine Jdi (Jbc (qs:=[(0,(Value.int _ _).cells.toList),(1,(Value.int _ _).cells.toList),(3,(Value.int _ _).cells.toList)]) (out:=[_,_,_,_]) tb rfl rfl rfl rfl) rfl rfl ?_
       refine Jdi (Jq2 J20 rfl rfl zD zD rfl) rfl rfl ?_
       refine J0s ?_
       refine qah ?_
       refine Jgh (k:=56) (show _=Value.bool _ from rfl) (fun hg34=>?_) (fun hg34=>?_)
       ·
        replace hg34:=qb hg34
        refine Jdi (Jal (row:=[_,_,_,_,_,_,_,_,_,_,_,_,_,_,_,_,_,_,_,_,_,_,_]) tb rfl rfl rfl zf zb zb) rfl rfl ?_
        refine Jn1 rfl (Jlk x (gOf s f A).air _ _ hv (SiteE.airy hx.site hI.airy)) rfl rfl ?_
        rintro v L' R' ⟨fl,rfl,hfl,rfl,rfl⟩
        refine Jdi (Jhf tb rfl rfl rfl) rfl rfl ?_
        refine Jdi (Jhx rfl rfl) rfl rfl ?_
        refine J0s ?_
        refine Xa3 ?_
        refine Jbw (L':=L) (R':=R) (Jec rfl (Jaf (show _=Value.bool _ from rfl))) ?hp ?hL ?hR
        case hp=>exact ⟨by simp [hfl,hfl1],rfl,rfl⟩
        case hL=>exact zi
        case hR=>exact fun r hr=>(hRR r hr).mono fun r hr=>Jaa (by simp [hr])
       replace hg34:=qb hg34
       exact absurd (show true=false from hg34) ze
      replace hg26:=qb hg26
      (first | exact absurd rfl hg26 | (simp at hg26;done) | (simp [hcn,hln] at hg26;done) | exact absurd ze hg26)
     replace hg20:=qb hg20
     (first | exact absurd rfl hg20 | (simp at hg20;done) | (simp [hcn,hln] at hg20;done) | exact absurd ze hg20)
    replace hg16:=qb hg16
    (first | exact absurd rfl hg16 | (simp at hg16;done) | (simp [hcn,hln] at hg16;done) | exact absurd ze hg16)
   replace hg9:=qb hg9
   (first | exact absurd rfl hg9 | (simp at hg9;done) | (simp [hcn,hln] at hg9;done) | exact absurd ze hg9)
  replace hg3:=qb hg3
  (first | exact absurd rfl hg3 | (simp at hg3;done) | (simp [hcn,hln] at hg3;done) | exact absurd ze hg3)
end Go.Proofs.YtchfclmokpbldaaGreat
end
