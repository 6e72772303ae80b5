/-
  Texts of one chapter, merged. By an AI agent; no person has read it.
-/
import Derived.Test.YtchfclmokpbldaaGreatStatM
import Derived.Test.YtchfclmokpbldaaGreatFlows
import Derived.Test.YtchfclmokpbldaaGreatStaA
set_option linter.unusedVariables false
set_option linter.unusedSimpArgs false
set_option maxRecDepth 20000
namespace Go.Proofs.YtchfclmokpbldaaGreat
open Go.Aw Go
section
section
variable {P:Program} {ρ:Operand→Value} {L:List Blk} {R:List Sl} {dst:Option Tmp} {ty:TypeId} {pos:String} {after:Array Edge} {guard:Option (Nat×Bool)} {T T2:TypeId} {x y z:Operand} {a b c:Int} {k K:IntKind}
theorem J3b (hx:ρ x=.int K a) (hy:ρ y=.int k b) (hb:0≤b) (he:a.fdiv (2 ^ (min b.toNat K.bits))=c):YV P ⟨dst,.binOp .shr T x y T2,ty,pos,after,guard⟩ ρ L R (.int K c):=fun _ _ _=>by
  have hb:Op.shift .shr K a k b=(pure (.int K c):Sem Value):=by
    unfold Op.shift
    rw [if_neg za,← he]
  simp [execOp,hx,hy,eqGuard,binOp,hb]
theorem Kbc (hx:ρ x=.int K a) (hy:ρ y=.int k b) (hb:0≤b) (he:K.wrap (a * 2 ^ (min b.toNat K.bits))=c):YV P ⟨dst,.binOp .shl T x y T2,ty,pos,after,guard⟩ ρ L R (.int K c):=fun _ _ _=>by
  have hb:Op.shift .shl K a k b=(pure (.int K c):Sem Value):=by
    unfold Op.shift
    rw [if_neg za,← he]
  simp [execOp,hx,hy,eqGuard,binOp,hb]
theorem Ycb (hx:ρ x=.int K a) (hy:ρ y=.int K b) (he:K.wrap ((BitVec.ofInt K.bits a &&& BitVec.ofInt K.bits b).toNat:Int)=c):YV P ⟨dst,.binOp .and T x y T2,ty,pos,after,guard⟩ ρ L R (.int K c):=fun _ _ _=>by
  have hb:Op.intBits .and K a b=(pure (.int K c):Sem Value):=by
    unfold Op.intBits
    rw [← he]
  simp [execOp,hx,hy,eqGuard,binOp,hb]
theorem Yce (hx:ρ x=.int K a) (hy:ρ y=.int K b) (he:K.wrap ((BitVec.ofInt K.bits a ||| BitVec.ofInt K.bits b).toNat:Int)=c):YV P ⟨dst,.binOp .or T x y T2,ty,pos,after,guard⟩ ρ L R (.int K c):=fun _ _ _=>by
  have hb:Op.intBits .or K a b=(pure (.int K c):Sem Value):=by
    unfold Op.intBits
    rw [← he]
  simp [execOp,hx,hy,eqGuard,binOp,hb]
theorem Y2d (hx:ρ x=.int K a) (hy:ρ y=.int K b) (he:K.wrap ((BitVec.ofInt K.bits a ^^^ BitVec.ofInt K.bits b).toNat:Int)=c):YV P ⟨dst,.binOp .xor T x y T2,ty,pos,after,guard⟩ ρ L R (.int K c):=fun _ _ _=>by
  have hb:Op.intBits .xor K a b=(pure (.int K c):Sem Value):=by
    unfold Op.intBits
    rw [← he]
  simp [execOp,hx,hy,eqGuard,binOp,hb]
end
theorem ofI (n w:Nat) (h:n < 2 ^ w):(BitVec.ofInt w (n:Int)).toNat=n:=by
  rw [BitVec.ofInt_natCast,BitVec.toNat_ofNat,Nat.mod_eq_of_lt h]
theorem Vvc (n:Nat) (h:n < 2 ^ 64):(BitVec.ofInt IntKind.i64.bits (n:Int)).toNat=n:=ofI n 64 h
theorem Zib {n:Nat} (h:n < 2 ^ 62):IntKind.i64.wrap (n:Int)=(n:Int):=by
  unfold IntKind.wrap
  simp [IntKind.bits,IntKind.signed]
  omega
theorem Kof {a:Int} (h:0≤a∧a < 1048576):IntKind.i64.wrap ((BitVec.ofInt IntKind.i64.bits a &&& BitVec.ofInt IntKind.i64.bits 65535).toNat:Int)=a % 65536:=by
  obtain ⟨n,rfl⟩:∃n:Nat,a=(n:Int):=⟨a.toNat,by omega⟩
  have h1:(BitVec.ofInt IntKind.i64.bits (n:Int) &&& BitVec.ofInt IntKind.i64.bits 65535).toNat=n % 65536:=by
    rw [BitVec.toNat_and,Vvc n za,show (BitVec.ofInt IntKind.i64.bits 65535).toNat=65535 from Vvc 65535 zc]
    exact Nat.and_two_pow_sub_one_eq_mod n 16
  rw [h1,Zib za];omega
theorem Yqd {a:Int} (h:0≤a∧a < 1048576):IntKind.i64.wrap ((BitVec.ofInt IntKind.i64.bits a &&& BitVec.ofInt IntKind.i64.bits 1).toNat:Int)=a % 2:=by
  obtain ⟨n,rfl⟩:∃n:Nat,a=(n:Int):=⟨a.toNat,by omega⟩
  have h1:(BitVec.ofInt IntKind.i64.bits (n:Int) &&& BitVec.ofInt IntKind.i64.bits 1).toNat=n % 2:=by
    rw [BitVec.toNat_and,Vvc n za,show (BitVec.ofInt IntKind.i64.bits 1).toNat=1 from Vvc 1 zc]
    exact Nat.and_two_pow_sub_one_eq_mod n 1
  rw [h1,Zib za];omega
theorem Kcf {a:Int} (h:0≤a∧a < 65536):IntKind.i64.wrap ((BitVec.ofInt IntKind.i64.bits a ^^^ BitVec.ofInt IntKind.i64.bits 4129).toNat:Int)=V2f a 4129:=by
  obtain ⟨n,rfl⟩:∃n:Nat,a=(n:Int):=⟨a.toNat,by omega⟩
  have h1:(BitVec.ofInt IntKind.i64.bits (n:Int) ^^^ BitVec.ofInt IntKind.i64.bits 4129).toNat=n ^^^ 4129:=by
    rw [BitVec.toNat_xor,Vvc n za,show (BitVec.ofInt IntKind.i64.bits 4129).toNat=4129 from Vvc 4129 zc]
  have h2:n ^^^ 4129 < 2 ^ 16:=Nat.xor_lt_two_pow za zc
  rw [h1,Zib za,V2f];rfl
theorem Vcf {n:Nat} (h:n < 256):IntKind.u8.wrap (n:Int)=(n:Int):=by
  unfold IntKind.wrap
  simp [IntKind.bits,IntKind.signed]
  omega
theorem Jvf {a:Int} (h:0≤a∧a < 256):IntKind.u8.wrap ((BitVec.ofInt IntKind.u8.bits a &&& BitVec.ofInt IntKind.u8.bits 1).toNat:Int)=a % 2:=by
  obtain ⟨n,rfl⟩:∃n:Nat,a=(n:Int):=⟨a.toNat,by omega⟩
  have h1:(BitVec.ofInt IntKind.u8.bits (n:Int) &&& BitVec.ofInt IntKind.u8.bits 1).toNat=n % 2:=by
    rw [BitVec.toNat_and,show (BitVec.ofInt IntKind.u8.bits (n:Int)).toNat=n from ofI n 8 za,show (BitVec.ofInt IntKind.u8.bits 1).toNat=1 from ofI 1 8 zc]
    exact Nat.and_two_pow_sub_one_eq_mod n 1
  rw [h1,Vcf za];omega
theorem Ygf {a b:Int} (ha:0≤a∧a < 256) (hb:0≤b∧b < 256):IntKind.i64.wrap ((BitVec.ofInt IntKind.i64.bits (a * 256) ||| BitVec.ofInt IntKind.i64.bits b).toNat:Int)=a * 256 + b:=by
  obtain ⟨n,rfl⟩:∃n:Nat,a=(n:Int):=⟨a.toNat,by omega⟩
  obtain ⟨m,rfl⟩:∃m:Nat,b=(m:Int):=⟨b.toNat,by omega⟩
  have h1:(BitVec.ofInt IntKind.i64.bits ((n:Int) * 256) ||| BitVec.ofInt IntKind.i64.bits (m:Int)).toNat=n * 256 + m:=by
    rw [BitVec.toNat_or,show ((n:Int) * 256)=((n * 256:Nat):Int) by omega,Vvc (n * 256) za,Vvc m za]
    have h2:2 ^ 8 * n ||| m=2 ^ 8 * n + m:=(Nat.two_pow_add_eq_or_of_lt za n).symm
    rw [Nat.mul_comm n 256];exact h2
  rw [h1,Zib za];omega
theorem Jfe {a:Int} (ha:0≤a∧a < 256):IntKind.i64.wrap (a * 2 ^ (min (8:Int).toNat IntKind.i64.bits))=a * 256:=by
  obtain ⟨n,rfl⟩:∃n:Nat,a=(n:Int):=⟨a.toNat,by omega⟩
  have:(n:Int) * 2 ^ (min (8:Int).toNat IntKind.i64.bits)=((n * 256:Nat):Int):=by
    show (n:Int) * 2 ^ 8=_
    omega
  rw [this,Zib za];omega
theorem Y6d {a:Int} (ha:0≤a∧a < 65536):IntKind.i64.wrap (a * 2 ^ (min (1:Int).toNat IntKind.i64.bits))=2 * a:=by
  obtain ⟨n,rfl⟩:∃n:Nat,a=(n:Int):=⟨a.toNat,by omega⟩
  have:(n:Int) * 2 ^ (min (1:Int).toNat IntKind.i64.bits)=((2 * n:Nat):Int):=by
    show (n:Int) * 2 ^ 1=_
    omega
  rw [this,Zib za];omega
theorem J9d {a:Int}:a.fdiv (2 ^ (min (15:Int).toNat IntKind.i64.bits))=a / 32768:=by
  show a.fdiv (2 ^ 15)=_
  rw [Int.fdiv_eq_ediv_of_nonneg _ zc];rfl
theorem Ykf {a:Int} {j:Nat} (hj:j≤7):a.fdiv (2 ^ (min ((j:Int)).toNat IntKind.u8.bits))=a / 2 ^ j:=by
  have:min ((j:Int)).toNat IntKind.u8.bits=j:=by
    show min j 8=j
    omega
  rw [this,Int.fdiv_eq_ediv_of_nonneg _ (by exact Int.le_of_lt (Int.pow_pos zc))]
end
section
attribute [local irreducible] CJ LJ DJ Tri YV Gives Ui J0 Ke Uh RV J2 OwL.L
section
variable {A9 B9:Prop}
theorem Udf (a:A9) (h:A9→B9:=by exact Jx zB rfl):B9:=h a
theorem Jnf (h:B9:=by exact Kf ⟨z - 1,by omega⟩ zm (by dsimp only;rw [hst,Kgb,if_neg (show ¬ r / 32768=V3f x z.toNat from hc2)];exact ⟨rfl,rfl,trivial⟩) zi zqb zx):B9:=h
theorem Vif (h:B9:=by exact Kf ⟨z - 1,by omega⟩ zm (by dsimp only;rw [hst,Kgb,if_pos (show r / 32768=V3f x z.toNat from Decidable.not_not.1 hc2)];exact ⟨rfl,rfl,trivial⟩) zi zqb zx):B9:=h
theorem U8f (h:B9:=by exact Kf ⟨k + 1,by omega⟩ zm (by dsimp only;rw [hcs];exact ⟨rfl,rfl,trivial⟩) zi zqb zx):B9:=h
end
theorem Kkd {x:Int} (h:0≤x∧x≤255) (j:Nat):0≤x / 2 ^ j∧x / 2 ^ j < 256:=by
  have h2:(0:Int) < 2 ^ j:=Int.pow_pos zc
  refine ⟨Int.ediv_nonneg h.1 (Int.le_of_lt h2),?_⟩
  have:=Int.ediv_le_self (2 ^ j) h.1
  omega
theorem Jqd {r x z:Int} (hz:0≤z∧z≤7):Yrb r x (7 - (z - 1)).toNat=Kgb (Yrb r x (7 - z).toNat) (V3f x z.toNat):=by
  have e:(7 - (z - 1)).toNat=(7 - z).toNat + 1:=by omega
  have e2:7 - (7 - z).toNat=z.toNat:=by omega
  rw [e,Yrb,e2]
theorem K2f {x z:Int} (hz:0≤z∧z≤7):x.fdiv (2 ^ (min z.toNat IntKind.u8.bits))=x / 2 ^ z.toNat:=by
  obtain ⟨j,rfl⟩:∃j:Nat,z=(j:Int):=⟨z.toNat,by omega⟩
  exact Ykf za
theorem Vzc (l:Arr Int) (L:List Blk) (R:List Sl) (hl:InR (bsl l) R) (hb:BytesOk l.l):
    Tri Tryz.prog 116 [l.val].toArray L R (fun v L' R'=>v=.int .i64 (Jtb l.l)∧L=L'∧R=R'):=by
  refine U8 Tryz.call116 hl fun hln=>?_
  refine Jg 35 Tryz.call116 Tryz.func116 rfl rfl rfl ?_
  refine Xab ?_
  refine qam ?_
  refine Xas ?_
  refine Xbt ?_
  refine Jo [(3,Value.int _ _),(8,Value.slice _ _ _),(9,Value.int _ _),(10,Value.int _ _)] zg fun tq0=>?_
  refine q_s [3,5,6,7,10,11,12,13,14,15,16,17,18,19,20,21,22,23,24,25,26,27,28,29,30,31,32,33] (fun g:{k:Nat // k≤l.l.length}=>[(10,.int .i64 ((g.1:Nat):Int)),(3,.int .i64 (Jtb (l.l.take g.1)))]) (fun g=>l.l.length - g.1) (⟨0,by omega⟩) ?_
  rintro ⟨k,hk⟩ junk
  try dsimp only
  refine Xak ?_
  refine q_c (fun hc0=>?_) (fun hc0=>?_)
  ·
   have hg:=Jw (l:=l.l) (k:=k) 0 za
   have hxb:=hb.at k
   have hcs:=V2c hg
   obtain ⟨x,hx⟩:∃x,x=l.l.getD k 0:=⟨_,rfl⟩
   rw [← hx] at hg hxb hcs
   refine qbb ?_
   refine Udf ?_
   refine qa7 ?_
   refine Xaf ?_
   refine Xb4 ?_
   refine q_s [3,6,7,14,15,16,17,18,19,20,21,22,23,24,25,26,27,28,29,30,31,32] (fun g:{z:Int // -1≤z∧z≤7}=>[(6,.int .i64 g.1),(3,.int .i64 (Yrb (Jtb (l.l.take k)) x (7 - g.1).toNat))]) (fun g=>(g.1 + 1).toNat) (⟨7,by omega⟩) ?_
   rintro ⟨z,hz⟩ junk
   try dsimp only
   refine Xce ?_
   refine Xcj ?_
   refine q_c (fun hc1=>?_) (fun hc1=>?_)
   ·
    have hc:=Uob x (Khc (l.l.take k)) (7 - z).toNat
    have hd:=Kkd hxb z.toNat
    have hst:=Jqd (r:=(Jtb (l.l.take k))) (x:=x) (z:=z) za
    obtain ⟨r,hr⟩:∃r,r=Yrb (Jtb (l.l.take k)) x (7 - z).toNat:=⟨_,rfl⟩
    rw [← hr] at hc hst ⊢
    rw [Crc] at hc
    refine Xa2 ?_
    refine Jx (J3b rfl rfl zc J9d) rfl ?_
    refine Xat ?_
    refine Jx (Kbc rfl rfl zc (Y6d hc)) rfl ?_
    refine Jx (Ycb rfl rfl (Kof za)) rfl ?_
    refine Xaf ?_
    iterate 3 refine qaa ?_
    refine qdg ?_
    refine Jx (J3b rfl rfl za (K2f za)) rfl ?_
    refine qdg ?_
    refine Jx (Ycb rfl rfl (Yqd za)) rfl ?_
    refine Xaq ?_
    refine q_c (fun hc2=>?_) (fun hc2=>?_)
    ·
     exact zHd
    refine qbj ?_
    refine Xci ?_
    exact Vif
   obtain rfl:z= -1:=by omega
   refine K8 (Kq (Uf (Kc (Ji (Jb (Jh ?_))))))
   refine Xae ?_
   exact U8f
  exact zud
theorem V8b (l:Arr Int) (L:List Blk) (R:List Sl) (hl:InR (bsl l) R) (hb:BytesOk l.l):
    Tri Tryz.prog 161 [l.val].toArray L R (fun v L' R'=>v=.int .i64 (Jtb l.l)∧L=L'∧R=R'):=by
  refine U8 Tryz.call161 hl fun hln=>?_
  refine Jg 37 Tryz.call161 Tryz.func161 rfl rfl rfl ?_
  refine Xab ?_
  refine qam ?_
  refine Xas ?_
  refine Xb4 ?_
  refine Jo [(0,Value.slice _ _ _),(3,Value.int _ _),(4,Value.int _ _)] zg fun tq0=>?_
  refine q_s [3,4,5,6,7,8,9,10,11,12,13,14,15,16,17,18,19,20,21,22,23,24,25,26,27,28,29,30,31,32,33,34,35] (fun g:{k:Nat // k≤l.l.length}=>[(4,.int .i64 ((g.1:Nat):Int)),(3,.int .i64 (Jtb (l.l.take g.1)))]) (fun g=>l.l.length - g.1) (⟨0,by omega⟩) ?_
  rintro ⟨k,hk⟩ junk
  try dsimp only
  refine Xce ?_
  refine Xap ?_
  refine Xbo ?_
  refine q_c (fun hc0=>?_) (fun hc0=>?_)
  ·
   have hg:=Jw (l:=l.l) (k:=k) 0 za
   have hxb:=hb.at k
   have hcs:=V2c hg
   obtain ⟨x,hx⟩:∃x,x=l.l.getD k 0:=⟨_,rfl⟩
   rw [← hx] at hg hxb hcs
   refine qbb ?_
   refine Xb4 ?_
   refine q_s [3,5,6,13,14,15,16,17,18,19,20,21,22,23,24,25,26,27,28,29,30,31,32,33,34,35] (fun g:{z:Int // -1≤z∧z≤7}=>[(5,.int .i64 g.1),(3,.int .i64 (Yrb (Jtb (l.l.take k)) x (7 - g.1).toNat))]) (fun g=>(g.1 + 1).toNat) (⟨7,by omega⟩) ?_
   rintro ⟨z,hz⟩ junk
   try dsimp only
   refine Xce ?_
   refine Xcj ?_
   refine q_c (fun hc1=>?_) (fun hc1=>?_)
   ·
    have hc:=Uob x (Khc (l.l.take k)) (7 - z).toNat
    have hd:=Kkd hxb z.toNat
    have hst:=Jqd (r:=(Jtb (l.l.take k))) (x:=x) (z:=z) za
    obtain ⟨r,hr⟩:∃r,r=Yrb (Jtb (l.l.take k)) x (7 - z).toNat:=⟨_,rfl⟩
    rw [← hr] at hc hst ⊢
    rw [Crc] at hc
    refine Xa2 ?_
    refine Jx (J3b rfl rfl zc J9d) rfl ?_
    refine Jx (Ycb rfl rfl ((Yqd za).trans (show r / 32768 % 2=r / 32768 by omega))) rfl ?_
    refine Xat ?_
    refine Jx (Kbc rfl rfl zc (Y6d hc)) rfl ?_
    refine Jx (Ycb rfl rfl (Kof za)) rfl ?_
    refine Xat ?_
    refine Xau ?_
    refine Udf ?_
    refine qa7 ?_
    refine qaa ?_
    refine qdg ?_
    refine Jx (J3b rfl rfl za (K2f za)) rfl ?_
    refine Jx (Ycb rfl rfl (Jvf za)) rfl ?_
    refine qdg ?_
    refine Xaq ?_
    refine q_c (fun hc2=>?_) (fun hc2=>?_)
    ·
     exact zHd
    refine qbj ?_
    refine Xci ?_
    exact Vif
   obtain rfl:z= -1:=by omega
   refine K8 (Kq (Uf (Kc (Ji (Jb (Jh ?_))))))
   refine Xdo ?_
   exact U8f
  exact zud
end
section
attribute [local irreducible] CJ LJ DJ Tri YV Gives Ui J0 Ke Uh RV J2 OwL.L
section
variable {A9 B9:Prop}
theorem Zae (a:A9) (h:A9→B9:=by exact Jx zcb rfl):B9:=h a
theorem Zqe (a:A9) (h:A9→B9:=by exact Kv zKc rfl rfl rfl):B9:=h a
theorem Y4e (a:A9) (h:A9→B9:=by exact V8 zKc rfl rfl rfl rfl):B9:=h a
theorem Kqf (a:A9) (h:A9→B9:=by exact Jx (Kb (qs:=[(0,(Value.slice _ _ _).cells.toList),(1,(Value.int _ _).cells.toList)]) (out:=[_,_]) tb rfl rfl rfl rfl) rfl):B9:=h a
theorem U2f (h:B9:=by exact ⟨⟨o103,l.l⟩,out,by rw [hS.fed,hfin];rfl,⟨hok103,hS.ok⟩,by rw [hS.fed,hfin],by rw [hS.fed,hfin,List.append_nil],hS.data,rfl,hS.sub⟩):B9:=h
theorem Kjf (a:A9) (h:A9→B9:=by exact V8 zfa rfl rfl rfl rfl):B9:=h a
theorem J6f (a:A9) (h:A9→B9:=by exact V8 zpa rfl rfl rfl rfl):B9:=h a
end
structure XFrame where
  address:Int
  kind:Int
  data:Arr Int
  deriving Inhabited
def XFrame.cells (x:XFrame):List Value:=[.int .i64 x.address,.int .i64 x.kind,x.data.val]
abbrev XFrame.val (x:XFrame):Value:=.agg #[.int .i64 x.address,.int .i64 x.kind,x.data.val]
abbrev XFrame.sub (x:XFrame):Sl:=bsl x.data
abbrev Yff (x:Arr XFrame):Sl:=x.sl 3 XFrame.cells (x.l.map XFrame.sub)
def XFrame.tele (x:XFrame):XTele:=⟨x.address,x.kind,x.data.l⟩
structure FedAt (l0:List Int) (d:Int) (R:List Sl) (l:Arr Int) (dr:Int) (out:OwL XFrame) (S:List Sl):Prop where
  sub:∀r∈R,InR r S
  inl:InR (bsl l) S
  bytes:BytesOk l.l
  ok:out.ok 3 XFrame.cells
  data:∀x∈out.l,InR (bsl x.data) S
  len:out.l.length + l.l.length≤l0.length
  drop:d≤dr∧dr + l.l.length≤d + l0.length
  fed:Uz l0 d=⟨(Uz l.l dr).held,(Uz l.l dr).dropped,out.l.map XFrame.tele ++ (Uz l.l dr).out⟩
theorem FedAt.skip {l0:List Int} {d:Int} {R:List Sl} {l:Arr Int} {dr:Int} {out:OwL XFrame} {S:List Sl} (h:FedAt l0 d R l dr out S) (hl:0 < l.l.length) (h1:Jja l.l∨(¬ U5 l.l∧Jtb (K9b l.l)≠Ypb l.l)):FedAt l0 d R (Yp l 1 1) (dr + 1) out (bsl (Yp l 1 1) :: S):=by
  have e:(Yp l 1 1).l=l.l.tail:=List.drop_one
  have hln:(Yp l 1 1).l.length=l.l.length - 1:=List.length_drop
  have h2:=h.len
  have h3:=h.drop
  have hfs:=Z1 (d:=dr) (List.length_pos_iff.1 hl) h1
  refine ⟨fun r hr=>(h.sub r hr).mono fun s hs=>Ja (.tail _ hs),Ja (.head _),fun x hx=>h.bytes x (by rw [e] at hx;exact List.mem_of_mem_tail hx),h.ok,fun x hx=>(h.data x hx).mono fun s hs=>Ja (.tail _ hs),by omega,by omega,?_⟩
  rw [e,← hfs];exact h.fed
theorem FedAt.took {l0:List Int} {d:Int} {R:List Sl} {l:Arr Int} {dr:Int} {out:OwL XFrame} {S:List Sl} (h:FedAt l0 d R l dr out S) (hl:0 < l.l.length) (h1:¬ Jja l.l) (h2:¬ U5 l.l) (h3:Jtb (K9b l.l)=Ypb l.l) {n:Nat} (hn:n=lenT l.l + 6) {o:Ow} {x:XFrame} (hx:x.tele=J7d l.l) (hok:(⟨o,out.l ++ [x]⟩:OwL XFrame).ok 3 XFrame.cells):
    FedAt l0 d R (Yp l n 1) dr ⟨o,out.l ++ [x]⟩ (bsl (Yp l n 1) :: bsl x.data :: S):=by
  subst hn
  have hw:=Uuc h.bytes h2
  have hln:(Yp l (lenT l.l + 6) 1).l.length=l.l.length - (lenT l.l + 6):=List.length_drop
  have h4:=h.len
  have h5:=h.drop
  refine ⟨fun r hr=>(h.sub r hr).mono fun s hs=>Ja (.tail _ (.tail _ hs)),Ja (.head _),fun y hy=>h.bytes y (List.mem_of_mem_drop hy),hok,fun y hy=>?_,?_,by omega,?_⟩
  · rcases List.mem_append.1 hy with hy | hy
    · exact (h.data y hy).mono fun s hs=>Ja (.tail _ (.tail _ hs))
    · rw [List.mem_singleton.1 hy];exact Ja (.tail _ (.head _))
  · show (out.l ++ [x]).length + _ ≤ _
    rw [List.length_append,List.length_singleton];omega
  · rw [h.fed, Yga (List.length_pos_iff.1 hl) h1 h2 h3]
    show _=(⟨_,_,(out.l ++ [x]).map XFrame.tele ++ _⟩:XFed)
    rw [List.map_append,List.map_singleton,hx,List.append_assoc];rfl
theorem K8c {l:List Int}:((l.drop 1).take (3 + lenT l))=K9b l:=by
  rw [K9b,List.drop_take];congr 1;omega
theorem Jae {l:List Int}:((l.drop 4).take (lenT l))=(J7d l).data:=by
  show _=(l.take (4 + lenT l)).drop 4
  rw [List.drop_take];congr 1;omega
theorem Zjc (h b:Arr Int) (d:Int) (L:List Blk) (R:List Sl) (hh:InR (bsl h) R) (hb:InR (bsl b) R) (hB:BytesOk (h.l ++ b.l)) (hd:0≤d∧d≤1152921504606846976) (hn:h.l.length + b.l.length≤1000000):
    Tri Tryz.prog 44 [.agg #[h.val,.int .i64 d],b.val].toArray L R (fun v L' R'=>∃(p:OwL Int) (out:OwL XFrame),v=.tuple #[.agg #[p.val,.int .i64 (Uz (h.l ++ b.l) d).dropped],out.val]∧(p.ok 1 Zw∧out.ok 3 XFrame.cells)∧p.l=(Uz (h.l ++ b.l) d).held∧out.l.map XFrame.tele=(Uz (h.l ++ b.l) d).out∧(∀x∈out.l,InR (bsl x.data) R')∧p.L 5 Zw ++ (out.L 118 XFrame.cells ++ L)=L'∧∀r∈R,InR r R'):=by
  refine Jg 107 Tryz.call44 Tryz.func44 rfl rfl rfl ?_
  refine Xag ?_
  intro b2
  refine qaq ?_
  intro b4
  refine qc4 ?_
  refine Xch ?_
  refine Y9 (Km (f:=Zw) (xs:=h) tb rfl rfl rfl zc rfl rfl (hh) (fun _=>rfl) za) rfl ?_
  rintro v L' R' ⟨o12,rfl,hok12,rfl,rfl⟩
  refine qbm ?_
  refine Y9 (Yo tb (⟨o12,h.l⟩:OwL Int) b rfl rfl rfl zc rfl rfl hok12 hb zj (fun _=>rfl) zx) rfl ?_
  rintro v L' R' ⟨o14,rfl,hok14,rfl,rfl⟩
  refine Xcm ?_
  refine Uka (A:=[]) (wd:=1) [] (fun _=>rfl) zc hok14 (fun s hs=>by cases hs) ?_
  refine Uv zva ?_
  have hl0:(h.l ++ b.l).length≤1000000:=by rw [List.length_append];exact hn
  refine qay ?_
  refine qc4 ?_
  refine Xch ?_
  refine qad ?_
  refine J6 (Jb (Jn (Kg ?_)))
  refine Jo [(4,Value.pointer _),(6,Value.slice _ _ _),(7,Value.slice _ _ _),(8,Value.int _ _)] zg fun tq0=>?_
  refine Vm [6,7,8,9,17,18,19,20,21,22,23,24,25,26,27,28,29,30,31,32,33,34,35,36,37,38,39,40,41,42,43,44,45,46,47,48,49,50,51,52,53,54,55,56,57,58,59,60,61,62,63,64,65,66,67,68,69,70,71,72,73,74,75,76,77,78,79,80,81,82,83,84,85,86,87,88,89,90,91,92,93,94,95,96,97,98,99,100,101] ((⟨fun g=>[(6,g.1.1.val),(8,.int .i64 g.1.2.1),(7,g.1.2.2.1.val)],fun g=>g.1.2.2.1.L 118 XFrame.cells ++ (⟨b4,[.slice none 0 0,.int .i64 0],46⟩ :: ⟨b2,[h.val,.int .i64 d],46⟩ :: L),fun g=>g.1.2.2.2,fun g=>g.1.1.l.length⟩:Head {g:Arr Int×Int×OwL XFrame×List Sl // FedAt (h.l ++ b.l) d R g.1 g.2.1 g.2.2.1 g.2.2.2})) (⟨((⟨o14,h.l ++ b.l⟩:OwL Int).arr,d,OwL.nil,bsl (⟨o14,h.l ++ b.l⟩:OwL Int).arr :: R),⟨fun r hr=>Ja (.tail _ hr),Ja (.head _),hB,OwL.nil_ok,fun x hx=>(by cases hx),Nat.le_of_eq (Nat.zero_add _),⟨Int.le_refl _,Int.le_refl _⟩,rfl⟩⟩) zg zU zqb ?_
  rintro ⟨⟨l,dr,out,S⟩,hS⟩ junk
  try dsimp only
  dsimp only at hS
  have hlR:=hS.inl
  have hSn:=hS.len
  have hSd:=hS.drop
  refine Yld hlR fun hcapl=>?_
  refine qbi ?_
  refine Xap ?_
  refine qa5 ?_
  refine qaf ?_
  refine q_c (fun hc0=>?_) (fun hc0=>?_)
  ·
   have hb0:=Jw (l:=l.l) (k:=0) 0 za
   have hbb:=hS.bytes.at 1
   refine J5 (Jb (Kg (Jn (Jn (Jh ?_)))))
   refine qbm ?_
   refine qdt ?_
   refine qa7 ?_
   refine Xbx ?_
   apply J9 (G:=[_,_,_,_,_,_,_,_,_,_]) (j:=4) (cj:=24) rfl rfl zb rfl zdb rfl
   ·
    intro hg5
    replace hg5:=qb hg5
    refine Xap ?_
    refine qa5 ?_
    refine qah ?_
    apply Ur (G:=[_,_,_,_,_]) (j:=8) (cj:=28) rfl rfl zb rfl zdb rfl
    ·
     intro hg9
     replace hg9:=qb hg9
     have hb1:=Jw (l:=l.l) (k:=1) 0 za
     refine qbm ?_
     refine Zae ?_
     refine qa7 ?_
     refine qdg ?_
     refine qa5 ?_
     exact qai
    intro junk9
    exact qai
   intro junk5
   refine qaf ?_
   refine q_c (fun hc1=>?_) (fun hc1=>?_)
   ·
    have hno:Jja l.l:=by rw [Jja];omega
    refine Jn ?_
    refine Yfa (m:=1) hlR zc za zc ?_
    refine Xcy ?_
    refine Jx (Kbb (m:=1) (wd:=1) (u:=l) tb rfl rfl rfl rfl rfl zc za rfl) rfl ?_
    refine Xcn ?_
    refine qc4 ?_
    refine qad ?_
    refine J6 (Jb (K8 (Kq (Kc ?_))))
    exact Kf ⟨(Yp l 1 1,dr + 1,out,bsl (Yp l 1 1) :: S),hS.skip za (.inl hno)⟩ zm zg zi zqb zAa
   have hno:¬ Jja l.l:=by rw [Jja];omega
   refine qbo ?_
   refine Xap ?_
   refine Xav ?_
   apply J9 (G:=[_,_,_,_,_,_,_,_]) (j:=3) (cj:=43) rfl rfl zb rfl zdb rfl
   ·
    intro hg4
    replace hg4:=qb hg4
    have hb1:=Jw (l:=l.l) (k:=1) 0 za
    refine Xap ?_
    refine qbm ?_
    refine Zae ?_
    refine qa7 ?_
    refine qdg ?_
    refine qar ?_
    exact zyd
   intro junk4
   refine qaf ?_
   refine q_c (fun hc2=>?_) (fun hc2=>?_)
   ·
    have hfin:Uz l.l dr=⟨l.l,dr,[]⟩:=Yna (List.length_pos_iff.1 za) hno (by rw [U5];omega)
    refine K8 (Kq ?_)
    refine Vgc rfl ?_
    refine Uf (Kc (Jb (Jn (Jh ?_))))
    refine qbm ?_
    exact zjd
   have hnw:¬ U5 l.l:=by rw [U5];omega
   have hw:=Uuc hS.bytes hnw
   have hb1:=Jw (l:=l.l) (k:=1) 0 za
   have hb4:=Jw (l:=l.l) (k:=4 + lenT l.l) 0 za
   have hb5:=Jw (l:=l.l) (k:=5 + lenT l.l) 0 za
   have hb4b:=hS.bytes.at (4 + lenT l.l)
   have hb5b:=hS.bytes.at (5 + lenT l.l)
   refine qbv ?_
   refine qbm ?_
   refine Zae ?_
   refine qa7 ?_
   refine qdg ?_
   refine qad ?_
   refine qco ?_
   refine Yid (m:=1) (3 + lenT l.l) hlR zc za zc ?_
   have hlR9:InR (bsl l) (bsl (Zqa (Yp l 1 1) (3 + lenT l.l)) :: S):=hlR.mono fun r hr=>Ja (.tail _ hr)
   refine Kn tb [0,1,2,3,5,6,7,8,9,10,11,12,13,14,15,16,17,18,4,19] _ K1 ze (List.Sublist.refl _) ?_
   refine Zqe ?_
   refine qao ?_
   refine qc2 ?_
   refine Kv (Jte (m:=1) (q:=3 + lenT l.l) (wd:=1) (u:=l) tb rfl rfl rfl rfl rfl rfl za zc za hcapl rfl) rfl rfl rfl ?_
   refine Zqe ?_
   refine qao ?_
   refine qc2 ?_
   refine Kv (by first | exact Jf tb rfl rfl rfl rfl zt (i:=4 + lenT l.l) zk za | exact Jk tb rfl rfl rfl rfl (i:=4 + lenT l.l) zk za) rfl rfl rfl ?_
   refine qbl ?_
   refine qdm ?_
   refine Kv (Kbc rfl rfl zc (Jfe za)) rfl rfl rfl ?_
   refine Zqe ?_
   refine qao ?_
   refine qc2 ?_
   refine Kv (by first | exact Jf tb rfl rfl rfl rfl zt (i:=5 + lenT l.l) zk za | exact Jk tb rfl rfl rfl rfl (i:=5 + lenT l.l) zk za) rfl rfl rfl ?_
   refine qbl ?_
   refine qdm ?_
   refine Kv (Yce rfl rfl (Ygf za za)) rfl rfl rfl ?_
   refine q_d rfl (Vzc (Zqa (Yp l 1 1) (3 + lenT l.l)) _ _ zpb (fun x hx=>hS.bytes x (List.mem_of_mem_drop (List.mem_of_mem_take hx)))) ?_
   refine Kv zwc rfl rfl rfl ?_
   refine qbu ?_
   refine q_c (fun hc3=>?_) (fun hc3=>?_)
   ·
    have hbad:Jja l.l∨(¬ U5 l.l∧Jtb (K9b l.l)≠Ypb l.l):=.inr ⟨hnw,fun h=>hc3 (by rw [K8c,h];rfl)⟩
    refine Jn ?_
    refine U2 (R':=S) (List.Sublist.refl _) (fun r hr=>Ja (.tail _ hr)) ?_
    refine Yfa (m:=1) hlR zc za zc ?_
    refine Xcy ?_
    refine Jx (Kbb (m:=1) (wd:=1) (u:=l) tb rfl rfl rfl rfl rfl zc za rfl) rfl ?_
    refine Xcn ?_
    refine qc4 ?_
    refine qad ?_
    refine J6 (Jb (K8 (Kq (Kc ?_))))
    exact Kf ⟨(Yp l 1 1,dr + 1,out,bsl (Yp l 1 1) :: S),hS.skip za hbad⟩ zm zg zi zqb zAa
   have hgood:Jtb (K9b l.l)=Ypb l.l:=by
     have h:=Decidable.not_not.1 hc3
     rw [K8c] at h
     rw [h];rfl
   have hb2:=Jw (l:=l.l) (k:=2) 0 za
   have hb3:=Jw (l:=l.l) (k:=3) 0 za
   have hb2b:=hS.bytes.at 2
   have hb3b:=hS.bytes.at 3
   have hokO:=hS.ok
   refine qcl ?_
   refine U2 (R':=S) (List.Sublist.refl _) (fun r hr=>Ja (.tail _ hr)) ?_
   refine Yid (m:=4) (lenT l.l) hlR zc za zc ?_
   have hlR11:InR (bsl l) (bsl (Zqa (Yp l 4 1) (lenT l.l)) :: S):=hlR.mono fun r hr=>Ja (.tail _ hr)
   have hpl:(Zqa (Yp l 4 1) (lenT l.l)).l.length=lenT l.l:=by show ((l.l.drop 4).take _).length=_;rw [List.length_take,List.length_drop];omega
   refine Kj tb [81,82,83,84,85,86,87,88,89] [0,1,2,3,4,5,6,7,8,9,10,11,12] [13,14,15,16,17] (_) _ K1 ze zi (List.nil_sublist _) ?_
   refine Y4e ?_
   refine Y4e ?_
   refine V8 (by first | exact Jf tb rfl rfl rfl rfl zt (i:=2) zk za | exact Jk tb rfl rfl rfl rfl (i:=2) zk za) rfl rfl rfl rfl ?_
   refine Kjf ?_
   refine J6f ?_
   refine Y4e ?_
   refine V8 (by first | exact Jf tb rfl rfl rfl rfl zt (i:=3) zk za | exact Jk tb rfl rfl rfl rfl (i:=3) zk za) rfl rfl rfl rfl ?_
   refine Kjf ?_
   refine J6f ?_
   refine Xc9 ?_
   refine qcj ?_
   refine Kx (Jte (m:=4) (q:=lenT l.l) (wd:=1) (u:=l) tb rfl rfl rfl rfl rfl rfl za zc za hcapl rfl) rfl rfl rfl rfl ?_
   refine qba ?_
   refine Yjb (Km (f:=Zw) (xs:=Zqa (Yp l 4 1) (lenT l.l)) tb rfl rfl rfl zc rfl rfl ((Ja (.head _))) (fun _=>rfl) za) rfl rfl rfl ?_
   rintro v L' R' ⟨o94,rfl,hok94,rfl,rfl⟩
   refine qa1 ?_
   refine Kv zLb rfl rfl rfl ?_
   refine Yjb zwb rfl rfl rfl ?_
   rintro v L' R' ⟨b96,rfl,rfl,hR96⟩
   replace hR96:=hR96.symm;subst hR96
   refine qa1 ?_
   refine Yjb (J8 (f:=XFrame.cells) (p:=out) (a:=⟨l.l.getD 2 0,l.l.getD 3 0,(⟨o94,(Zqa (Yp l 4 1) (lenT l.l)).l⟩:OwL Int).arr⟩) tb rfl rfl rfl rfl (hokO) zj zsb rfl zy) rfl rfl rfl ?_
   rintro v L' R' ⟨o97,rfl,hok97,rfl,rfl⟩
   refine qa1 ?_
   refine Kv (Ud zfb) rfl rfl rfl ?_
   refine qbu ?_
   refine Uka (A:=[_]) (wd:=1) [] (fun _=>rfl) zc hok94 (fun s hs=>by cases hs) ?_
   refine U2 (R':=bsl (⟨o94,(Zqa (Yp l 4 1) (lenT l.l)).l⟩:OwL Int).arr :: S) (List.Sublist.refl _) (fun r hr=>Ja (by
     rcases List.mem_cons.1 hr with h | h
     · rw [h];exact .head _
     · exact .tail _ (.tail _ h))) ?_
   refine Yfa (m:=lenT l.l + 6) (hlR.mono fun r hr=>Ja (.tail _ hr)) za za zc ?_
   refine Xca ?_
   refine qar ?_
   refine Jx (Kbb (m:=lenT l.l + 6) (wd:=1) (u:=l) tb rfl rfl rfl rfl za za za rfl) rfl ?_
   refine qc4 ?_
   refine J6 (Ji ?_)
   exact Kf ⟨(Yp l (lenT l.l + 6) 1,dr,⟨o97,out.l ++ [_]⟩,_),hS.took za hno hnw hgood rfl (by show (⟨_,_,(l.l.drop 4).take _⟩:XTele)=_;rw [Jae];rfl) hok97⟩ zm zg zi zqb zAa
  have hnil:l.l=[]:=List.length_eq_zero_iff.1 za
  have hfin:Uz l.l dr=⟨l.l,dr,[]⟩:=by rw [hnil];exact Jhb _
  refine Xcp ?_
  exact zjd
end
end Go.Proofs.YtchfclmokpbldaaGreat
