/-
  Merged texts. By an AI agent.
-/
import Derived.Test.YtchfclmokpbldaaGreatStatM
import Derived.Test.YtchfclmokpbldaaGreatFlows
import Derived.Test.YtchfclmokpbldaaGreatStaA
set_option linter.all false
set_option maxHeartbeats 4000000
set_option maxRecDepth 20000
namespace Go.Proofs.YtchfclmokpbldaaGreat
open Go.Aw Go
section
section
variable {P:Program} {ρ:Operand→Value} {L:LB} {R:LS} {dst:Option Tmp} {ty:TypeId} {pos:String} {after:Array Edge} {guard:Option (Nat×Bool)} {T T2:TypeId} {x y z:Operand} {a b c:Int} {k K:IntKind}
def Jab (hx:ρ x=.int K a) (hy:ρ y=.int k b) (hb:0≤b) (he:a.fdiv (2 ^ (min b.toNat K.bits))=c):YV P ⟨dst,.binOp .shr T x y T2,ty,pos,after,guard⟩ ρ L R (.int K c):=fun _ _ _=>by
 have hb:Op.shift .shr K a k b=(pure (.int K c):Sem Value):=by
  unfold Op.shift
  rw [if_neg za,← he]
 simp [execOp,hx,hy,eqGuard,binOp,hb]
def U5c (hx:ρ x=.int K a) (hy:ρ y=.int k b) (hb:0≤b) (he:K.wrap (a * 2 ^ (min b.toNat K.bits))=c):YV P ⟨dst,.binOp .shl T x y T2,ty,pos,after,guard⟩ ρ L R (.int K c):=fun _ _ _=>by
 have hb:Op.shift .shl K a k b=(pure (.int K c):Sem Value):=by
  unfold Op.shift
  rw [if_neg za,← he]
 simp [execOp,hx,hy,eqGuard,binOp,hb]
def Zqb (hx:ρ x=.int K a) (hy:ρ y=.int K b) (he:K.wrap ((BitVec.ofInt K.bits a &&& BitVec.ofInt K.bits b).toNat:Int)=c):YV P ⟨dst,.binOp .and T x y T2,ty,pos,after,guard⟩ ρ L R (.int K c):=fun _ _ _=>by
 have hb:Op.intBits .and K a b=(pure (.int K c):Sem Value):=by
  unfold Op.intBits
  rw [← he]
 simp [execOp,hx,hy,eqGuard,binOp,hb]
def J1f (hx:ρ x=.int K a) (hy:ρ y=.int K b) (he:K.wrap ((BitVec.ofInt K.bits a ||| BitVec.ofInt K.bits b).toNat:Int)=c):YV P ⟨dst,.binOp .or T x y T2,ty,pos,after,guard⟩ ρ L R (.int K c):=fun _ _ _=>by
 have hb:Op.intBits .or K a b=(pure (.int K c):Sem Value):=by
  unfold Op.intBits
  rw [← he]
 simp [execOp,hx,hy,eqGuard,binOp,hb]
def Vze (hx:ρ x=.int K a) (hy:ρ y=.int K b) (he:K.wrap ((BitVec.ofInt K.bits a ^^^ BitVec.ofInt K.bits b).toNat:Int)=c):YV P ⟨dst,.binOp .xor T x y T2,ty,pos,after,guard⟩ ρ L R (.int K c):=fun _ _ _=>by
 have hb:Op.intBits .xor K a b=(pure (.int K c):Sem Value):=by
  unfold Op.intBits
  rw [← he]
 simp [execOp,hx,hy,eqGuard,binOp,hb]
end
def ofI (n w:Nat) (h:n < 2 ^ w):(BitVec.ofInt w (n:Int)).toNat=n:=by rw [BitVec.ofInt_natCast,BitVec.toNat_ofNat,ymb h]
def Z2c (n:Nat) (h:n < 2 ^ 64):(BitVec.ofInt IntKind.i64.bits (n:Int)).toNat=n:=ofI n 64 h
def Kic {n:Nat} (h:n < 2 ^ 62):IntKind.i64.wrap (n:Int)=(n:Int):=by unfold IntKind.wrap;simp [IntKind.bits,IntKind.signed];omega
def Ypf {a:Int} (h:0≤a∧a < 1048576):IntKind.i64.wrap ((BitVec.ofInt IntKind.i64.bits a &&& BitVec.ofInt IntKind.i64.bits 65535).toNat:Int)=a % 65536:=by
 obtain ⟨n,rfl⟩:∃n:Nat,a=(n:Int):=⟨a.toNat,by omega⟩;have h1:(BitVec.ofInt IntKind.i64.bits (n:Int) &&& BitVec.ofInt IntKind.i64.bits 65535).toNat=n % 65536:=by rw [yEb,Z2c n za,show (BitVec.ofInt IntKind.i64.bits 65535).toNat=65535 from Z2c 65535 ze];exact yDa n 16
 rw [h1,Kic za];omega
def Jte {a:Int} (h:0≤a∧a < 1048576):IntKind.i64.wrap ((BitVec.ofInt IntKind.i64.bits a &&& BitVec.ofInt IntKind.i64.bits 1).toNat:Int)=a % 2:=by
 obtain ⟨n,rfl⟩:∃n:Nat,a=(n:Int):=⟨a.toNat,by omega⟩;have h1:(BitVec.ofInt IntKind.i64.bits (n:Int) &&& BitVec.ofInt IntKind.i64.bits 1).toNat=n % 2:=by rw [yEb,Z2c n za,show (BitVec.ofInt IntKind.i64.bits 1).toNat=1 from Z2c 1 ze];exact yDa n 1
 rw [h1,Kic za];omega
def Ytf {a:Int} (h:0≤a∧a < 65536):IntKind.i64.wrap ((BitVec.ofInt IntKind.i64.bits a ^^^ BitVec.ofInt IntKind.i64.bits 4129).toNat:Int)=Kag a 4129:=by
 obtain ⟨n,rfl⟩:∃n:Nat,a=(n:Int):=⟨a.toNat,by omega⟩;have h1:(BitVec.ofInt IntKind.i64.bits (n:Int) ^^^ BitVec.ofInt IntKind.i64.bits 4129).toNat=n ^^^ 4129:=by rw [BitVec.toNat_xor,Z2c n za,show (BitVec.ofInt IntKind.i64.bits 4129).toNat=4129 from Z2c 4129 ze]
 have h2:n ^^^ 4129 < 2 ^ 16:=Nat.xor_lt_two_pow za ze;rw [h1,Kic za,Kag];rfl
def Zqf {n:Nat} (h:n < 256):IntKind.u8.wrap (n:Int)=(n:Int):=by unfold IntKind.wrap;simp [IntKind.bits,IntKind.signed];omega
def Zff {a:Int} (h:0≤a∧a < 256):IntKind.u8.wrap ((BitVec.ofInt IntKind.u8.bits a &&& BitVec.ofInt IntKind.u8.bits 1).toNat:Int)=a % 2:=by
 obtain ⟨n,rfl⟩:∃n:Nat,a=(n:Int):=⟨a.toNat,by omega⟩;have h1:(BitVec.ofInt IntKind.u8.bits (n:Int) &&& BitVec.ofInt IntKind.u8.bits 1).toNat=n % 2:=by rw [yEb,show (BitVec.ofInt IntKind.u8.bits (n:Int)).toNat=n from ofI n 8 za,show (BitVec.ofInt IntKind.u8.bits 1).toNat=1 from ofI 1 8 ze];exact yDa n 1
 rw [h1,Zqf za];omega
def Ksg {a b:Int} (ha:0≤a∧a < 256) (hb:0≤b∧b < 256):IntKind.i64.wrap ((BitVec.ofInt IntKind.i64.bits (a * 256) ||| BitVec.ofInt IntKind.i64.bits b).toNat:Int)=a * 256 + b:=by
 obtain ⟨n,rfl⟩:∃n:Nat,a=(n:Int):=⟨a.toNat,by omega⟩;obtain ⟨m,rfl⟩:∃m:Nat,b=(m:Int):=⟨b.toNat,by omega⟩;have h1:(BitVec.ofInt IntKind.i64.bits ((n:Int) * 256) ||| BitVec.ofInt IntKind.i64.bits (m:Int)).toNat=n * 256 + m:=by
  rw [BitVec.toNat_or,show ((n:Int) * 256)=((n * 256:Nat):Int) by omega,Z2c (n * 256) za,Z2c m za];have h2:2 ^ 8 * n ||| m=2 ^ 8 * n + m:=(Nat.two_pow_add_eq_or_of_lt za n).symm
  rw [ygc n 256];exact h2
 rw [h1,Kic za];omega
def U1e {a:Int} (ha:0≤a∧a < 256):IntKind.i64.wrap (a * 2 ^ (min (8:Int).toNat IntKind.i64.bits))=a * 256:=by
 obtain ⟨n,rfl⟩:∃n:Nat,a=(n:Int):=⟨a.toNat,by omega⟩;have:(n:Int) * 2 ^ (min (8:Int).toNat IntKind.i64.bits)=((n * 256:Nat):Int):=by show (n:Int) * 2 ^ 8=_;omega
 rw [this,Kic za];omega
def J6e {a:Int} (ha:0≤a∧a < 65536):IntKind.i64.wrap (a * 2 ^ (min (1:Int).toNat IntKind.i64.bits))=2 * a:=by
 obtain ⟨n,rfl⟩:∃n:Nat,a=(n:Int):=⟨a.toNat,by omega⟩;have:(n:Int) * 2 ^ (min (1:Int).toNat IntKind.i64.bits)=((2 * n:Nat):Int):=by show (n:Int) * 2 ^ 1=_;omega
 rw [this,Kic za];omega
def Vhd {a:Int}:a.fdiv (2 ^ (min (15:Int).toNat IntKind.i64.bits))=a / 32768:=by show a.fdiv (2 ^ 15)=_;rw [yOa _ ze];rfl
def Kug {a:Int} {j:Nat} (hj:j≤7):a.fdiv (2 ^ (min ((j:Int)).toNat IntKind.u8.bits))=a / 2 ^ j:=by
 have:min ((j:Int)).toNat IntKind.u8.bits=j:=by show min j 8=j;omega
 rw [this,yOa _ (by exact Int.le_of_lt (Int.pow_pos ze))]
end
section
attribute [local irreducible] CJ LJ DJ Tri YV Gives U0 J3 Kj Uz RV J5 OwL.L
section
variable {A B:Prop}
def V6f(h:A→B:=by exact Jx zB rfl):=h
def Ywf(h:B:=by exact Kr ⟨z - 1,by omega⟩ zm (by dsimp only;rw [hst,K3b,if_neg (show ¬ r / 32768=Kdg x z.toNat from hc2)];exact ⟨rfl,rfl,trivial⟩) zi ztb zx):=h
def Y3f(h:B:=by exact Kr ⟨z - 1,by omega⟩ zm (by dsimp only;rw [hst,K3b,if_pos (show r / 32768=Kdg x z.toNat from Decidable.not_not.1 hc2)];exact ⟨rfl,rfl,trivial⟩) zi ztb zx):=h
def Yjf(h:B:=by exact Kr ⟨k + 1,by omega⟩ zm (by dsimp only;rw [hcs];exact ⟨rfl,rfl,trivial⟩) zi ztb zx):=h
end
def Yid {x:Int} (h:0≤x∧x≤255) (j:Nat):0≤x / 2 ^ j∧x / 2 ^ j < 256:=by have h2:(0:Int) < 2 ^ j:=Int.pow_pos ze;refine ⟨yMb h.1 (Int.le_of_lt h2),?_⟩;have:=ycc (2 ^ j) h.1;omega
def Vxd {r x z:Int} (hz:0≤z∧z≤7):Jgc r x (7 - (z - 1)).toNat=K3b (Jgc r x (7 - z).toNat) (Kdg x z.toNat):=by
 have e:(7 - (z - 1)).toNat=(7 - z).toNat + 1:=by omega
 have e2:7 - (7 - z).toNat=z.toNat:=by omega
 rw [e,Jgc,e2]
def Z1f {x z:Int} (hz:0≤z∧z≤7):x.fdiv (2 ^ (min z.toNat IntKind.u8.bits))=x / 2 ^ z.toNat:=by obtain ⟨j,rfl⟩:∃j:Nat,z=(j:Int):=⟨z.toNat,by omega⟩;exact Kug za
def V1c (l:Arr Int) (L:LB) (R:LS) (hl:InR (bsl l) R) (hb:BytesOk l.l):
 Tri Tryz.prog 116 [l.val].toArray L R (fun v M U=>v=.int .i64 (Zxa l.l)∧L=M∧R=U):=by
 refine Vo Tryz.call116 hl fun hln=>?_;refine Jj 35 Tryz.call116 Tryz.func116 rfl rfl rfl ?_;apply Xac∘qam∘Xap∘Xbt;refine Jp [(3,.int _ _),(8,.slice _ _ _),(9,.int _ _),(10,.int _ _)] zh fun tq0=>?_;refine q_s ([3,5,6,7]++rg 10 24) (fun g:{k:Nat // k≤l.l.length}=>[(10,.int .i64 ((g.1:Nat):Int)),(3,.int .i64 (Zxa (l.l.take g.1)))]) (fun g=>l.l.length - g.1) (⟨0,by omega⟩) ?_;rintro ⟨k,hk⟩ junk;try dsimp only
 apply (Xak);refine q_c ?_ ?_<;>intro hc0;·
  have hg:=Jw (l:=l.l) (k:=k) 0 za;have hxb:=hb.at k;have hcs:=Zzc hg;obtain ⟨x,hx⟩:∃x,x=l.l.getD k 0:=⟨_,rfl⟩;rw [← hx] at hg hxb hcs;apply qbb∘V6f∘qa7∘Xag∘Xcc;refine q_s ([3,6,7]++rg 14 19) (fun g:{z:Int // -1≤z∧z≤7}=>[(6,.int .i64 g.1),(3,.int .i64 (Jgc (Zxa (l.l.take k)) x (7 - g.1).toNat))]) (fun g=>(g.1 + 1).toNat) (⟨7,by omega⟩) ?_;rintro ⟨z,hz⟩ junk;try dsimp only
  apply Xb1∘Xcn;refine q_c ?_ ?_<;>intro hc1;·
   have hc:=Vqb x (Urc (l.l.take k)) (7 - z).toNat;have hd:=Yid hxb z.toNat;have hst:=Vxd (r:=(Zxa (l.l.take k))) (x:=x) (z:=z) za;obtain ⟨r,hr⟩:∃r,r=Jgc (Zxa (l.l.take k)) x (7 - z).toNat:=⟨_,rfl⟩;rw [← hr] at hc hst ⊢;rw [Crc] at hc;apply (Xa0);refine Jx (Jab rfl rfl ze Vhd) rfl ?_;apply (Xau);refine Jx (U5c rfl rfl ze (J6e hc)) rfl ?_;refine Jx (Zqb rfl rfl (Ypf za)) rfl ?_;apply (Xag);(iterate 3 apply (qaa));apply (qdg);refine Jx (Jab rfl rfl za (Z1f za)) rfl ?_;apply (qdg);refine Jx (Zqb rfl rfl (Jte za)) rfl ?_;apply (Xao);refine q_c ?_ ?_<;>intro hc2;·exact zNd
   exact (qbj∘Xcr) Y3f
  obtain rfl:z= -1:=by omega
  refine Ug (Kw (Ux (Kd (Jk (Jc (Jh ?_))))));exact (Xae) Yjf
 exact zzd
def Ywb (l:Arr Int) (L:LB) (R:LS) (hl:InR (bsl l) R) (hb:BytesOk l.l):
 Tri Tryz.prog 161 [l.val].toArray L R (fun v M U=>v=.int .i64 (Zxa l.l)∧L=M∧R=U):=by
 refine Vo Tryz.call161 hl fun hln=>?_;refine Jj 37 Tryz.call161 Tryz.func161 rfl rfl rfl ?_;apply Xac∘qam∘Xap∘Xcc;refine Jp [(0,.slice _ _ _),(3,.int _ _),(4,.int _ _)] zh fun tq0=>?_;refine q_s (rg 3 33) (fun g:{k:Nat // k≤l.l.length}=>[(4,.int .i64 ((g.1:Nat):Int)),(3,.int .i64 (Zxa (l.l.take g.1)))]) (fun g=>l.l.length - g.1) (⟨0,by omega⟩) ?_;rintro ⟨k,hk⟩ junk;try dsimp only
 apply Xb1∘Xaq∘Xbm;refine q_c ?_ ?_<;>intro hc0;·
  have hg:=Jw (l:=l.l) (k:=k) 0 za;have hxb:=hb.at k;have hcs:=Zzc hg;obtain ⟨x,hx⟩:∃x,x=l.l.getD k 0:=⟨_,rfl⟩;rw [← hx] at hg hxb hcs;apply qbb∘Xcc;refine q_s ([3,5,6]++rg 13 23) (fun g:{z:Int // -1≤z∧z≤7}=>[(5,.int .i64 g.1),(3,.int .i64 (Jgc (Zxa (l.l.take k)) x (7 - g.1).toNat))]) (fun g=>(g.1 + 1).toNat) (⟨7,by omega⟩) ?_;rintro ⟨z,hz⟩ junk;try dsimp only
  apply Xb1∘Xcn;refine q_c ?_ ?_<;>intro hc1;·
   have hc:=Vqb x (Urc (l.l.take k)) (7 - z).toNat;have hd:=Yid hxb z.toNat;have hst:=Vxd (r:=(Zxa (l.l.take k))) (x:=x) (z:=z) za;obtain ⟨r,hr⟩:∃r,r=Jgc (Zxa (l.l.take k)) x (7 - z).toNat:=⟨_,rfl⟩;rw [← hr] at hc hst ⊢;rw [Crc] at hc;apply (Xa0);refine Jx (Jab rfl rfl ze Vhd) rfl ?_;refine Jx (Zqb rfl rfl ((Jte za).trans (show r / 32768 % 2=r / 32768 by omega))) rfl ?_;apply (Xau);refine Jx (U5c rfl rfl ze (J6e hc)) rfl ?_;refine Jx (Zqb rfl rfl (Ypf za)) rfl ?_;apply Xau∘Xat∘V6f∘qa7∘qaa∘qdg;refine Jx (Jab rfl rfl za (Z1f za)) rfl ?_;refine Jx (Zqb rfl rfl (Zff za)) rfl ?_;apply qdg∘Xao;refine q_c ?_ ?_<;>intro hc2;·exact zNd
   exact (qbj∘Xcr) Y3f
  obtain rfl:z= -1:=by omega
  refine Ug (Kw (Ux (Kd (Jk (Jc (Jh ?_))))));exact (Xdf) Yjf
 exact zzd
end
section
attribute [local irreducible] CJ LJ DJ Tri YV Gives U0 J3 Kj Uz RV J5 OwL.L
section
variable {A B:Prop}
def Uzf(h:A→B:=by exact Jx zeb rfl):=h
def K2f(h:A→B:=by exact K2 zMc rfl rfl rfl):=h
def Vmf(h:A→B:=by exact V2 zMc rfl rfl rfl rfl):=h
def Jpg(h:A→B:=by exact Jx (Kf (qs:=[(0,(Value.slice _ _ _).cells.toList),(1,(Value.int _ _).cells.toList)]) (out:=[_,_]) tb rfl rfl rfl rfl) rfl):=h
def J2g(h:B:=by exact ⟨⟨o103,l.l⟩,out,by rw [hS.fed,hfin];rfl,⟨hok103,hS.ok⟩,by rw [hS.fed,hfin],by rw [hS.fed,hfin,yZ],hS.data,rfl,hS.sub⟩):=h
def J5g(h:A→B:=by exact V2 zha rfl rfl rfl rfl):=h
def Zdf(h:A→B:=by exact V2 zsa rfl rfl rfl rfl):=h
end
structure XFrame where
 address:Int
 kind:Int
 data:Arr Int
 deriving Inhabited
def XFrame.cells (x:XFrame):List Value:=[.int .i64 x.address,.int .i64 x.kind,x.data.val]
abbrev XFrame.val (x:XFrame):Value:=.agg #[.int .i64 x.address,.int .i64 x.kind,x.data.val]
abbrev XFrame.sub (x:XFrame):Sl:=bsl x.data
abbrev Kog (x:Arr XFrame):Sl:=x.sl 3 XFrame.cells (x.l.map XFrame.sub)
def XFrame.tele (x:XFrame):XTele:=⟨x.address,x.kind,x.data.l⟩
structure FedAt (l0:List Int) (d:Int) (R:LS) (l:Arr Int) (dr:Int) (out:OwL XFrame) (S:LS):Prop where
 sub:∀r∈R,InR r S
 inl:InR (bsl l) S
 bytes:BytesOk l.l
 ok:out.ok 3 XFrame.cells
 data:∀x∈out.l,InR (bsl x.data) S
 len:out.l.length + l.l.length≤l0.length
 drop:d≤dr∧dr + l.l.length≤d + l0.length
 fed:U3 l0 d=⟨(U3 l.l dr).held,(U3 l.l dr).dropped,out.l.map XFrame.tele ++ (U3 l.l dr).out⟩
def FedAt.skip {l0:List Int} {d:Int} {R:LS} {l:Arr Int} {dr:Int} {out:OwL XFrame} {S:LS} (h:FedAt l0 d R l dr out S) (hl:0 < l.l.length) (h1:Z9 l.l∨(¬ U6 l.l∧Zxa (Kkb l.l)≠Vgb l.l)):FedAt l0 d R (Ze l 1 1) (dr + 1) out (bsl (Ze l 1 1) :: S):=by have e:(Ze l 1 1).l=l.l.tail:=List.drop_one;have hln:(Ze l 1 1).l.length=l.l.length - 1:=yP;have h2:=h.len;have h3:=h.drop;have hfs:=Jsa (d:=dr) (List.length_pos_iff.1 hl) h1;refine ⟨fun r hr=>(h.sub r hr).mono fun s hs=>Ja (.tail _ hs),Ja (.head _),fun x hx=>h.bytes x (by rw [e] at hx;exact yGb hx),h.ok,fun x hx=>(h.data x hx).mono fun s hs=>Ja (.tail _ hs),by omega,by omega,?_⟩;rw [e,← hfs];exact h.fed
def FedAt.took {l0:List Int} {d:Int} {R:LS} {l:Arr Int} {dr:Int} {out:OwL XFrame} {S:LS} (h:FedAt l0 d R l dr out S) (hl:0 < l.l.length) (h1:¬ Z9 l.l) (h2:¬ U6 l.l) (h3:Zxa (Kkb l.l)=Vgb l.l) {n:Nat} (hn:n=lenT l.l + 6) {o:Ow} {x:XFrame} (hx:x.tele=Knc l.l) (hok:(⟨o,out.l ++ [x]⟩:OwL XFrame).ok 3 XFrame.cells):
 FedAt l0 d R (Ze l n 1) dr ⟨o,out.l ++ [x]⟩ (bsl (Ze l n 1) :: bsl x.data :: S):=by
 subst hn;have hw:=Yrc h.bytes h2;have hln:(Ze l (lenT l.l + 6) 1).l.length=l.l.length - (lenT l.l + 6):=yP;have h4:=h.len;have h5:=h.drop;refine ⟨fun r hr=>(h.sub r hr).mono fun s hs=>Ja (.tail _ (.tail _ hs)),Ja (.head _),fun y hy=>h.bytes y (yta hy),hok,fun y hy=>?_,?_,by omega,?_⟩;·
  rcases List.mem_append.1 hy with hy | hy;·exact (h.data y hy).mono fun s hs=>Ja (.tail _ (.tail _ hs))
  ·rw [List.mem_singleton.1 hy];exact Ja (.tail _ (.head _))
 ·show (out.l ++ [x]).length + _ ≤ _;rw [yo,yU];omega
 ·rw [h.fed, U1a (List.length_pos_iff.1 hl) h1 h2 h3];show _=(⟨_,_,(out.l ++ [x]).map XFrame.tele ++ _⟩:XFed);rw [yO,List.map_singleton,hx,yq];rfl
def Zrc {l:List Int}:((l.drop 1).take (3 + lenT l))=Kkb l:=by rw [Kkb,List.drop_take];congr 1;omega
def U8e {l:List Int}:((l.drop 4).take (lenT l))=(Knc l).data:=by show _=(l.take (4 + lenT l)).drop 4;rw [List.drop_take];congr 1;omega
def J9d (h b:Arr Int) (d:Int) (L:LB) (R:LS) (hh:InR (bsl h) R) (hb:InR (bsl b) R) (hB:BytesOk (h.l ++ b.l)) (hd:0≤d∧d≤1152921504606846976) (hn:h.l.length + b.l.length≤1000000):
 Tri Tryz.prog 44 [.agg #[h.val,.int .i64 d],b.val].toArray L R (fun v M U=>∃(p:OwL Int) (out:OwL XFrame),v=.tuple #[.agg #[p.val,.int .i64 (U3 (h.l ++ b.l) d).dropped],out.val]∧(p.ok 1 Jea∧out.ok 3 XFrame.cells)∧p.l=(U3 (h.l ++ b.l) d).held∧out.l.map XFrame.tele=(U3 (h.l ++ b.l) d).out∧(∀x∈out.l,InR (bsl x.data) U)∧p.L 5 Jea ++ (out.L 118 XFrame.cells ++ L)=M∧∀r∈R,InR r U):=by
 refine Jj 107 Tryz.call44 Tryz.func44 rfl rfl rfl ?_;apply (Xaf);intro b2;apply (qaq);intro b4;apply qc4∘Xcj;refine Jqa (Kn (f:=Jea) (xs:=h) tb rfl rfl rfl ze rfl rfl (hh) yf za) rfl ?_;rintro v M U ⟨o12,rfl,hok12,rfl,rfl⟩;apply (qbm);refine Jqa (Vsa tb (⟨o12,h.l⟩:OwL Int) b rfl rfl rfl ze rfl rfl hok12 hb zj yf zx) rfl ?_;rintro v M U ⟨o14,rfl,hok14,rfl,rfl⟩;apply (Xcx);refine Vla (A:=[]) (wd:=1) [] yf ze hok14 yg ?_;refine Vf zya ?_;have hl0:(h.l ++ b.l).length≤1000000:=by rw [yo];exact hn
 apply qay∘qc4∘Xcj∘qad;refine J6 (Jc (Jr (Km ?_)));refine Jp [(4,.pointer _),(6,.slice _ _ _),(7,.slice _ _ _),(8,.int _ _)] zh fun tq0=>?_;refine Vx ([6,7,8,9]++rg 17 85) ((⟨fun g=>[(6,g.1.1.val),(8,.int .i64 g.1.2.1),(7,g.1.2.2.1.val)],fun g=>g.1.2.2.1.L 118 XFrame.cells ++ (⟨b4,[.slice none 0 0,.int .i64 0],46⟩ :: ⟨b2,[h.val,.int .i64 d],46⟩ :: L),fun g=>g.1.2.2.2,fun g=>g.1.1.l.length⟩:Head {g:Arr Int×Int×OwL XFrame×LS // FedAt (h.l ++ b.l) d R g.1 g.2.1 g.2.2.1 g.2.2.2})) (⟨((⟨o14,h.l ++ b.l⟩:OwL Int).arr,d,OwL.nil,bsl (⟨o14,h.l ++ b.l⟩:OwL Int).arr :: R),⟨fun r hr=>Ja (.tail _ hr),Ja (.head _),hB,OwL.nil_ok,fun x hx=>(by cases hx),Nat.le_of_eq (yCa _),⟨yD _,yD _⟩,rfl⟩⟩) zh zY ztb ?_;rintro ⟨⟨l,dr,out,S⟩,hS⟩ junk;try dsimp only
 dsimp only at hS;have hlR:=hS.inl;have hSn:=hS.len;have hSd:=hS.drop;refine Kbf hlR fun hcapl=>?_;apply qbi∘Xaq∘qa5∘qaf;refine q_c ?_ ?_<;>intro hc0;·
  have hb0:=Jw (l:=l.l) (k:=0) 0 za;have hbb:=hS.bytes.at 1;refine Ka (Jc (Km (Jr (Jr (Jh ?_)))));apply qbm∘qdt∘qa7∘Xbu;apply J9 (G:=[_,_,_,_,_,_,_,_,_,_]) (j:=4) (cj:=24) rfl rfl zb rfl zfb rfl;·
   intro hg5;replace hg5:=qb hg5;apply Xaq∘qa5∘qah;apply Ui (G:=[_,_,_,_,_]) (j:=8) (cj:=28) rfl rfl zb rfl zfb rfl;·intro hg9;replace hg9:=qb hg9;have hb1:=Jw (l:=l.l) (k:=1) 0 za;exact (qbm∘Uzf∘qa7∘qdg∘qa5) qai
   intro junk9;exact qai
  intro junk5;apply (qaf);refine q_c ?_ ?_<;>intro hc1;·(have hno:Z9 l.l:=by rw [Z9];omega);refine Jr ?_;refine Kfb (m:=1) hlR ze za ze ?_;apply (Xcy);refine Jx (V1b (m:=1) (wd:=1) (u:=l) tb rfl rfl rfl rfl rfl ze za rfl) rfl ?_;apply Xcg∘qc4∘qad;refine J6 (Jc (Ug (Kw (Kd ?_))));exact Kr ⟨(Ze l 1 1,dr + 1,out,bsl (Ze l 1 1) :: S),hS.skip za (.inl hno)⟩ zm zh zi ztb zCa
  have hno:¬ Z9 l.l:=by rw [Z9];omega
  apply qbo∘Xaq∘Xav;apply J9 (G:=[_,_,_,_,_,_,_,_]) (j:=3) (cj:=43) rfl rfl zb rfl zfb rfl;·intro hg4;replace hg4:=qb hg4;have hb1:=Jw (l:=l.l) (k:=1) 0 za;exact (Xaq∘qbm∘Uzf∘qa7∘qdg∘qar) zyd
  intro junk4;apply (qaf);refine q_c ?_ ?_<;>intro hc2;·have hfin:U3 l.l dr=⟨l.l,dr,[]⟩:=Zla (List.length_pos_iff.1 za) hno (by rw [U6];omega);refine Ug (Kw ?_);refine V2c rfl ?_;refine Ux (Kd (Jc (Jr (Jh ?_))));exact (qbm) zmd
  have hnw:¬ U6 l.l:=by rw [U6];omega
  have hw:=Yrc hS.bytes hnw;have hb1:=Jw (l:=l.l) (k:=1) 0 za;have hb4:=Jw (l:=l.l) (k:=4 + lenT l.l) 0 za;have hb5:=Jw (l:=l.l) (k:=5 + lenT l.l) 0 za;have hb4b:=hS.bytes.at (4 + lenT l.l);have hb5b:=hS.bytes.at (5 + lenT l.l);apply qbv∘qbm∘Uzf∘qa7∘qdg∘qad∘qco;refine Kje (m:=1) (3 + lenT l.l) hlR ze za ze ?_;have hlR9:InR (bsl l) (bsl (Z9b (Ze l 1 1) (3 + lenT l.l)) :: S):=hlR.mono fun r hr=>Ja (.tail _ hr);refine Kp tb [0,1,2,3,5,6,7,8,9,10,11,12,13,14,15,16,17,18,4,19] _ K3 zc ye ?_;apply K2f∘qao∘qc2;refine K2 (Ude (m:=1) (q:=3 + lenT l.l) (wd:=1) (u:=l) tb rfl rfl rfl rfl rfl rfl za ze za hcapl rfl) rfl rfl rfl ?_;apply K2f∘qao∘qc2;refine K2 (by first | exact Jf tb rfl rfl rfl rfl zt (i:=4 + lenT l.l) zk za | exact Jl tb rfl rfl rfl rfl (i:=4 + lenT l.l) zk za) rfl rfl rfl ?_;apply qbl∘qdm;refine K2 (U5c rfl rfl ze (U1e za)) rfl rfl rfl ?_;apply K2f∘qao∘qc2;refine K2 (by first | exact Jf tb rfl rfl rfl rfl zt (i:=5 + lenT l.l) zk za | exact Jl tb rfl rfl rfl rfl (i:=5 + lenT l.l) zk za) rfl rfl rfl ?_;apply qbl∘qdm;refine K2 (J1f rfl rfl (Ksg za za)) rfl rfl rfl ?_;refine q_d rfl (V1c (Z9b (Ze l 1 1) (3 + lenT l.l)) _ _ zsb (fun x hx=>hS.bytes x (yta (yIb hx)))) ?_;refine K2 (Jnc rfl rfl) rfl rfl rfl ?_;apply (qbu);refine q_c ?_ ?_<;>intro hc3;·have hbad:Z9 l.l∨(¬ U6 l.l∧Zxa (Kkb l.l)≠Vgb l.l):=.inr ⟨hnw,fun h=>hc3 (by rw [Zrc,h];rfl)⟩;refine Jr ?_;refine Vn (U:=S) ye (fun r hr=>Ja (.tail _ hr)) ?_;refine Kfb (m:=1) hlR ze za ze ?_;apply (Xcy);refine Jx (V1b (m:=1) (wd:=1) (u:=l) tb rfl rfl rfl rfl rfl ze za rfl) rfl ?_;apply Xcg∘qc4∘qad;refine J6 (Jc (Ug (Kw (Kd ?_))));exact Kr ⟨(Ze l 1 1,dr + 1,out,bsl (Ze l 1 1) :: S),hS.skip za hbad⟩ zm zh zi ztb zCa
  have hgood:Zxa (Kkb l.l)=Vgb l.l:=by have h:=Decidable.not_not.1 hc3;rw [Zrc] at h;rw [h];rfl
  have hb2:=Jw (l:=l.l) (k:=2) 0 za;have hb3:=Jw (l:=l.l) (k:=3) 0 za;have hb2b:=hS.bytes.at 2;have hb3b:=hS.bytes.at 3;have hokO:=hS.ok;apply (qcl);refine Vn (U:=S) ye (fun r hr=>Ja (.tail _ hr)) ?_;refine Kje (m:=4) (lenT l.l) hlR ze za ze ?_;have hlR11:InR (bsl l) (bsl (Z9b (Ze l 4 1) (lenT l.l)) :: S):=hlR.mono fun r hr=>Ja (.tail _ hr);have hpl:(Z9b (Ze l 4 1) (lenT l.l)).l.length=lenT l.l:=by show ((l.l.drop 4).take _).length=_;rw [yYa,yP];omega
  refine Kh tb [81,82,83,84,85,86,87,88,89] [0,1,2,3,4,5,6,7,8,9,10,11,12] [13,14,15,16,17] (_) _ K3 zc zi yd ?_;apply Vmf∘Vmf;refine V2 (by first | exact Jf tb rfl rfl rfl rfl zt (i:=2) zk za | exact Jl tb rfl rfl rfl rfl (i:=2) zk za) rfl rfl rfl rfl ?_;apply J5g∘Zdf∘Vmf;refine V2 (by first | exact Jf tb rfl rfl rfl rfl zt (i:=3) zk za | exact Jl tb rfl rfl rfl rfl (i:=3) zk za) rfl rfl rfl rfl ?_;apply J5g∘Zdf∘Xdd∘qcj;refine Ku (Ude (m:=4) (q:=lenT l.l) (wd:=1) (u:=l) tb rfl rfl rfl rfl rfl rfl za ze za hcapl rfl) rfl rfl rfl rfl ?_;apply (qba);refine Z4b (Kn (f:=Jea) (xs:=Z9b (Ze l 4 1) (lenT l.l)) tb rfl rfl rfl ze rfl rfl ((Ja (.head _))) yf za) rfl rfl rfl ?_;rintro v M U ⟨o94,rfl,hok94,rfl,rfl⟩;apply (qa1);refine K2 zPb rfl rfl rfl ?_;refine Z4b zAb rfl rfl rfl ?_;rintro v M U ⟨b96,rfl,rfl,hR96⟩;replace hR96:=hR96.symm;subst hR96;apply (qa1);refine Z4b (Kb (f:=XFrame.cells) (p:=out) (a:=⟨l.l.getD 2 0,l.l.getD 3 0,(⟨o94,(Z9b (Ze l 4 1) (lenT l.l)).l⟩:OwL Int).arr⟩) tb rfl rfl rfl rfl (hokO) zj zxb rfl zA) rfl rfl rfl ?_;rintro v M U ⟨o97,rfl,hok97,rfl,rfl⟩;apply (qa1);refine K2 (Uc zhb) rfl rfl rfl ?_;apply (qbu);refine Vla (A:=[_]) (wd:=1) [] yf ze hok94 yg ?_;refine Vn (U:=bsl (⟨o94,(Z9b (Ze l 4 1) (lenT l.l)).l⟩:OwL Int).arr :: S) ye (fun r hr=>Ja (by
   rcases List.mem_cons.1 hr with h | h;·rw [h];exact .head _
   ·exact .tail _ (.tail _ h))) ?_
  refine Kfb (m:=lenT l.l + 6) (hlR.mono fun r hr=>Ja (.tail _ hr)) za za ze ?_;apply Xb3∘qar;refine Jx (V1b (m:=lenT l.l + 6) (wd:=1) (u:=l) tb rfl rfl rfl rfl za za za rfl) rfl ?_;apply (qc4);refine J6 (Jk ?_);exact Kr ⟨(Ze l (lenT l.l + 6) 1,dr,⟨o97,out.l ++ [_]⟩,_),hS.took za hno hnw hgood rfl (by show (⟨_,_,(l.l.drop 4).take _⟩:XTele)=_;rw [U8e];rfl) hok97⟩ zm zh zi ztb zCa
 have hnil:l.l=[]:=List.length_eq_zero_iff.1 za;have hfin:U3 l.l dr=⟨l.l,dr,[]⟩:=by rw [hnil];exact Y0a _
 exact (Xcs) zmd
end
end Go.Proofs.YtchfclmokpbldaaGreat
