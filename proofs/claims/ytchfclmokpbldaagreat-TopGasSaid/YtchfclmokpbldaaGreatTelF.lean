/-
  Merged texts. By an AI agent.
-/
import Derived.Test.YtchfclmokpbldaaGreatStatM
import Derived.Test.YtchfclmokpbldaaGreatFlows
import Derived.Test.YtchfclmokpbldaaGreatStaA
set_option linter.all false
set_option maxHeartbeats 4000000
set_option maxRecDepth 20000
namespace Go.Proofs.YtchfclmokpbldaaGreat
open Go.Aw Go
section
section
variable {P:Program} {ρ:Operand→Value} {L:LB} {R:LS} {dst:Option Tmp} {ty:TypeId} {pos:String} {after:Array Edge} {guard:Option (Nat×Bool)} {T T2:TypeId} {x y z:Operand} {a b c:Int} {k K:IntKind}
def K8b (hx:ρ x=.int K a) (hy:ρ y=.int k b) (hb:0≤b) (he:a.fdiv (2 ^ (min b.toNat K.bits))=c):YV P ⟨dst,.binOp .shr T x y T2,ty,pos,after,guard⟩ ρ L R (.int K c):=fun _ _ _=>by
 have hb:Op.shift .shr K a k b=(pure (.int K c):Sem Value):=by
  unfold Op.shift
  rw [if_neg za,← he]
 simp [execOp,hx,hy,eqGuard,binOp,hb]
def Uxc (hx:ρ x=.int K a) (hy:ρ y=.int k b) (hb:0≤b) (he:K.wrap (a * 2 ^ (min b.toNat K.bits))=c):YV P ⟨dst,.binOp .shl T x y T2,ty,pos,after,guard⟩ ρ L R (.int K c):=fun _ _ _=>by
 have hb:Op.shift .shl K a k b=(pure (.int K c):Sem Value):=by
  unfold Op.shift
  rw [if_neg za,← he]
 simp [execOp,hx,hy,eqGuard,binOp,hb]
def Y4b (hx:ρ x=.int K a) (hy:ρ y=.int K b) (he:K.wrap ((BitVec.ofInt K.bits a &&& BitVec.ofInt K.bits b).toNat:Int)=c):YV P ⟨dst,.binOp .and T x y T2,ty,pos,after,guard⟩ ρ L R (.int K c):=fun _ _ _=>by
 have hb:Op.intBits .and K a b=(pure (.int K c):Sem Value):=by
  unfold Op.intBits
  rw [← he]
 simp [execOp,hx,hy,eqGuard,binOp,hb]
def Ksf (hx:ρ x=.int K a) (hy:ρ y=.int K b) (he:K.wrap ((BitVec.ofInt K.bits a ||| BitVec.ofInt K.bits b).toNat:Int)=c):YV P ⟨dst,.binOp .or T x y T2,ty,pos,after,guard⟩ ρ L R (.int K c):=fun _ _ _=>by
 have hb:Op.intBits .or K a b=(pure (.int K c):Sem Value):=by
  unfold Op.intBits
  rw [← he]
 simp [execOp,hx,hy,eqGuard,binOp,hb]
def Ybe (hx:ρ x=.int K a) (hy:ρ y=.int K b) (he:K.wrap ((BitVec.ofInt K.bits a ^^^ BitVec.ofInt K.bits b).toNat:Int)=c):YV P ⟨dst,.binOp .xor T x y T2,ty,pos,after,guard⟩ ρ L R (.int K c):=fun _ _ _=>by
 have hb:Op.intBits .xor K a b=(pure (.int K c):Sem Value):=by
  unfold Op.intBits
  rw [← he]
 simp [execOp,hx,hy,eqGuard,binOp,hb]
end
def ofI (n w:Nat) (h:n < 2 ^ w):(BitVec.ofInt w (n:Int)).toNat=n:=by rw [BitVec.ofInt_natCast,BitVec.toNat_ofNat,yub h]
def Z5c (n:Nat) (h:n < 2 ^ 64):(BitVec.ofInt IntKind.i64.bits (n:Int)).toNat=n:=ofI n 64 h
def Kzc {n:Nat} (h:n < 2 ^ 62):IntKind.i64.wrap (n:Int)=(n:Int):=by unfold IntKind.wrap;simp [IntKind.bits,IntKind.signed];omega
def J8g {a:Int} (h:0≤a∧a < 1048576):IntKind.i64.wrap ((BitVec.ofInt IntKind.i64.bits a &&& BitVec.ofInt IntKind.i64.bits 65535).toNat:Int)=a % 65536:=by
 obtain ⟨n,rfl⟩:∃n:Nat,a=(n:Int):=⟨a.toNat,by omega⟩;have h1:(BitVec.ofInt IntKind.i64.bits (n:Int) &&& BitVec.ofInt IntKind.i64.bits 65535).toNat=n % 65536:=by rw [yOb,Z5c n za,show (BitVec.ofInt IntKind.i64.bits 65535).toNat=65535 from Z5c 65535 ze];exact yFa n 16
 rw [h1,Kzc za];omega
def V2e {a:Int} (h:0≤a∧a < 1048576):IntKind.i64.wrap ((BitVec.ofInt IntKind.i64.bits a &&& BitVec.ofInt IntKind.i64.bits 1).toNat:Int)=a % 2:=by
 obtain ⟨n,rfl⟩:∃n:Nat,a=(n:Int):=⟨a.toNat,by omega⟩;have h1:(BitVec.ofInt IntKind.i64.bits (n:Int) &&& BitVec.ofInt IntKind.i64.bits 1).toNat=n % 2:=by rw [yOb,Z5c n za,show (BitVec.ofInt IntKind.i64.bits 1).toNat=1 from Z5c 1 ze];exact yFa n 1
 rw [h1,Kzc za];omega
def K6g {a:Int} (h:0≤a∧a < 65536):IntKind.i64.wrap ((BitVec.ofInt IntKind.i64.bits a ^^^ BitVec.ofInt IntKind.i64.bits 4129).toNat:Int)=U3g a 4129:=by
 obtain ⟨n,rfl⟩:∃n:Nat,a=(n:Int):=⟨a.toNat,by omega⟩;have h1:(BitVec.ofInt IntKind.i64.bits (n:Int) ^^^ BitVec.ofInt IntKind.i64.bits 4129).toNat=n ^^^ 4129:=by rw [BitVec.toNat_xor,Z5c n za,show (BitVec.ofInt IntKind.i64.bits 4129).toNat=4129 from Z5c 4129 ze]
 have h2:n ^^^ 4129 < 2 ^ 16:=Nat.xor_lt_two_pow za ze;rw [h1,Kzc za,U3g];rfl
def Jhg {n:Nat} (h:n < 256):IntKind.u8.wrap (n:Int)=(n:Int):=by unfold IntKind.wrap;simp [IntKind.bits,IntKind.signed];omega
def Z8f {a:Int} (h:0≤a∧a < 256):IntKind.u8.wrap ((BitVec.ofInt IntKind.u8.bits a &&& BitVec.ofInt IntKind.u8.bits 1).toNat:Int)=a % 2:=by
 obtain ⟨n,rfl⟩:∃n:Nat,a=(n:Int):=⟨a.toNat,by omega⟩;have h1:(BitVec.ofInt IntKind.u8.bits (n:Int) &&& BitVec.ofInt IntKind.u8.bits 1).toNat=n % 2:=by rw [yOb,show (BitVec.ofInt IntKind.u8.bits (n:Int)).toNat=n from ofI n 8 za,show (BitVec.ofInt IntKind.u8.bits 1).toNat=1 from ofI 1 8 ze];exact yFa n 1
 rw [h1,Jhg za];omega
def Vqg {a b:Int} (ha:0≤a∧a < 256) (hb:0≤b∧b < 256):IntKind.i64.wrap ((BitVec.ofInt IntKind.i64.bits (a * 256) ||| BitVec.ofInt IntKind.i64.bits b).toNat:Int)=a * 256 + b:=by
 obtain ⟨n,rfl⟩:∃n:Nat,a=(n:Int):=⟨a.toNat,by omega⟩;obtain ⟨m,rfl⟩:∃m:Nat,b=(m:Int):=⟨b.toNat,by omega⟩;have h1:(BitVec.ofInt IntKind.i64.bits ((n:Int) * 256) ||| BitVec.ofInt IntKind.i64.bits (m:Int)).toNat=n * 256 + m:=by
  rw [BitVec.toNat_or,show ((n:Int) * 256)=((n * 256:Nat):Int) by omega,Z5c (n * 256) za,Z5c m za];have h2:2 ^ 8 * n ||| m=2 ^ 8 * n + m:=(Nat.two_pow_add_eq_or_of_lt za n).symm
  rw [yqc n 256];exact h2
 rw [h1,Kzc za];omega
def Yie {a:Int} (ha:0≤a∧a < 256):IntKind.i64.wrap (a * 2 ^ (min (8:Int).toNat IntKind.i64.bits))=a * 256:=by
 obtain ⟨n,rfl⟩:∃n:Nat,a=(n:Int):=⟨a.toNat,by omega⟩;have:(n:Int) * 2 ^ (min (8:Int).toNat IntKind.i64.bits)=((n * 256:Nat):Int):=by show (n:Int) * 2 ^ 8=_;omega
 rw [this,Kzc za];omega
def K2e {a:Int} (ha:0≤a∧a < 65536):IntKind.i64.wrap (a * 2 ^ (min (1:Int).toNat IntKind.i64.bits))=2 * a:=by
 obtain ⟨n,rfl⟩:∃n:Nat,a=(n:Int):=⟨a.toNat,by omega⟩;have:(n:Int) * 2 ^ (min (1:Int).toNat IntKind.i64.bits)=((2 * n:Nat):Int):=by show (n:Int) * 2 ^ 1=_;omega
 rw [this,Kzc za];omega
def V3d {a:Int}:a.fdiv (2 ^ (min (15:Int).toNat IntKind.i64.bits))=a / 32768:=by show a.fdiv (2 ^ 15)=_;rw [yUa _ ze];rfl
def Vsg {a:Int} {j:Nat} (hj:j≤7):a.fdiv (2 ^ (min ((j:Int)).toNat IntKind.u8.bits))=a / 2 ^ j:=by
 have:min ((j:Int)).toNat IntKind.u8.bits=j:=by show min j 8=j;omega
 rw [this,yUa _ (by exact Int.le_of_lt (Int.pow_pos ze))]
end
section
attribute [local irreducible] CJ LJ DJ Tri YV Gives Uq J2 Kj Ut RV J3 OwL.L
section
variable {A B:Prop}
def Zff(h:A→B:=by exact Jw zD rfl):=h
def Jvg(h:B:=by exact Ka ⟨z - 1,by omega⟩ zm (by dsimp only;rw [hst,Ufb,if_neg (show ¬ r / 32768=U2g x z.toNat from hc2)];exact ⟨rfl,rfl,trivial⟩) zi zAb zx):=h
def Umg(h:B:=by exact Ka ⟨z - 1,by omega⟩ zm (by dsimp only;rw [hst,Ufb,if_pos (show r / 32768=U2g x z.toNat from Decidable.not_not.1 hc2)];exact ⟨rfl,rfl,trivial⟩) zi zAb zx):=h
def J4g(h:B:=by exact Ka ⟨k + 1,by omega⟩ zm (by dsimp only;rw [hcs];exact ⟨rfl,rfl,trivial⟩) zi zAb zx):=h
end
def Vmd {x:Int} (h:0≤x∧x≤255) (j:Nat):0≤x / 2 ^ j∧x / 2 ^ j < 256:=by have h2:(0:Int) < 2 ^ j:=Int.pow_pos ze;refine ⟨ySa h.1 (Int.le_of_lt h2),?_⟩;have:=yib (2 ^ j) h.1;omega
def Vqd {r x z:Int} (hz:0≤z∧z≤7):Jvc r x (7 - (z - 1)).toNat=Ufb (Jvc r x (7 - z).toNat) (U2g x z.toNat):=by
 have e:(7 - (z - 1)).toNat=(7 - z).toNat + 1:=by omega
 have e2:7 - (7 - z).toNat=z.toNat:=by omega
 rw [e,Jvc,e2]
def Uvg {x z:Int} (hz:0≤z∧z≤7):x.fdiv (2 ^ (min z.toNat IntKind.u8.bits))=x / 2 ^ z.toNat:=by obtain ⟨j,rfl⟩:∃j:Nat,z=(j:Int):=⟨z.toNat,by omega⟩;exact Vsg za
def Ytc (l:Arr Int) (L:LB) (R:LS) (hl:InR (bsl l) R) (hb:BytesOk l.l):
 Tri Tryz.prog 116 [l.val].toArray L R (fun v U J=>v=.int .i64 (Zza l.l)∧L=U∧R=J):=by
 refine Vm Tryz.call116 hl fun hln=>?_;refine Je 35 Tryz.call116 Tryz.func116 rfl rfl rfl ?_;apply Xae∘qam∘Xar∘Xbr;refine Jm [(3,.int _ _),(8,.slice _ _ _),(9,.int _ _),(10,.int _ _)] zh fun tq0=>?_;refine q_s ([3,5,6,7]++rg 10 24) (fun g:{k:Nat // k≤l.l.length}=>[(10,.int .i64 ((g.1:Nat):Int)),(3,.int .i64 (Zza (l.l.take g.1)))]) (fun g=>l.l.length - g.1) (⟨0,by omega⟩) ?_;rintro ⟨k,hk⟩ junk;try dsimp only
 apply (Xaj);refine q_c ?_ ?_<;>intro hc0;·
  have hg:=Jp (l:=l.l) (k:=k) 0 za;have hxb:=hb.at k;have hcs:=Y3c hg;obtain ⟨x,hx⟩:∃x,x=l.l.getD k 0:=⟨_,rfl⟩;rw [← hx] at hg hxb hcs;apply qbb∘Zff∘qa7∘Xag∘Xbq;refine q_s ([3,6,7]++rg 14 19) (fun g:{z:Int // -1≤z∧z≤7}=>[(6,.int .i64 g.1),(3,.int .i64 (Jvc (Zza (l.l.take k)) x (7 - g.1).toNat))]) (fun g=>(g.1 + 1).toNat) (⟨7,by omega⟩) ?_;rintro ⟨z,hz⟩ junk;try dsimp only
  apply Xa6∘Xcu;refine q_c ?_ ?_<;>intro hc1;·
   have hc:=V1b x (Voc (l.l.take k)) (7 - z).toNat;have hd:=Vmd hxb z.toNat;have hst:=Vqd (r:=(Zza (l.l.take k))) (x:=x) (z:=z) za;obtain ⟨r,hr⟩:∃r,r=Jvc (Zza (l.l.take k)) x (7 - z).toNat:=⟨_,rfl⟩;rw [← hr] at hc hst ⊢;rw [Crc] at hc;apply (Xa1);refine Jw (K8b rfl rfl ze V3d) rfl ?_;apply (Xau);refine Jw (Uxc rfl rfl ze (K2e hc)) rfl ?_;refine Jw (Y4b rfl rfl (J8g za)) rfl ?_;apply (Xag);(iterate 3 apply (qaa));apply (qdg);refine Jw (K8b rfl rfl za (Uvg za)) rfl ?_;apply (qdg);refine Jw (Y4b rfl rfl (V2e za)) rfl ?_;apply (Xat);refine q_c ?_ ?_<;>intro hc2;·exact zae
   exact (qbj∘Xcc) Umg
  obtain rfl:z= -1:=by omega
  refine K9 (Km (Uc (J6 (Jh (Jb (Jg ?_))))));exact (Xad) J4g
 exact zPd
def Ypb (l:Arr Int) (L:LB) (R:LS) (hl:InR (bsl l) R) (hb:BytesOk l.l):
 Tri Tryz.prog 161 [l.val].toArray L R (fun v U J=>v=.int .i64 (Zza l.l)∧L=U∧R=J):=by
 refine Vm Tryz.call161 hl fun hln=>?_;refine Je 37 Tryz.call161 Tryz.func161 rfl rfl rfl ?_;apply Xae∘qam∘Xar∘Xbq;refine Jm [(0,.slice _ _ _),(3,.int _ _),(4,.int _ _)] zh fun tq0=>?_;refine q_s (rg 3 33) (fun g:{k:Nat // k≤l.l.length}=>[(4,.int .i64 ((g.1:Nat):Int)),(3,.int .i64 (Zza (l.l.take g.1)))]) (fun g=>l.l.length - g.1) (⟨0,by omega⟩) ?_;rintro ⟨k,hk⟩ junk;try dsimp only
 apply Xa6∘Xap∘Xbd;refine q_c ?_ ?_<;>intro hc0;·
  have hg:=Jp (l:=l.l) (k:=k) 0 za;have hxb:=hb.at k;have hcs:=Y3c hg;obtain ⟨x,hx⟩:∃x,x=l.l.getD k 0:=⟨_,rfl⟩;rw [← hx] at hg hxb hcs;apply qbb∘Xbq;refine q_s ([3,5,6]++rg 13 23) (fun g:{z:Int // -1≤z∧z≤7}=>[(5,.int .i64 g.1),(3,.int .i64 (Jvc (Zza (l.l.take k)) x (7 - g.1).toNat))]) (fun g=>(g.1 + 1).toNat) (⟨7,by omega⟩) ?_;rintro ⟨z,hz⟩ junk;try dsimp only
  apply Xa6∘Xcu;refine q_c ?_ ?_<;>intro hc1;·
   have hc:=V1b x (Voc (l.l.take k)) (7 - z).toNat;have hd:=Vmd hxb z.toNat;have hst:=Vqd (r:=(Zza (l.l.take k))) (x:=x) (z:=z) za;obtain ⟨r,hr⟩:∃r,r=Jvc (Zza (l.l.take k)) x (7 - z).toNat:=⟨_,rfl⟩;rw [← hr] at hc hst ⊢;rw [Crc] at hc;apply (Xa1);refine Jw (K8b rfl rfl ze V3d) rfl ?_;refine Jw (Y4b rfl rfl ((V2e za).trans (show r / 32768 % 2=r / 32768 by omega))) rfl ?_;apply (Xau);refine Jw (Uxc rfl rfl ze (K2e hc)) rfl ?_;refine Jw (Y4b rfl rfl (J8g za)) rfl ?_;apply Xau∘Xaq∘Zff∘qa7∘qaa∘qdg;refine Jw (K8b rfl rfl za (Uvg za)) rfl ?_;refine Jw (Y4b rfl rfl (Z8f za)) rfl ?_;apply qdg∘Xat;refine q_c ?_ ?_<;>intro hc2;·exact zae
   exact (qbj∘Xcc) Umg
  obtain rfl:z= -1:=by omega
  refine K9 (Km (Uc (J6 (Jh (Jb (Jg ?_))))));exact (Xbw) J4g
 exact zPd
end
section
attribute [local irreducible] CJ LJ DJ Tri YV Gives Uq J2 Kj Ut RV J3 OwL.L
section
variable {A B:Prop}
def U9f(h:A→B:=by exact Jw zlb rfl):=h
def Yrf(h:A→B:=by exact Ks zZc rfl rfl rfl):=h
def Uhf(h:A→B:=by exact Vd zZc rfl rfl rfl rfl):=h
def Utg(h:A→B:=by exact Jw (J8 (qs:=[(0,(Value.slice _ _ _).cells.toList),(1,(Value.int _ _).cells.toList)]) (out:=[_,_]) tb rfl rfl rfl rfl) rfl):=h
def Z9f(h:B:=by exact ⟨⟨o103,l.l⟩,out,by rw [hS.fed,hfin];rfl,⟨hok103,hS.ok⟩,by rw [hS.fed,hfin],by rw [hS.fed,hfin,yaa],hS.data,rfl,hS.sub⟩):=h
def Zhf(h:A→B:=by exact Vd zma rfl rfl rfl rfl):=h
def Ktg(h:A→B:=by exact Vd zua rfl rfl rfl rfl):=h
end
structure XFrame where
 address:Int
 kind:Int
 data:Arr Int
 deriving Inhabited
def XFrame.cells (x:XFrame):List Value:=[.int .i64 x.address,.int .i64 x.kind,x.data.val]
abbrev XFrame.val (x:XFrame):Value:=.agg #[.int .i64 x.address,.int .i64 x.kind,x.data.val]
abbrev XFrame.sub (x:XFrame):Sl:=bsl x.data
abbrev Vng (x:Arr XFrame):Sl:=x.sl 3 XFrame.cells (x.l.map XFrame.sub)
def XFrame.tele (x:XFrame):XTele:=⟨x.address,x.kind,x.data.l⟩
structure FedAt (l0:List Int) (d:Int) (R:LS) (l:Arr Int) (dr:Int) (out:OwL XFrame) (S:LS):Prop where
 sub:∀r∈R,InR r S
 inl:InR (bsl l) S
 bytes:BytesOk l.l
 ok:out.ok 3 XFrame.cells
 data:∀x∈out.l,InR (bsl x.data) S
 len:out.l.length + l.l.length≤l0.length
 drop:d≤dr∧dr + l.l.length≤d + l0.length
 fed:Vc l0 d=⟨(Vc l.l dr).held,(Vc l.l dr).dropped,out.l.map XFrame.tele ++ (Vc l.l dr).out⟩
def FedAt.skip {l0:List Int} {d:Int} {R:LS} {l:Arr Int} {dr:Int} {out:OwL XFrame} {S:LS} (h:FedAt l0 d R l dr out S) (hl:0 < l.l.length) (h1:Z7 l.l∨(¬ U9 l.l∧Zza (Kvb l.l)≠Vlb l.l)):FedAt l0 d R (Zi l 1 1) (dr + 1) out (bsl (Zi l 1 1) :: S):=by have e:(Zi l 1 1).l=l.l.tail:=List.drop_one;have hln:(Zi l 1 1).l.length=l.l.length - 1:=yV;have h2:=h.len;have h3:=h.drop;have hfs:=Jpa (d:=dr) (List.length_pos_iff.1 hl) h1;refine ⟨fun r hr=>(h.sub r hr).mono fun s hs=>Ja (.tail _ hs),Ja (.head _),fun x hx=>h.bytes x (by rw [e] at hx;exact yQb hx),h.ok,fun x hx=>(h.data x hx).mono fun s hs=>Ja (.tail _ hs),by omega,by omega,?_⟩;rw [e,← hfs];exact h.fed
def FedAt.took {l0:List Int} {d:Int} {R:LS} {l:Arr Int} {dr:Int} {out:OwL XFrame} {S:LS} (h:FedAt l0 d R l dr out S) (hl:0 < l.l.length) (h1:¬ Z7 l.l) (h2:¬ U9 l.l) (h3:Zza (Kvb l.l)=Vlb l.l) {n:Nat} (hn:n=lenT l.l + 6) {o:Ow} {x:XFrame} (hx:x.tele=Kjc l.l) (hok:(⟨o,out.l ++ [x]⟩:OwL XFrame).ok 3 XFrame.cells):
 FedAt l0 d R (Zi l n 1) dr ⟨o,out.l ++ [x]⟩ (bsl (Zi l n 1) :: bsl x.data :: S):=by
 subst hn;have hw:=Z2c h.bytes h2;have hln:(Zi l (lenT l.l + 6) 1).l.length=l.l.length - (lenT l.l + 6):=yV;have h4:=h.len;have h5:=h.drop;refine ⟨fun r hr=>(h.sub r hr).mono fun s hs=>Ja (.tail _ (.tail _ hs)),Ja (.head _),fun y hy=>h.bytes y (ywa hy),hok,fun y hy=>?_,?_,by omega,?_⟩;·
  rcases List.mem_append.1 hy with hy | hy;·exact (h.data y hy).mono fun s hs=>Ja (.tail _ (.tail _ hs))
  ·rw [List.mem_singleton.1 hy];exact Ja (.tail _ (.head _))
 ·show (out.l ++ [x]).length + _ ≤ _;rw [yl,yx];omega
 ·rw [h.fed, U0a (List.length_pos_iff.1 hl) h1 h2 h3];show _=(⟨_,_,(out.l ++ [x]).map XFrame.tele ++ _⟩:XFed);rw [yU,List.map_singleton,hx,yn];rfl
def Zvc {l:List Int}:((l.drop 1).take (3 + lenT l))=Kvb l:=by rw [Kvb,List.drop_take];congr 1;omega
def Voe {l:List Int}:((l.drop 4).take (lenT l))=(Kjc l).data:=by show _=(l.take (4 + lenT l)).drop 4;rw [List.drop_take];congr 1;omega
def Kzd (h b:Arr Int) (d:Int) (L:LB) (R:LS) (hh:InR (bsl h) R) (hb:InR (bsl b) R) (hB:BytesOk (h.l ++ b.l)) (hd:0≤d∧d≤1152921504606846976) (hn:h.l.length + b.l.length≤1000000):
 Tri Tryz.prog 44 [.agg #[h.val,.int .i64 d],b.val].toArray L R (fun v U J=>∃(p:OwL Int) (out:OwL XFrame),v=.tuple #[.agg #[p.val,.int .i64 (Vc (h.l ++ b.l) d).dropped],out.val]∧(p.ok 1 Z9∧out.ok 3 XFrame.cells)∧p.l=(Vc (h.l ++ b.l) d).held∧out.l.map XFrame.tele=(Vc (h.l ++ b.l) d).out∧(∀x∈out.l,InR (bsl x.data) J)∧p.L 5 Z9 ++ (out.L 118 XFrame.cells ++ L)=U∧∀r∈R,InR r J):=by
 refine Je 107 Tryz.call44 Tryz.func44 rfl rfl rfl ?_;apply (Xaf);intro b2;apply (qaq);intro b4;apply Xb8∘Xaa;refine Za (Kt (f:=Z9) (xs:=h) tb rfl rfl rfl ze rfl rfl (hh) yf za) rfl ?_;rintro v U J ⟨o12,rfl,hok12,rfl,rfl⟩;apply (qbm);refine Za (V7a tb (⟨o12,h.l⟩:OwL Int) b rfl rfl rfl ze rfl rfl hok12 hb zj yf zx) rfl ?_;rintro v U J ⟨o14,rfl,hok14,rfl,rfl⟩;apply (Xc0);refine Vg (A:=[]) (wd:=1) [] yf ze hok14 yg ?_;refine U2 zfa ?_;have hl0:(h.l ++ b.l).length≤1000000:=by rw [yl];exact hn
 apply qay∘Xb8∘Xaa∘qad;refine J9 (Jb (Jq (Ki ?_)));refine Jm [(4,.pointer _),(6,.slice _ _ _),(7,.slice _ _ _),(8,.int _ _)] zh fun tq0=>?_;refine Up ([6,7,8,9]++rg 17 85) ((⟨fun g=>[(6,g.1.1.val),(8,.int .i64 g.1.2.1),(7,g.1.2.2.1.val)],fun g=>g.1.2.2.1.L 118 XFrame.cells ++ (⟨b4,[.slice none 0 0,.int .i64 0],46⟩ :: ⟨b2,[h.val,.int .i64 d],46⟩ :: L),fun g=>g.1.2.2.2,fun g=>g.1.1.l.length⟩:Head {g:Arr Int×Int×OwL XFrame×LS // FedAt (h.l ++ b.l) d R g.1 g.2.1 g.2.2.1 g.2.2.2})) (⟨((⟨o14,h.l ++ b.l⟩:OwL Int).arr,d,OwL.nil,bsl (⟨o14,h.l ++ b.l⟩:OwL Int).arr :: R),⟨fun r hr=>Ja (.tail _ hr),Ja (.head _),hB,OwL.nil_ok,fun x hx=>(by cases hx),Nat.le_of_eq (yNa _),⟨yz _,yz _⟩,rfl⟩⟩) zh zS zAb ?_;rintro ⟨⟨l,dr,out,S⟩,hS⟩ junk;try dsimp only
 dsimp only at hS;have hlR:=hS.inl;have hSn:=hS.len;have hSd:=hS.drop;refine Kuf hlR fun hcapl=>?_;apply qbi∘Xap∘Xb6;refine q_c ?_ ?_<;>intro hc0;·
  have hb0:=Jp (l:=l.l) (k:=0) 0 za;have hbb:=hS.bytes.at 1;refine J5 (Jb (Ki (Jq (Jq (Jg ?_)))));apply qbm∘qdt∘qa7∘Xb7;apply Kf (G:=[_,_,_,_,_,_,_,_,_,_]) (j:=4) (cj:=24) rfl rfl zb rfl zmb rfl;·
   intro hg5;replace hg5:=qb hg5;apply Xap∘qa5∘qah;apply Ui (G:=[_,_,_,_,_]) (j:=8) (cj:=28) rfl rfl zb rfl zmb rfl;·intro hg9;replace hg9:=qb hg9;have hb1:=Jp (l:=l.l) (k:=1) 0 za;exact (qbm∘U9f∘qa7∘qdg∘qa5) qai
   intro junk9;exact qai
  intro junk5;apply (qaf);refine q_c ?_ ?_<;>intro hc1;·(have hno:Z7 l.l:=by rw [Z7];omega);refine Jq ?_;refine Kfb (m:=1) hlR ze za ze ?_;apply (Xcj);refine Jw (Ywb (m:=1) (wd:=1) (u:=l) tb rfl rfl rfl rfl rfl ze za rfl) rfl ?_;apply Xbf∘qc4∘qad;refine J9 (Jb (K9 (Km (J6 ?_))));exact Ka ⟨(Zi l 1 1,dr + 1,out,bsl (Zi l 1 1) :: S),hS.skip za (.inl hno)⟩ zm zh zi zAb zDa
  have hno:¬ Z7 l.l:=by rw [Z7];omega
  apply qbo∘Xap∘Xav;apply Kf (G:=[_,_,_,_,_,_,_,_]) (j:=3) (cj:=43) rfl rfl zb rfl zmb rfl;·intro hg4;replace hg4:=qb hg4;have hb1:=Jp (l:=l.l) (k:=1) 0 za;exact (Xap∘qbm∘U9f∘qa7∘qdg∘qar) zOd
  intro junk4;apply (qaf);refine q_c ?_ ?_<;>intro hc2;·have hfin:Vc l.l dr=⟨l.l,dr,[]⟩:=Zga (List.length_pos_iff.1 za) hno (by rw [U9];omega);refine K9 (Km ?_);refine Zpc rfl ?_;refine Uc (J6 (Jb (Jq (Jg ?_))));exact (qbm) zBd
  have hnw:¬ U9 l.l:=by rw [U9];omega
  have hw:=Z2c hS.bytes hnw;have hb1:=Jp (l:=l.l) (k:=1) 0 za;have hb4:=Jp (l:=l.l) (k:=4 + lenT l.l) 0 za;have hb5:=Jp (l:=l.l) (k:=5 + lenT l.l) 0 za;have hb4b:=hS.bytes.at (4 + lenT l.l);have hb5b:=hS.bytes.at (5 + lenT l.l);apply qbv∘qbm∘U9f∘qa7∘qdg∘qad∘qco;refine Uoe (m:=1) (3 + lenT l.l) hlR ze za ze ?_;have hlR9:InR (bsl l) (bsl (Jpc (Zi l 1 1) (3 + lenT l.l)) :: S):=hlR.mono fun r hr=>Ja (.tail _ hr);refine Ke tb [0,1,2,3,5,6,7,8,9,10,11,12,13,14,15,16,17,18,4,19] _ Ko zc ye ?_;apply Yrf∘qao∘qc2;refine Ks (K6e (m:=1) (q:=3 + lenT l.l) (wd:=1) (u:=l) tb rfl rfl rfl rfl rfl rfl za ze za hcapl rfl) rfl rfl rfl ?_;apply Yrf∘qao∘qc2;refine Ks (by first | exact Jd tb rfl rfl rfl rfl zu (i:=4 + lenT l.l) zk za | exact Jl tb rfl rfl rfl rfl (i:=4 + lenT l.l) zk za) rfl rfl rfl ?_;apply qbl∘qdm;refine Ks (Uxc rfl rfl ze (Yie za)) rfl rfl rfl ?_;apply Yrf∘qao∘qc2;refine Ks (by first | exact Jd tb rfl rfl rfl rfl zu (i:=5 + lenT l.l) zk za | exact Jl tb rfl rfl rfl rfl (i:=5 + lenT l.l) zk za) rfl rfl rfl ?_;apply qbl∘qdm;refine Ks (Ksf rfl rfl (Vqg za za)) rfl rfl rfl ?_;refine q_d rfl (Ytc (Jpc (Zi l 1 1) (3 + lenT l.l)) _ _ zFb (fun x hx=>hS.bytes x (ywa (yrb hx)))) ?_;refine Ks (Zyb rfl rfl) rfl rfl rfl ?_;apply (qbu);refine q_c ?_ ?_<;>intro hc3;·have hbad:Z7 l.l∨(¬ U9 l.l∧Zza (Kvb l.l)≠Vlb l.l):=.inr ⟨hnw,fun h=>hc3 (by rw [Zvc,h];rfl)⟩;refine Jq ?_;refine Vv (J:=S) ye (fun r hr=>Ja (.tail _ hr)) ?_;refine Kfb (m:=1) hlR ze za ze ?_;apply (Xcj);refine Jw (Ywb (m:=1) (wd:=1) (u:=l) tb rfl rfl rfl rfl rfl ze za rfl) rfl ?_;apply Xbf∘qc4∘qad;refine J9 (Jb (K9 (Km (J6 ?_))));exact Ka ⟨(Zi l 1 1,dr + 1,out,bsl (Zi l 1 1) :: S),hS.skip za hbad⟩ zm zh zi zAb zDa
  have hgood:Zza (Kvb l.l)=Vlb l.l:=by have h:=Decidable.not_not.1 hc3;rw [Zvc] at h;rw [h];rfl
  have hb2:=Jp (l:=l.l) (k:=2) 0 za;have hb3:=Jp (l:=l.l) (k:=3) 0 za;have hb2b:=hS.bytes.at 2;have hb3b:=hS.bytes.at 3;have hokO:=hS.ok;apply (qcl);refine Vv (J:=S) ye (fun r hr=>Ja (.tail _ hr)) ?_;refine Uoe (m:=4) (lenT l.l) hlR ze za ze ?_;have hlR11:InR (bsl l) (bsl (Jpc (Zi l 4 1) (lenT l.l)) :: S):=hlR.mono fun r hr=>Ja (.tail _ hr);have hpl:(Jpc (Zi l 4 1) (lenT l.l)).l.length=lenT l.l:=by show ((l.l.drop 4).take _).length=_;rw [yHa,yV];omega
  refine J7 tb [81,82,83,84,85,86,87,88,89] [0,1,2,3,4,5,6,7,8,9,10,11,12] [13,14,15,16,17] (_) _ Ko zc zi yd ?_;apply Uhf∘Uhf;refine Vd (by first | exact Jd tb rfl rfl rfl rfl zu (i:=2) zk za | exact Jl tb rfl rfl rfl rfl (i:=2) zk za) rfl rfl rfl rfl ?_;apply Zhf∘Ktg∘Uhf;refine Vd (by first | exact Jd tb rfl rfl rfl rfl zu (i:=3) zk za | exact Jl tb rfl rfl rfl rfl (i:=3) zk za) rfl rfl rfl rfl ?_;apply Zhf∘Ktg∘Xdl∘qcj;refine Ku (K6e (m:=4) (q:=lenT l.l) (wd:=1) (u:=l) tb rfl rfl rfl rfl rfl rfl za ze za hcapl rfl) rfl rfl rfl rfl ?_;apply (qba);refine Jzb (Kt (f:=Z9) (xs:=Jpc (Zi l 4 1) (lenT l.l)) tb rfl rfl rfl ze rfl rfl ((Ja (.head _))) yf za) rfl rfl rfl ?_;rintro v U J ⟨o94,rfl,hok94,rfl,rfl⟩;apply (qa1);refine Ks zIb rfl rfl rfl ?_;refine Jzb zyb rfl rfl rfl ?_;rintro v U J ⟨b96,rfl,rfl,hR96⟩;replace hR96:=hR96.symm;subst hR96;apply (qa1);refine Jzb (Jy (f:=XFrame.cells) (p:=out) (a:=⟨l.l.getD 2 0,l.l.getD 3 0,(⟨o94,(Jpc (Zi l 4 1) (lenT l.l)).l⟩:OwL Int).arr⟩) tb rfl rfl rfl rfl (hokO) zj zwb rfl zy) rfl rfl rfl ?_;rintro v U J ⟨o97,rfl,hok97,rfl,rfl⟩;apply (qa1);refine Ks (K8 zob) rfl rfl rfl ?_;apply (qbu);refine Vg (A:=[_]) (wd:=1) [] yf ze hok94 yg ?_;refine Vv (J:=bsl (⟨o94,(Jpc (Zi l 4 1) (lenT l.l)).l⟩:OwL Int).arr :: S) ye (fun r hr=>Ja (by
   rcases List.mem_cons.1 hr with h | h;·rw [h];exact .head _
   ·exact .tail _ (.tail _ h))) ?_
  refine Kfb (m:=lenT l.l + 6) (hlR.mono fun r hr=>Ja (.tail _ hr)) za za ze ?_;apply Xb3∘qar;refine Jw (Ywb (m:=lenT l.l + 6) (wd:=1) (u:=l) tb rfl rfl rfl rfl za za za rfl) rfl ?_;apply (qc4);refine J9 (Jh ?_);exact Ka ⟨(Zi l (lenT l.l + 6) 1,dr,⟨o97,out.l ++ [_]⟩,_),hS.took za hno hnw hgood rfl (by show (⟨_,_,(l.l.drop 4).take _⟩:XTele)=_;rw [Voe];rfl) hok97⟩ zm zh zi zAb zDa
 have hnil:l.l=[]:=List.length_eq_zero_iff.1 za;have hfin:Vc l.l dr=⟨l.l,dr,[]⟩:=by rw [hnil];exact Y1a _
 exact (Xch) zBd
end
end Go.Proofs.YtchfclmokpbldaaGreat
