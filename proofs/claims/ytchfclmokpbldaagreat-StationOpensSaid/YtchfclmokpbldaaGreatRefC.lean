/-
  Merged texts. By an AI agent.
-/
import Derived.Test.YtchfclmokpbldaaGreatSolveR
import Derived.Test.YtchfclmokpbldaaGreatLaw11b
import Derived.Test.YtchfclmokpbldaaGreatMadeB
import Derived.Test.YtchfclmokpbldaaGreatCongrS
import Derived.Test.YtchfclmokpbldaaGreatCflowS
import Derived.Test.YtchfclmokpbldaaGreatSiteS
import Derived.Test.YtchfclmokpbldaaGreatEasy
import Derived.Test.YtchfclmokpbldaaGreatCutC
import Derived.Test.YtchfclmokpbldaaGreatSiteC
import Derived.Test.YtchfclmokpbldaaGreatDrawR
import Derived.Test.YtchfclmokpbldaaGreatStaD
import Derived.Test.YtchfclmokpbldaaGreatStaA
import Derived.Test.YtchfclmokpbldaaGreatStatM
import Derived.Test.YtchfclmokpbldaaGreatFlows
import Derived.Laws.IdiomStrings
import Derived.Test.YtchfclmokpbldaaGreatRefA
set_option linter.all false
set_option maxHeartbeats 4000000
set_option maxRecDepth 20000
namespace Go.Proofs.YtchfclmokpbldaaGreat
open Go.Aw Go
section
attribute [local irreducible] CJ LJ DJ Tri YV Gives U7 Kb Kp U8 RV Ke OwL.L
end
section
section
variable (b b':Nat)
end
end
section
attribute [local irreducible] CJ LJ DJ Tri YV Gives U7 Kb Kp U8 RV Ke OwL.L
def Vgd (x y:Arr Int) (L:LB) (R:LS) (hx:InR (isl x) R) (hy:InR (isl y) R) (he:x.l=y.l):
 Tri Tryz.prog 56 [x.val,y.val].toArray L R (fun v M U=>v=.bool true∧L=M∧R=U):=by
 have hle:x.l.length=y.l.length:=by rw [he]
 refine Ua Tryz.call56 hx fun hxn=>?_;refine Jd 26 Tryz.call56 Tryz.func56 rfl rfl rfl ?_;apply Xew∘Xaq∘Xaq∘Xaw;refine q_c ?_ ?_<;>intro hc0;·apply (Xc0);refine q_b L R ?_;exact absurd hc0 zc
 apply (Xcj);refine Jh [(0,.slice _ _ _),(1,.slice _ _ _),(5,.int _ _)] zg fun tq0=>?_;refine q_s ([4,5]++rg 11 15) (fun g:{k:Nat // k≤x.l.length}=>[(5,.int .i64 ((g.1:Nat):Int))]) (fun g=>x.l.length - g.1) (⟨0,by omega⟩) ?_;rintro ⟨k,hk⟩ junk;try dsimp only
 apply (Xcr);refine q_c ?_ ?_<;>intro hc1;·
  have h1:=Js (l:=x.l) (k:=k) 0 zc;have h2:=Js (l:=y.l) (k:=k) 0 zc;rw [← he] at h2;rw [he] at h2;refine Jt (Ja (Ji (Jy (Ji ?_))));refine Kg tb [0,1,2,3,4,5,6,7,8] _ Kn zf ye ?_;refine Kq zrd rfl rfl rfl ?_;apply Xdo∘qbl;refine Kq zrd rfl rfl rfl ?_;apply Xdo∘qbl;refine Kq (Vtb rfl rfl) rfl rfl rfl ?_;apply (qbu);refine q_c ?_ ?_<;>intro hc2;·apply (Xci);refine q_b L R ?_;exact absurd (show x.l.getD k 0=y.l.getD k 0 by rw [he]) hc2
  exact zYd
 exact zMf
section
variable (b b':Nat)
end
end
section
attribute [local irreducible] CJ LJ DJ Tri YV Gives U7 Kb Kp U8 RV Ke OwL.L
section
variable {s:XSite} {len dl ho:Int} (h:EasyD s len dl ho)
include h
def Zke:Ko s.air=0:=by
 obtain ⟨h1,h2,h3,h4,h5,h6,h7,_,h8,⟨h9,h9'⟩,_⟩:=h;obtain ⟨⟨⟨⟨pa,pc,pl⟩,⟨ra,rc,rl⟩⟩,⟨fa,fc,fl⟩,⟨da,dc,dl⟩⟩,se,cn,zs,ps⟩:=s;dsimp only at h1 h2 h3 h4;subst h1 h2 h3 h4;have:len=1∨len=2∨len=3∨len=4:=by omega
 rcases this with rfl | rfl | rfl | rfl <;> rfl
def K7d:SiteOk s:=by
 have ha:=Zke h;obtain ⟨h1,h2,h3,h4,h5,h6,⟨z,h7,z1,z2,z3,z4⟩,_,h8,hr⟩:=h;refine ⟨ha,by rw [h5,h6,h7,h8];simp,fun i hi=>?_,fun c hc=>?_,fun y hy=>?_,fun p hp=>?_⟩;·
  rw [h5] at hi ⊢;obtain rfl:i=0:=by simp only [yC,yV] at hi;omega
  rw [Yx,if_neg zj,if_neg,if_neg (by rintro ⟨k,hk,_⟩;omega)];rw [Jqa,h2];show ¬ ¬ ((0:Int)≤0∧(0:Int) < 1);decide
 ·
  rw [h6] at hc;rw [List.mem_singleton.1 hc,J7,if_neg,if_neg (by show ¬ ((0:Int) < 0∨(1099511627776:Int) < 0);decide),if_pos ze,Za,if_pos];·show (100 : Int) ≤ 1000000 ∧ (0 : Int) ≤ 60 ∧ (60 : Int) < 100 ∧ 0 ≤ dl ∧ dl ≤ 100000;omega
  ·rw [h5, h2];show ¬ (0:Int)≠0;decide
 ·
  rw [h7] at hy;rw [List.mem_singleton.1 hy,Yi,z1,h6,h2,if_neg (by show ¬ Z8 _ 1≠0;decide),if_neg zc,if_neg];rintro ⟨i,hi,hb⟩;rw [z3] at hi hb;obtain rfl:i=0:=by simp only [yC,yV] at hi;omega
  revert hb;show ¬ V8 1 [0] 0;decide
 ·rw [h8] at hp;simp only [yT,yP,or_false] at hp;omega
end
end
section
section
variable {s:XSite} {len dl ho:Int} (h:EasyD s len dl ho)
include h
def Jqd {t:Int} (ht:0≤t∧t≤2147483648):sharedE s 1 1 t=0:=by obtain ⟨z,h7,_⟩:=h.zone;rw [sharedE,(K7d h).err,if_neg zj,if_neg (by rw [h7,h.roads];simp),if_neg zc]
def Vye {c:List XCut} {fl:List XSpan} {t:Int} (hc:c.length=1) (hf:fl.length=1) (ht:0≤t∧t≤2147483648):askE s c fl noRest 0 0 t=readyE s c fl 0 t:=by rw [askE,hc,hf,Jqd h ht,if_neg zj,if_neg zj,if_neg];rw [h.pers];decide
end
def openS (n:Nat):List XSwitch:=(List.range n).map fun (i:Nat)=>⟨(i:Int) - 1,0,-1,false,false⟩
end
section
section
variable {s:XSite} {len dl ho:Int} {f:XFeeder} {A:List Bool} (h:EasyD s len dl ho)
include h
def Jvc {n:Nat} (hn:1≤n∧n≤3) (h1:f.switches.l=Yta n) (h2:f.zones.l=[(n:Int) - 1]) (h3:f.reply=3):Ym s f=0:=by
 obtain ⟨z,h7,_⟩:=h.zone;have hfe:feedE f.switches.l f.zones.l f.reply=0:=by
  rw [h1,h2,h3];have:n=1∨n=2∨n=3:=by omega
  rcases this with rfl | rfl | rfl <;> decide
 rw [Ym,(K7d h).err,if_neg zj,hfe,if_neg zj,if_neg (by rw [h2,h7];simp),if_neg];rintro ⟨x,hx,h9⟩;rw [h1,Yta,List.mem_map] at hx;obtain ⟨i,_,rfl⟩:=hx;exact h9 rfl
def sw1:List XSwitch:=[⟨-1,0,0,false,false⟩]
def pAw (t:Int):PSta:=⟨t,[],0,[Z5],[⟨true,-1,t⟩],[⟨true,-1,0⟩],sw1,noRest,[]⟩
def Kac (h1:f.switches.l=Yta 1):Zhb s f=pAw 0:=by obtain ⟨z,h7,_⟩:=h.zone;rw [Zhb,h.sens,h.conds,h7,h1];rfl
def Zgc (h1:f.switches.l=Yta 1) (h2:f.zones.l=[0]) (h3:f.reply=3) (hI:Inv (gOf s f A) (pAw 0)):Ky (gOf s f A) (pAw 0) 2=pAw 2:=by
 obtain ⟨z,h7,hzr,_⟩:=h.zone;have hI2:=hI.at (t:=2) (by show (0:Int)≤2;decide) zj;have hv0:=hI2.valErr;have hk:∀t,Ze s.sensors.l [Z5] 0 t=nothingS:=fun t=>by rw [Ze,if_neg];rintro ⟨_,_,h9⟩;exact absurd (show (-1:Int)=0 from h9) zj
 have hst:Jba (Zr dl).level ⟨true,-1,0⟩ nothingS 2=⟨true,-1,2⟩:=rfl;have hv:Vib (gOf s f A) { pAw 0 with time:=2 }=[0]:=by
  rw [Vib,valuesV,if_neg (by rw [hv0];decide)];show [Ugb s.sensors.l [Z5] _ (s.conds.l.getD 0 default) ⟨true,-1,0⟩ 2]=[0];rw [h.conds];show [Ugb s.sensors.l [Z5] _ (Zr dl) ⟨true,-1,0⟩ 2]=[0];have:Ugb s.sensors.l [Z5] (flP (gOf s f A) { pAw 0 with time:=2 }) (Zr dl) ⟨true,-1,0⟩ 2=0:=by rw [Ugb,if_neg (show ¬ (Zr dl).kind=5 by show ¬ (1:Int)=5;decide),if_neg (show ¬ (Zr dl).kind=2 by show ¬ (1:Int)=2;decide),if_neg (show ¬ (Zr dl).kind=3 by show ¬ (1:Int)=3;decide),if_neg (show ¬ (Zr dl).kind=4 by show ¬ (1:Int)=4;decide)];show (if (Jba _ _ (Ze s.sensors.l [Z5] 0 2) 2).over=false then (-1:Int) else if Jpa (Ze s.sensors.l [Z5] 0 2) 100=1 then 1 else 0)=0;rw [hk,hst];decide
  rw [this]
 have hw:valuesW s [Z5] [⟨true,-1,0⟩] (flP (gOf s f A) { pAw 0 with time:=2 }) 2=[⟨true,-1,2⟩]:=by have hv0':valuesErr s [Z5] [⟨true,-1,0⟩] (flP (gOf s f A) { pAw 0 with time:=2 }) 2=0:=hv0;rw [valuesW,if_neg (by rw [hv0'];decide)];show [V2a s.sensors.l [Z5] (s.conds.l.getD 0 default) ⟨true,-1,0⟩ 2]=_;rw [h.conds];show [V2a s.sensors.l [Z5] (Zr dl) ⟨true,-1,0⟩ 2]=_;rw [V2a,if_pos (show (Zr dl).kind=1 from rfl)];show [Jba _ _ (Ze s.sensors.l [Z5] 0 2) 2]=_;rw [hk,hst]
 have hce:cutsErr s [0] [⟨true,-1,0⟩] 2=0:=by rw [cutsErr,(K7d h).err,if_neg zj,if_neg (by rw [h7,h.conds];simp),if_neg zj]
 have hc:cutsC s [0] [⟨true,-1,0⟩] 2=[⟨true,-1,0⟩]:=by rw [cutsC,if_neg (by rw [hce];decide)];show [Zze (V5a (s.zones.l.getD 0 default).rule.l [0]) ⟨true,-1,0⟩ 2]=_;rw [h7];show [Zze (V5a z.rule.l [0]) ⟨true,-1,0⟩ 2]=_;rw [hzr];decide
 have hn:cutsN s [0] [⟨true,-1,0⟩] 2=[]:=by rw [cutsN,if_neg (by rw [hce];decide)];show (if V5a _ _≠-1∧true=false then _ else [])=([]:List Int);rw [if_neg (fun h=>by cases h.2)]
 have hA2:settleA (gOf s f A) { pAw 0 with time:=2 }=pAw 2:=by rw [settleA,hv];show U7b _ { pAw 0 with time:=2,watches:=valuesW s [Z5] [⟨true,-1,0⟩] (flP (gOf s f A) { pAw 0 with time:=2 }) 2,cuts:=cutsC s [0] [⟨true,-1,0⟩] 2 } (cutsN s [0] [⟨true,-1,0⟩] 2)=_;rw [hw,hc,hn];rfl
 rw [Ky];rw [hA2];have hB:settleB (gOf s f A) (pAw 2)=pAw 2:=by rw [settleB];show Kda 2 (Kda 3 { pAw 2 with rest:=J1a [⟨true,-1,0⟩] noRest,sw:=(J4a sw1 f.reply 2).sw } (J4a sw1 f.reply 2).late) (J4a sw1 f.reply 2).opened=_;rw [h3];have:J4a sw1 3 2=⟨sw1,[],[]⟩:=rfl;rw [this,J1a,if_pos (.inl rfl)];rfl
 rw [hB];exact U7d _ (fun c hc=>by rw [List.mem_singleton.1 hc]) _ (yn _)
def Uge (h1:f.switches.l=Yta 1) (h2:f.zones.l=[0]) (h3:f.reply=3) (hA:AiryIs s.air.mine A):
 U4e (gOf s f A) (Zhb s f) 0 0 2=({ pAw 2 with log:=[⟨2,7,0,20⟩] },20):=by
 have h0:=Jvc (f:=f) h (n:=1) ⟨by decide,by decide⟩ h1 (by rw [h2];rfl) h3;have hI:=Y0a (A:=A) h0 hA;rw [Kac h h1] at hI ⊢;have hI2:=Zgc h h1 h2 h3 hI;have hI3:=hI.settle (t:=2) (by show (0:Int)≤2;decide) zj;rw [hI2] at hI3;have hfl:=hI3.flLen;obtain ⟨z,h7,hzr,_⟩:=h.zone;have he:askE s [⟨true,-1,0⟩] (flP (gOf s f A) (pAw 2)) noRest 0 0 2=20:=by rw [Vye h rfl (by rw [hfl];show s.air.mine.roads.l.length=1;rw [h.roads];rfl) ⟨by decide,by decide⟩,readyE,if_neg zj,h7];show Z2a s _ ⟨true,-1,0⟩ z 2=20;rw [Z2a,if_neg zj,if_pos (.inl (.inl zj))]
 rw [U4e,if_neg (by rw [Jrc];show ¬ ((2:Int) < 0∨_);decide)];dsimp only;rw [hI2];show (if askE s [⟨true,-1,0⟩] (flP (gOf s f A) (pAw 2)) noRest 0 0 2≠0 then (Yda (pAw 2) 7 0 (askE s [⟨true,-1,0⟩] (flP (gOf s f A) (pAw 2)) noRest 0 0 2),askE s [⟨true,-1,0⟩] (flP (gOf s f A) (pAw 2)) noRest 0 0 2) else _)=_;rw [he,if_pos zj];rfl
end
end
section
attribute [local irreducible] CJ LJ DJ Tri YV Gives U7 Kb Kp U8 RV Ke OwL.L
structure EasyN (f:XFeeder) (n:Nat):Prop where
 rng:1≤n∧n≤3
 sw:f.switches.l=Yta n
 zn:f.zones.l=[(n:Int) - 1]
 rp:f.reply=3
def Jie (c:Nat) (x:Arr Int) (k:Nat) (R:LS) (hx:CodesR x R) (hk:k≤x.l.length):
 Tri Tryz.prog 15 [.pointer (some ⟨c, 0, none⟩)].toArray [cblk c x k] R
  (fun v M U=>∃(s:XSite) (len dl ho:Int) (f:XFeeder) (n k':Nat),v=.tuple #[s.val,f.val]∧EasyD s len dl ho∧EasyN f n∧(k'≤x.l.length∧(x.l.length≤k→len=1∧dl=1∧ho=1∧n=1∧k'=k))∧(SiteR s U∧FeederR f U∧∀r∈R,InR r U)∧cblk c x k' :: []=M):=by refine Tri.postW (Yac c x k R hx hk) ?_;rintro v M U c w ⟨s,len,dl,ho,sw,zn,n,k',rfl,hE,⟨hsk,hzk⟩,hn,hsl,hzl,hk',⟨hs,hR⟩,rfl⟩ hst;have h1:=hst.frzO (subs:=[]) hsk yf zj yg;have h2:=h1.frzO (subs:=[]) hzk yf zj yg;have h3:∀r∈U,InR r (isl zn.arr :: Z4b sw.arr :: U):=fun r hr=>Jb (.tail _ (.tail _ hr));exact ⟨_,_,h2,s,len,dl,ho,⟨sw.arr,zn.arr,3⟩,n,k',rfl,hE,⟨hn,hsl,hzl,rfl⟩,hk',⟨hs.mono h3,⟨Jb (.tail _ (.head _)),Jb (.head _)⟩,fun r hr=>(hR r hr).mono h3⟩,rfl⟩
end
section
def K0g (l:List Int):ByteArray:=⟨(l.map fun n=>UInt8.ofNat n.toNat).toArray⟩
section
variable {P:Program} {ρ:Operand→Value} {L:LB} {R:LS} {dst:Option Tmp} {ty:TypeId} {pos:String} {after:Array Edge} {guard:Option (Nat×Bool)} (tb:Tabs P) {T T2:TypeId} {x y:Operand}
def Umb {ti:TI} (h:Zz P T=some ti) (hk:ti.k=.string):P.underlying T=some .string:=by obtain ⟨i,u,z,hi,hu,hz,rfl⟩:=Vq h;cases u <;> simp [Kgd] at hk;rw [hu]
def Yzb {xs:Arr Int} {e n1 f1 b1 z1 n2 f2 b2 z2 n3 f3 b3 z3} (hT:Zd tb.tab T=some ⟨.slice e,n1,f1,b1,z1⟩) (hE:Zd tb.tab e=some ⟨.int .u8,n2,f2,b2,z2⟩) (hS:Zd tb.tab T2=some ⟨.string,n3,f3,b3,z3⟩) (hx:ρ x=xs.val) (hR:InR (bsl xs) R) (hb:K8c xs.l):
 YV P ⟨dst,.convert T T2 x,ty,pos,after,guard⟩ ρ L R (.string (K0g xs.l)):=fun c w hst=>by
 obtain ⟨ar,cap,l⟩:=xs
 dsimp only at hx hR hb ⊢
 have u1:=Yz (tb.ok _ _ hT) rfl
 have u2:=Yqb (tb.ok _ _ hE) rfl
 have u3:=Umb (tb.ok _ _ hS) rfl
 have hsome:0 < l.length→∃b off,ar=some ⟨b,off,none⟩:=fun hx0=>by
  have hst':=hst
  obtain ⟨⟨G,hh,_⟩,_,_⟩:=hst'
  obtain ⟨r,hr,hsub⟩:=hR
  have hrep:=(hh.rep r hr).sub hsub
  cases hrep with
  | mk _ _ _ _ hm _=>
   rcases hm with h | ⟨b,off,ha,_⟩
   ·have h' := congrArg List.length h
    simp at h'
    rw [h'] at hx0
    simp at hx0
   ·exact ⟨b,off,ha⟩
 have hl:(l.map fun n=>UInt8.ofNat n.toNat).length=l.length:=yK _
 have key:(convert T T2 (.slice ar l.length cap)).run P w=.ok (.string (K0g l)) w:=by
  cases ar with
  | some a=>
   have h1:=run_convert_bytes_back (P:=P) w T T2 e a cap (l.map fun n=>UInt8.ofNat n.toNat) u1 u2 u3 (fun j hj=>by
    have hj2:j < l.length:=by rw [hl] at hj;exact hj
    have hg:=yx hj2
    have hc:=Vmc hst hR (i:=j) (j:=0) (row:=Ude l[j]) (by rw [yt,hg];rfl) (v:=.int .u8 l[j]) rfl
    have hbj:=hb _ (yac hj2)
    have e1:((l.map fun n=>UInt8.ofNat n.toNat)[j].toNat:Int)=l[j]:=by
     rw [List.getElem_map,UInt8.toNat_ofNat']
     omega
    rw [e1]
    obtain ⟨b,off,ha⟩:=hsome zc
    obtain rfl:=yH ha
    have ea:(Addr.add ⟨b,off,none⟩ j)=⟨adB (some ⟨b,off,none⟩),eo (some ⟨b,off,none⟩) 1 j 0,none⟩:=by
     rw [Addr.add]
     split
     ·rename_i h0;subst h0;rfl
     ·show (⟨b, off + j, none⟩ : Addr) = ⟨b, off + j * 1 + 0, none⟩
      rw [Nat.mul_one,Nat.add_zero]
    rw [ea];exact hc)
   rw [hl] at h1
   exact h1
  | none=>
   rcases yPb l.length with h0 | h0
   ·obtain rfl := List.length_eq_zero_iff.1 h0
    rw [run_convert_bytes_string w T T2 e none _ cap u1 u2 u3]
    simp [Conv.bytesToString,K0g]
    rfl
   ·obtain ⟨b, off, ha⟩ := hsome h0
    cases ha
 simp [execOp,hx,key]
def Vec {a b:ByteArray} {n1 f1 b1 z1} (hT:Zd tb.tab T=some ⟨.string,n1,f1,b1,z1⟩) (hx:ρ x=.string a) (hy:ρ y=.string b) (h:a=b):YV P ⟨dst,.binOp .eql T x y T2,ty,pos,after,guard⟩ ρ L R (.bool true):=fun _ w _=>by
 have u3:=Umb (tb.ok _ _ hT) rfl
 subst h
 simp [execOp,hx,hy,eqGuard,binOp,Op.stringOp]
end
end
section
attribute [local irreducible] CJ LJ DJ Tri YV Gives U7 Kb Kp U8 RV Ke OwL.L
section
variable {A B:Prop}
def Zue(h:A→B:=by exact Kq zrd rfl rfl rfl):=h
def Zsf(h:A→B:=by exact Kg tb [0,1,2,3,4,5,6,7,8] ([]) Kn zf zk):=h
end
def Ygb (x y:Arr XWatch) (L:LB) (R:LS) (hx:InR (Zrc x) R) (hy:InR (Zrc y) R) (he:x.l=y.l):
 Tri Tryz.prog 126 [x.val,y.val].toArray L R (fun v M U=>v=.bool true∧L=M∧R=U):=by
 have hle:x.l.length=y.l.length:=by rw [he]
 refine Ua Tryz.call126 hx fun hxn=>?_;refine Jd 26 Tryz.call126 Tryz.func126 rfl rfl rfl ?_;apply Xew∘Xaq∘Xaq∘Xaw;refine q_c ?_ ?_<;>intro hc0;·exact zxe
 apply (Xcj);refine Jh [(0,.slice _ _ _),(1,.slice _ _ _),(5,.int _ _)] zg fun tq0=>?_;refine q_s ([4,5]++rg 11 15) (fun g:{k:Nat // k≤x.l.length}=>[(5,.int .i64 ((g.1:Nat):Int))]) (fun g=>x.l.length - g.1) (⟨0,by omega⟩) ?_;rintro ⟨k,hk⟩ junk;try dsimp only
 apply (Xcr);refine q_c ?_ ?_<;>intro hc1;·
  have hxg:=Js (l:=x.l) (k:=k) default zc;have hyg:y.l[k]?=some (x.l.getD k default):=by rw [← he];exact hxg
  refine Jt (Ja (Ji (Jy (Ji ?_))));apply Zsf∘Zue∘Xdo∘qdv∘Zue∘Xdo∘qdv;refine Kq (Jta Knf rfl rfl zI zI rfl) rfl rfl rfl ?_;exact uaI
 exact zMf
def Zjc (x y:Arr XCut) (L:LB) (R:LS) (hx:InR (J6c x) R) (hy:InR (J6c y) R) (he:x.l=y.l):
 Tri Tryz.prog 69 [x.val,y.val].toArray L R (fun v M U=>v=.bool true∧L=M∧R=U):=by
 have hle:x.l.length=y.l.length:=by rw [he]
 refine Ua Tryz.call69 hx fun hxn=>?_;refine Jd 26 Tryz.call69 Tryz.func69 rfl rfl rfl ?_;apply Xew∘Xaq∘Xaq∘Xaw;refine q_c ?_ ?_<;>intro hc0;·exact zxe
 apply (Xcj);refine Jh [(0,.slice _ _ _),(1,.slice _ _ _),(5,.int _ _)] zg fun tq0=>?_;refine q_s ([4,5]++rg 11 15) (fun g:{k:Nat // k≤x.l.length}=>[(5,.int .i64 ((g.1:Nat):Int))]) (fun g=>x.l.length - g.1) (⟨0,by omega⟩) ?_;rintro ⟨k,hk⟩ junk;try dsimp only
 apply (Xcr);refine q_c ?_ ?_<;>intro hc1;·
  have hxg:=Js (l:=x.l) (k:=k) default zc;have hyg:y.l[k]?=some (x.l.getD k default):=by rw [← he];exact hxg
  refine Jt (Ja (Ji (Jy (Ji ?_))));apply Zsf∘Zue∘Xdo∘qdv∘Zue∘Xdo∘qdv;refine Kq (Jta Kog rfl rfl zI zI rfl) rfl rfl rfl ?_;exact uaI
 exact zMf
end
end Go.Proofs.YtchfclmokpbldaaGreat
