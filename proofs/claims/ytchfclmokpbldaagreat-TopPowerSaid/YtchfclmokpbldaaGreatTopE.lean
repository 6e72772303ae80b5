/-
  Statements about the whole: power. By an AI agent; no person has read it.
-/
import Derived.Test.YtchfclmokpbldaaGreatStatD
import Derived.Test.YtchfclmokpbldaaGreatRoundB
import Derived.Test.YtchfclmokpbldaaGreatLiveW
set_option linter.all false
set_option maxHeartbeats 4000000
namespace Go.Proofs.YtchfclmokpbldaaGreat
open Go.Aw Go
section
variable {A B:Prop}
def Yna(h:A→B:=by exact Jx zJ rfl):=h
def Vbb(h:A→B:=by exact Uu zJ rfl rfl):=h
def Jcc(h:A→B:=by exact Ko rfl zNb rfl rfl):=h
def Zwc(h:A→B:=by exact Jx zlb rfl):=h
def Jae(h:A→B:=by exact Vpb 8 hT6 yd zc rfl rfl rfl rfl rfl zrb):=h
def Jxf(h:A→B:=by exact Uu zHb rfl rfl):=h
def J6g(h:A→B:=by exact Ku zlb rfl rfl rfl rfl):=h
def Zwf(h:A→B:=by exact Uu zkb rfl rfl):=h
end
section
variable {P:Program} {ρ:Operand→Value} {L:LB} {R:LS} {dst:Option Tmp} {ty:TypeId} {pos:String} {after:Array Edge} {guard:Option (Nat×Bool)} {T T2:TypeId} {x y z:Operand} {a b c:Int} {k:IntKind}
def V0e (a b:Int):Int:=IntKind.u8.wrap ((BitVec.ofInt IntKind.u8.bits a &&& BitVec.ofInt IntKind.u8.bits b).toNat:Int)
def Vjf (hx:ρ x=.int .u8 a) (hy:ρ y=.int .u8 b):YV P ⟨dst,.binOp .and T x y T2,ty,pos,after,guard⟩ ρ L R (.int .u8 (V0e a b)):=fun _ _ _=>by
 have hb:Op.intBits .and .u8 a b=(pure (.int .u8 (V0e a b)):Sem Value):=by
  unfold Op.intBits
  rfl
 simp [execOp,hx,hy,eqGuard,binOp,hb]
end
set_option maxRecDepth 20000
attribute [local irreducible] CJ LJ DJ Tri YV Gives U0 J3 Kj Uz RV J5 OwL.L
def Y1d {n i:Nat} {al c:Bool} {stl:List Bool} (hi:i < n) (hl:stl.length=n) (h1:al=true→∀j:Nat,j < i→stl.getD j false=true) (h2:al=false→∃j:Nat,j < i∧stl.getD j false=false):
 ((al && c)=true→∀j:Nat,j < i + 1→(stl.set i c).getD j false=true)∧((al && c)=false→∃j:Nat,j < i + 1∧(stl.set i c).getD j false=false):=by
 constructor;·
  intro h j hj;rw [yn] at h;rw [Uh];split;·exact h.2
  ·rename_i k;exact h1 h.1 j za
 ·
  intro h;cases al with
  | false=>obtain ⟨j,hj,e⟩:=h2 rfl;exact ⟨j,by omega,by rw [Uh,if_neg za];exact e⟩
  | true=>exact ⟨i,by omega,by rw [Uh,if_pos ⟨rfl,by omega⟩];exact h⟩
structure WayP (g:PSite) (n:Nat) (R0:LS) (T:Int) (q:PSta) (x:XSta) (l:List Bool) (S:LS):Prop where
 is:StaIs g q x
 at_:StaR x S
 sub:∀r∈R0,InR r S
 na:NA g n T q
 sh:SH n q
 ll:l.length=n
def Vnc : ∀ k : Nat, (dnL k).length = k
 | 0=>rfl
 | k + 1=>by rw [dnL,yw,Vnc k]
def LiveTo (l:List Bool) (p:List Int) (i:Nat) (lv:Bool):Prop:=lv=true↔∀x∈p.take i,l.getD x.toNat false=true
def LiveTo.next {l:List Bool} {p:List Int} {i:Nat} {lv:Bool} (h:LiveTo l p i lv) (hi:i < p.length):LiveTo l p (i + 1) (lv && l.getD (p.getD i 0).toNat false):=by
 have hg:=Jw (l:=p) (k:=i) 0 hi;unfold LiveTo at h;rw [LiveTo,yn,yfa,hg,h];constructor;·
  rintro ⟨h1, h2⟩ x hx;rcases List.mem_append.1 hx with hx | hx;·exact h1 x hx
  ·have e : x = p.getD i 0 := List.mem_singleton.1 hx;rw [e];exact h2
 ·intro h1;exact ⟨fun x hx=>h1 x (ym _ hx),h1 _ (yi _ zo)⟩
def LiveTo.dead {l:List Bool} {n:Nat} {lv:Bool} (h:LiveTo l (dnL n) n lv):lv=false↔Dd n l:=by
 unfold LiveTo at h;rw [yG (Nat.le_of_eq (Vnc n))] at h;constructor;·
  intro e;refine Classical.byContradiction fun hd=>?_;have:lv=true:=h.2 fun x hx=>by
   obtain ⟨i,hi,rfl⟩:=Voc hx;rw [yu];cases hc:l.getD i false with
   | true=>rfl
   | false=>exact absurd ⟨i,hi,hc⟩ hd
  rw [this] at e;cases e
 ·
  rintro ⟨i, hi, hd⟩;cases lv with
  | false=>rfl
  | true=>have:=h.1 rfl _ (J5d hi);rw [yu,hd] at this;cases this
def K1b {b n:Nat} {l:List Bool} (hl:l.length=n) (hn:n≤1000):(⟨.own b n [],l⟩:OwL Bool).ok 1 blc:=by have:=Yr (f:=blc) (wd:=1) (b:=b) (n:=n) (x:=false) Zl zE;exact OwL.len_ok Zl this (by simp [hl])
def Kcg (g:PSite) (n:Nat) (st:List Bool) (P:PSta→List Bool→Prop):Prop:=(∀q l,P q l→Inv g q∧q.sw.length=n∧l.length=n)∧(∀q l (i:Nat),P q l→i < n→st.getD i false=false→P q (l.set i (q.sw.getD i default).closed))∧
 (∀q l (i:Nat),P q l→i < n→st.getD i false=false→l.getD i false=(q.sw.getD i default).closed→(q.sw.getD i default).shown≠shB (q.sw.getD i default).closed→P (Vsc g q i) l)
def Z5e {A B : LB} {bc bt n : Nat} {l st : List Bool} (hsp : Spl A B ((⟨.own bc n [], l⟩ : OwL Bool).L 4 blc ++ ((⟨.own bt n [], st⟩ : OwL Bool).L 4 blc ++ []))) (g : PSite) (P : PSta → List Bool → Prop) (hn : n ≤ 1000) (hP : Kcg g n st P)
 (q0:PSta) (x:XSta) (R:LS) (hst:st.length=n) (hx:StaIs g q0 x) (hR:StaR x R) (h0:P q0 l):
 Tri Tryz.prog 17 [x.val, .agg #[.slice (some ⟨bc, 0, none⟩) n n, .slice (some ⟨bt, 0, none⟩) n n]].toArray A R
  (fun v M U=>∃(y:XSta) (q:PSta) (l':List Bool),v=y.val∧StaIs g q y∧StaR y U∧P q l'∧Mat n st l' q.sw∧(∀r∈R,InR r U)∧l'.length=n∧B ++ ((⟨.own bc n [],l'⟩:OwL Bool).L 4 blc ++ ((⟨.own bt n [],st⟩:OwL Bool).L 4 blc ++ []))=M):=by have hl:=(hP.1 _ _ h0).2.2;have h:=Tri.spl hsp (Yge g n P ⟨.own bc n [],l⟩ ⟨.own bt n [],st⟩ hP.1 hP.2.1 hP.2.2 q0 x [] R (K1b hl hn) (K1b hst hn) hst hn hx hR h0);refine (Tri.cast h (by show #[_,Value.agg #[Value.slice _ (List.length _) _,Value.slice _ (List.length _) _]]=_;rw [hl,hst];rfl)).mono ?_;rintro v M U ⟨_,rfl,z,q,l',h1,h2,h3,h4,h5,h6,_,rfl⟩;exact ⟨z,q,l',h1,h2,h3,h4,h5,h6,(hP.1 _ _ h4).2.2,rfl⟩
def PA.fit {g:PSite} {n:Nat} {T:Int} {st:List Bool}:Kcg g n st (PA g n T):=
 ⟨fun q l h=>⟨h.1.inv,h.1.ch.len,h.2⟩,fun q l i h _ _=>⟨h.1,by rw [yy];exact h.2⟩,fun q l i h hi _ _ _=>h.ans hi⟩
def PC.fit {g:PSite} {n j:Nat} {st:List Bool} (hg:ChG g n):Kcg g n st (PC g n j):=
 ⟨fun q l h=>h.inv,fun q l i h _ _=>⟨h.c,by rw [yy];exact h.pl,h.meas,h.drop⟩,fun q l i h hi _ _ hm=>h.ans hg hi hm⟩
def PBd (g:PSite) (n:Nat) (st:List Bool) (v:Bool) (b t:Int) (q:PSta) (l:List Bool):Prop:=PB g n st v b t q l∧Jfa t q
def PBd.fit {g:PSite} {n:Nat} {st:List Bool} {v:Bool} {b t:Int} (hg:ChG g n):Kcg g n st (PBd g n st v b t):=
 ⟨fun q l h=>⟨h.1.pw.inv,h.1.pw.ch.len,h.1.pw.pl⟩,fun q l i h hi hs=>⟨h.1.set hi hs,h.2⟩,fun q l i h hi _ hp _=>⟨h.1.ans hg hi hp,by rw [Vsc];exact Kta h.2⟩⟩
structure WayB (g:PSite) (n:Nat) (R0:LS) (st:List Bool) (v:Bool) (b t:Int) (q:PSta) (x:XSta) (l:List Bool) (S:LS):Prop where
 is:StaIs g q x
 at_:StaR x S
 sub:∀r∈R0,InR r S
 pb:PBd g n st v b t q l
 mat:Mat n st l q.sw
 beg:75≤t→Zra q=true→b≠-1
structure WayC (g:PSite) (n:Nat) (R0:LS) (st:List Bool) (v:Bool) (b t:Int) (l:List Bool) (q:PSta) (x:XSta) (S:LS):Prop where
 is:StaIs g q x
 at_:StaR x S
 sub:∀r∈R0,InR r S
 pb:PBd g n st v b t q l
def WayB.tick {g:PSite} {n:Nat} {R0:LS} {st l:List Bool} {v:Bool} {b t t':Int} {q:PSta} {x y:XSta} {S S':LS} (h:WayB g n R0 st v b t q x l S) (hg:ChG g n) (he:t'=t + 1) (ht:t'≤2147483648) (hs:g.site.sensors.l=[easySens]) (hz:∀z∈(g.site.zones.l.getD 0 default).rule.l,z.kind=1→K8a (g.site.conds.l.getD z.cond.toNat default)) (hy:StaIs g (Ufc g q t').1 y) (hyR:StaR y S') (hS:∀r∈S,InR r S'):WayC g n R0 st v b t' l (Ufc g q t').1 y S':=by
 subst he;have hpb:=h.pb.1;have htm:=hpb.time;have hI:=hpb.pw.inv;have e:(Ufc g q (t + 1)).1=Je g q (t + 1):=by rw [Ufc,if_neg zM]
 rw [e] at hy ⊢;refine ⟨hy,hyR,fun r hr=>(h.sub r hr).mono hS,hpb.step hg h.mat ht rfl rfl rfl hI (fun x hx=>by have:=hpb.meas x hx;omega) (fun hd=>?_),Kta (Zpb h.pb.2 za)⟩;have hml:q.meas.length=1:=by rw [hI.meas,hs];rfl
 exact (Yne (i:=0) hI ⟨by omega,ht⟩ (Vve hs hml (fun x hx=>(hpb.meas x hx).2) hd) (by rw [hg.zones];decide) hz).1
def WayB.feed {g:PSite} {n:Nat} {R0:LS} {st l:List Bool} {v:Bool} {b t t':Int} {q:PSta} {x y:XSta} {S S':LS} (h:WayB g n R0 st v b t q x l S) (hg:ChG g n) (he:t'=t + 1) (ht:t'≤95) {bs:List Int} (hb:BytesOk bs) (hn:bs.length≤20) (hy:StaIs g (Yda g q bs t').1 y) (hyR:StaR y S') (hS:∀r∈S,InR r S'):WayC g n R0 st v b t' l (Yda g q bs t').1 y S':=by
 subst he;have hpb:=h.pb.1;have htm:=hpb.time;have hI:=hpb.pw.inv;have e:(Yda g q bs (t + 1)).1=Je g (feedR g q bs (t + 1)) (t + 1):=by rw [Yda,if_neg zM]
 rw [e] at hy ⊢;exact ⟨hy,hyR,fun r hr=>(h.sub r hr).mono hS,hpb.step hg h.mat za rfl rfl rfl (hI.feedR hb _) (fun x hx=>by have:=Jjc (g:=g) (t:=t + 1) bs (fun x hx=>by have:=(hpb.meas x hx).1;omega) x hx;omega) (fun hd=>by omega),Kta (Z4c hI h.pb.2 hb hn (yD _))⟩
def Uje {g : PSite} {n : Nat} {st l : List Bool} {v : Bool} {b t a : Int} {q : PSta} {x : XSta} (hg : ChG g n) (hx : StaIs g q x) (h : PB g n st v b t q l)
 (hl:feedE x.feeder.switches.l x.feeder.zones.l x.feeder.reply=0→(0:Int)≤0∧(0:Int) < x.feeder.zones.l.length→Kbg x.feeder.switches.l (Kma x.feeder.switches.l x.feeder.zones.l x.feeder.reply (x.feeder.zones.l.getD (0:Int).toNat 0)) a) (hd:Dd n l) (ha:a=1):False:=by have hI:=h.pw.inv;rw [hx.sw,hx.zn,hx.rp] at hl;have h1:=hl hI.fe ⟨yD _,by rw [hg.zn];exact Int.zero_lt_one⟩;have hp:=hI.path hg h.pw.ch;obtain ⟨j,hj,hd⟩:=hd;have h2:=h1.2 (j:Int) (by show _∈Kma q.sw g.zn g.rp (g.zn.getD 0 0);rw [hp];exact J5d hj);rw [yu] at h2;have h3:=(Ymb hI.fe j (by rw [h.pw.ch.len];exact hj)).1;have:=h.pw.s1 j hj za;rw [hd] at this;cases this
def Yu {n : Nat} {A : List XSwitch} (h : Chain n A) (hl : (A.getD 0 default).late = true) : ∀ k : Nat, 1 ≤ k → k ≤ n → Jbc A k = 1
 | 0,h1,_=>by omega
 | k + 1,_,hk=>by
  have ha:=h.above k za
  rw [Jbc]
  rcases yrb k with h0 | h0
  ·subst h0
   rw [if_pos ⟨by omega,hl⟩];rfl
  ·rw [if_neg za,Yu h hl k h0 za]
def Yac {g:PSite} {n m:Nat} {R0 S:LS} {st l:List Bool} {v:Bool} {b:Int} {q:PSta} {x:XSta} (h1:StaIs g q x) (h2:StaR x S) (h3:∀r∈R0,InR r S) (h4:PB g n st v b (75 + (m:Int)) q l) (h5:Jfa (75 + (m:Int)) q) (h6:Mat n st l q.sw) (h7:Zra q=true→b≠-1):WayB g n R0 st v b (74 + ((m + 1:Nat):Int)) q x l S:=by
 have e:(74:Int) + ((m + 1:Nat):Int)=75 + (m:Int):=by omega
 rw [e];exact ⟨h1,h2,h3,⟨h4,h5⟩,h6,fun _=>h7⟩
def Y2c (y:Arr Int) (sk at_:Int) (R:LS) (hy:CodesR y R) (hsk:0≤sk∧sk≤255) (hat:0≤at_∧at_≤255):
 Tri Tryz.prog 3 [y.val,.int .u8 sk,.int .u8 at_].toArray [] R (fun v M U=>v=.bool true∧[]=M∧R=U):=by
 have htm:at_.tmod 20=at_ % 20:=Int.tmod_eq_emod_of_nonneg za;have htb:0≤at_.tmod 20∧at_.tmod 20 < 20:=by omega
 refine Jj 262 Tryz.call3 Tryz.func3 rfl rfl rfl ?_;apply Xbe∘Xc7;refine Jy rfl (Jxe y _ _ hy) rfl ?_;rintro v M U ⟨c,rfl,hx,rfl,rfl⟩;apply qc1∘qam∘qa6;refine Jy rfl (Tri.spl (.consL .nil) (Z0c c _ 0 _ hx (yT _))) rfl ?_;rintro v M U ⟨_,rfl,s,len,dl,ho,f,n,k1,rfl,hE,hN,⟨hk1,_⟩,⟨hs,hf,hR0⟩,rfl⟩;refine Jx zCb rfl ?_;apply (Xdr);intro b8;apply (qaq);intro b9;apply qak∘Xc3;have hRR:∀r∈R,InR r U:=fun r hr=>hR0 r (.tail _ hr);have hx1:CodesR (Ue y) U:=⟨hx.1.mono hR0,hx.2⟩;obtain ⟨A,hA⟩:=Uue s.air.mine;have hn1:=hN.rng;have hfl:f.switches.l.length=n:=by rw [hN.sw,Yqd]
 have hfr:=hN.rp;have hmul:(f.switches.l.length:Int) * f.reply=3 * (n:Int):=by rw [hfl,hfr];omega
 have h0:=J2c (f:=f) hE hN.rng hN.sw hN.zn hN.rp;have hI:=Vec (A:=A) h0 hA;obtain ⟨zz,hzz,_⟩:=hE.zone;have hg:ChG (gOf s f A) n:=⟨hn1.1,hN.zn,hN.rp,by show s.zones.l.length=1;rw [hzz];rfl⟩;apply (qay);refine Jx zob rfl ?_;refine Jx zkb rfl ?_;refine Jy rfl (V4b s f A _ _ hs hf hA) rfl ?_;rintro v M U ⟨x,S1,rfl,hxR,hx0,_,rfl,rfl⟩;rw [h0];have hxs:=hx0 h0;have hxn:x.feeder.switches.l.length=n:=by rw [hxs.sw];exact (J5e hE hN hI).ch.len
 refine Jx zCb rfl ?_;apply (Xdr);intro b10;apply qak∘Xb2∘Xbu;apply J9 (G:=[_,_,_,_,_,_,_,_]) (j:=2) (cj:=36) rfl rfl zb rfl zfb rfl;·intro hg3;replace hg3:=qb hg3;exact (Xb6∘Xab) zhd
 intro junk3;apply (qaf);refine q_c ?_ ?_<;>intro hc0;·
  apply Xbe∘qbh;refine Kq (M:=[]) (U:=R) zVc ?hp ?hL ?hR;case hp=>exact absurd hc0 zD
  case hL=>exact ypa _
  case hR=>exact fun r hr=>(hRR r hr).mono fun r hr=>Ja (yi _ hr)
 apply (qcl);refine Vlb (rg 46 9++[12]) ((⟨fun g=>[(12,.pointer (some ⟨g.2.2,0,none⟩))],fun g=>⟨g.2.2,[.slice (some ⟨g.1,0,none⟩) f.switches.l.length f.switches.l.length,.slice (some ⟨g.2.1,0,none⟩) f.switches.l.length f.switches.l.length],60⟩ :: ⟨g.1,Vhb [.bool false] f.switches.l.length,4⟩ :: ⟨g.2.1,Vhb [.bool false] f.switches.l.length,4⟩ :: ⟨b10,x.cells,54⟩ :: ⟨b9,f.cells,42⟩ :: ⟨b8,s.cells,38⟩ :: cblk c (Ue y) k1 :: [],fun _=>S1 ++ U,fun _=>0⟩:Head (Nat×Nat×Nat))) ?_ ?_;·
  skip
  refine Uwc tb [] [0,1,2,4,5,6,3,7,8,9] [10] (_) [] 10 K3 zc rfl rfl zi fun hT6=>?_;refine Vpb 0 hT6 yd zc rfl rfl rfl rfl rfl zub ?_;refine Vpb 1 hT6 yd zc rfl rfl rfl rfl rfl zHb ?_;refine Vpb 2 hT6 yd zc rfl rfl rfl rfl rfl zBb ?_;refine Vpb 4 hT6 yd zc rfl rfl rfl rfl rfl zub ?_;refine Vpb 5 hT6 yd zc rfl rfl rfl rfl rfl zHb ?_;refine Vpb 6 hT6 yd zc rfl rfl rfl rfl rfl zBb ?_;refine Ji [3,7,9] hT6 yd zc ?_;refine Jn ?_ ?_;·
   skip
   apply (Jcc);rintro v M U ⟨b49,rfl,rfl,hR49⟩;replace hR49:=hR49.symm;subst hR49;apply (qa1);refine Ji [7,9] hT6 yd zc ?_;refine Jn ?_ ?_;·
    skip
    apply (Jcc);rintro v M U ⟨b53,rfl,rfl,hR53⟩;replace hR53:=hR53.symm;subst hR53;exact zYd
   apply (qca);refine Ko rfl zwb rfl rfl ?_;rintro v M U ⟨b12,rfl,rfl,hR12⟩;replace hR12:=hR12.symm;subst hR12;exact zZd
  refine Jn ?_ ?_;·
   skip
   apply (Jcc);rintro v M U ⟨b53,rfl,rfl,hR53⟩;replace hR53:=hR53.symm;subst hR53;apply (qa1);refine Ji [3,9] hT6 yd zc ?_;refine Jn ?_ ?_;·
    skip
    apply (Jcc);rintro v M U ⟨b49,rfl,rfl,hR49⟩;replace hR49:=hR49.symm;subst hR49;exact zYd
   apply (qca);refine Ko rfl zwb rfl rfl ?_;rintro v M U ⟨b12,rfl,rfl,hR12⟩;replace hR12:=hR12.symm;subst hR12;exact zae
  apply (qca);refine Ko rfl zwb rfl rfl ?_;rintro v M U ⟨b12,rfl,rfl,hR12⟩;replace hR12:=hR12.symm;subst hR12;apply (qa1);refine Ji [3,7] hT6 yd zc ?_;refine Jn ?_ ?_;·
   skip
   apply (Jcc);rintro v M U ⟨b49,rfl,rfl,hR49⟩;replace hR49:=hR49.symm;subst hR49;exact zZd
  apply qca∘Jcc;rintro v M U ⟨b53,rfl,rfl,hR53⟩;replace hR53:=hR53.symm;subst hR53;exact zae
 rintro ⟨bc,bt,bp⟩ junk;try dsimp only
 refine Jr ?_;rw [hfl];refine Ulc (M:=⟨bp,[.slice (some ⟨bc,0,none⟩) n n,.slice (some ⟨bt,0,none⟩) n n],60⟩ :: ⟨b10,x.cells,54⟩ :: ⟨b9,f.cells,42⟩ :: ⟨b8,s.cells,38⟩ :: cblk c (Ue y) k1 :: ((⟨.own bc n [],List.replicate n false⟩:OwL Bool).L 4 blc ++ ((⟨.own bt n [],List.replicate n false⟩:OwL Bool).L 4 blc ++ []))) ?_ ?_;·rw [← Y1 (f := blc) (z := [.bool false]) (x := false) rfl, ← Y1 (f := blc) (z := [.bool false]) (x := false) rfl];exact List.Perm.cons _ (yAa (l₁:=([⟨bc,Vhb [.bool false] n,4⟩,⟨bt,Vhb [.bool false] n,4⟩]:LB)) (l₂:=([⟨b10,x.cells,54⟩,⟨b9,f.cells,42⟩,⟨b8,s.cells,38⟩,cblk c (Ue y) k1]:LB)))
 have hpk:(⟨.own bc n [],List.replicate n false⟩:OwL Bool).ok 1 blc:=Yr Zl zE;have hsk0:(⟨.own bt n [],List.replicate n false⟩:OwL Bool).ok 1 blc:=Yr Zl zE;have hNA:=J5e hE hN hI;have hst0:(⟨.own bt n [],List.replicate n false⟩:OwL Bool).l.length=n:=by simp
 have rf:∀i:Nat,(⟨.own bt n [],List.replicate n false⟩:OwL Bool).l.getD i false=false:=fun i=>by dsimp only;rw [yh,yB];split <;> rfl
 apply qay∘Zwc∘qbe;refine Jy rfl (Z5e (.consB (.consB (.consB (.consB (.consB (.appL (.appL .nil))))))) (gOf s f A) (PA (gOf s f A) n 0) za PA.fit (Yoc s f) x _ zo hxs hxR ⟨hNA,by simp⟩) rfl ?_;rintro v M U ⟨x1,p1,l1,rfl,hx1s,hx1R,hA1,hM1,hS1,hl1,rfl⟩;simp only [yp,yv];apply Xa8∘Xcc;refine Jp [(1,.int _ _),(2,.int _ _),(7,.pointer _),(9,.pointer _),(10,.pointer _),(12,.pointer _),(13,.int _ _)] zh fun tq0=>?_;obtain ⟨R2,hR2e⟩:∃R2,R2=U:=⟨_,rfl⟩;rw [← hR2e] at hS1 hx1R ⊢;have hx2:CodesR (Ue y) R2:=⟨hx1.1.mono fun r hr=>hS1 r (yi _ hr),hx1.2⟩;have hf2:FeederR f R2:=hf.mono fun r hr=>hS1 r (yi _ hr);have hRR2:∀r∈R,InR r R2:=fun r hr=>(hRR r hr).mono fun r hr=>hS1 r (yi _ hr);refine q_p ([13]++rg 58 17) ((⟨fun g=>[(13,.int .i64 (1 + 7 * ((g.1.1:Nat):Int)))],fun g=>⟨bp,[.slice (some ⟨bc,0,none⟩) n n,.slice (some ⟨bt,0,none⟩) n n],60⟩ :: ⟨b10,g.1.2.2.2.1.cells,54⟩ :: ⟨b9,f.cells,42⟩ :: ⟨b8,s.cells,38⟩ :: cblk c (Ue y) g.1.2.1 :: ((⟨.own bc n [],g.1.2.2.2.2.1⟩:OwL Bool).L 4 blc ++ ((⟨.own bt n [],List.replicate n false⟩:OwL Bool).L 4 blc ++ [])),fun g=>g.1.2.2.2.2.2,fun g=>11 - g.1.1⟩:Head {g:Nat×Nat×PSta×XSta×List Bool×LS // (g.1≤11∧g.2.1≤(Ue y).l.length)∧WayP (gOf s f A) n R2 (max 0 (7 * (g.1:Int) - 6)) g.2.2.1 g.2.2.2.1 g.2.2.2.2.1 g.2.2.2.2.2})) (⟨(0,k1,p1,x1,l1,R2),⟨by dsimp only;omega,hk1⟩,⟨hx1s,hx1R,fun r hr=>Ja hr,hA1.1,SH.mat hA1.1 hM1,hl1⟩⟩) ?_;rintro ⟨⟨j,k,q,u,l,S⟩,⟨hj,hk⟩,hW⟩ junk;try dsimp only
 dsimp only at hj hk hW;have hx3:CodesR (Ue y) S:=⟨hx2.1.mono hW.sub,hx2.2⟩;have hdr:=hW.na.drop;rw [Jfa] at hdr;apply Xb1∘qbx∘qaf;refine q_c ?_ ?_<;>intro hc1;·
  refine Ka (Jc (Jr (Km (Jr ?_))));refine Kh tb [71] [0,1,5,2,3,4,6,7,8,9] [10] ([Blk.mk b10 _ _]) _ K3 zc zi zxa ?_;apply J6g∘qb3∘qbf;refine Up rfl (Keg zP hx3 hk za) rfl rfl ?_;rintro v M U ⟨w,k2,rfl,g1,g1',g1'',hk2,rfl,rfl⟩;refine ⟨zi,zw,?_⟩;have g1q:=g1' za;apply (qcj);refine Up rfl (Kld 0 (9 + w) _ _ ⟨by decide,by decide⟩ za) rfl rfl ?_;rintro v M U ⟨bq,rfl,hql,hqR,hSR,rfl⟩;refine ⟨zi,zw,?_⟩;have hqb:BytesOk bq.l:=by rw [hql];exact Zja ⟨by decide,by decide⟩ za
  have hqn:bq.l.length≤20:=by rw [hql,Jhf,Uta];show (2:Nat) + 6≤20;decide
  refine Up rfl (Jbb (gOf s f A) q u bq (1 + 7 * (j:Int)) _ _ hW.na.inv hW.is (hW.at_.mono hSR) hqR hqb za za) rfl rfl ?_;rintro v M U ⟨x3,S3,rfl,hx3s,hx3R,rfl,rfl⟩;refine ⟨zi,zw,?_⟩;have hnaf:NA (gOf s f A) n (max 0 (7 * ((j + 1:Nat):Int) - 6)) (Yda (gOf s f A) q bq.l (1 + 7 * (j:Int))).1:=by have:=hW.na.feed hqb hqn (t:=1 + 7 * (j:Int)) ⟨by omega,by omega⟩;rw [show max 0 (7 * ((j + 1:Nat):Int) - 6)=1 + 7 * (j:Int) by omega];exact this
  refine Ku zCb rfl rfl rfl rfl ?_;refine Ku zJb rfl rfl rfl rfl ?_;refine V2 zJb rfl rfl rfl rfl ?_;apply (Xch);refine Jz (Jc (Jh ?_));apply Zwc∘qbe;refine Jy rfl (Z5e (.consB (.consB (.consB (.consB (.consB (.appL (.appL .nil))))))) (gOf s f A) (PA (gOf s f A) n (max 0 (7 * ((j + 1:Nat):Int) - 6))) za PA.fit (Yda (gOf s f A) q bq.l (1 + 7 * (j:Int))).1 x3 _ zo hx3s hx3R ⟨hnaf,hW.ll⟩) rfl ?_;rintro v M U ⟨x4,p4,l4,rfl,hx4s,hx4R,hA4,hM4,hS4,hl4,rfl⟩;simp only [yp,yv];apply qak∘qcs∘Xdf;exact q_k ⟨(j + 1,k2,p4,x4,l4,U),⟨by dsimp only;omega,hk2⟩,⟨hx4s,hx4R,fun r hr=>((hW.sub r hr).mono hSR).mono fun r hr=>hS4 r (yi _ hr),hA4.1,SH.mat hA4.1 hM4,hl4⟩⟩
 obtain rfl:j=11:=by omega
 have hna:=hW.na;rw [show max 0 (7 * ((11:Nat):Int) - 6)=71 by decide] at hna;apply qbk∘Zwc;refine Jy rfl (Khc (gOf s f A) q u 0 0 72 _ _ hna.inv hW.is hW.at_) rfl ?_;rintro v M U ⟨x5,S5,rfl,hx5s,hx5R,rfl,rfl⟩;obtain ⟨hna5,hsh5⟩:=hna.ask hW.sh (t:=72) ⟨by decide,by decide⟩ 0 0;refine Jx zCb rfl ?_;apply Xa3∘Xay∘Zwc;refine Jy rfl (Z0a (gOf s f A) _ x5 1 73 _ _ hna5.inv hx5s hx5R) rfl ?_;rintro v M U ⟨x6,S6,rfl,hx6s,hx6R,rfl,rfl⟩;obtain ⟨hna6,hsh6⟩:=hna5.confirm hsh5 (t:=73) ⟨by decide,by decide⟩ 1;have hJ0:=hna6.begin hsh6 hg;refine Jx zCb rfl ?_;apply Xa3∘Xa8∘Xaw;refine Jp [(1,.int _ _),(2,.int _ _),(7,.pointer _),(9,.pointer _),(10,.pointer _),(12,.pointer _),(87,.int _ _),(88,.int _ _)] zh fun tq1=>?_;obtain ⟨R3,hR3e⟩:∃R3,R3=S6 ++ (S5 ++ S):=⟨_,rfl⟩;have h23:∀r∈R2,InR r R3:=fun r hr=>(hW.sub r hr).mono fun r hr=>Ja (by rw [hR3e];exact yi _ (yi _ hr));rw [← hR3e] at hx6R ⊢;have hx3':CodesR (Ue y) R3:=⟨hx2.1.mono h23,hx2.2⟩;have hll:=hW.ll;clear hW;refine q_p (rg 88 11) ((⟨fun g=>[(88,.int .i64 ((g.1.1:Nat):Int))],fun g=>⟨bp,[.slice (some ⟨bc,0,none⟩) n n,.slice (some ⟨bt,0,none⟩) n n],60⟩ :: ⟨b10,g.1.2.2.1.cells,54⟩ :: ⟨b9,f.cells,42⟩ :: ⟨b8,s.cells,38⟩ :: cblk c (Ue y) k :: ((⟨.own bc n [],g.1.2.2.2.1⟩:OwL Bool).L 4 blc ++ ((⟨.own bt n [],List.replicate n false⟩:OwL Bool).L 4 blc ++ [])),fun g=>g.1.2.2.2.2,fun g=>n - g.1.1⟩:Head {g:Nat×PSta×XSta×List Bool×LS // g.1≤n∧JC (gOf s f A) n g.1 g.2.1∧(StaIs (gOf s f A) g.2.1 g.2.2.1∧StaR g.2.2.1 g.2.2.2.2∧∀r∈R3,InR r g.2.2.2.2)∧g.2.2.2.1.length=n∧(0 < g.1→Mat n (List.replicate n false) g.2.2.2.1 g.2.1.sw)})) (⟨(0,_,x6,l,R3),yT _,hJ0,⟨hx6s,hx6R,fun r hr=>Ja hr⟩,hll,fun h=>absurd h (Nat.lt_irrefl _)⟩) ?_;rintro ⟨⟨j,q,u,l,S⟩,hj,hJ,⟨hus,huR,hsub⟩,hll,hMj⟩ junk;try dsimp only
 dsimp only at hj hJ hus huR hsub hll hMj;apply (Xak);refine q_c ?_ ?_<;>intro hc2;·have hPC:=hJ.close hg za hll;apply qbb∘Zwc;refine Jy rfl (Uob (gOf s f A) q u 74 _ _ hJ.inv hus huR) rfl ?_;rintro v M U ⟨x7,S7,rfl,hx7s,hx7R,rfl,rfl⟩;refine Jx zCb rfl ?_;apply Xa3∘qak;refine J6 (Jc (Jh ?_));apply Zwc∘qbe;refine Jy rfl (Z5e (.consB (.consB (.consB (.consB (.consB (.appL (.appL .nil))))))) (gOf s f A) (PC (gOf s f A) n j) za (PC.fit hg) (Ye (gOf s f A) q 74).1 x7 _ zo hx7s hx7R hPC) rfl ?_;rintro v M U ⟨x8,p8,l8,rfl,hx8s,hx8R,hC8,hM8,hS8,hl8,rfl⟩;simp only [yp,yv];apply qak∘Xa7;exact q_k ⟨(j + 1,p8,x8,l8,U),by dsimp only;omega,hC8.done hg hM8,⟨hx8s,hx8R,fun r hr=>(hsub r hr).mono fun r hr=>hS8 r (yi _ hr)⟩,hl8,fun _=>hM8⟩
 have hjn:j=n:=by omega
 rw [hjn] at hJ hMj;have hM9:=hMj za;apply qbk∘qaz∘qaw∘Xaw;refine Jp [(1,.int _ _),(2,.int _ _),(7,.pointer _),(9,.pointer _),(10,.pointer _),(12,.pointer _),(14,.bool _),(101,.int _ _),(102,.int _ _)] zh fun tq2=>?_;refine q_p ([14,15]++rg 102 22) ((⟨fun g=>[(102,.int .i64 ((g.1.1:Nat):Int)),(14,.bool g.1.2.1)],fun g=>⟨bp,[.slice (some ⟨bc,0,none⟩) n n,.slice (some ⟨bt,0,none⟩) n n],60⟩ :: ⟨b10,u.cells,54⟩ :: ⟨b9,f.cells,42⟩ :: ⟨b8,s.cells,38⟩ :: cblk c (Ue y) k :: ((⟨.own bc n [],l⟩:OwL Bool).L 4 blc ++ ((⟨.own bt n [],g.1.2.2⟩:OwL Bool).L 4 blc ++ [])),fun _=>S,fun g=>n - g.1.1⟩:Head {g:Nat×Bool×List Bool // g.1≤n∧g.2.2.length=n∧(g.2.1=true→∀i:Nat,i < g.1→g.2.2.getD i false=true)∧(g.2.1=false→∃i:Nat,i < g.1∧g.2.2.getD i false=false)})) (⟨(0,true,List.replicate n false),yT _,by simp,fun _ i hi=>absurd hi (Nat.not_lt_zero i),(fun h=>by cases h)⟩) ?_;rintro ⟨⟨i,al,stl⟩,hi,hsl,hal,hno⟩ junk;try dsimp only
 dsimp only at hi hsl hal hno;have hsk1:=K1b (b:=bt) hsl za;apply (Xak);refine q_c ?_ ?_<;>intro hc3;·
  have hsg:=Jw (l:=stl) (k:=i) false za;apply Xa0∘Xag∘Xaa;iterate 3 apply (qaa)
  apply (qdg);refine Jx (Jab rfl rfl za rfl) rfl ?_;refine Jx (Vjf rfl rfl) rfl ?_;apply (qbn);refine Jx (Jv tb ((⟨.own bt n [],stl⟩:OwL Bool)) _ rfl rfl ((show _=Value.slice _ _ _ from rfl).trans (Uq hsl)) rfl zg (i:=i) zk zu) rfl ?_;refine Ym (Js tb ((⟨.own bt n [],stl⟩:OwL Bool)) ((decide (V0e (sk.fdiv (2 ^ (min (i:Int).toNat IntKind.u8.bits))) 1=1))) rfl rfl rfl rfl zj zg yf zg ze zb zb) ?_;rintro v M U ⟨rfl,rfl⟩;apply (qaf);have hsl2:(stl.set i (decide (V0e (sk.fdiv (2 ^ (min (i:Int).toNat IntKind.u8.bits))) 1=1))).length=n:=by rw [yy];exact hsl
  have hsk2:=K1b (b:=bt) hsl2 za;have hsg2:(stl.set i (decide (V0e (sk.fdiv (2 ^ (min (i:Int).toNat IntKind.u8.bits))) 1=1)))[i]?=some (decide (V0e (sk.fdiv (2 ^ (min (i:Int).toNat IntKind.u8.bits))) 1=1)):=yH za;apply qay∘qah∘qah;apply Ui (G:=[_,_,_,_,_]) (j:=1) (cj:=116) rfl rfl zb rfl zfb rfl;·intro hg2;replace hg2:=qb hg2;apply (Xam);refine Jx (Jv tb ((⟨.own bt n [],stl.set i (decide (V0e (sk.fdiv (2 ^ (min (i:Int).toNat IntKind.u8.bits))) 1=1))⟩:OwL Bool)) _ rfl rfl ((show _=Value.slice _ _ _ from rfl).trans (Uq hsl2)) rfl zg (i:=i) zk zu) rfl ?_;refine Jx (Kc tb ((⟨.own bt n [],stl.set i (decide (V0e (sk.fdiv (2 ^ (min (i:Int).toNat IntKind.u8.bits))) 1=1))⟩:OwL Bool)) rfl rfl rfl zj zg yf zg zb) rfl ?_;exact qai
  intro junk2;apply qaz∘Xa7;exact q_k ⟨(i + 1,al && (decide (V0e (sk.fdiv (2 ^ (min (i:Int).toNat IntKind.u8.bits))) 1=1)),stl.set i (decide (V0e (sk.fdiv (2 ^ (min (i:Int).toNat IntKind.u8.bits))) 1=1))),by dsimp only;omega,hsl2,Y1d za hsl hal hno⟩
 have hin:i=n:=by omega
 rw [hin] at hal hno;obtain ⟨v0,hPB0,hM0⟩:=hJ.all hg (st':=stl) hll hM9;have hdr0:Jfa 74 q:=hJ.drop;apply qbk∘Xap∘Xcc;refine Jp [(2,.int _ _),(7,.pointer _),(9,.pointer _),(10,.pointer _),(12,.pointer _),(14,.bool _),(16,.int _ _),(17,.int _ _)] zh fun tq3=>?_;obtain ⟨S0,hS0e⟩:∃S0,S0=S:=⟨_,rfl⟩;rw [← hS0e] at huR hsub ⊢;have h2S0:∀r∈R2,InR r S0:=fun r hr=>(h23 r hr).mono hsub;have hx4':CodesR (Ue y) S0:=⟨hx2.1.mono h2S0,hx2.2⟩;have hf4:FeederR f S0:=hf2.mono h2S0;have hgs:((gOf s f A)).site.sensors.l=[easySens]:=hE.sens;have hgz:∀z∈(((gOf s f A)).site.zones.l.getD 0 default).rule.l,z.kind=1→K8a (((gOf s f A)).site.conds.l.getD z.cond.toNat default):=by
  obtain ⟨z1,hz1,hz2,_⟩:=hE.zone;intro z hz _;have e1:(((gOf s f A)).site.zones.l.getD 0 default)=z1:=by show (s.zones.l.getD 0 default)=z1;rw [hz1];rfl
  rw [e1,hz2] at hz;rw [List.mem_singleton.1 hz];show K8a (s.conds.l.getD 0 default);rw [hE.conds];exact .inl rfl
 refine q_p ([6,16,17,18,20]++rg 124 95) ((⟨fun g=>[(17,.int .i64 (75 + ((g.1.1:Nat):Int))),(16,.int .i64 g.1.2.2.1)],fun g=>⟨bp,[.slice (some ⟨bc,0,none⟩) n n,.slice (some ⟨bt,0,none⟩) n n],60⟩ :: ⟨b10,g.1.2.2.2.2.1.cells,54⟩ :: ⟨b9,f.cells,42⟩ :: ⟨b8,s.cells,38⟩ :: cblk c (Ue y) g.1.2.1 :: ((⟨.own bc n [],g.1.2.2.2.2.2.1⟩:OwL Bool).L 4 blc ++ ((⟨.own bt n [],stl⟩:OwL Bool).L 4 blc ++ [])),fun g=>g.1.2.2.2.2.2.2,fun g=>100 - g.1.1⟩:Head {g:Nat×Nat×Int×PSta×XSta×List Bool×LS // (g.1≤100∧g.2.1≤(Ue y).l.length)∧WayB (gOf s f A) n S0 stl v0 g.2.2.1 (74 + (g.1:Int)) g.2.2.2.1 g.2.2.2.2.1 g.2.2.2.2.2.1 g.2.2.2.2.2.2})) (⟨(0,k,-1,q,u,l,S0),⟨by dsimp only;omega,hk⟩,⟨hus,huR,fun r hr=>Ja hr,⟨hPB0,hdr0⟩,hM0,fun h=>absurd h (by show ¬ (75:Int)≤74 + ((0:Nat):Int);decide)⟩⟩) ?_;rintro ⟨⟨m,kk,b,q5,x5,l5,S5⟩,⟨hm,hkk⟩,hW⟩ junk;try dsimp only
 dsimp only at hm hkk hW;have hx5':CodesR (Ue y) S5:=⟨hx4'.1.mono hW.sub,hx4'.2⟩;have hpb5:=hW.pb.1;have hdr5:=hW.pb.2;rw [Jfa] at hdr5;apply Xb1∘Xbm;refine q_c ?_ ?_<;>intro hc4;·
  refine Ka (Jc (Jr (Km (Jr (Jr ?_)))));refine Kha (rg 128 10) ((⟨fun g=>[(137,.bool g.1.1)],fun g=>⟨bp,[.slice (some ⟨bc,0,none⟩) n n,.slice (some ⟨bt,0,none⟩) n n],60⟩ :: ⟨b10,x5.cells,54⟩ :: ⟨b9,f.cells,42⟩ :: ⟨b8,s.cells,38⟩ :: cblk c (Ue y) g.1.2 :: ((⟨.own bc n [],l5⟩:OwL Bool).L 4 blc ++ ((⟨.own bt n [],stl⟩:OwL Bool).L 4 blc ++ [])),fun _=>S5,fun _=>0⟩:Head {g:Bool×Nat // g.2≤(Ue y).l.length∧(g.1=true→75 + (m:Int)=76 + at_.tmod 20)})) ?_ ?_;·
   skip
   apply Xa1∘qaa∘qdg∘qda∘qar∘qbn∘qah;refine Z2 (k:=134) zfb (fun hg7=>?_) (fun hg7=>?_);·replace hg7:=qb hg7;refine Uu (Jt zEb) rfl rfl ?_;refine Jta rfl (Kvg zP hx5' hkk za) rfl rfl ?_;rintro v M U ⟨bb,k3,rfl,hk3,rfl,rfl⟩;exact uaW
   replace hg7:=qb hg7;refine V3 rfl rfl ?_;refine V3 rfl rfl ?_;exact uaW
  rintro ⟨⟨bf,k4⟩,hk4,hbf⟩ junk;try dsimp only
  dsimp only at hk4 hbf;refine Kha (rg 138 13) ((⟨fun _=>[],fun g=>⟨bp,[.slice (some ⟨bc,0,none⟩) n n,.slice (some ⟨bt,0,none⟩) n n],60⟩ :: ⟨b10,g.1.2.1.cells,54⟩ :: ⟨b9,f.cells,42⟩ :: ⟨b8,s.cells,38⟩ :: cblk c (Ue y) k4 :: ((⟨.own bc n [],l5⟩:OwL Bool).L 4 blc ++ ((⟨.own bt n [],stl⟩:OwL Bool).L 4 blc ++ [])),fun g=>g.1.2.2,fun _=>0⟩:Head {g:PSta×XSta×LS // WayC (gOf s f A) n S0 stl v0 b (75 + (m:Int)) l5 g.1 g.2.1 g.2.2})) ?_ ?_;·
   skip
   refine q_c ?_ ?_<;>intro hc5;·refine Kh tb [144] [0,2,1,3,4,5,6] [7] ([Blk.mk b10 _ _]) _ K3 zc zi zxa ?_;apply J6g∘qbf;refine Up rfl (Kld 0 300 _ _ ⟨by decide,by decide⟩ ⟨by decide,by decide⟩) rfl rfl ?_;rintro v M U ⟨bq,rfl,hql,hqR,hSR,rfl⟩;refine ⟨zi,zw,?_⟩;(have hqb:BytesOk bq.l:=by rw [hql];exact Zja ⟨by decide,by decide⟩ ⟨by decide,by decide⟩);(have hqn:bq.l.length≤20:=by rw [hql,Jhf,Uta];show (2:Nat) + 6≤20;decide);refine Up rfl (Jbb (gOf s f A) q5 x5 bq (75 + (m:Int)) _ _ hpb5.pw.inv hW.is (hW.at_.mono hSR) hqR hqb za za) rfl rfl ?_;rintro v M U ⟨x6',S6',rfl,hx6',hx6R',rfl,rfl⟩;refine ⟨zi,zw,?_⟩;refine Ku zCb rfl rfl rfl rfl ?_;refine Ku zJb rfl rfl rfl rfl ?_;refine V2 zJb rfl rfl rfl rfl ?_;apply (Xch);refine Jz ?_;exact q_j ⟨(_,x6',S6' ++ U),hW.feed hg za (by have:=hbf hc5;omega) hqb hqn hx6' hx6R' (fun r hr=>(hSR r hr).mono fun r hr=>Ja (yi _ hr))⟩
   apply qay∘Zwc∘qaa;refine Jy rfl (Kyd (gOf s f A) q5 x5 (75 + (m:Int)) _ _ hpb5.pw.inv hW.is hW.at_) rfl ?_;rintro v M U ⟨x7',S7',rfl,hx7',hx7R',rfl,rfl⟩;refine Jx zCb rfl ?_;apply Xa3∘qak∘qav;exact q_j ⟨(_,x7',S7' ++ S5),hW.tick hg za za hgs hgz hx7' hx7R' (fun r hr=>Ja (yi _ hr))⟩
  rintro ⟨⟨q7,x8,S8⟩,hC⟩ junk;try dsimp only
  dsimp only at hC;apply qae∘Zwc∘qbe;refine Jy rfl (Z5e (.consB (.consB (.consB (.consB (.consB (.appL (.appL .nil))))))) (gOf s f A) (PBd (gOf s f A) n stl v0 b (75 + (m:Int))) za (PBd.fit hg) q7 x8 _ hsl hC.is hC.at_ hC.pb) rfl ?_;rintro v M U ⟨x9,q9,l9,rfl,hx9s,hx9R,hB9,hM9',hS9,hl9,rfl⟩;simp only [yp,yv];obtain ⟨S9,hS9e⟩:∃S9,S9=U:=⟨_,rfl⟩;rw [← hS9e] at hx9R hS9 ⊢;have hpb9:=hB9.1;have hI9:=hpb9.pw.inv;have hcn:x9.cuts.l.length=1:=by rw [hx9s.cuts];exact hI9.c1 hg
  have hcg:=Jw (l:=x9.cuts.l) (k:=0) default za;have hcR:=hx9R.cuts;have hco:(x9.cuts.l.getD 0 default).off=Zra q9:=by rw [hx9s.cuts];rfl
  have hzl:x9.feeder.zones.l=[(n:Int) - 1]:=hx9s.zn.trans hN.zn;have hzn1:x9.feeder.zones.l.length=1:=by rw [hzl];rfl
  have hzg:=Jw (l:=x9.feeder.zones.l) (k:=0) 0 (by rw [hzl];exact Nat.zero_lt_succ _);have hzv:x9.feeder.zones.l.getD 0 0=(n:Int) - 1:=by rw [hzl];rfl
  have hzR:=hx9R.feeder.zn;have hswR:=hx9R.feeder.sw;have hf9:FeederR f S9:=hf4.mono fun r hr=>(hC.sub r hr).mono hS9;apply Xa8∘Xab∘Xao;refine q_c ?_ ?_<;>intro hc6;·(exfalso;omega)
  apply Xcq∘Xav;apply Ui (G:=[_,_,_,_,_]) (j:=2) (cj:=160) rfl rfl zb rfl zfb rfl;·intro hg3;replace hg3:=qb hg3;exact (Xaa∘qdt∘Xbv) qai
  intro junk3;apply (qaf);refine Kha [16,167] ((⟨fun g=>[(16,.int .i64 g.1)],fun _=>⟨bp,[.slice (some ⟨bc,0,none⟩) n n,.slice (some ⟨bt,0,none⟩) n n],60⟩ :: ⟨b10,x9.cells,54⟩ :: ⟨b9,f.cells,42⟩ :: ⟨b8,s.cells,38⟩ :: cblk c (Ue y) k4 :: ((⟨.own bc n [],l9⟩:OwL Bool).L 4 blc ++ ((⟨.own bt n [],stl⟩:OwL Bool).L 4 blc ++ [])),fun _=>S9,fun _=>0⟩:Head {b':Int // PB (gOf s f A) n stl v0 b' (75 + (m:Int)) q9 l9∧(Zra q9=true→b'≠-1)∧(b'= -1∨75≤b'∧b'≤75 + (m:Int))})) ?_ ?_;·
   skip
   refine q_c ?_ ?_<;>intro hc7;·
    have hb1:b= -1:=by
     rcases hpb9.jb with h | h;·exact h
     ·omega
    (have hof:Zra q9=true:=by rw [← hco];exact hc7.2);rw [hb1] at hpb9;apply Xa1∘Xbf;exact q_j ⟨75 + (m:Int),hpb9.begin hg za hof,fun _=>by omega,.inr ⟨by omega,yD _⟩⟩
   refine Ka ?_;exact q_j ⟨b,hpb9,fun ho hb=>(by first | exact hc7 ⟨by omega,by rw [hco];exact ho⟩ | (rcases hc7 with h | h;(exact h za);(rw [hco,ho] at h;cases h))),by rcases hpb9.jb with h | ⟨h1,h2,_⟩;exact .inl h;exact .inr ⟨h1,h2⟩⟩
  rintro ⟨b9',hPB9,hbo9,hbr9⟩ junk;try dsimp only
  apply Xbe∘qco;refine Kp tb [0,1,2,3,4,5,6,9,7,8] _ K3 zc ye ?_;apply (qal);refine K2 zkb rfl rfl rfl ?_;apply Xc4∘qdu∘qbl∘qao;refine Yj rfl (Vib x9.feeder (x9.feeder.zones.l.getD 0 0) _ _ hx9R.feeder) rfl rfl ?_;rintro v M U ⟨pq,rfl,hpqk,hpql,rfl,rfl⟩;refine ⟨zi,zw,?_⟩;have hpq:pq.l=dnL n:=by have:=hI9.path hg hpb9.pw.ch;rw [hpql,hx9s.sw,hx9s.zn,hx9s.rp];exact this
  have hpn:pq.l.length=n:=by rw [hpq,Vnc]
  refine K2 zBb rfl rfl rfl ?_;refine Jz (Jc (Km ?_));refine Y6 ([6,16,17,18,20]++rg 124 95) zI [(16,.int _ _),(17,.int _ _),(18,.bool _),(175,.slice _ _ _),(176,.int _ _),(177,.int _ _)] zh fun tq4=>?_;refine q_p ([18,20]++rg 177 13) ((⟨fun g=>[(177,.int .i64 ((g.1.1:Nat):Int)),(18,.bool g.1.2)],fun g=>pq.L 3 Jo ++ (⟨bp,[.slice (some ⟨bc,0,none⟩) n n,.slice (some ⟨bt,0,none⟩) n n],60⟩ :: ⟨b10,x9.cells,54⟩ :: ⟨b9,f.cells,42⟩ :: ⟨b8,s.cells,38⟩ :: cblk c (Ue y) k4 :: ((⟨.own bc n [],l9⟩:OwL Bool).L 4 blc ++ ((⟨.own bt n [],stl⟩:OwL Bool).L 4 blc ++ []))),fun _=>S9,fun g=>n - g.1.1⟩:Head {g:Nat×Bool // g.1≤n∧LiveTo l9 (dnL n) g.1 g.2})) (⟨(0,true),yT _,fun _ x hx=>(by cases hx),fun _=>rfl⟩) ?_;rintro ⟨⟨i2,lv⟩,hi2,hlv⟩ junk;try dsimp only
  dsimp only at hi2 hlv;apply (Xak);refine q_c ?_ ?_<;>intro hc8;·
   have hpg:=Jw (l:=pq.l) (k:=i2) 0 za;(have hpe:pq.l.getD i2 0=(dnL n).getD i2 0:=by rw [hpq]);obtain ⟨k9,hk9,hk9e⟩:=Voc (x:=pq.l.getD i2 0) (k:=n) (by rw [← hpq];exact yj hpg);have hlg:=Jw (l:=l9) (k:=k9) false za;have hlk9:=K1b (b:=bc) hl9 za;have hnx:=hlv.next (by rw [Vnc];omega);rw [← hpe,hk9e,yu] at hnx;apply (qbb);refine Jx (Jv tb (pq) _ rfl rfl rfl rfl zg (i:=i2) zk zu) rfl ?_;refine Jx (Kc tb (pq) rfl rfl rfl zj zg yf zg zb) rfl ?_;apply (qad);refine J6 (Jc (Jh ?_));apply qah∘qah;apply Ui (G:=[_,_,_,_,_]) (j:=1) (cj:=182) rfl rfl zb rfl zfb rfl;·intro hg2;replace hg2:=qb hg2;apply (Xam);refine Jx (Jv tb ((⟨.own bc n [],l9⟩:OwL Bool)) _ rfl rfl ((show _=Value.slice _ _ _ from rfl).trans (Uq hl9)) rfl zg (i:=k9) zk zu) rfl ?_;refine Jx (Kc tb ((⟨.own bc n [],l9⟩:OwL Bool)) rfl rfl rfl zj zg yf zg zb) rfl ?_;exact qai
   intro junk2;apply qaz∘Xa7;exact q_k ⟨(i2 + 1,lv && l9.getD k9 false),by dsimp only;omega,hnx⟩
  have hin2:i2=n:=by omega
  rw [hin2] at hlv;have hdd:=hlv.dead;apply qcf∘qah∘qah;apply Ui (G:=[_,_]) (j:=1) (cj:=191) rfl rfl zb rfl zfb rfl;·intro hg2;replace hg2:=qb hg2;exact (qaa) zjd
  intro junk2;apply (qah);apply Ui (G:=[_,_]) (j:=5) (cj:=195) rfl rfl zb rfl zfb rfl;·intro hg6;replace hg6:=qb hg6;exact (qah) zLd
  intro junk6;apply (qah);apply Ui (G:=[_,_,_,_,_,_,_,_,_,_]) (j:=9) (cj:=199) rfl rfl zb rfl zfb rfl;·intro hg10;replace hg10:=qb hg10;exact (Xbg∘Xab∘Xaa∘qcm∘qar) zjd
  intro junk10;apply (qaf);refine q_c ?_ ?_<;>intro hc9;·(exfalso;obtain ⟨⟨⟨h1,h2⟩,h3⟩,h4⟩:=hc9;obtain ⟨j9,hj9,hs9⟩:=hno h3;have h5:=hPB9.dead hM9' za za hj9 hs9;rw [hdd.2 h5] at h1;cases h1)
  apply qbv∘qah∘Xce;refine Z2 (k:=213) zfb (fun hg3=>?_) (fun hg3=>?_);·
   replace hg3:=qb hg3;refine Uu zub rfl rfl ?_;apply (Zwf);refine Jta rfl (Zje x9.feeder 0 _ _ hx9R.feeder) rfl rfl ?_;rintro v M U ⟨a9,rfl,hlv9,rfl,rfl⟩;refine Uu zac rfl rfl ?_;apply Yna∘qaf;refine q_c ?_ ?_<;>intro hc10;·(exfalso;exact Uje hg hx9s hPB9 hlv9 (hdd.1 hg3) hc10)
   exact zwd
  replace hg3:=qb hg3;iterate 4 refine V3 rfl rfl ?_
  apply Yna∘qaf;refine Y7 rfl ?_;exact zwd
 have hm1:m=100:=by omega
 rw [hm1] at hW hpb5;have hof5:=hpb5.deaf za;have hb5:=hW.beg za hof5;have hbr5:75≤b∧b≤174:=by
  rcases hpb5.jb with h | ⟨h1,h2,_⟩;·exact absurd h hb5
  ·omega
 have hl5:=hpb5.pw.pl;have hlk5:=K1b (b:=bc) hl5 za;have hsw5:x5.feeder.switches.l=q5.sw:=hW.is.sw;have hsn5:x5.feeder.switches.l.length=n:=by rw [hsw5];exact hpb5.pw.ch.len
 have hs5g:x5.feeder.switches.l[0]?=some (q5.sw.getD 0 default):=by rw [hsw5];exact Jw (l:=q5.sw) (k:=0) default (by rw [hpb5.pw.ch.len];omega)
 have hl5g:=Jw (l:=l5) (k:=0) false za;have hs5R:=hW.at_.feeder.sw;apply Xc5∘qbz∘qah;refine Z2 (k:=221) zfb (fun hg3=>?_) (fun hg3=>?_);·
  replace hg3:=qb hg3;refine Uu (Jt zfb) rfl rfl ?_;refine Uu (V8a rfl) rfl rfl ?_;refine Uu (Jt zfb) rfl rfl ?_;refine Z2 (k:=224) zfb (fun hg6=>?_) (fun hg6=>?_);·
   replace hg6:=qb hg6;(iterate 9 refine V3 rfl rfl ?_);·
    skip
    apply (Vbb);refine Uu (Jt zfb) rfl rfl ?_;·
     skip
     exact ua6
  replace hg6:=qb hg6;refine Uu (Jt zgb) rfl rfl ?_;refine Uu zub rfl rfl ?_;apply (Jxf);refine Uu zBb rfl rfl ?_;refine Uu zub rfl rfl ?_;apply (Jxf);refine Uu zta rfl rfl ?_;refine Uu zfa rfl rfl ?_;refine Uu (Kvc rfl rfl) rfl rfl ?_;·
   skip
   apply (Vbb);refine Uu (Jt zfb) rfl rfl ?_;refine Z2 (k:=235) zfb (fun hg17=>?_) (fun hg17=>?_);·replace hg17:=qb hg17;exact ua6
   replace hg17:=qb hg17;refine Uu zub rfl rfl ?_;apply (Zwf);refine Jta rfl (Zwd x5.feeder _ _ hW.at_.feeder) rfl rfl ?_;rintro v M U ⟨fq,rfl,hfqk,hfql,rfl,rfl⟩;refine Uu zBb rfl rfl ?_;refine Uu zac rfl rfl ?_;·
    skip
    apply (Vbb);refine Uu (Jt zfb) rfl rfl ?_;refine Z2 (k:=242) zfb (fun hg24=>?_) (fun hg24=>?_);·replace hg24:=qb hg24;exact uah
    replace hg24:=qb hg24;refine Uu zub rfl rfl ?_;refine Uu zub rfl rfl ?_;apply (Jxf);refine Uu zwa rfl rfl ?_;refine Uu (Vha tb rfl rfl rfl) rfl rfl ?_;refine Uu zha rfl rfl ?_;refine Uu (V8a rfl) rfl rfl ?_;refine Uu (Jt zfb) rfl rfl ?_;refine Z2 (k:=250) zfb (fun hg32=>?_) (fun hg32=>?_);·
     replace hg32:=qb hg32;refine Uu zub rfl rfl ?_;apply (Jxf);refine Uu (Jv tb ((⟨.own bc n [],l5⟩:OwL Bool)) _ rfl rfl ((show _=Value.slice _ _ _ from rfl).trans (Uq hl5)) rfl zg (i:=0) zk zu) rfl rfl ?_;refine Uu (Kc tb ((⟨.own bc n [],l5⟩:OwL Bool)) rfl rfl rfl zj zg yf zg zb) rfl rfl ?_;refine Uu (V8a rfl) rfl rfl ?_;·
      skip
      apply (Vbb);·
       skip
       apply Vbb∘Yna∘qah;refine Z2 (k:=259) zfb (fun hg41=>?_) (fun hg41=>?_);·
        replace hg41:=qb hg41;refine Jta rfl (Uba _ _) rfl rfl ?_;rintro v M U ⟨rfl,rfl,rfl⟩;apply Yna∘Xa2;refine Kq (M:=[]) (U:=R) zVc ?hp ?hL ?hR;case hp=>exact uab
        case hL=>exact ypa _
        case hR=>exact fun r hr=>(hRR2 r hr).mono fun r hr=>(h2S0 r hr).mono hW.sub
       replace hg41:=qb hg41;refine V3 rfl rfl ?_;apply Yna∘Xa2;refine Kq (M:=[]) (U:=R) zVc ?hp ?hL ?hR;case hp=>exact uab
       case hL=>exact ypa _
       case hR=>exact fun r hr=>(hRR2 r hr).mono fun r hr=>(h2S0 r hr).mono hW.sub
    replace hg32:=qb hg32;(iterate 5 refine V3 rfl rfl ?_);·
     skip
     apply (Vbb);·
      skip
      apply Vbb∘Yna∘qah;·
       skip
       refine V3 rfl rfl ?_;apply Yna∘Xa2;refine Kq (M:=[]) (U:=R) zVc ?hp ?hL ?hR;case hp=>exact uab
       case hL=>exact ypa _
       case hR=>exact fun r hr=>(hRR2 r hr).mono fun r hr=>(h2S0 r hr).mono hW.sub
 replace hg3:=qb hg3;iterate 12 refine V3 rfl rfl ?_
 ·
  skip
  iterate 7 refine V3 rfl rfl ?_
  ·
   skip
   (iterate 16 refine V3 rfl rfl ?_);·
    skip
    refine V3 rfl rfl ?_;apply Yna∘qah;·
     skip
     refine V3 rfl rfl ?_;apply Yna∘Xa2;refine Kq (M:=[]) (U:=R) zVc ?hp ?hL ?hR;case hp=>exact uab
     case hL=>exact ypa _
     case hR=>exact fun r hr=>(hRR2 r hr).mono fun r hr=>(h2S0 r hr).mono hW.sub
end Go.Proofs.YtchfclmokpbldaaGreat
