/-
  Merged texts. By an AI agent.
-/
import Derived.Test.YtchfclmokpbldaaGreatPowM
import Derived.Test.YtchfclmokpbldaaGreatStatD
import Derived.Test.YtchfclmokpbldaaGreatAwakeP
import Derived.Test.YtchfclmokpbldaaGreatStaE
import Derived.Test.YtchfclmokpbldaaGreatRoundA
import Derived.OrdersIn
set_option linter.all false
set_option maxHeartbeats 4000000
set_option maxRecDepth 20000
namespace Go.Proofs.YtchfclmokpbldaaGreat
open Go.Aw Go
section
def Jfa (T:Int) (q:PSta):Prop:=0≤q.dropped∧q.dropped≤100 * T
section
variable {g:PSite} {p q r:PSta} {n:Nat} {st pc:List Bool} {v:Bool} {b t T:Int}
def Kta (h:Jfa T q):Jfa T (Je g q t):=by rw [Jfa,(V9 t).dropped];exact h
def Z4c (hI:Inv g q) (h:Jfa T q) {bs:List Int} (hb:BytesOk bs) (hn:bs.length≤20) (ht:T + 1≤t):Jfa t (feedR g q bs t):=by
 have h2:=(K0c _ (l:=q.held ++ bs) q.dropped rfl (fun x hx=>by
  rcases List.mem_append.1 hx with hx | hx;·exact hI.held.1 x hx
  ·exact hb x hx)).2
 have h3:=hI.held.2;rw [yo] at h2;obtain ⟨h4,h5⟩:=h;exact ⟨by show 0≤(U3 (q.held ++ bs) q.dropped).dropped;omega,by show (U3 (q.held ++ bs) q.dropped).dropped≤_;omega⟩
def Zbd {S:List XSens} {m:List XMeas} (f:XTele) (h:∀x∈m,x.time≤t):∀x∈Una S t m f,x.time≤t:=by
 rw [Una];split;·
  intro x hx;rcases ykb hx with hx | rfl;·exact h x hx
  ·exact yD _
 ·exact h
def Juc {S : List XSens} : ∀ (l : List XTele) {m : List XMeas}, (∀ x ∈ m, x.time ≤ t) → ∀ x ∈ l.foldl (Una S t) m, x.time ≤ t
 | [],_,h=>h
 | f :: l,_,h=>Juc l (Zbd f h)
def Jjc (bs:List Int) (h:∀x∈q.meas,x.time≤t):∀x∈(feedR g q bs t).meas,x.time≤t:=Juc _ h
structure NA (g:PSite) (n:Nat) (T:Int) (q:PSta):Prop where
 inv:Inv g q
 ch:Chain n q.sw
 nc:∀i:Nat,i < n→(q.sw.getD i default).closed=false
 off:Yua q
 time:q.time=T
 meas:∀x∈q.meas,x.time≤T
 drop:Jfa T q
def SH (n:Nat) (q:PSta):Prop:=∀i:Nat,i < n→(q.sw.getD i default).shown= -1
def NA.of (h:NA g n T q) (hI:Inv g r) (e1:r.sw=q.sw) (e2:r.cuts=q.cuts) (e3:r.time=q.time) (e4:r.meas=q.meas) (e5:r.dropped=q.dropped):NA g n T r:=
 ⟨hI,by rw [e1];exact h.ch,by rw [e1];exact h.nc,by rw [Yua,e2];exact h.off,by rw [e3];exact h.time,by rw [e4];exact h.meas,by rw [Jfa,e5];exact h.drop⟩
def NA.settle (h:NA g n T q) (ht:T≤t∧t≤2147483648) (hI:Inv g r) (e1:r.sw=q.sw) (e2:r.cuts=q.cuts) (e3:r.time=q.time) (hm:∀x∈r.meas,x.time≤t) (hd:Jfa t r):NA g n t (Je g r t):=by have hgo:=U0a (g:=g) (p:=r) t;rw [e1] at hgo;have htt:r.time≤t∧t≤2147483648:=⟨by rw [e3,h.time];exact ht.1,ht.2⟩;exact ⟨hI.settle htt.1 htt.2,h.ch.go hgo,fun i hi=>((hgo.at_ i).opn (h.nc i hi)).1,Kzc (by rw [Yua,e2];exact h.off) t,Vy t,by rw [(V9 t).meas];exact hm,Kta hd⟩
def SH.settle (h:SH n q) (hn:NA g n T q) (e1:r.sw=q.sw):SH n (Je g r t):=fun i hi=>by
 have hgo:=U0a (g:=g) (p:=r) t
 rw [e1] at hgo
 rw [((hgo.at_ i).opn (hn.nc i hi)).2.2.1]
 exact h i hi
def NA.feed (h:NA g n T q) {bs:List Int} (hb:BytesOk bs) (hl:bs.length≤20) (ht:T + 1≤t∧t≤2147483648):NA g n t (Yda g q bs t).1:=by have htm:=h.time;rw [Yda,if_neg zM];exact h.settle za (h.inv.feedR hb t) rfl rfl rfl (Jjc bs fun x hx=>by have:=h.meas x hx;omega) (Z4c h.inv h.drop hb hl ht.1)
def Zpb (h:Jfa T q) (ht:T≤t):Jfa t q:=⟨h.1,by have:=h.2;omega⟩
def NA.ask (h:NA g n T q) (hs:SH n q) (ht:T≤t∧t≤2147483648) (a z:Int):NA g n t (U0c g q a z t).1∧SH n (U0c g q a z t).1:=by
 have htm:=h.time;have hI:=h.inv.ask a z t;have h1:=h.settle ht h.inv rfl rfl rfl (fun x hx=>by have:=h.meas x hx;omega) (Zpb h.drop ht.1);have h2:=hs.settle (g:=g) (t:=t) h rfl;have e:(U0c g q a z t).1.sw=(Je g q t).sw∧(U0c g q a z t).1.cuts=(Je g q t).cuts∧(U0c g q a z t).1.time=(Je g q t).time∧(U0c g q a z t).1.meas=(Je g q t).meas∧(U0c g q a z t).1.dropped=(Je g q t).dropped:=by rw [U0c,if_neg zM];generalize Je g q t=s;dsimp only;generalize askE g.site s.cuts (flP g s) s.rest a z t=e;split <;> exact ⟨rfl,rfl,rfl,rfl,rfl⟩
 exact ubg
def NA.confirm (h:NA g n T q) (hs:SH n q) (ht:T≤t∧t≤2147483648) (a:Int):NA g n t (Vb g q a t).1∧SH n (Vb g q a t).1:=by
 have htm:=h.time;have hI:=h.inv.confirm a t;have h1:=h.settle ht h.inv rfl rfl rfl (fun x hx=>by have:=h.meas x hx;omega) (Zpb h.drop ht.1);have h2:=hs.settle (g:=g) (t:=t) h rfl;have e:(Vb g q a t).1.sw=(Je g q t).sw∧(Vb g q a t).1.cuts=(Je g q t).cuts∧(Vb g q a t).1.time=(Je g q t).time∧(Vb g q a t).1.meas=(Je g q t).meas∧(Vb g q a t).1.dropped=(Je g q t).dropped:=by rw [Vb,if_neg zM];generalize Je g q t=s;dsimp only;generalize confirmE g.site s.cuts (flP g s) s.rest a t=e;split <;> exact ⟨rfl,rfl,rfl,rfl,rfl⟩
 exact ubg
def PA (g:PSite) (n:Nat) (T:Int) (q:PSta) (l:List Bool):Prop:=NA g n T q∧l.length=n
def PA.ans (h:PA g n T q pc) {i:Nat} (hi:i < n):PA g n T (Vsc g q i) pc:=by
 have hl:=h.1.ch.len;have he:Us q.sw g.zn g.rp (i:Int) (shB (q.sw.getD i default).closed)=0:=by rw [Us,if_neg (by rw [h.1.inv.fe];decide),if_neg za,if_neg];cases (q.sw.getD i default).closed <;> decide
 have h1:NA g n T (Kec q i):=⟨h.1.inv.ansSw he,⟨by show (Ud _ _ _).length=n;rw [U5b];exact hl,fun j hj=>by rw [Yqb];exact h.1.ch.above j hj⟩,fun j hj=>by rw [Jma];exact h.1.nc j hj,h.1.off,h.1.time,h.1.meas,h.1.drop⟩;refine ⟨?_,h.2⟩;rw [Vsc,h.1.time];have htm:=h.1.inv.time;rw [h.1.time] at htm;exact h1.settle ⟨yD _,htm.2⟩ h1.inv rfl rfl rfl h1.meas h1.drop
def SH.mat (h:NA g n T q) (hM:Mat n (List.replicate n false) pc q.sw):SH n q:=fun i hi=>by
 have:=(hM i hi (by rw [yh,yB];split <;> rfl)).1
 rw [this,h.nc i hi];rfl
def DC (g:PSite) (n:Nat) (q:PSta) (j:Nat):Prop:=(Stg g n q 0∧¬ Gd g q)∨(Stg g n q j∧(j < n→Gd g q))
structure JC (g:PSite) (n:Nat) (j:Nat) (p:PSta):Prop where
 inv:Inv g p
 time:p.time≤74
 c:DC g n (Je g p 74) j
 eq:0 < j→Je g p 74=p
 meas:∀x∈p.meas,x.time≤74
 drop:Jfa 74 p
structure PC (g:PSite) (n:Nat) (j:Nat) (q:PSta) (l:List Bool):Prop where
 c:(Stg g n q 0∧¬ Gd g q)∨MidG g n q j∨(Stg g n q (j + 1)∧(j + 1 < n→Gd g q))
 pl:l.length=n
 meas:∀x∈q.meas,x.time≤74
 drop:Jfa 74 q
def NA.begin (h:NA g n 73 q) (hs:SH n q) (hg:ChG g n):JC g n 0 q:=by
 have htm:=h.time;have h1:=h.settle (t:=74) ⟨by decide,by decide⟩ h.inv rfl rfl rfl (fun x hx=>by have:=h.meas x hx;omega) (Zpb h.drop ze);have h2:=hs.settle (g:=g) (t:=74) h rfl;have h3:Stg g n (Je g q 74) 0:={ inv:=h1.inv,ch:=h1.ch,time:=h1.time,set:=J7d h.inv (h.inv.c1 hg) ⟨by omega,by decide⟩,kn:=yT _,lo:=fun i hi=>by omega,hi:=fun i _ hi=>⟨h1.nc i hi,h2 i hi⟩,off:=fun _=>(Kvd h1.inv hg).2 h1.off,on_:=fun e=>by have:=hg.n1;omega };refine ⟨h.inv,by omega,?_,fun e=>by omega,fun x hx=>by have:=h.meas x hx;omega,Zpb h.drop ze⟩;rcases yca (Gd g (Je g q 74)) with h4 | h4;·exact .inr ⟨h3,fun _=>h4⟩
 ·exact .inl ⟨h3,h4⟩
def JC.close {j:Nat} (h:JC g n j p) (hg:ChG g n) (hj:j < n) (hl:pc.length=n):PC g n j (Ye g p 74).1 pc:=by
 have hlt:¬ V7 p 74:=by have:=h.time;rw [V7];omega
 have e:(Ye g p 74).1.meas=(Je g p 74).meas∧(Ye g p 74).1.dropped=(Je g p 74).dropped:=by rw [Ye,if_neg hlt];generalize Je g p 74=s;dsimp only;generalize Uk g.site s.cuts (flP g s) s.rest (mkF g s) 74=e;split <;> exact ⟨rfl,rfl⟩
 refine ⟨?_,hl,by rw [e.1,(V9 74).meas];exact h.meas,by rw [Jfa,e.2,(V9 74).dropped];exact h.drop⟩;rcases h.c with ⟨h1,h2⟩ | ⟨h1,h2⟩;·exact .inl (h1.bad hg h2 rfl hlt)
 ·exact .inr (.inl (h1.good hg hj (h2 hj) rfl hlt h.inv))
def PC.inv {j:Nat} (h:PC g n j q pc):Inv g q∧q.sw.length=n∧pc.length=n:=by
 rcases h.c with ⟨h1,_⟩ | h1 | ⟨h1,_⟩;·exact ⟨h1.inv,h1.ch.len,h.pl⟩
 ·exact ⟨h1.inv,h1.ch.len,h.pl⟩
 ·exact ⟨h1.inv,h1.ch.len,h.pl⟩
def Stg.calm {k i:Nat} (h:Stg g n q k) (hi:i < n):(q.sw.getD i default).shown=shB (q.sw.getD i default).closed:=by
 rcases yk i k with h1 | h1;·rw [(h.lo i h1).1,(h.lo i h1).2];rfl
 ·rw [(h.hi i h1 hi).1,(h.hi i h1 hi).2];rfl
def PC.ans {j i:Nat} (h:PC g n j q pc) (hg:ChG g n) (hi:i < n) (hm:(q.sw.getD i default).shown≠shB (q.sw.getD i default).closed):PC g n j (Vsc g q i) pc:=by
 refine ⟨?_,h.pl,by rw [Vsc,(V9 _).meas];exact h.meas,by rw [Vsc];exact Kta h.drop⟩;rcases h.c with ⟨h1,_⟩ | h1 | ⟨h1,_⟩;·exact absurd (h1.calm hi) hm
 ·
  have hij:i=j:=by
   rcases yXb i j with h2 | h2 | h2;·exact absurd (by rw [(h1.lo i h2).1,(h1.lo i h2).2];rfl) hm
   ·exact h2
   ·exact absurd (by rw [(h1.hi i h2 hi).1,(h1.hi i h2 hi).2];rfl) hm
  subst hij;have e:Vsc g q i=Je g { q with sw:=Ud q.sw (i:Int) 1 } 74:=by rw [Vsc,Kec,h1.at_.1,h1.time];rfl
  rw [e];exact .inr (.inr (h1.answer hg))
 ·exact absurd (h1.calm hi) hm
def PC.done {j:Nat} (h:PC g n j q pc) (hg:ChG g n) (hM:Mat n (List.replicate n false) pc q.sw):JC g n (j + 1) q:=by
 have rf:∀i:Nat,(List.replicate n false).getD i false=false:=fun i=>by rw [yh,yB];split <;> rfl
 rcases h.c with ⟨h1,h2⟩ | h1 | ⟨h1,h2⟩;·have e := h1.same hg;exact ⟨h1.inv,by rw [h1.time];decide,by rw [e];exact .inl ⟨h1,h2⟩,fun _=>e,h.meas,h.drop⟩
 ·have := (hM j h1.kn (rf j)).1;rw [h1.at_.1,h1.at_.2] at this;cases this
 ·have e := h1.same hg;exact ⟨h1.inv,by rw [h1.time];decide,by rw [e];exact .inr ⟨h1,h2⟩,fun _=>e,h.meas,h.drop⟩
def JC.all (h:JC g n n p) (hg:ChG g n) {st':List Bool} (hl:pc.length=n) (hM:Mat n (List.replicate n false) pc p.sw):∃v,PB g n st' v (-1) 74 p pc∧Mat n st' pc p.sw:=by
 have rf:∀i:Nat,(List.replicate n false).getD i false=false:=fun i=>by rw [yh,yB];split <;> rfl
 have hn:=hg.n1;have hc:=h.c;rw [h.eq za] at hc;have hk:∃k,Stg g n p k∧(k=0∨k=n):=by
  rcases hc with ⟨h1,_⟩ | ⟨h1,_⟩;·exact ⟨0,h1,.inl rfl⟩
  ·exact ⟨n,h1,.inr rfl⟩
 obtain ⟨k,hS,hk⟩:=hk;have hpc:∀i:Nat,i < n→pc.getD i false=(p.sw.getD i default).closed:=fun i hi=>(hM i hi (rf i)).2;have hcl:∀i:Nat,i < n→(p.sw.getD i default).closed=decide (k=n):=fun i hi=>by
  rcases hk with rfl | rfl;·rw [(hS.hi i (yT _) hi).1,decide_eq_false za]
  ·rw [(hS.lo i hi).1,decide_eq_true rfl]
 have hsw:=Ymb hS.inv.fe;have hsl:=hS.ch.len;refine ⟨decide (k=n),{ pw:={ inv:=hS.inv,ch:=hS.ch,up:=fun i hi h2=>?_,own:=fun ho=>?_,pl:=hl,s1:=fun i hi hs=>?_,s2:=fun i hi hs=>?_,s3:=fun i hi hs=>?_,s4:=fun i hi hs=>?_,s5:=fun i hi hs=>by rw [hpc i hi];exact hs,s6:=fun i hi _=>by rw [hpc i hi,hcl i hi] },time:=hS.time,t0:=by decide,jb:=.inl rfl,deaf:=fun e=>absurd e ze,meas:=fun x hx=>by have:=h.meas x hx;omega },fun i hi _=>⟨hS.calm hi,hpc i hi⟩⟩;·
  exfalso;rcases yk i n with hin | hin;·
   have h3 := (hsw i za).2;rcases yk i k with h4 | h4;·exact h3 ⟨hi,.inl (hS.lo i h4).1⟩
   ·exact h3 ⟨hi,.inr (hS.hi i h4 hin).2⟩
  ·rw [yh, yr za] at hi;cases hi
 ·
  rw [hg.own];rcases hk with rfl | rfl;·exact (hS.hi (n - 1) (yT _) za).1
  ·rw [hS.on_ rfl] at ho;cases ho
 ·rw [hpc i hi];have:=hS.calm hi;rw [hs] at this;exact (Vxc _).1.1 this.symm
 ·rw [hpc i hi];have:=hS.calm hi;rw [hs] at this;exact (Vxc _).2.1 this.symm
 ·have:=hS.calm hi;rw [hs] at this;exact (Vxc _).1.1 this.symm
 ·have:=hS.calm hi;rw [hs] at this;exact (Vxc _).2.1 this.symm
def Vve {S:List XSens} {m:List XMeas} (hs:S=[easySens]) (hl:m.length=1) (hm:∀x∈m,x.time≤95) (ht:156≤t):Deaf S m t:=fun i hi=>by
 subst hs
 obtain rfl:i=0:=by simp at hi;omega
 have hx:=hm _ (yj (Jw (l:=m) (k:=0) default za))
 show atS easySens _ t=_
 rw [atS,if_pos]
 exact .inr (.inr (.inr (.inr (by show (60:Int) < t - _;omega))))
end
def J5e {s:XSite} {len dl ho:Int} {f:XFeeder} {A:List Bool} {n:Nat} (hE:EasyD s len dl ho) (hN:EasyN f n) (hI:Inv (gOf s f A) (Yoc s f)):NA (gOf s f A) n 0 (Yoc s f):=by
 have hn:=hN.rng;have key:∀n,n=1∨n=2∨n=3→(Kub (Kga n)).length=n∧(∀i:Nat,i < n→((Kub (Kga n)).getD i default).above=(i:Int) - 1)∧∀i:Nat,i < n→((Kub (Kga n)).getD i default).closed=false:=by rintro n (rfl | rfl | rfl) <;> decide
 obtain ⟨h1,h2,h3⟩:=key n za;have e:(Yoc s f).sw=Kub (Kga n):=by show Kub f.switches.l=_;rw [hN.sw]
 refine ⟨hI,⟨by rw [e];exact h1,by rw [e];exact h2⟩,by rw [e];exact h3,fun c hc=>?_,rfl,fun x hx=>?_,by show (0:Int)≤0;decide,by show (0:Int)≤_;decide⟩;·rw [yVa (show c∈List.replicate s.zones.l.length ⟨true,-1,0⟩ from hc)]
 ·rw [yVa (show x∈List.replicate s.sensors.l.length V9b from hx)];decide
end
section
attribute [local irreducible] CJ LJ DJ Tri YV Gives U0 J3 Kj Uz RV J5 OwL.L
section
variable {A B:Prop}
def V7f(h:A→B:=by exact Jx zlb rfl):=h
end
def Yge (g : PSite) (n : Nat) (P : PSta → List Bool → Prop) (pc st : OwL Bool) (hP : ∀ q l, P q l → Inv g q ∧ q.sw.length = n ∧ l.length = n)
 (hset:∀q l (i:Nat),P q l→i < n→st.l.getD i false=false→P q (l.set i (q.sw.getD i default).closed))
 (hans:∀q l (i:Nat),P q l→i < n→st.l.getD i false=false→l.getD i false=(q.sw.getD i default).closed→(q.sw.getD i default).shown≠shB (q.sw.getD i default).closed→P (Vsc g q i) l)
 (q0:PSta) (x:XSta) (L:LB) (R:LS) (hpk:pc.ok 1 blc) (hsk:st.ok 1 blc) (hsl:st.l.length=n) (hn:n≤1000) (hx:StaIs g q0 x) (hR:StaR x R) (h0:P q0 pc.l):
 Tri Tryz.prog 17 [x.val, .agg #[pc.val, st.val]].toArray (pc.L 4 blc ++ (st.L 4 blc ++ L)) R
  (fun v M U=>∃(y:XSta) (q:PSta) (l:List Bool),v=y.val∧StaIs g q y∧StaR y U∧P q l∧Mat n st.l l q.sw∧(∀r∈R,InR r U)∧(⟨pc.o,l⟩:OwL Bool).ok 1 blc∧(⟨pc.o,l⟩:OwL Bool).L 4 blc ++ (st.L 4 blc ++ L)=M):=by
 have hpn:=(hP _ _ h0).2.2;refine Jj 70 Tryz.call17 Tryz.func17 rfl rfl rfl ?_;apply (Xaf);intro b2;apply (qax);intro b3;apply (qaq);intro b4;apply qaw∘Xcc;refine Jp [(2,.pointer _),(3,.pointer _),(4,.pointer _),(5,.int _ _)] zh fun tq0=>?_;refine q_p (rg 5 64) ((⟨fun u=>[(5,.int .i64 ((u.1.1:Nat):Int))],fun u=>⟨b4,staZ.cells,54⟩ :: ⟨b3,[.slice pc.o.addr pc.l.length pc.o.cap,.slice st.o.addr st.l.length st.o.cap],60⟩ :: ⟨b2,u.1.2.2.1.cells,54⟩ :: ((⟨pc.o,u.1.2.2.2.1⟩:OwL Bool).L 4 blc ++ (st.L 4 blc ++ L)),fun u=>u.1.2.2.2.2,fun u=>2 * n + 2 - u.1.1⟩:Head {u:Nat×PSta×XSta×List Bool×LS // ObI g P n R st.l u.1 u.2.1 u.2.2.1 u.2.2.2.1 u.2.2.2.2})) (⟨(0,q0,x,pc.l,R),⟨hx,hR,fun r hr=>Ja hr,h0,by dsimp only;exact Kaf n⟩⟩) ?_;rintro ⟨⟨j,q1,y1,l1,S1⟩,hO⟩ junk;try dsimp only
 dsimp only at hO;have hms:=hO.ms;have hp1:=hP _ _ hO.p;apply Xb1∘Xab∘qcm∘qar∘Xbm;refine q_c ?_ ?_<;>intro hc0;·
  apply qbb∘qaz∘qaw∘Xaw;refine Y6 (rg 5 64) zI [(5,.int _ _),(6,.bool _),(21,.int _ _),(22,.int _ _)] zh fun tq1=>?_;refine q_p ([6,7,8,9]++rg 22 44) ((⟨fun u=>[(22,.int .i64 ((u.1.1:Nat):Int)),(6,.bool u.1.2.1)],fun u=>⟨b4,staZ.cells,54⟩ :: ⟨b3,[.slice pc.o.addr pc.l.length pc.o.cap,.slice st.o.addr st.l.length st.o.cap],60⟩ :: ⟨b2,u.1.2.2.2.1.cells,54⟩ :: ((⟨pc.o,u.1.2.2.2.2.1⟩:OwL Bool).L 4 blc ++ (st.L 4 blc ++ L)),fun u=>u.1.2.2.2.2.2,fun u=>n - u.1.1⟩:Head {u:Nat×Bool×PSta×XSta×List Bool×LS // ObJ g P n R st.l q1 u.1 u.2.1 u.2.2.1 u.2.2.2.1 u.2.2.2.2.1 u.2.2.2.2.2})) (⟨(0,false,q1,y1,l1,S1),⟨yT _,hO.is,hO.at_,hO.sub,hO.p,(fun h=>by cases h),fun _=>⟨rfl,fun j hj=>by omega⟩⟩⟩) ?_;rintro ⟨⟨i,ch,q,y,l,S⟩,hJ⟩ junk;try dsimp only
  dsimp only at hJ;have hil:=hJ.il;obtain ⟨hIq,hsw,hll⟩:=hP _ _ hJ.p;have hll:l.length=pc.l.length:=by omega
  have hlk:(⟨pc.o,l⟩:OwL Bool).ok 1 blc:=OwL.len_ok Zl hpk hll;have hysw:=hJ.is.sw;have hyn:y.feeder.switches.l.length=n:=by rw [hysw];exact hsw
  have hswR:=hJ.at_.feeder.sw;apply (Xak);refine q_c ?_ ?_<;>intro hc1;·
   have hsg:=Jw (l:=st.l) (k:=i) false za;(have hyg:y.feeder.switches.l[i]?=some (q.sw.getD i default):=by rw [hysw];exact Jw (l:=q.sw) (k:=i) default za);have hlg:=Jw (l:=l) (k:=i) false za;apply Xa0∘Xb2∘Xb6∘qbz∘qah;apply J9 (G:=[_,_,_,_,_]) (j:=6) (cj:=31) rfl rfl zb rfl zfb rfl;·intro hg7;replace hg7:=qb hg7;apply (Xam);refine Jx (Jv tb (st) _ rfl rfl rfl rfl zg (i:=i) zk zu) rfl ?_;refine Jx (Kc tb (st) rfl rfl rfl zj zg yf zg zb) rfl ?_;exact qai
   intro junk7;apply (qaf);refine q_c ?_ ?_<;>intro hc2;·refine Ug (Kw (Kd (Jc (Jh ?_))));apply (Xae);exact q_k ⟨(i + 1,ch,q,y,l,S),hJ.skip za (by rcases hc2 with h | h;(exfalso;omega);exact h)⟩
   have hst:st.l.getD i false=false:=by
    have:=hc2;cases hs:st.l.getD i false with
    | false=>rfl
    | true=>simp_all
   have hps:=hset q l i hJ.p za hst;apply qbv∘qab∘Xam;refine Jx zva rfl ?_;apply (Xdg);intro b8;apply Xay∘Xam∘Xaa;refine Jx (Jv tb ((⟨pc.o,l⟩:OwL Bool)) _ rfl rfl ((show _=Value.slice _ _ _ from rfl).trans (by simp only [OwL.val,hll])) rfl zg (i:=i) zk zu) rfl ?_;refine Ym (Js tb ((⟨pc.o,l⟩:OwL Bool)) ((q.sw.getD i default).closed) rfl rfl rfl rfl zj zg yf zg ze zb zb) ?_;rintro v M U ⟨rfl,rfl⟩;apply qam∘Xap∘Xaa∘qaf;refine Kha [9] ((⟨fun u=>[(9,.int .i64 u.1)],fun _=>⟨b8,(q.sw.getD i default).cells,76⟩ :: ⟨b4,staZ.cells,54⟩ :: ⟨b3,[.slice pc.o.addr pc.l.length pc.o.cap,.slice st.o.addr st.l.length st.o.cap],60⟩ :: ⟨b2,y.cells,54⟩ :: ((⟨pc.o,l.set i (q.sw.getD i default).closed⟩:OwL Bool).L 4 blc ++ (st.L 4 blc ++ L)),fun _=>S,fun _=>0⟩:Head {u:Int // u=shB (q.sw.getD i default).closed})) ?_ ?_;·
    skip
    refine q_c ?_ ?_<;>intro hc3;·apply qay∘Xbf;exact q_j ⟨1,by rw [hc3];rfl⟩
    refine Ka ?_;exact q_j ⟨-1,by have h3:(q.sw.getD i default).closed=false:=zV;rw [h3];rfl⟩
   rintro ⟨u,hu⟩ junk;(try dsimp only);apply qae∘Xam∘Xao;refine q_c ?_ ?_<;>intro hc4;·(have hm:(q.sw.getD i default).shown≠shB (q.sw.getD i default).closed:=by rw [← hu];exact hc4);have hyt:=hJ.is.time;apply qae∘V7f∘Xbg∘Xaa;refine Jy rfl (J0b g q y (i:Int) u y.time _ _ hIq hJ.is hJ.at_) rfl ?_;rintro v M U ⟨z,S2,rfl,hz,hzR,rfl,rfl⟩;rw [hu,hyt,U4e hIq za] at hz ⊢;(have hgi:(l.set i (q.sw.getD i default).closed).getD i false=(q.sw.getD i default).closed:=by rw [Uh,if_pos ⟨rfl,by omega⟩]);refine Jx zCb rfl ?_;apply Xa3∘qak;refine J6 (Jc (Jh ?_));apply qaz∘Xa7;exact q_k ⟨(i + 1,true,Vsc g q i,z,l.set i (q.sw.getD i default).closed,S2 ++ S),hJ.ans za hst hsw hm (hans q _ i hps za hst hgi hm) hz hzR (fun r hr=>Ja (yi _ hr))⟩
   apply (Xax);exact q_k ⟨(i + 1,ch,q,y,l.set i (q.sw.getD i default).closed,S),hJ.calm za za hps (by rw [← hu];exact Decidable.not_not.1 hc4)⟩
  obtain rfl:i=n:=by omega
  apply qbk∘qah∘Xbb;refine q_c ?_ ?_<;>intro hc5;·apply qae∘V7f∘qak∘qbt;refine q_r ((⟨pc.o,l⟩:OwL Bool).L 4 blc ++ (st.L 4 blc ++ L)) S (Yc rfl zib) ?_;have hno:=hJ.no (by simpa using hc5);exact ⟨y,q,l,rfl,hJ.is,hJ.at_,hJ.p,fun j hj hs=>hno.2 j hj hs,hJ.sub,hlk,rfl⟩
  have hch:ch=true:=by simpa using hc5
  have hlt:=hJ.yes hch;apply qbj∘Xdf;exact q_k ⟨(j + 1,q,y,l,S),⟨hJ.is,hJ.at_,hJ.sub,hJ.p,by dsimp only;omega⟩⟩
 (exfalso;omega)
end
end Go.Proofs.YtchfclmokpbldaaGreat
section
/-
  Rounds of a range over a function: regions that draw their order. No program is named here. By an AI agent; no person has read it.
-/
namespace Go.Aw
open Go
def Kmf {P : Program} (tb : Tabs P) {n : Nat} {ops : List Oper} {t : Nat → Value} {L : LB} {R : LS} {Q : Kt} (late plan p2 : List Nat) (Lc Lc2 : LB) (hB : (Vya tb n ops.toArray (plan ++ p2) && zOk late ops.toArray plan p2) = true) (hLc : Lc.Sublist L) (hL2 : Lc2.Sublist Lc)
 (h:DJ3 P tb n ops.toArray late Lc Lc2 (fun _ t L R=>DJ P tb n ops.toArray Lc2 Q (Yn ops p2) t L R) (Yn ops plan) t L R) {c:Ctx} {a:Act} {w:World} (hf:Fr n t a) (hs:St c L R w):
 wpAny P .any ops.toArray (Ysa n c Q) ops.toArray.size (Array.replicate ops.toArray.size false) a { w with drawn:=w.drawn + 1 }:=by
 simp only [yn] at hB;obtain ⟨hB,hz⟩:=hB;simp only [Vya,yn] at hB;obtain ⟨⟨⟨⟨h1,h2⟩,h3⟩,h4⟩,h5⟩:=hB;have hlt:∀i∈plan ++ p2,i < ops.length:=fun i hi=>by simpa using List.all_eq_true.1 h5 i hi
 refine Uea (S:=St c Lc R) (S2:=St c Lc2 R) (p2:=p2) _ _ _ _ ?_;exact uac
def K1c {P:Program} {ops:Array Oper} {l m:Nat} {md:Region.Mode} {Q:Exit→Act→World→Prop} (hQ:¬ LetsOut Q) (hd:∀(i:Nat) (o:Oper),ops[i]?=some o→∀c,o.op≠.defer c):
 ∀(fuel:Nat) (listed:Array Bool) (a:Act) (w:World),wpAny P md ops Q fuel listed a w→wpAnyIn (Fence.wide.inRound l) m P md ops Q fuel listed a w
 | 0,_,_,_,h=>h
 | fuel + 1,listed,a,w,h=>by
  refine ⟨h.1,fun i hi=>?_⟩
  have h2:=h.2 i hi
  have ih:=K1c (P:=P) (ops:=ops) (l:=l) (m:=m) (md:=md) hQ hd fuel (listed.setIfInBounds i true)
  unfold wpOp at h2
  unfold wpOpIn
  cases ho:ops[i]? with
  | none=>simp only [ho] at h2 ⊢;exact ih _ _ h2
  | some o=>
   simp only [ho] at h2 ⊢
   split at h2
   ·rename_i hw
    rw [if_pos hw]
    rcases h2 with h2 | h2
    ·refine ⟨fun _ _ => trivial, ?_⟩
     rw [Oper.semAt_eq _ _ _ (hd i o ho)]
     exact Zvc ih _ h2
    ·exact absurd h2.2 hQ
   ·rename_i hw
    rw [if_neg hw]
    exact ⟨fun _ _=>trivial,ih _ _ h2⟩
def At2.roundD {w0 : World} {Lc : LB} {G : Nat → Prop} {R : LS} {D : Nat} {od ol : Obj} {M : LB} {W : World} (hh : Holds Lc G R w0) (hd : NoCells od) (hl : NoCells ol) (h : At2 w0 Lc G R D od ol M W)
 {P:Program} (tb:Tabs P) {n m id l:Nat} {ops:List Oper} {t:Nat→Value} {a:Act} {Q:Kt} {Q':Exit→Act→World→Prop} (hf:Fr n t a) (hdf:∀o∈ops,∀c,o.op≠.defer c) (late plan p2:List Nat) (Lr Lr2:LB) (hm:P.follows .mixedOrders=true) (hB:(Vya tb n ops.toArray (plan ++ p2) && zOk late ops.toArray plan p2)=true) (hLr:Lr.Sublist M) (hL2:Lr2.Sublist Lr)
 (hw:DJ3 P tb n ops.toArray late Lr Lr2 (fun _ t L R=>DJ P tb n ops.toArray Lr2 Q (Yn ops p2) t L R) (Yn ops plan) t M R) (hno:∀t L R,¬ Q .outgrown t L R)
 (k:∀e a' W' t' L'' R'',Q e t' L'' R''→Fr n t' a'→At2 w0 Lc G R D od ol L'' W'→Q' e a' W'):(Code.region id ops.toArray true).wpIn (Fence.wide.inRound l) m P Q' a W:=by
 have hW:=h.st.fixG hh;have hwp:=Kmf tb late plan p2 Lr Lr2 hB hLr hL2 hw hf (St.init hW);refine yWb ?_ (wpIn_region_any hm (K1c (l:=l) (m:=m) ?_ (fun i o ho=>hdf o (by have:=yj (l:=ops) (i:=i) (by simpa using ho);exact this)) _ _ _ _ hwp));·rintro e a' W' ⟨_, t', L'', R'', hq, hf', hs'⟩;exact zRd
 ·rintro ⟨a', W', _, t', L'', R'', hq, _⟩;exact hno _ _ _ hq
def K3e {P : Program} {n m : Nat} {cd : Code} {t : Nat → Value} {c : Ctx} {L : LB} {R : LS} {Q : Kt} {Q' : Exit → Act → World → Prop} {a : Act} {w : World} (hf : Fr n t a) (hs : St c L R w) (hw : CJ P n cd t L R Q)
 (k:∀e a' W' t' L'' R'',Q e t' L'' R''→Fr n t' a'→St c L'' R'' W'→Q' e a' W'):cd.wpIn Fence.wide m P Q' a w:=by refine yWb ?_ (wpIn_wide.2 (hw c a w hf hs));rintro e a' W' ⟨_,t',L'',R'',hq,hf',hs'⟩;exact k e a' W' t' L'' R'' hq hf' hs'
def At2.of {L M:LB} {G:Nat→Prop} {R:LS} {w:World} (hh:Holds L G R w) (hp:L.Perm M) {od ol:Obj} (hd:NoCells od) (hl:NoCells ol):At2 w L G R w.heap.size od ol M ((w.alloc od).alloc ol):=by
 refine ⟨(((St.init hh).perm hp).allocO hd).allocO hl,?_,?_⟩;·exact (U2d _ _ _ zo).trans (World.alloc_heap_new w _)
 ·have := World.alloc_heap_new (w.alloc od) ol;rwa [World.size_alloc] at this
def Z6f {P : Program} {m : Nat} {all : Array Oper} {Q : Exit → Act → World → Prop} {rest : List Oper} {t : Nat → Value} {a : Act} {w : World} {c : Ctx} {L : LB} {R : LS} {d : Tmp} {op : Op} {ty : TypeId} {pos : String} {after : Array Edge} {v : Value}
 (he:a.eval=ev t) (hs:St c L R w) (hv:YV P ⟨some d,op,ty,pos,after,none⟩ (ev t) L R v) (k:wpListIn Fence.wide m P all Q rest (a.put (some d) v) w):wpListIn Fence.wide m P all Q (⟨some d,op,ty,pos,after,none⟩ :: rest) a w:=by unfold wpListIn;rw [if_pos zb];refine ⟨fun _ _=>trivial,?_⟩;rw [show Fence.wide.round=none from rfl,Oper.semAt_none];rw [he,hv c w hs];exact k
end Go.Aw
end
namespace Go.Proofs.YtchfclmokpbldaaGreat
open Go.Aw Go
end Go.Proofs.YtchfclmokpbldaaGreat
