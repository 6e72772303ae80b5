/-
  Merged texts. By an AI agent.
-/
import Derived.Test.YtchfclmokpbldaaGreatEasy
import Derived.Test.YtchfclmokpbldaaGreatOwn
import Derived.RangeFuncRecord
import Derived.RangeFuncSeq
set_option linter.all false
set_option maxHeartbeats 4000000
set_option maxRecDepth 20000
namespace Go.Proofs.YtchfclmokpbldaaGreat
open Go.Aw Go
section
attribute [local irreducible] CJ LJ DJ Tri YV Gives U0 J3 Kj Uz RV J5 OwL.L
section
variable {A B:Prop}
def Zif(h:A→B:=by exact Jx (Jv tb ((⟨.own b68 f.switches.l.length [],q⟩:OwL Bool)) _ rfl rfl ((show _=Value.slice _ _ _ from rfl).trans (Uq hql)) rfl zg (i:=(f.zones.l.getD i 0).toNat) zk zu) rfl):=h
end
structure FeederR (f:XFeeder) (R:LS):Prop where
 sw:InR (Vcb f.switches) R
 zn:InR (isl f.zones) R
def FeederR.mono {f:XFeeder} {R U:LS} (h:FeederR f R) (k:∀r∈R,InR r U):FeederR f U:=⟨h.sw.mono k,h.zn.mono k⟩
def U6a (l:List XSwitch) (i:Nat):Option Int:=
 if (l.getD i default).above < -1∨(i:Int)≤(l.getD i default).above then some 16
 else if (l.getD i default).since < 0∨2147483648 < (l.getD i default).since then some 8
 else if ((l.getD i default).shown < -1∨1 < (l.getD i default).shown)∨(l.getD i default).late=true∧((l.getD i default).closed=true∨(l.getD i default).shown= -1) then some 10 else none
def Zua (n:Nat) (z:List Int) (i:Nat):Option Int:=
 if z.getD i 0 < 0∨(n:Int)≤z.getD i 0 then some 16 else if∃k:Nat,k < i∧z.getD k 0=z.getD i 0 then some 17 else none
def feedE (sw:List XSwitch) (zn:List Int) (rp:Int):Int:=
 if 32 < sw.length∨16 < zn.length then 2
 else match (List.range sw.length).findSome? (U6a sw) with
  | some e=>e
  | none=>match (List.range zn.length).findSome? (Zua sw.length zn) with
   | some e=>e
   | none=>if rp < 1∨100000 < rp then 1 else 0
def J6b {sw:List XSwitch} {zn:List Int} {rp e:Int} (h0:¬ (32 < sw.length∨16 < zn.length)) (h:(List.range sw.length).findSome? (U6a sw)=some e):feedE sw zn rp=e:=by rw [feedE,if_neg h0,h]
def Vic {sw:List XSwitch} {zn:List Int} {rp e:Int} (h0:¬ (32 < sw.length∨16 < zn.length)) (h1:(List.range sw.length).findSome? (U6a sw)=none) (h:(List.range zn.length).findSome? (Zua sw.length zn)=some e):feedE sw zn rp=e:=by rw [feedE,if_neg h0,h1,h]
def Vxb {sw:List XSwitch} {zn:List Int} {rp:Int} (h0:¬ (32 < sw.length∨16 < zn.length)) (h1:(List.range sw.length).findSome? (U6a sw)=none) (h2:(List.range zn.length).findSome? (Zua sw.length zn)=none):feedE sw zn rp=if rp < 1∨100000 < rp then 1 else 0:=by rw [feedE,if_neg h0,h1,h2]
def Vpe {l:List XSwitch} {i:Nat} {x:XSwitch} (hx:x=l.getD i default) (h1:¬ (x.above < -1∨(i:Int)≤x.above)) (h2:¬ (x.since < 0∨2147483648 < x.since)) (h3:¬ ((x.shown < -1∨1 < x.shown)∨x.late=true∧(x.closed=true∨x.shown= -1))):U6a l i=none:=by rw [U6a,← hx,if_neg h1,if_neg h2,if_neg h3]
def Zee {l:List XSwitch} {i:Nat} {x:XSwitch} (hx:x=l.getD i default) (h1:x.above < -1∨(i:Int)≤x.above):U6a l i=some 16:=by rw [U6a,← hx,if_pos h1]
def K6f {l:List XSwitch} {i:Nat} {x:XSwitch} (hx:x=l.getD i default) (h1:¬ (x.above < -1∨(i:Int)≤x.above)) (h2:x.since < 0∨2147483648 < x.since):U6a l i=some 8:=by rw [U6a,← hx,if_neg h1,if_pos h2]
def Yle {l:List XSwitch} {i:Nat} {x:XSwitch} (hx:x=l.getD i default) (h1:¬ (x.above < -1∨(i:Int)≤x.above)) (h2:¬ (x.since < 0∨2147483648 < x.since)) (h3:(x.shown < -1∨1 < x.shown)∨x.late=true∧(x.closed=true∨x.shown= -1)):U6a l i=some 10:=by rw [U6a,← hx,if_neg h1,if_neg h2,if_pos h3]
def Z3e {n:Nat} {z:List Int} {i:Nat} (h:z.getD i 0 < 0∨(n:Int)≤z.getD i 0):Zua n z i=some 16:=by rw [Zua,if_pos h]
def Juf {n:Nat} {z:List Int} {i:Nat} (h:¬ (z.getD i 0 < 0∨(n:Int)≤z.getD i 0)) (h2:∃k:Nat,k < i∧z.getD k 0=z.getD i 0):Zua n z i=some 17:=by rw [Zua,if_neg h,if_pos h2]
def U7e {n:Nat} {z:List Int} {i:Nat} (h:¬ (z.getD i 0 < 0∨(n:Int)≤z.getD i 0)) (h2:¬∃k:Nat,k < i∧z.getD k 0=z.getD i 0):Zua n z i=none:=by rw [Zua,if_neg h,if_neg h2]
structure Took (n:Nat) (z:List Int) (i:Nat) (l:List Bool):Prop where
 len:l.length=n
 iff:∀j:Nat,j < n→(l.getD j false=true↔∃k:Nat,k < i∧z.getD k 0=(j:Int))
def Took.zero {n:Nat} {z:List Int}:Took n z 0 (List.replicate n false):=⟨by simp,fun j hj=>by
 rw [yh,yB,if_pos hj]
 exact ⟨fun h=>zC,fun ⟨k,hk,_⟩=>za⟩⟩
def Took.next {n:Nat} {z:List Int} {i:Nat} {l:List Bool} (h:Took n z i l) (h0:0≤z.getD i 0∧z.getD i 0 < n):Took n z (i + 1) (l.set (z.getD i 0).toNat true):=by
 have hl:=h.len;refine ⟨by simp [hl],fun j hj=>?_⟩;rw [yh,yK];split;·rename_i e;rw [if_pos za];exact ⟨fun _=>⟨i,by omega,by omega⟩,fun _=>rfl⟩
 ·
  rename_i e;have:=h.iff j hj;rw [yh] at this;rw [this];constructor;·rintro ⟨k,k1,k2⟩;exact ⟨k,by omega,k2⟩
  ·
   rintro ⟨k, k1, k2⟩;rcases yk k i with hk | hk;·exact ⟨k,hk,k2⟩
   ·(obtain rfl : k = i := by omega);omega
def Vg (f:XFeeder) (L:LB) (R:LS) (hf:FeederR f R):
 Tri Tryz.prog 75 [f.val].toArray L R (fun v M U=>v=.int .i64 (feedE f.switches.l f.zones.l f.reply)∧L=M∧R=U):=by
 have hsR:=hf.sw;have hzR:=hf.zn;refine Zba Tryz.call75 hsR fun hcap=>?_;refine Zba Tryz.call75 hzR fun hcap2=>?_;refine Jj 101 Tryz.call75 Tryz.func75 rfl rfl rfl ?_;apply (Xaf);intro b1;apply Xap∘Xcp∘qah;apply J9 (G:=[_,_,_,_]) (j:=4) (cj:=12) rfl rfl zb rfl zfb rfl;·exact ztd
 intro junk5;apply (qaf);refine q_c ?_ ?_<;>intro hc0;·apply (Xa6);refine q_i L R ?_;exact ⟨by rw [feedE,if_pos za],rfl,rfl⟩
 have h0:¬ (32 < f.switches.l.length∨16 < f.zones.l.length):=by omega
 apply (Xco);refine Jp [(1,.pointer _),(19,.slice _ _ _),(20,.int _ _),(21,.int _ _)] zh fun tq0=>?_;refine q_s ([2,3,4]++rg 21 44) (fun g:FSR (U6a f.switches.l) (f.switches.l.length)=>[(21,.int .i64 ((g.1:Nat):Int))]) (fun g=>(f.switches.l.length) - g.1) ⟨0,Kna _ _⟩ ?_;rintro ⟨k0,hk0,hp0⟩ junk;try dsimp only
 apply (Xak);refine q_c ?_ ?_<;>intro hc1;·
  have hxg:=Jw (l:=f.switches.l) (k:=k0) default za;obtain ⟨x,hx⟩:∃x,x=f.switches.l.getD k0 default:=⟨_,rfl⟩;rw [← hx] at hxg;apply (Xa0);refine Jx zaa rfl ?_;apply (Xdg);intro b4;apply qad∘Xa8∘Xbc;apply J9 (G:=[_,_,_,_]) (j:=3) (cj:=29) rfl rfl zb rfl zfb rfl;·exact ubh
  intro junk4;apply (qaf);refine q_c ?_ ?_<;>intro hc2;·apply (Xcu);refine q_i L R ?_;exact ⟨by rw [J6b h0 (Yb hp0 za (Zee hx za))],rfl,rfl⟩
  apply qbo∘Xbc;apply J9 (G:=[_,_,_]) (j:=3) (cj:=38) rfl rfl zb rfl zfb rfl;·exact zcd
  intro junk4;apply (qaf);refine q_c ?_ ?_<;>intro hc3;·apply (Xcu);refine q_i L R ?_;exact ⟨by rw [J6b h0 (Yb hp0 za (K6f hx za za))],rfl,rfl⟩
  apply qbv∘Xbc;apply J9 (G:=[_,_,_]) (j:=3) (cj:=46) rfl rfl zb rfl zfb rfl;·exact zcd
  intro junk4;apply (qah);apply J9 (G:=[_,_,_,_,_,_,_,_,_,_,_]) (j:=8) (cj:=51) rfl rfl zb rfl zfb rfl;·
   intro hg9;replace hg9:=qb hg9;apply Xaa∘qah;apply Ui (G:=[_,_,_,_,_,_,_]) (j:=11) (cj:=54) rfl rfl zb rfl zfb rfl;·
    intro hg12;replace hg12:=qb hg12;apply Xaa∘qah;apply J9 (G:=[_,_,_]) (j:=14) (cj:=57) rfl rfl zb rfl zfb rfl;·intro hg15;replace hg15:=qb hg15;exact (Xbj) qai
    intro junk15;exact qai
   intro junk12;exact qai
  intro junk9;apply (qaf);refine q_c ?_ ?_<;>intro hc4;·apply (Xby);refine q_i L R ?_;exact ⟨by rw [J6b h0 (Yb hp0 za (Yle hx za za zS))],rfl,rfl⟩
  apply (Xax);exact q_k ⟨k0 + 1,Zk hp0 za (Vpe hx za za (by cases hl:x.late <;> simp [hl] at hc4 ⊢ <;> first | exact hc4 | omega))⟩
 have hn0:=J0a hp0 za;apply qbk∘Xab∘qc7;rintro v M U ⟨b68,rfl,rfl,hR68⟩;replace hR68:=hR68.symm;subst hR68;apply Xb0∘Xaw;refine Jp [(1,.pointer _),(5,.slice _ _ _),(70,.slice _ _ _),(71,.int _ _),(72,.int _ _)] zh fun tq1=>?_;refine Vf zVb ?_;refine q_p ([2,7]++rg 72 21) ((⟨fun g=>[(72,.int .i64 ((g.1.1:Nat):Int))],fun g=>(⟨.own b68 f.switches.l.length [],g.1.2⟩:OwL Bool).L 4 blc ++ (⟨b1,f.cells,42⟩ :: L),fun _=>R,fun g=>f.zones.l.length - g.1.1⟩:Head {g:Nat×List Bool // (g.1≤f.zones.l.length∧(List.range f.zones.l.length).findSome? (Zua f.switches.l.length f.zones.l)=((List.range f.zones.l.length).drop g.1).findSome? (Zua f.switches.l.length f.zones.l))∧Took f.switches.l.length f.zones.l g.1 g.2})) (⟨(0,List.replicate f.switches.l.length false),Kna _ _,Took.zero⟩) ?_;rintro ⟨⟨i,q⟩,⟨hi,hp⟩,hq⟩ junk;try dsimp only
 dsimp only at hi hp hq;have hql:=hq.len;have hqk:(⟨.own b68 f.switches.l.length [],q⟩:OwL Bool).ok 1 blc:=by have:=Yr (f:=blc) (wd:=1) (b:=b68) (n:=f.switches.l.length) (x:=false) Zl zE;exact OwL.len_ok Zl this (by simp;exact hql)
 apply (Xak);refine q_c ?_ ?_<;>intro hc5;·
  have hzg:=Jw (l:=f.zones.l) (k:=i) 0 za;apply (qbb);refine Jx zva rfl ?_;apply qa7∘Xb2∘Xav;apply J9 (G:=[_,_,_,_,_]) (j:=2) (cj:=78) rfl rfl zb rfl zfb rfl;·exact zbe
  intro junk3;apply (qaf);refine q_c ?_ ?_<;>intro hc6;·apply (Xcu);refine q_i L R ?_;exact ⟨by rw [Vic h0 hn0 (Yb hp za (Z3e za))],rfl,rfl⟩
  have hbg:=Jw (l:=q) (k:=(f.zones.l.getD i 0).toNat) false za;have hbi:=hq.iff (f.zones.l.getD i 0).toNat za;have hcast:(((f.zones.l.getD i 0).toNat:Nat):Int)=f.zones.l.getD i 0:=by omega
  rw [hcast] at hbi;apply qbo∘Xat∘Zif;refine Jx (Kc tb ((⟨.own b68 f.switches.l.length [],q⟩:OwL Bool)) rfl rfl rfl zj zg yf zg zb) rfl ?_;apply (qaf);refine q_c ?_ ?_<;>intro hc7;·apply (Xcu);refine q_i L R ?_;exact ⟨by rw [Vic h0 hn0 (Yb hp za (Juf za (hbi.1 (by simpa using hc7))))],rfl,rfl⟩
  refine Ka (Jc (Jh ?_));apply Xat∘Zif;refine Ym (Js tb ((⟨.own b68 f.switches.l.length [],q⟩:OwL Bool)) (true) rfl rfl rfl rfl zj zg yf zg ze zb zb) ?_;rintro v M U ⟨rfl,rfl⟩;apply (Xa7);exact q_k ⟨(i + 1,q.set (f.zones.l.getD i 0).toNat true),Zk hp za (U7e za (fun h=>by rw [hbi.2 h] at hc7;cases hc7)),hq.next za⟩
 have hnz:=J0a hp za;apply qcf∘Xbc;apply J9 (G:=[_,_,_]) (j:=3) (cj:=96) rfl rfl zb rfl zfb rfl;·exact zcd
 intro junk4;apply (qaf);refine q_c ?_ ?_<;>intro hc8;·apply (Xa6);refine q_i L R ?_;exact ⟨by rw [Vxb h0 hn0 hnz,if_pos za],rfl,rfl⟩
 apply (Xcf);refine q_i L R ?_;exact ⟨by rw [Vxb h0 hn0 hnz,if_neg za],rfl,rfl⟩
end
end Go.Proofs.YtchfclmokpbldaaGreat
section
/-
  Rounds of a range over a function: the regions of a round's frame, from the walks of plain regions; what a turn of the loop's record leaves alone. No program is named here. By an AI agent; no person has read it.
-/
namespace Go.Aw
open Go
def Zvc {P:Program} {o:Oper} {l m:Nat} {a:Act} {next next':Act→World→Prop} {Q:Exit→Act→World→Prop} (hn:∀a w,next a w→next' a w):
 ∀r,o.upon P a next Q r→o.uponIn (Fence.wide.inRound l) m P a next' Q r:=by
 intro r h;cases r with
 | ok x w'=>
  cases x with
  | value v=>exact hn _ _ h
  | skip=>exact hn _ _ h
  | defer d=>exact hn _ _ h
  | enter f args=>
   refine ⟨fun h=>zC,?_⟩;have h1:CallsIn Fence.wide (m - 1) P f args w' _:=callsIn_wide.2 h;refine CallsIn.mono (F:=Fence.wide.inRound l) (show CallsIn (Fence.wide.inRound l) (m - 1) P f args w' _ from h1) ?_;intro e w'' he;cases e with
   | returned v=>exact hn _ _ he
   | panicked c=>exact he
   | outgrown=>exact he
  | row row args=>refine ⟨fun h=>zC,fun c cs hr=>?_⟩;obtain ⟨v,w'',hv,hs⟩:=h c cs;exact ⟨v,w'',hn _ _ hv,stepsIn_wide.2 hs⟩
  | _=>exact h.elim
 | halt e w'=>
  cases e with
  | panic v=>exact h
  | _=>exact h.elim
def Zzb {P:Program} {all:Array Oper} {l m:Nat} {Q:Exit→Act→World→Prop} (hQ:¬ LetsOut Q):
 ∀(ops:List Oper),(∀o∈ops,∀c,o.op≠.defer c)→∀a w,wpList P all Q ops a w→wpListIn (Fence.wide.inRound l) m P all Q ops a w
 | [],_,a,w,h=>h
 | o :: ops,hd,a,w,h=>by
  have ih:=Zzb (P:=P) (all:=all) (l:=l) (m:=m) hQ ops (fun o ho=>hd o (yS _ ho))
  unfold wpList at h
  unfold wpListIn
  by_cases hw:Region.wanted o (yielded all a.tmps)=true
  ·rw [if_pos hw] at h ⊢
   rcases h with h | h
   ·refine ⟨fun _ _ => trivial, ?_⟩
    rw [Oper.semAt_eq _ _ _ (hd o yQa)]
    exact Zvc ih _ h
   ·exact absurd h.2 hQ
  ·rw [if_neg hw] at h ⊢
   exact ⟨fun _ _=>trivial,ih _ _ h⟩
def St.fixG {w0:World} {Lc:LB} {G:Nat→Prop} {R:LS} {M:LB} {U:LS} {W:World} (hh:Holds Lc G R w0) (h:St ⟨w0,inL Lc,G⟩ M U W):Holds M G R W:=by
 obtain ⟨⟨G',hh',hg⟩,ho,hk⟩:=h;have old:∀b,G b→W.heap[b]?=w0.heap[b]?:=fun b hb=>hk.block b (hh.gs b hb) (fun ⟨e,he,hb'⟩=>hh.ng e he (hb' ▸ hb));refine ⟨hh'.nd,hh'.own,fun e he hG=>?_,fun b hb=>ydb (hh.gs b hb) hk.size,fun r hr=>(hh.rep r hr).mono (fun _ h=>h) old⟩;rcases ho e he with ⟨e',he',hb⟩ | h1;·exact hh.ng e' he' (hb ▸ hG)
 ·exact absurd (hh.gs _ hG) (Nat.not_lt.2 h1)
def St.backR {w0:World} {Lc:LB} {G:Nat→Prop} {R:LS} {M:LB} {U:LS} {W:World} (hh:Holds Lc G R w0) (h:St ⟨w0,inL Lc,G⟩ M U W):St ⟨w0,inL Lc,G⟩ M R W:=
 ⟨⟨G,h.fixG hh,fun _ hb=>.inl hb⟩,h.own,h.keep⟩
def NoCells (o:Obj):Prop:=(∀c t f,o≠.cells c t f)∧∀es ck,o≠.map es ck
def NoCells.bt {o:Obj} (h:NoCells o) {cs:List Value} {T:BT}:o≠T.obj cs:=by
 cases T with
 | ty t=>exact h.1 _ _ _
 | mp es ck=>exact h.2 _ _
def Ukb {w:World} {a:Addr} {o:Obj} (h:w.heap[a.block]?=some o) (hn:NoCells o):w.frozen? a=false:=by unfold World.frozen?;rw [h];cases o <;> first | rfl | exact absurd rfl (hn.1 _ _ _) | exact absurd rfl (hn.2 _ _)
def St.put {w0:World} {Lc:LB} {G:Nat→Prop} {R M W} {l:Nat} {o o':Obj} (hh:Holds Lc G R w0) (h:St ⟨w0,inL Lc,G⟩ M R W) (ho:W.heap[l]?=some o) (hn:NoCells o) (hn':NoCells o') (hl:w0.heap.size≤l):St ⟨w0,inL Lc,G⟩ M R (W.putObj l o'):=by
 have hf:=h.fixG hh;have hk:=h.keep;have hlt:l < W.heap.size:=(Array.getElem?_eq_some_iff.1 ho).1;have ne:∀e∈M,e.b≠l:=fun e he hb=>by have:=hf.own e he;rw [hb,ho] at this;exact hn.bt (yL this)
 refine ⟨⟨G,⟨hf.nd,fun e he=>(World.putObj_heap_other (ne e he)).trans (hf.own e he),hf.ng,fun b hb=>by rw [World.putObj_size];exact hf.gs b hb,fun r hr=>(hf.rep r hr).mono (fun _ h=>h) fun b hb=>World.putObj_heap_other (by have:=hh.gs b hb;omega)⟩,fun _ hb=>.inl hb⟩,h.own,?_⟩;refine ⟨hk.os,hk.tape,hk.output,by rw [World.putObj_size];exact hk.size,fun b hb hnb=>(World.putObj_heap_other (by have:b < w0.heap.size:=hb;omega)).trans (hk.block b hb hnb),fun a=>?_⟩;rw [← hk.frz a];by_cases hal:a.block=l;·rw [Ukb (w := W) (by rw [hal]; exact ho) hn];exact Ukb (by rw [hal];exact World.putObj_heap_same hlt) hn'
 ·exact yvb (World.putObj_heap_other hal)
structure At2 (w0:World) (Lc:LB) (G:Nat→Prop) (R:LS) (D:Nat) (od ol:Obj) (M:LB) (W:World):Prop where
 st:St ⟨w0,inL Lc,G⟩ M R W
 df:W.heap[D]?=some od
 lp:W.heap[D + 1]?=some ol
def J4f {L G R W} {l:Nat} {o:Obj} (hf:Holds L G R W) (ho:W.heap[l]?=some o) (hn:NoCells o):¬ inL L l:=by rintro ⟨e,he,hb⟩;have:=hf.own e he;rw [hb,ho] at this;exact hn.bt (yL this)
def At2.step {w0:World} {Lc:LB} {G:Nat→Prop} {R:LS} {D:Nat} {od ol:Obj} {M:LB} {W:World} (hh:Holds Lc G R w0) (hd:NoCells od) (hl:NoCells ol) (h:At2 w0 Lc G R D od ol M W) {L'':LB} {R'':LS} {W':World} (k:St ⟨W,inL M,G⟩ L'' R'' W'):At2 w0 Lc G R D od ol L'' W':=by have hf:=h.st.fixG hh;have s:=St.trans h.st (G:=G) (fun b hb=>.inl hb) k;exact ⟨s.backR hh,(k.keep.block D (Array.getElem?_eq_some_iff.1 h.df).1 (J4f hf h.df hd)).trans h.df,(k.keep.block (D + 1) (Array.getElem?_eq_some_iff.1 h.lp).1 (J4f hf h.lp hl)).trans h.lp⟩
def At2.put {w0:World} {Lc:LB} {G:Nat→Prop} {R:LS} {D:Nat} {od ol ol':Obj} {M:LB} {W:World} (hh:Holds Lc G R w0) (hD:w0.heap.size≤D) (hl:NoCells ol) (hl':NoCells ol') (h:At2 w0 Lc G R D od ol M W):At2 w0 Lc G R D od ol' M (W.putObj (D + 1) ol'):=
 ⟨h.st.put hh h.lp hl hl' za,(World.putObj_heap_other za).trans h.df,World.putObj_heap_same (Array.getElem?_eq_some_iff.1 h.lp).1⟩
def At2.round {w0 : World} {Lc : LB} {G : Nat → Prop} {R : LS} {D : Nat} {od ol : Obj} {M : LB} {W : World} (hh : Holds Lc G R w0) (hd : NoCells od) (hl : NoCells ol) (h : At2 w0 Lc G R D od ol M W)
 {P:Program} {n m id l:Nat} {ops:List Oper} {t:Nat→Value} {a:Act} {Q:Kt} {Q':Exit→Act→World→Prop} (hf:Fr n t a) (hdf:∀o∈ops,∀c,o.op≠.defer c) (hw:LJ P n ops.toArray ops t M R Q) (hno:∀t L R,¬ Q .outgrown t L R)
 (k:∀e a' W' t' L'' R'',Q e t' L'' R''→Fr n t' a'→At2 w0 Lc G R D od ol L'' W'→Q' e a' W'):(Code.region id ops.toArray false).wpIn (Fence.wide.inRound l) m P Q' a W:=by
 have hW:=h.st.fixG hh;have hwp:=hw _ a W hf (St.init hW);refine yWb ?_ (wpIn_region_lit (Zzb (l:=l) (m:=m) ?_ ops hdf a W hwp));·rintro e a' W' ⟨_, t', L'', R'', hq, hf', hs'⟩;exact zRd
 ·rintro ⟨a', W', _, t', L'', R'', hq, _⟩;exact hno _ _ _ hq
def At2.plain {w0 : World} {Lc : LB} {G : Nat → Prop} {R : LS} {D : Nat} {od ol : Obj} {M : LB} {W : World} (hh : Holds Lc G R w0) (hd : NoCells od) (hl : NoCells ol) (h : At2 w0 Lc G R D od ol M W)
 {P:Program} {n m:Nat} {cd:Code} {t:Nat→Value} {a:Act} {Q:Kt} {Q':Exit→Act→World→Prop} (hf:Fr n t a) (hw:CJ P n cd t M R Q)
 (k:∀e a' W' t' L'' R'',Q e t' L'' R''→Fr n t' a'→At2 w0 Lc G R D od ol L'' W'→Q' e a' W'):cd.wpIn Fence.wide m P Q' a W:=by have hW:=h.st.fixG hh;refine yWb ?_ (wpIn_wide.2 (hw _ a W hf (St.init hW)));rintro e a' W' ⟨_,t',L'',R'',hq,hf',hs'⟩;exact zRd
def Vuf {P : Program} {n m : Nat} {all : Array Oper} {Q : Exit → Act → World → Prop} {rest : List Oper} {t : Nat → Value} {a : Act} {w : World} {c : Ctx} {L : LB} {R : LS} {d : Tmp} {op : Op} {ty : TypeId} {pos : String} {after : Array Edge} {v : Value}
 (hf:Fr n t a) (hs:St c L R w) (hv:YV P ⟨some d,op,ty,pos,after,none⟩ (ev t) L R v) (hd:Nat.blt d n=true) (k:∀a',Fr n (upd t d v) a'→wpListIn Fence.wide m P all Q rest a' w):wpListIn Fence.wide m P all Q (⟨some d,op,ty,pos,after,none⟩ :: rest) a w:=by unfold wpListIn;rw [if_pos zb];refine ⟨fun _ _=>trivial,?_⟩;rw [show Fence.wide.round=none from rfl,Oper.semAt_none];rw [hf.eval,hv c w hs];exact k _ (hf.put (d:=some d) hd v)
def K4d {P:Program} {ρ:Operand→Value} {x y:Operand} {l:Nat} {v:Value} {d:Option Tmp} {ts:Array TypeId} {ty:TypeId} {pos:String} {after:Array Edge} {g:Option (Nat×Bool)} {w:World} (hx:ρ x=.func (.yield l) #[] #[]) (hy:ρ y=v):
 (execOp ρ ⟨d,.call ⟨.value x,#[y],ts⟩,ty,pos,after,g⟩).run P w=(Instr.yield l #[v]).run P w:=by simp only [execOp,resolve,hx,Deferred.ofValue];simp [invoke,hy,yga,yBa]
def Vrd {P : Program} {n m l : Nat} {all : Array Oper} {Q : Exit → Act → World → Prop} {rest : List Oper} {t : Nat → Value} {a : Act} {w : World} {d : Tmp} {x y : Operand} {ts : Array TypeId} {ty : TypeId} {pos : String} {after : Array Edge} {v r : Value} {S : World → Prop}
 (hf:Fr n t a) (hx:ev t x=.func (.yield l) #[] #[]) (hy:ev t y=v) (hd:Nat.blt d n=true) (hY:YieldAt Fence.wide (m - 1) P l #[v] w fun e w'=>e=.returned r∧S w') (k:∀a' w',Fr n (upd t d r) a'→S w'→wpListIn Fence.wide m P all Q rest a' w'):
 wpListIn Fence.wide m P all Q (⟨some d,.call ⟨.value x,#[y],ts⟩,ty,pos,after,none⟩ :: rest) a w:=by unfold wpListIn;rw [if_pos zb];refine ⟨fun _ _=>trivial,?_⟩;rw [show Fence.wide.round=none from rfl,Oper.semAt_none];obtain ⟨fn,tmps,asg,bod,h1,h2⟩:=hY;rw [hf.eval,K4d hx hy,h1];refine ⟨fun h=>zC,h2.mono ?_⟩;rintro e w' ⟨rfl,hs⟩;exact k _ _ (hf.put (d:=some d) hd r) hs
def St.allocO {c:Ctx} {L:LB} {R:LS} {w:World} (h:St c L R w) {o:Obj} (hn:NoCells o):St c L R (w.alloc o):=by
 obtain ⟨⟨G,hh,hg⟩,ho,hk⟩:=h;have old:∀b,b < w.heap.size→(w.alloc o).heap[b]?=w.heap[b]?:=fun b hb=>by exact ubj
 refine ⟨⟨G,⟨hh.nd,fun e he=>(old _ (hh.lt he)).trans (hh.own e he),hh.ng,fun b hb=>by have:=hh.gs b hb;simp;omega,fun r hr=>(hh.rep r hr).mono (fun _ h=>h) (fun b hb=>old b (hh.gs b hb))⟩,hg⟩,ho,⟨hk.os,hk.tape,hk.output,?_,fun b hb hb2=>?_,fun a=>?_⟩⟩;·have := hk.size;simp;omega
 ·rw [old b (ydb hb hk.size)];exact hk.block b hb hb2
 ·
  rw [← hk.frz a];rcases yXb a.block w.heap.size with h1 | h1 | h1;·exact yvb (old _ h1)
  ·rw [Ukb (w := w.alloc o) (o := o) (by rw [h1]; show (w.heap.push _)[w.heap.size]? = _; simp) hn];unfold World.frozen?;rw [h1,yA (yl _)]
  ·unfold World.frozen?;rw [yA zD,yA za]
def U2d (w:World) (o:Obj) (b:Nat) (hb:b < w.heap.size):(w.alloc o).heap[b]?=w.heap[b]?:=by exact ubj
def Tri.raw {P : Program} {f : FuncId} {args : Array Value} {L : LB} {R : LS} {Post : Yy} (h1 : ∀ (xs : Array Value) (w : World), (callFunc f xs).run P w = .ok (.enter f xs) w)
 (h2:∀(w:World) (G:Nat→Prop),Holds L G R w→Calls P f args w fun e w'=>∃v M U,e=.returned v∧Post v M U∧St ⟨w,inL L,G⟩ M U w'):Tri P f args L R Post:=⟨h1,h2⟩
end Go.Aw
end
namespace Go.Proofs.YtchfclmokpbldaaGreat
open Go.Aw Go
end Go.Proofs.YtchfclmokpbldaaGreat
