/-
  Merged texts. By an AI agent.
-/
import Derived.Test.YtchfclmokpbldaaGreatEasy
import Derived.Test.YtchfclmokpbldaaGreatOwn
import Derived.RangeFuncRecord
import Derived.RangeFuncSeq
set_option linter.all false
set_option maxHeartbeats 4000000
set_option maxRecDepth 20000
namespace Go.Proofs.YtchfclmokpbldaaGreat
open Go.Aw Go
section
attribute [local irreducible] CJ LJ DJ Tri YV Gives Uq J2 Kj Ut RV J3 OwL.L
section
variable {A B:Prop}
def K0g(h:A→B:=by exact Jw (Jo tb ((⟨.own b68 f.switches.l.length [],q⟩:OwL Bool)) _ rfl rfl ((show _=Value.slice _ _ _ from rfl).trans (K6 hql)) rfl zg (i:=(f.zones.l.getD i 0).toNat) zk zp) rfl):=h
end
structure FeederR (f:XFeeder) (R:LS):Prop where
 sw:InR (Zeb f.switches) R
 zn:InR (isl f.zones) R
def FeederR.mono {f:XFeeder} {R J:LS} (h:FeederR f R) (k:∀r∈R,InR r J):FeederR f J:=⟨h.sw.mono k,h.zn.mono k⟩
def U8a (l:List XSwitch) (i:Nat):Option Int:=
 if (l.getD i default).above < -1∨(i:Int)≤(l.getD i default).above then some 16
 else if (l.getD i default).since < 0∨2147483648 < (l.getD i default).since then some 8
 else if ((l.getD i default).shown < -1∨1 < (l.getD i default).shown)∨(l.getD i default).late=true∧((l.getD i default).closed=true∨(l.getD i default).shown= -1) then some 10 else none
def Zya (n:Nat) (z:List Int) (i:Nat):Option Int:=
 if z.getD i 0 < 0∨(n:Int)≤z.getD i 0 then some 16 else if∃k:Nat,k < i∧z.getD k 0=z.getD i 0 then some 17 else none
def feedE (sw:List XSwitch) (zn:List Int) (rp:Int):Int:=
 if 32 < sw.length∨16 < zn.length then 2
 else match (List.range sw.length).findSome? (U8a sw) with
  | some e=>e
  | none=>match (List.range zn.length).findSome? (Zya sw.length zn) with
   | some e=>e
   | none=>if rp < 1∨100000 < rp then 1 else 0
def Klb {sw:List XSwitch} {zn:List Int} {rp e:Int} (h0:¬ (32 < sw.length∨16 < zn.length)) (h:(List.range sw.length).findSome? (U8a sw)=some e):feedE sw zn rp=e:=by rw [feedE,if_neg h0,h]
def U8c {sw:List XSwitch} {zn:List Int} {rp e:Int} (h0:¬ (32 < sw.length∨16 < zn.length)) (h1:(List.range sw.length).findSome? (U8a sw)=none) (h:(List.range zn.length).findSome? (Zya sw.length zn)=some e):feedE sw zn rp=e:=by rw [feedE,if_neg h0,h1,h]
def Vpb {sw:List XSwitch} {zn:List Int} {rp:Int} (h0:¬ (32 < sw.length∨16 < zn.length)) (h1:(List.range sw.length).findSome? (U8a sw)=none) (h2:(List.range zn.length).findSome? (Zya sw.length zn)=none):feedE sw zn rp=if rp < 1∨100000 < rp then 1 else 0:=by rw [feedE,if_neg h0,h1,h2]
def Vde {l:List XSwitch} {i:Nat} {x:XSwitch} (hx:x=l.getD i default) (h1:¬ (x.above < -1∨(i:Int)≤x.above)) (h2:¬ (x.since < 0∨2147483648 < x.since)) (h3:¬ ((x.shown < -1∨1 < x.shown)∨x.late=true∧(x.closed=true∨x.shown= -1))):U8a l i=none:=by rw [U8a,← hx,if_neg h1,if_neg h2,if_neg h3]
def Jof {l:List XSwitch} {i:Nat} {x:XSwitch} (hx:x=l.getD i default) (h1:x.above < -1∨(i:Int)≤x.above):U8a l i=some 16:=by rw [U8a,← hx,if_pos h1]
def Vlf {l:List XSwitch} {i:Nat} {x:XSwitch} (hx:x=l.getD i default) (h1:¬ (x.above < -1∨(i:Int)≤x.above)) (h2:x.since < 0∨2147483648 < x.since):U8a l i=some 8:=by rw [U8a,← hx,if_neg h1,if_pos h2]
def Zwe {l:List XSwitch} {i:Nat} {x:XSwitch} (hx:x=l.getD i default) (h1:¬ (x.above < -1∨(i:Int)≤x.above)) (h2:¬ (x.since < 0∨2147483648 < x.since)) (h3:(x.shown < -1∨1 < x.shown)∨x.late=true∧(x.closed=true∨x.shown= -1)):U8a l i=some 10:=by rw [U8a,← hx,if_neg h1,if_neg h2,if_pos h3]
def Yxe {n:Nat} {z:List Int} {i:Nat} (h:z.getD i 0 < 0∨(n:Int)≤z.getD i 0):Zya n z i=some 16:=by rw [Zya,if_pos h]
def Z6e {n:Nat} {z:List Int} {i:Nat} (h:¬ (z.getD i 0 < 0∨(n:Int)≤z.getD i 0)) (h2:∃k:Nat,k < i∧z.getD k 0=z.getD i 0):Zya n z i=some 17:=by rw [Zya,if_neg h,if_pos h2]
def Kle {n:Nat} {z:List Int} {i:Nat} (h:¬ (z.getD i 0 < 0∨(n:Int)≤z.getD i 0)) (h2:¬∃k:Nat,k < i∧z.getD k 0=z.getD i 0):Zya n z i=none:=by rw [Zya,if_neg h,if_neg h2]
structure Took (n:Nat) (z:List Int) (i:Nat) (l:List Bool):Prop where
 len:l.length=n
 iff:∀j:Nat,j < n→(l.getD j false=true↔∃k:Nat,k < i∧z.getD k 0=(j:Int))
def Took.zero {n:Nat} {z:List Int}:Took n z 0 (List.replicate n false):=⟨by simp,fun j hj=>by
 rw [yi,yC,if_pos hj]
 exact ⟨fun h=>zH,fun ⟨k,hk,_⟩=>za⟩⟩
def Took.next {n:Nat} {z:List Int} {i:Nat} {l:List Bool} (h:Took n z i l) (h0:0≤z.getD i 0∧z.getD i 0 < n):Took n z (i + 1) (l.set (z.getD i 0).toNat true):=by
 have hl:=h.len;refine ⟨by simp [hl],fun j hj=>?_⟩;rw [yi,yM];split;·rename_i e;rw [if_pos za];exact ⟨fun _=>⟨i,by omega,by omega⟩,fun _=>rfl⟩
 ·
  rename_i e;have:=h.iff j hj;rw [yi] at this;rw [this];constructor;·rintro ⟨k,k1,k2⟩;exact ⟨k,by omega,k2⟩
  ·
   rintro ⟨k, k1, k2⟩;rcases yk k i with hk | hk;·exact ⟨k,hk,k2⟩
   ·(obtain rfl : k = i := by omega);omega
def Yh (f:XFeeder) (L:LB) (R:LS) (hf:FeederR f R):
 Tri Tryz.prog 75 [f.val].toArray L R (fun v U J=>v=.int .i64 (feedE f.switches.l f.zones.l f.reply)∧L=U∧R=J):=by
 have hsR:=hf.sw;have hzR:=hf.zn;refine Jgb Tryz.call75 hsR fun hcap=>?_;refine Jgb Tryz.call75 hzR fun hcap2=>?_;refine Je 101 Tryz.call75 Tryz.func75 rfl rfl rfl ?_;apply (Xaf);intro b1;apply Xar∘Xdj∘qah;apply Kf (G:=[_,_,_,_]) (j:=4) (cj:=12) rfl rfl zb rfl zmb rfl;·exact zId
 intro junk5;apply (qaf);refine q_c ?_ ?_<;>intro hc0;·apply (Xa8);refine q_i L R ?_;exact ⟨by rw [feedE,if_pos za],rfl,rfl⟩
 have h0:¬ (32 < f.switches.l.length∨16 < f.zones.l.length):=by omega
 apply (Xc2);refine Jm [(1,.pointer _),(19,.slice _ _ _),(20,.int _ _),(21,.int _ _)] zh fun tq0=>?_;refine q_s ([2,3,4]++rg 21 44) (fun g:FSR (U8a f.switches.l) (f.switches.l.length)=>[(21,.int .i64 ((g.1:Nat):Int))]) (fun g=>(f.switches.l.length) - g.1) ⟨0,Kga _ _⟩ ?_;rintro ⟨k0,hk0,hp0⟩ junk;try dsimp only
 apply (Xaj);refine q_c ?_ ?_<;>intro hc1;·
  have hxg:=Jp (l:=f.switches.l) (k:=k0) default za;obtain ⟨x,hx⟩:∃x,x=f.switches.l.getD k0 default:=⟨_,rfl⟩;rw [← hx] at hxg;apply (Xa1);refine Jw zea rfl ?_;apply qdw∘qaq;intro b4;apply qad∘Xa9∘Xbm;apply Kf (G:=[_,_,_,_]) (j:=3) (cj:=29) rfl rfl zb rfl zmb rfl;·exact ubo
  intro junk4;apply (qaf);refine q_c ?_ ?_<;>intro hc2;·apply (Xda);refine q_i L R ?_;exact ⟨by rw [Klb h0 (Yi hp0 za (Jof hx za))],rfl,rfl⟩
  apply qbo∘Xbm;apply Kf (G:=[_,_,_]) (j:=3) (cj:=38) rfl rfl zb rfl zmb rfl;·exact zpd
  intro junk4;apply (qaf);refine q_c ?_ ?_<;>intro hc3;·apply (Xda);refine q_i L R ?_;exact ⟨by rw [Klb h0 (Yi hp0 za (Vlf hx za za))],rfl,rfl⟩
  apply qbv∘Xbm;apply Kf (G:=[_,_,_]) (j:=3) (cj:=46) rfl rfl zb rfl zmb rfl;·exact zpd
  intro junk4;apply (qah);apply Kf (G:=[_,_,_,_,_,_,_,_,_,_,_]) (j:=8) (cj:=51) rfl rfl zb rfl zmb rfl;·
   intro hg9;replace hg9:=qb hg9;apply Xaa∘qah;apply Ui (G:=[_,_,_,_,_,_,_]) (j:=11) (cj:=54) rfl rfl zb rfl zmb rfl;·
    intro hg12;replace hg12:=qb hg12;apply Xaa∘qah;apply Kf (G:=[_,_,_]) (j:=14) (cj:=57) rfl rfl zb rfl zmb rfl;·intro hg15;replace hg15:=qb hg15;exact (Xaa) zLd
    intro junk15;exact qai
   intro junk12;exact qai
  intro junk9;apply (qaf);refine q_c ?_ ?_<;>intro hc4;·apply (Xcf);refine q_i L R ?_;exact ⟨by rw [Klb h0 (Yi hp0 za (Zwe hx za za zaa))],rfl,rfl⟩
  apply (Xaw);exact q_k ⟨k0 + 1,Zk hp0 za (Vde hx za za (by cases hl:x.late <;> simp [hl] at hc4 ⊢ <;> first | exact hc4 | omega))⟩
 have hn0:=Jta hp0 za;apply qbk∘Xab∘qc7;rintro v U J ⟨b68,rfl,rfl,hR68⟩;replace hR68:=hR68.symm;subst hR68;apply Xb5∘Xay;refine Jm [(1,.pointer _),(5,.slice _ _ _),(70,.slice _ _ _),(71,.int _ _),(72,.int _ _)] zh fun tq1=>?_;refine U2 zUb ?_;refine q_p ([2,7]++rg 72 21) ((⟨fun g=>[(72,.int .i64 ((g.1.1:Nat):Int))],fun g=>(⟨.own b68 f.switches.l.length [],g.1.2⟩:OwL Bool).L 4 blc ++ (⟨b1,f.cells,42⟩ :: L),fun _=>R,fun g=>f.zones.l.length - g.1.1⟩:Head {g:Nat×List Bool // (g.1≤f.zones.l.length∧(List.range f.zones.l.length).findSome? (Zya f.switches.l.length f.zones.l)=((List.range f.zones.l.length).drop g.1).findSome? (Zya f.switches.l.length f.zones.l))∧Took f.switches.l.length f.zones.l g.1 g.2})) (⟨(0,List.replicate f.switches.l.length false),Kga _ _,Took.zero⟩) ?_;rintro ⟨⟨i,q⟩,⟨hi,hp⟩,hq⟩ junk;try dsimp only
 dsimp only at hi hp hq;have hql:=hq.len;have hqk:(⟨.own b68 f.switches.l.length [],q⟩:OwL Bool).ok 1 blc:=by have:=U0 (f:=blc) (wd:=1) (b:=b68) (n:=f.switches.l.length) (x:=false) V5 zB;exact OwL.len_ok V5 this (by simp;exact hql)
 apply (Xaj);refine q_c ?_ ?_<;>intro hc5;·
  have hzg:=Jp (l:=f.zones.l) (k:=i) 0 za;apply (qbb);refine Jw zV rfl ?_;apply qa7∘Xar∘Xck;apply Kf (G:=[_,_,_,_,_]) (j:=2) (cj:=78) rfl rfl zb rfl zmb rfl;·exact zme
  intro junk3;apply (qaf);refine q_c ?_ ?_<;>intro hc6;·apply (Xda);refine q_i L R ?_;exact ⟨by rw [U8c h0 hn0 (Yi hp za (Yxe za))],rfl,rfl⟩
  have hbg:=Jp (l:=q) (k:=(f.zones.l.getD i 0).toNat) false za;have hbi:=hq.iff (f.zones.l.getD i 0).toNat za;have hcast:(((f.zones.l.getD i 0).toNat:Nat):Int)=f.zones.l.getD i 0:=by omega
  rw [hcast] at hbi;apply qbo∘Xaq∘K0g;refine Jw (J4 tb ((⟨.own b68 f.switches.l.length [],q⟩:OwL Bool)) rfl rfl rfl zj zg yf zg zb) rfl ?_;apply (qaf);refine q_c ?_ ?_<;>intro hc7;·apply (Xda);refine q_i L R ?_;exact ⟨by rw [U8c h0 hn0 (Yi hp za (Z6e za (hbi.1 (by simpa using hc7))))],rfl,rfl⟩
  refine J5 (Jb (Jg ?_));apply Xaq∘K0g;refine Vk (Jn tb ((⟨.own b68 f.switches.l.length [],q⟩:OwL Bool)) (true) rfl rfl rfl rfl zj zg yf zg ze zb zb) ?_;rintro v U J ⟨rfl,rfl⟩;apply (Xa4);exact q_k ⟨(i + 1,q.set (f.zones.l.getD i 0).toNat true),Zk hp za (Kle za (fun h=>by rw [hbi.2 h] at hc7;cases hc7)),hq.next za⟩
 have hnz:=Jta hp za;apply qcf∘Xbm;apply Kf (G:=[_,_,_]) (j:=3) (cj:=96) rfl rfl zb rfl zmb rfl;·exact zpd
 intro junk4;apply (qaf);refine q_c ?_ ?_<;>intro hc8;·apply (Xa8);refine q_i L R ?_;exact ⟨by rw [Vpb h0 hn0 hnz,if_pos za],rfl,rfl⟩
 apply (Xcy);refine q_i L R ?_;exact ⟨by rw [Vpb h0 hn0 hnz,if_neg za],rfl,rfl⟩
end
end Go.Proofs.YtchfclmokpbldaaGreat
section
/-
  Rounds of a range over a function: the regions of a round's frame, from the walks of plain regions; what a turn of the loop's record leaves alone. No program is named here. By an AI agent; no person has read it.
-/
namespace Go.Aw
open Go
def Kne {P:Program} {o:Oper} {l m:Nat} {a:Act} {next next':Act→World→Prop} {Q:Exit→Act→World→Prop} (hn:∀a w,next a w→next' a w):
 ∀r,o.upon P a next Q r→o.uponIn (Fence.wide.inRound l) m P a next' Q r:=by
 intro r h;cases r with
 | ok x w'=>
  cases x with
  | value v=>exact hn _ _ h
  | skip=>exact hn _ _ h
  | defer d=>exact hn _ _ h
  | enter f args=>
   refine ⟨fun h=>zH,?_⟩;have h1:CallsIn Fence.wide (m - 1) P f args w' _:=callsIn_wide.2 h;refine CallsIn.mono (F:=Fence.wide.inRound l) (show CallsIn (Fence.wide.inRound l) (m - 1) P f args w' _ from h1) ?_;intro e w'' he;cases e with
   | returned v=>exact hn _ _ he
   | panicked c=>exact he
   | outgrown=>exact he
  | row row args=>refine ⟨fun h=>zH,fun c cs hr=>?_⟩;obtain ⟨v,w'',hv,hs⟩:=h c cs;exact ⟨v,w'',hn _ _ hv,stepsIn_wide.2 hs⟩
  | _=>exact h.elim
 | halt e w'=>
  cases e with
  | panic v=>exact h
  | _=>exact h.elim
def Ykb {P:Program} {all:Array Oper} {l m:Nat} {Q:Exit→Act→World→Prop} (hQ:¬ LetsOut Q):
 ∀(ops:List Oper),(∀o∈ops,∀c,o.op≠.defer c)→∀a w,wpList P all Q ops a w→wpListIn (Fence.wide.inRound l) m P all Q ops a w
 | [],_,a,w,h=>h
 | o :: ops,hd,a,w,h=>by
  have ih:=Ykb (P:=P) (all:=all) (l:=l) (m:=m) hQ ops (fun o ho=>hd o (yW _ ho))
  unfold wpList at h
  unfold wpListIn
  by_cases hw:Region.wanted o (yielded all a.tmps)=true
  ·rw [if_pos hw] at h ⊢
   rcases h with h | h
   ·refine ⟨fun _ _ => trivial, ?_⟩
    rw [Oper.semAt_eq _ _ _ (hd o yXa)]
    exact Kne ih _ h
   ·exact absurd h.2 hQ
  ·rw [if_neg hw] at h ⊢
   exact ⟨fun _ _=>trivial,ih _ _ h⟩
def St.fixG {w0:World} {Lc:LB} {G:Nat→Prop} {R:LS} {U:LB} {J:LS} {W:World} (hh:Holds Lc G R w0) (h:St ⟨w0,inL Lc,G⟩ U J W):Holds U G R W:=by
 obtain ⟨⟨G',hh',hg⟩,ho,hk⟩:=h;have old:∀b,G b→W.heap[b]?=w0.heap[b]?:=fun b hb=>hk.block b (hh.gs b hb) (fun ⟨e,he,hb'⟩=>hh.ng e he (hb' ▸ hb));refine ⟨hh'.nd,hh'.own,fun e he hG=>?_,fun b hb=>ylb (hh.gs b hb) hk.size,fun r hr=>(hh.rep r hr).mono (fun _ h=>h) old⟩;rcases ho e he with ⟨e',he',hb⟩ | h1;·exact hh.ng e' he' (hb ▸ hG)
 ·exact absurd (hh.gs _ hG) (Nat.not_lt.2 h1)
def St.backR {w0:World} {Lc:LB} {G:Nat→Prop} {R:LS} {U:LB} {J:LS} {W:World} (hh:Holds Lc G R w0) (h:St ⟨w0,inL Lc,G⟩ U J W):St ⟨w0,inL Lc,G⟩ U R W:=
 ⟨⟨G,h.fixG hh,fun _ hb=>.inl hb⟩,h.own,h.keep⟩
def NoCells (o:Obj):Prop:=(∀c t f,o≠.cells c t f)∧∀es ck,o≠.map es ck
def NoCells.bt {o:Obj} (h:NoCells o) {cs:List Value} {T:BT}:o≠T.obj cs:=by
 cases T with
 | ty t=>exact h.1 _ _ _
 | mp es ck=>exact h.2 _ _
def Ujb {w:World} {a:Addr} {o:Obj} (h:w.heap[a.block]?=some o) (hn:NoCells o):w.frozen? a=false:=by unfold World.frozen?;rw [h];cases o <;> first | rfl | exact absurd rfl (hn.1 _ _ _) | exact absurd rfl (hn.2 _ _)
def St.put {w0:World} {Lc:LB} {G:Nat→Prop} {R U W} {l:Nat} {o o':Obj} (hh:Holds Lc G R w0) (h:St ⟨w0,inL Lc,G⟩ U R W) (ho:W.heap[l]?=some o) (hn:NoCells o) (hn':NoCells o') (hl:w0.heap.size≤l):St ⟨w0,inL Lc,G⟩ U R (W.putObj l o'):=by
 have hf:=h.fixG hh;have hk:=h.keep;have hlt:l < W.heap.size:=(Array.getElem?_eq_some_iff.1 ho).1;have ne:∀e∈U,e.b≠l:=fun e he hb=>by have:=hf.own e he;rw [hb,ho] at this;exact hn.bt (yG this)
 refine ⟨⟨G,⟨hf.nd,fun e he=>(World.putObj_heap_other (ne e he)).trans (hf.own e he),hf.ng,fun b hb=>by rw [World.putObj_size];exact hf.gs b hb,fun r hr=>(hf.rep r hr).mono (fun _ h=>h) fun b hb=>World.putObj_heap_other (by have:=hh.gs b hb;omega)⟩,fun _ hb=>.inl hb⟩,h.own,?_⟩;refine ⟨hk.os,hk.tape,hk.output,by rw [World.putObj_size];exact hk.size,fun b hb hnb=>(World.putObj_heap_other (by have:b < w0.heap.size:=hb;omega)).trans (hk.block b hb hnb),fun a=>?_⟩;rw [← hk.frz a];by_cases hal:a.block=l;·rw [Ujb (w := W) (by rw [hal]; exact ho) hn];exact Ujb (by rw [hal];exact World.putObj_heap_same hlt) hn'
 ·exact yHb (World.putObj_heap_other hal)
structure At2 (w0:World) (Lc:LB) (G:Nat→Prop) (R:LS) (D:Nat) (od ol:Obj) (U:LB) (W:World):Prop where
 st:St ⟨w0,inL Lc,G⟩ U R W
 df:W.heap[D]?=some od
 lp:W.heap[D + 1]?=some ol
def Krf {L G R W} {l:Nat} {o:Obj} (hf:Holds L G R W) (ho:W.heap[l]?=some o) (hn:NoCells o):¬ inL L l:=by rintro ⟨e,he,hb⟩;have:=hf.own e he;rw [hb,ho] at this;exact hn.bt (yG this)
def At2.step {w0:World} {Lc:LB} {G:Nat→Prop} {R:LS} {D:Nat} {od ol:Obj} {U:LB} {W:World} (hh:Holds Lc G R w0) (hd:NoCells od) (hl:NoCells ol) (h:At2 w0 Lc G R D od ol U W) {L'':LB} {R'':LS} {W':World} (k:St ⟨W,inL U,G⟩ L'' R'' W'):At2 w0 Lc G R D od ol L'' W':=by have hf:=h.st.fixG hh;have s:=St.trans h.st (G:=G) (fun b hb=>.inl hb) k;exact ⟨s.backR hh,(k.keep.block D (Array.getElem?_eq_some_iff.1 h.df).1 (Krf hf h.df hd)).trans h.df,(k.keep.block (D + 1) (Array.getElem?_eq_some_iff.1 h.lp).1 (Krf hf h.lp hl)).trans h.lp⟩
def At2.put {w0:World} {Lc:LB} {G:Nat→Prop} {R:LS} {D:Nat} {od ol ol':Obj} {U:LB} {W:World} (hh:Holds Lc G R w0) (hD:w0.heap.size≤D) (hl:NoCells ol) (hl':NoCells ol') (h:At2 w0 Lc G R D od ol U W):At2 w0 Lc G R D od ol' U (W.putObj (D + 1) ol'):=
 ⟨h.st.put hh h.lp hl hl' za,(World.putObj_heap_other za).trans h.df,World.putObj_heap_same (Array.getElem?_eq_some_iff.1 h.lp).1⟩
def At2.round {w0 : World} {Lc : LB} {G : Nat → Prop} {R : LS} {D : Nat} {od ol : Obj} {U : LB} {W : World} (hh : Holds Lc G R w0) (hd : NoCells od) (hl : NoCells ol) (h : At2 w0 Lc G R D od ol U W)
 {P:Program} {n m id l:Nat} {ops:List Oper} {t:Nat→Value} {a:Act} {Q:Kw} {Q':Exit→Act→World→Prop} (hf:Fr n t a) (hdf:∀o∈ops,∀c,o.op≠.defer c) (hw:LJ P n ops.toArray ops t U R Q) (hno:∀t L R,¬ Q .outgrown t L R)
 (k:∀e a' W' t' L'' R'',Q e t' L'' R''→Fr n t' a'→At2 w0 Lc G R D od ol L'' W'→Q' e a' W'):(Code.region id ops.toArray false).wpIn (Fence.wide.inRound l) m P Q' a W:=by
 have hW:=h.st.fixG hh;have hwp:=hw _ a W hf (St.init hW);refine Code.wpIn_mono ?_ (wpIn_region_lit (Ykb (l:=l) (m:=m) ?_ ops hdf a W hwp));·rintro e a' W' ⟨_, t', L'', R'', hq, hf', hs'⟩;exact k e a' W' t' L'' R'' hq hf' (h.step hh hd hl hs')
 ·rintro ⟨a', W', _, t', L'', R'', hq, _⟩;exact hno _ _ _ hq
def At2.plain {w0 : World} {Lc : LB} {G : Nat → Prop} {R : LS} {D : Nat} {od ol : Obj} {U : LB} {W : World} (hh : Holds Lc G R w0) (hd : NoCells od) (hl : NoCells ol) (h : At2 w0 Lc G R D od ol U W)
 {P:Program} {n m:Nat} {cd:Code} {t:Nat→Value} {a:Act} {Q:Kw} {Q':Exit→Act→World→Prop} (hf:Fr n t a) (hw:CJ P n cd t U R Q)
 (k:∀e a' W' t' L'' R'',Q e t' L'' R''→Fr n t' a'→At2 w0 Lc G R D od ol L'' W'→Q' e a' W'):cd.wpIn Fence.wide m P Q' a W:=by have hW:=h.st.fixG hh;refine Code.wpIn_mono ?_ (wpIn_wide.2 (hw _ a W hf (St.init hW)));rintro e a' W' ⟨_,t',L'',R'',hq,hf',hs'⟩;exact k e a' W' t' L'' R'' hq hf' (h.step hh hd hl hs')
def Vag {P : Program} {n m : Nat} {all : Array Oper} {Q : Exit → Act → World → Prop} {rest : List Oper} {t : Nat → Value} {a : Act} {w : World} {c : Ctx} {L : LB} {R : LS} {d : Tmp} {op : Op} {ty : TypeId} {pos : String} {after : Array Edge} {v : Value}
 (hf:Fr n t a) (hs:St c L R w) (hv:YV P ⟨some d,op,ty,pos,after,none⟩ (ev t) L R v) (hd:Nat.blt d n=true) (k:∀a',Fr n (upd t d v) a'→wpListIn Fence.wide m P all Q rest a' w):wpListIn Fence.wide m P all Q (⟨some d,op,ty,pos,after,none⟩ :: rest) a w:=by unfold wpListIn;rw [if_pos zb];refine ⟨fun _ _=>trivial,?_⟩;rw [show Fence.wide.round=none from rfl,Oper.semAt_none];rw [hf.eval,hv c w hs];exact k _ (hf.put (d:=some d) hd v)
def K8d {P:Program} {ρ:Operand→Value} {x y:Operand} {l:Nat} {v:Value} {d:Option Tmp} {ts:Array TypeId} {ty:TypeId} {pos:String} {after:Array Edge} {g:Option (Nat×Bool)} {w:World} (hx:ρ x=.func (.yield l) #[] #[]) (hy:ρ y=v):
 (execOp ρ ⟨d,.call ⟨.value x,#[y],ts⟩,ty,pos,after,g⟩).run P w=(Instr.yield l #[v]).run P w:=by simp only [execOp,resolve,hx,Deferred.ofValue];simp [invoke,hy,yea,yCa]
def Yye {P : Program} {n m l : Nat} {all : Array Oper} {Q : Exit → Act → World → Prop} {rest : List Oper} {t : Nat → Value} {a : Act} {w : World} {d : Tmp} {x y : Operand} {ts : Array TypeId} {ty : TypeId} {pos : String} {after : Array Edge} {v r : Value} {S : World → Prop}
 (hf:Fr n t a) (hx:ev t x=.func (.yield l) #[] #[]) (hy:ev t y=v) (hd:Nat.blt d n=true) (hY:YieldAt Fence.wide (m - 1) P l #[v] w fun e w'=>e=.returned r∧S w') (k:∀a' w',Fr n (upd t d r) a'→S w'→wpListIn Fence.wide m P all Q rest a' w'):
 wpListIn Fence.wide m P all Q (⟨some d,.call ⟨.value x,#[y],ts⟩,ty,pos,after,none⟩ :: rest) a w:=by unfold wpListIn;rw [if_pos zb];refine ⟨fun _ _=>trivial,?_⟩;rw [show Fence.wide.round=none from rfl,Oper.semAt_none];obtain ⟨fn,tmps,asg,bod,h1,h2⟩:=hY;rw [hf.eval,K8d hx hy,h1];refine ⟨fun h=>zH,h2.mono ?_⟩;rintro e w' ⟨rfl,hs⟩;exact k _ _ (hf.put (d:=some d) hd r) hs
def St.allocO {c:Ctx} {L:LB} {R:LS} {w:World} (h:St c L R w) {o:Obj} (hn:NoCells o):St c L R (w.alloc o):=by
 obtain ⟨⟨G,hh,hg⟩,ho,hk⟩:=h;have old:∀b,b < w.heap.size→(w.alloc o).heap[b]?=w.heap[b]?:=fun b hb=>by exact ubq
 refine ⟨⟨G,⟨hh.nd,fun e he=>(old _ (hh.lt he)).trans (hh.own e he),hh.ng,fun b hb=>by have:=hh.gs b hb;simp;omega,fun r hr=>(hh.rep r hr).mono (fun _ h=>h) (fun b hb=>old b (hh.gs b hb))⟩,hg⟩,ho,⟨hk.os,hk.tape,hk.output,?_,fun b hb hb2=>?_,fun a=>?_⟩⟩;·have := hk.size;simp;omega
 ·rw [old b (ylb hb hk.size)];exact hk.block b hb hb2
 ·
  rw [← hk.frz a];rcases Nat.lt_trichotomy a.block w.heap.size with h1 | h1 | h1;·exact yHb (old _ h1)
  ·rw [Ujb (w := w.alloc o) (o := o) (by rw [h1]; show (w.heap.push _)[w.heap.size]? = _; simp) hn];unfold World.frozen?;rw [h1,yF (ym _)]
  ·unfold World.frozen?;rw [yF zE,yF za]
def Zee (w:World) (o:Obj) (b:Nat) (hb:b < w.heap.size):(w.alloc o).heap[b]?=w.heap[b]?:=by exact ubq
def Tri.raw {P : Program} {f : FuncId} {args : Array Value} {L : LB} {R : LS} {Post : Ys} (h1 : ∀ (xs : Array Value) (w : World), (callFunc f xs).run P w = .ok (.enter f xs) w)
 (h2:∀(w:World) (G:Nat→Prop),Holds L G R w→Calls P f args w fun e w'=>∃v U J,e=.returned v∧Post v U J∧St ⟨w,inL L,G⟩ U J w'):Tri P f args L R Post:=⟨h1,h2⟩
end Go.Aw
end
namespace Go.Proofs.YtchfclmokpbldaaGreat
open Go.Aw Go
end Go.Proofs.YtchfclmokpbldaaGreat
