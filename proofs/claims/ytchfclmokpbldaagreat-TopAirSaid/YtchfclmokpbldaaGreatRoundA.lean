/-
  Merged texts. By an AI agent.
-/
import Derived.Test.YtchfclmokpbldaaGreatEasy
import Derived.Test.YtchfclmokpbldaaGreatOwn
import Derived.RangeFuncRecord
import Derived.RangeFuncSeq
set_option linter.all false
set_option maxHeartbeats 4000000
set_option maxRecDepth 20000
namespace Go.Proofs.YtchfclmokpbldaaGreat
open Go.Aw Go
section
attribute [local irreducible] CJ LJ DJ Tri YV Gives U5 J2 Kn U6 RV J4 OwL.L
section
variable {A B:Prop}
def Jfg(h:A→B:=by exact Jy (Js tb ((⟨.own b68 f.switches.l.length [],q⟩:OwL Bool)) _ rfl rfl ((show _=Value.slice _ _ _ from rfl).trans (Un hql)) rfl zg (i:=(f.zones.l.getD i 0).toNat) zk zt) rfl):=h
end
structure FeederR (f:XFeeder) (R:LS):Prop where
 sw:InR (Y1b f.switches) R
 zn:InR (isl f.zones) R
def FeederR.mono {f:XFeeder} {R J:LS} (h:FeederR f R) (k:∀r∈R,InR r J):FeederR f J:=⟨h.sw.mono k,h.zn.mono k⟩
def Vca (l:List XSwitch) (i:Nat):Option Int:=
 if (l.getD i default).above < -1∨(i:Int)≤(l.getD i default).above then some 16
 else if (l.getD i default).since < 0∨2147483648 < (l.getD i default).since then some 8
 else if ((l.getD i default).shown < -1∨1 < (l.getD i default).shown)∨(l.getD i default).late=true∧((l.getD i default).closed=true∨(l.getD i default).shown= -1) then some 10 else none
def Jdb (n:Nat) (z:List Int) (i:Nat):Option Int:=
 if z.getD i 0 < 0∨(n:Int)≤z.getD i 0 then some 16 else if∃k:Nat,k < i∧z.getD k 0=z.getD i 0 then some 17 else none
def feedE (sw:List XSwitch) (zn:List Int) (rp:Int):Int:=
 if 32 < sw.length∨16 < zn.length then 2
 else match (List.range sw.length).findSome? (Vca sw) with
  | some e=>e
  | none=>match (List.range zn.length).findSome? (Jdb sw.length zn) with
   | some e=>e
   | none=>if rp < 1∨100000 < rp then 1 else 0
def Krb {sw:List XSwitch} {zn:List Int} {rp e:Int} (h0:¬ (32 < sw.length∨16 < zn.length)) (h:(List.range sw.length).findSome? (Vca sw)=some e):feedE sw zn rp=e:=by rw [feedE,if_neg h0,h]
def Ylc {sw:List XSwitch} {zn:List Int} {rp e:Int} (h0:¬ (32 < sw.length∨16 < zn.length)) (h1:(List.range sw.length).findSome? (Vca sw)=none) (h:(List.range zn.length).findSome? (Jdb sw.length zn)=some e):feedE sw zn rp=e:=by rw [feedE,if_neg h0,h1,h]
def Yvb {sw:List XSwitch} {zn:List Int} {rp:Int} (h0:¬ (32 < sw.length∨16 < zn.length)) (h1:(List.range sw.length).findSome? (Vca sw)=none) (h2:(List.range zn.length).findSome? (Jdb sw.length zn)=none):feedE sw zn rp=if rp < 1∨100000 < rp then 1 else 0:=by rw [feedE,if_neg h0,h1,h2]
def Yte {l:List XSwitch} {i:Nat} {x:XSwitch} (hx:x=l.getD i default) (h1:¬ (x.above < -1∨(i:Int)≤x.above)) (h2:¬ (x.since < 0∨2147483648 < x.since)) (h3:¬ ((x.shown < -1∨1 < x.shown)∨x.late=true∧(x.closed=true∨x.shown= -1))):Vca l i=none:=by rw [Vca,← hx,if_neg h1,if_neg h2,if_neg h3]
def J3f {l:List XSwitch} {i:Nat} {x:XSwitch} (hx:x=l.getD i default) (h1:x.above < -1∨(i:Int)≤x.above):Vca l i=some 16:=by rw [Vca,← hx,if_pos h1]
def Yjf {l:List XSwitch} {i:Nat} {x:XSwitch} (hx:x=l.getD i default) (h1:¬ (x.above < -1∨(i:Int)≤x.above)) (h2:x.since < 0∨2147483648 < x.since):Vca l i=some 8:=by rw [Vca,← hx,if_neg h1,if_pos h2]
def Zpe {l:List XSwitch} {i:Nat} {x:XSwitch} (hx:x=l.getD i default) (h1:¬ (x.above < -1∨(i:Int)≤x.above)) (h2:¬ (x.since < 0∨2147483648 < x.since)) (h3:(x.shown < -1∨1 < x.shown)∨x.late=true∧(x.closed=true∨x.shown= -1)):Vca l i=some 10:=by rw [Vca,← hx,if_neg h1,if_neg h2,if_pos h3]
def Knf {n:Nat} {z:List Int} {i:Nat} (h:z.getD i 0 < 0∨(n:Int)≤z.getD i 0):Jdb n z i=some 16:=by rw [Jdb,if_pos h]
def K7f {n:Nat} {z:List Int} {i:Nat} (h:¬ (z.getD i 0 < 0∨(n:Int)≤z.getD i 0)) (h2:∃k:Nat,k < i∧z.getD k 0=z.getD i 0):Jdb n z i=some 17:=by rw [Jdb,if_neg h,if_pos h2]
def V7e {n:Nat} {z:List Int} {i:Nat} (h:¬ (z.getD i 0 < 0∨(n:Int)≤z.getD i 0)) (h2:¬∃k:Nat,k < i∧z.getD k 0=z.getD i 0):Jdb n z i=none:=by rw [Jdb,if_neg h,if_neg h2]
structure Took (n:Nat) (z:List Int) (i:Nat) (l:List Bool):Prop where
 len:l.length=n
 iff:∀j:Nat,j < n→(l.getD j false=true↔∃k:Nat,k < i∧z.getD k 0=(j:Int))
def Took.zero {n:Nat} {z:List Int}:Took n z 0 (List.replicate n false):=⟨by simp,fun j hj=>by
 rw [yh,yB,if_pos hj]
 exact ⟨fun h=>zE,fun ⟨k,hk,_⟩=>za⟩⟩
def Took.next {n:Nat} {z:List Int} {i:Nat} {l:List Bool} (h:Took n z i l) (h0:0≤z.getD i 0∧z.getD i 0 < n):Took n z (i + 1) (l.set (z.getD i 0).toNat true):=by
 have hl:=h.len;refine ⟨by simp [hl],fun j hj=>?_⟩;rw [yh,yO];split;·rename_i e;rw [if_pos za];exact ⟨fun _=>⟨i,by omega,by omega⟩,fun _=>rfl⟩
 ·
  rename_i e;have:=h.iff j hj;rw [yh] at this;rw [this];constructor;·rintro ⟨k,k1,k2⟩;exact ⟨k,by omega,k2⟩
  ·
   rintro ⟨k, k1, k2⟩;rcases yk k i with hk | hk;·exact ⟨k,hk,k2⟩
   ·(obtain rfl : k = i := by omega);omega
def Yo (f:XFeeder) (L:LB) (R:LS) (hf:FeederR f R):
 Tri Tryz.prog 75 [f.val].toArray L R (fun v U J=>v=.int .i64 (feedE f.switches.l f.zones.l f.reply)∧L=U∧R=J):=by
 have hsR:=hf.sw;have hzR:=hf.zn;refine J0b Tryz.call75 hsR fun hcap=>?_;refine J0b Tryz.call75 hzR fun hcap2=>?_;refine Je 101 Tryz.call75 Tryz.func75 rfl rfl rfl ?_;apply (Xaf);intro b1;apply Xar∘Xc8∘qah;apply J6 (G:=[_,_,_,_]) (j:=4) (cj:=12) rfl rfl zb rfl zsb rfl;·exact zZd
 intro junk5;apply (qaf);refine q_c ?_ ?_<;>intro hc0;·apply (Xba);refine q_i L R ?_;exact ⟨by rw [feedE,if_pos za],rfl,rfl⟩
 have h0:¬ (32 < f.switches.l.length∨16 < f.zones.l.length):=by omega
 apply (Xc3);refine Jm [(1,.pointer _),(19,.slice _ _ _),(20,.int _ _),(21,.int _ _)] zh fun tq0=>?_;refine q_s ([2,3,4]++rg 21 44) (fun g:FSR (Vca f.switches.l) (f.switches.l.length)=>[(21,.int .i64 ((g.1:Nat):Int))]) (fun g=>(f.switches.l.length) - g.1) ⟨0,Kra _ _⟩ ?_;rintro ⟨k0,hk0,hp0⟩ junk;try dsimp only
 apply (Xam);refine q_c ?_ ?_<;>intro hc1;·
  have hxg:=Jn (l:=f.switches.l) (k:=k0) default za;obtain ⟨x,hx⟩:∃x,x=f.switches.l.getD k0 default:=⟨_,rfl⟩;rw [← hx] at hxg;apply (Xa1);refine Jy zX rfl ?_;apply qdw∘qaq;intro b4;apply Xd0∘Xbj;apply J6 (G:=[_,_,_,_]) (j:=3) (cj:=29) rfl rfl zb rfl zsb rfl;·exact ubp
  intro junk4;apply (qaf);refine q_c ?_ ?_<;>intro hc2;·apply (Xc0);refine q_i L R ?_;exact ⟨by rw [Krb h0 (Yn hp0 za (J3f hx za))],rfl,rfl⟩
  apply qbo∘Xbj;apply J6 (G:=[_,_,_]) (j:=3) (cj:=38) rfl rfl zb rfl zsb rfl;·exact zHd
  intro junk4;apply (qaf);refine q_c ?_ ?_<;>intro hc3;·apply (Xc0);refine q_i L R ?_;exact ⟨by rw [Krb h0 (Yn hp0 za (Yjf hx za za))],rfl,rfl⟩
  apply qbv∘Xbj;apply J6 (G:=[_,_,_]) (j:=3) (cj:=46) rfl rfl zb rfl zsb rfl;·exact zHd
  intro junk4;apply (qah);apply J6 (G:=[_,_,_,_,_,_,_,_,_,_,_]) (j:=8) (cj:=51) rfl rfl zb rfl zsb rfl;·
   intro hg9;replace hg9:=qb hg9;apply Xaa∘qah;apply K9 (G:=[_,_,_,_,_,_,_]) (j:=11) (cj:=54) rfl rfl zb rfl zsb rfl;·
    intro hg12;replace hg12:=qb hg12;apply Xaa∘qah;apply J6 (G:=[_,_,_]) (j:=14) (cj:=57) rfl rfl zb rfl zsb rfl;·intro hg15;replace hg15:=qb hg15;exact (Xaa) zee
    intro junk15;exact qai
   intro junk12;exact qai
  intro junk9;apply (qaf);refine q_c ?_ ?_<;>intro hc4;·apply (Xby);refine q_i L R ?_;exact ⟨by rw [Krb h0 (Yn hp0 za (Zpe hx za za zaa))],rfl,rfl⟩
  apply (Xaw);exact q_k ⟨k0 + 1,Zu hp0 za (Yte hx za za (by cases hl:x.late <;> simp [hl] at hc4 ⊢ <;> first | exact hc4 | omega))⟩
 have hn0:=J9a hp0 za;apply qbk∘Xab∘qc7;rintro v U J ⟨b68,rfl,rfl,hR68⟩;replace hR68:=hR68.symm;subst hR68;apply Xbr∘Xay;refine Jm [(1,.pointer _),(5,.slice _ _ _),(70,.slice _ _ _),(71,.int _ _),(72,.int _ _)] zh fun tq1=>?_;refine U4 zgc ?_;refine q_p ([2,7]++rg 72 21) ((⟨fun g=>[(72,.int .i64 ((g.1.1:Nat):Int))],fun g=>(⟨.own b68 f.switches.l.length [],g.1.2⟩:OwL Bool).L 4 blc ++ (⟨b1,f.cells,42⟩ :: L),fun _=>R,fun g=>f.zones.l.length - g.1.1⟩:Head {g:Nat×List Bool // (g.1≤f.zones.l.length∧(List.range f.zones.l.length).findSome? (Jdb f.switches.l.length f.zones.l)=((List.range f.zones.l.length).drop g.1).findSome? (Jdb f.switches.l.length f.zones.l))∧Took f.switches.l.length f.zones.l g.1 g.2})) (⟨(0,List.replicate f.switches.l.length false),Kra _ _,Took.zero⟩) ?_;rintro ⟨⟨i,q⟩,⟨hi,hp⟩,hq⟩ junk;try dsimp only
 dsimp only at hi hp hq;have hql:=hq.len;have hqk:(⟨.own b68 f.switches.l.length [],q⟩:OwL Bool).ok 1 blc:=by have:=Yc (f:=blc) (wd:=1) (b:=b68) (n:=f.switches.l.length) (x:=false) Y4 zD;exact OwL.len_ok Y4 this (by simp;exact hql)
 apply (Xam);refine q_c ?_ ?_<;>intro hc5;·
  have hzg:=Jn (l:=f.zones.l) (k:=i) 0 za;apply (qbb);refine Jy zR rfl ?_;apply qa7∘Xck∘Xav;apply J6 (G:=[_,_,_,_,_]) (j:=2) (cj:=78) rfl rfl zb rfl zsb rfl;·exact zie
  intro junk3;apply (qaf);refine q_c ?_ ?_<;>intro hc6;·apply (Xc0);refine q_i L R ?_;exact ⟨by rw [Ylc h0 hn0 (Yn hp za (Knf za))],rfl,rfl⟩
  have hbg:=Jn (l:=q) (k:=(f.zones.l.getD i 0).toNat) false za;have hbi:=hq.iff (f.zones.l.getD i 0).toNat za;have hcast:(((f.zones.l.getD i 0).toNat:Nat):Int)=f.zones.l.getD i 0:=by omega
  rw [hcast] at hbi;apply qbo∘Xap∘Jfg;refine Jy (J9 tb ((⟨.own b68 f.switches.l.length [],q⟩:OwL Bool)) rfl rfl rfl zj zg yf zg zb) rfl ?_;apply (qaf);refine q_c ?_ ?_<;>intro hc7;·apply (Xc0);refine q_i L R ?_;exact ⟨by rw [Ylc h0 hn0 (Yn hp za (K7f za (hbi.1 (by simpa using hc7))))],rfl,rfl⟩
  refine J5 (Jb (Jh ?_));apply Xap∘Jfg;refine V6 (Ju tb ((⟨.own b68 f.switches.l.length [],q⟩:OwL Bool)) (true) rfl rfl rfl rfl zj zg yf zg ze zb zb) ?_;rintro v U J ⟨rfl,rfl⟩;apply (Xa8);exact q_k ⟨(i + 1,q.set (f.zones.l.getD i 0).toNat true),Zu hp za (V7e za (fun h=>by rw [hbi.2 h] at hc7;cases hc7)),hq.next za⟩
 have hnz:=J9a hp za;apply qcf∘Xbj;apply J6 (G:=[_,_,_]) (j:=3) (cj:=96) rfl rfl zb rfl zsb rfl;·exact zHd
 intro junk4;apply (qaf);refine q_c ?_ ?_<;>intro hc8;·apply (Xba);refine q_i L R ?_;exact ⟨by rw [Yvb h0 hn0 hnz,if_pos za],rfl,rfl⟩
 apply (Xc2);refine q_i L R ?_;exact ⟨by rw [Yvb h0 hn0 hnz,if_neg za],rfl,rfl⟩
end
end Go.Proofs.YtchfclmokpbldaaGreat
section
/-
  Rounds of a range over a function: the regions of a round's frame, from the walks of plain regions; what a turn of the loop's record leaves alone. No program is named here. By an AI agent; no person has read it.
-/
namespace Go.Aw
open Go
def Y0e {P:Program} {o:Oper} {l m:Nat} {a:Act} {next next':Act→World→Prop} {Q:Exit→Act→World→Prop} (hn:∀a w,next a w→next' a w):
 ∀r,o.upon P a next Q r→o.uponIn (Fence.wide.inRound l) m P a next' Q r:=by
 intro r h;cases r with
 | ok x w'=>
  cases x with
  | value v=>exact hn _ _ h
  | skip=>exact hn _ _ h
  | defer d=>exact hn _ _ h
  | enter f args=>
   refine ⟨fun h=>zE,?_⟩;have h1:CallsIn Fence.wide (m - 1) P f args w' _:=callsIn_wide.2 h;refine CallsIn.mono (F:=Fence.wide.inRound l) (show CallsIn (Fence.wide.inRound l) (m - 1) P f args w' _ from h1) ?_;intro e w'' he;cases e with
   | returned v=>exact hn _ _ he
   | panicked c=>exact he
   | outgrown=>exact he
  | row row args=>refine ⟨fun h=>zE,fun c cs hr=>?_⟩;obtain ⟨v,w'',hv,hs⟩:=h c cs;exact ⟨v,w'',hn _ _ hv,stepsIn_wide.2 hs⟩
  | _=>exact h.elim
 | halt e w'=>
  cases e with
  | panic v=>exact h
  | _=>exact h.elim
def Zdb {P:Program} {all:Array Oper} {l m:Nat} {Q:Exit→Act→World→Prop} (hQ:¬ LetsOut Q):
 ∀(ops:List Oper),(∀o∈ops,∀c,o.op≠.defer c)→∀a w,wpList P all Q ops a w→wpListIn (Fence.wide.inRound l) m P all Q ops a w
 | [],_,a,w,h=>h
 | o :: ops,hd,a,w,h=>by
  have ih:=Zdb (P:=P) (all:=all) (l:=l) (m:=m) hQ ops (fun o ho=>hd o (yW _ ho))
  unfold wpList at h
  unfold wpListIn
  by_cases hw:Region.wanted o (yielded all a.tmps)=true
  ·rw [if_pos hw] at h ⊢
   rcases h with h | h
   ·refine ⟨fun _ _ => trivial, ?_⟩
    rw [Oper.semAt_eq _ _ _ (hd o yZa)]
    exact Y0e ih _ h
   ·exact absurd h.2 hQ
  ·rw [if_neg hw] at h ⊢
   exact ⟨fun _ _=>trivial,ih _ _ h⟩
def St.fixG {w0:World} {Lc:LB} {G:Nat→Prop} {R:LS} {U:LB} {J:LS} {W:World} (hh:Holds Lc G R w0) (h:St ⟨w0,inL Lc,G⟩ U J W):Holds U G R W:=by
 obtain ⟨⟨G',hh',hg⟩,ho,hk⟩:=h;have old:∀b,G b→W.heap[b]?=w0.heap[b]?:=fun b hb=>hk.block b (hh.gs b hb) (fun ⟨e,he,hb'⟩=>hh.ng e he (hb' ▸ hb));refine ⟨hh'.nd,hh'.own,fun e he hG=>?_,fun b hb=>yib (hh.gs b hb) hk.size,fun r hr=>(hh.rep r hr).mono (fun _ h=>h) old⟩;rcases ho e he with ⟨e',he',hb⟩ | h1;·exact hh.ng e' he' (hb ▸ hG)
 ·exact absurd (hh.gs _ hG) (Nat.not_lt.2 h1)
def St.backR {w0:World} {Lc:LB} {G:Nat→Prop} {R:LS} {U:LB} {J:LS} {W:World} (hh:Holds Lc G R w0) (h:St ⟨w0,inL Lc,G⟩ U J W):St ⟨w0,inL Lc,G⟩ U R W:=
 ⟨⟨G,h.fixG hh,fun _ hb=>.inl hb⟩,h.own,h.keep⟩
def NoCells (o:Obj):Prop:=(∀c t f,o≠.cells c t f)∧∀es ck,o≠.map es ck
def NoCells.bt {o:Obj} (h:NoCells o) {cs:List Value} {T:BT}:o≠T.obj cs:=by
 cases T with
 | ty t=>exact h.1 _ _ _
 | mp es ck=>exact h.2 _ _
def Vab {w:World} {a:Addr} {o:Obj} (h:w.heap[a.block]?=some o) (hn:NoCells o):w.frozen? a=false:=by unfold World.frozen?;rw [h];cases o <;> first | rfl | exact absurd rfl (hn.1 _ _ _) | exact absurd rfl (hn.2 _ _)
def St.put {w0:World} {Lc:LB} {G:Nat→Prop} {R U W} {l:Nat} {o o':Obj} (hh:Holds Lc G R w0) (h:St ⟨w0,inL Lc,G⟩ U R W) (ho:W.heap[l]?=some o) (hn:NoCells o) (hn':NoCells o') (hl:w0.heap.size≤l):St ⟨w0,inL Lc,G⟩ U R (W.putObj l o'):=by
 have hf:=h.fixG hh;have hk:=h.keep;have hlt:l < W.heap.size:=(Array.getElem?_eq_some_iff.1 ho).1;have ne:∀e∈U,e.b≠l:=fun e he hb=>by have:=hf.own e he;rw [hb,ho] at this;exact hn.bt (yD this)
 refine ⟨⟨G,⟨hf.nd,fun e he=>(World.putObj_heap_other (ne e he)).trans (hf.own e he),hf.ng,fun b hb=>by rw [World.putObj_size];exact hf.gs b hb,fun r hr=>(hf.rep r hr).mono (fun _ h=>h) fun b hb=>World.putObj_heap_other (by have:=hh.gs b hb;omega)⟩,fun _ hb=>.inl hb⟩,h.own,?_⟩;refine ⟨hk.os,hk.tape,hk.output,by rw [World.putObj_size];exact hk.size,fun b hb hnb=>(World.putObj_heap_other (by have:b < w0.heap.size:=hb;omega)).trans (hk.block b hb hnb),fun a=>?_⟩;rw [← hk.frz a];by_cases hal:a.block=l;·rw [Vab (w := W) (by rw [hal]; exact ho) hn];exact Vab (by rw [hal];exact World.putObj_heap_same hlt) hn'
 ·exact yEb (World.putObj_heap_other hal)
structure At2 (w0:World) (Lc:LB) (G:Nat→Prop) (R:LS) (D:Nat) (od ol:Obj) (U:LB) (W:World):Prop where
 st:St ⟨w0,inL Lc,G⟩ U R W
 df:W.heap[D]?=some od
 lp:W.heap[D + 1]?=some ol
def Urf {L G R W} {l:Nat} {o:Obj} (hf:Holds L G R W) (ho:W.heap[l]?=some o) (hn:NoCells o):¬ inL L l:=by rintro ⟨e,he,hb⟩;have:=hf.own e he;rw [hb,ho] at this;exact hn.bt (yD this)
def At2.step {w0:World} {Lc:LB} {G:Nat→Prop} {R:LS} {D:Nat} {od ol:Obj} {U:LB} {W:World} (hh:Holds Lc G R w0) (hd:NoCells od) (hl:NoCells ol) (h:At2 w0 Lc G R D od ol U W) {L'':LB} {R'':LS} {W':World} (k:St ⟨W,inL U,G⟩ L'' R'' W'):At2 w0 Lc G R D od ol L'' W':=by have hf:=h.st.fixG hh;have s:=St.trans h.st (G:=G) (fun b hb=>.inl hb) k;exact ⟨s.backR hh,(k.keep.block D (Array.getElem?_eq_some_iff.1 h.df).1 (Urf hf h.df hd)).trans h.df,(k.keep.block (D + 1) (Array.getElem?_eq_some_iff.1 h.lp).1 (Urf hf h.lp hl)).trans h.lp⟩
def At2.put {w0:World} {Lc:LB} {G:Nat→Prop} {R:LS} {D:Nat} {od ol ol':Obj} {U:LB} {W:World} (hh:Holds Lc G R w0) (hD:w0.heap.size≤D) (hl:NoCells ol) (hl':NoCells ol') (h:At2 w0 Lc G R D od ol U W):At2 w0 Lc G R D od ol' U (W.putObj (D + 1) ol'):=
 ⟨h.st.put hh h.lp hl hl' za,(World.putObj_heap_other za).trans h.df,World.putObj_heap_same (Array.getElem?_eq_some_iff.1 h.lp).1⟩
def At2.round {w0 : World} {Lc : LB} {G : Nat → Prop} {R : LS} {D : Nat} {od ol : Obj} {U : LB} {W : World} (hh : Holds Lc G R w0) (hd : NoCells od) (hl : NoCells ol) (h : At2 w0 Lc G R D od ol U W)
 {P:Program} {n m id l:Nat} {ops:List Oper} {t:Nat→Value} {a:Act} {Q:Kw} {Q':Exit→Act→World→Prop} (hf:Fr n t a) (hdf:∀o∈ops,∀c,o.op≠.defer c) (hw:LJ P n ops.toArray ops t U R Q) (hno:∀t L R,¬ Q .outgrown t L R)
 (k:∀e a' W' t' L'' R'',Q e t' L'' R''→Fr n t' a'→At2 w0 Lc G R D od ol L'' W'→Q' e a' W'):(Code.region id ops.toArray false).wpIn (Fence.wide.inRound l) m P Q' a W:=by
 have hW:=h.st.fixG hh;have hwp:=hw _ a W hf (St.init hW);refine Code.wpIn_mono ?_ (wpIn_region_lit (Zdb (l:=l) (m:=m) ?_ ops hdf a W hwp));·rintro e a' W' ⟨_, t', L'', R'', hq, hf', hs'⟩;exact k e a' W' t' L'' R'' hq hf' (h.step hh hd hl hs')
 ·rintro ⟨a', W', _, t', L'', R'', hq, _⟩;exact hno _ _ _ hq
def At2.plain {w0 : World} {Lc : LB} {G : Nat → Prop} {R : LS} {D : Nat} {od ol : Obj} {U : LB} {W : World} (hh : Holds Lc G R w0) (hd : NoCells od) (hl : NoCells ol) (h : At2 w0 Lc G R D od ol U W)
 {P:Program} {n m:Nat} {cd:Code} {t:Nat→Value} {a:Act} {Q:Kw} {Q':Exit→Act→World→Prop} (hf:Fr n t a) (hw:CJ P n cd t U R Q)
 (k:∀e a' W' t' L'' R'',Q e t' L'' R''→Fr n t' a'→At2 w0 Lc G R D od ol L'' W'→Q' e a' W'):cd.wpIn Fence.wide m P Q' a W:=by have hW:=h.st.fixG hh;refine Code.wpIn_mono ?_ (wpIn_wide.2 (hw _ a W hf (St.init hW)));rintro e a' W' ⟨_,t',L'',R'',hq,hf',hs'⟩;exact k e a' W' t' L'' R'' hq hf' (h.step hh hd hl hs')
def V1g {P : Program} {n m : Nat} {all : Array Oper} {Q : Exit → Act → World → Prop} {rest : List Oper} {t : Nat → Value} {a : Act} {w : World} {c : Ctx} {L : LB} {R : LS} {d : Tmp} {op : Op} {ty : TypeId} {pos : String} {after : Array Edge} {v : Value}
 (hf:Fr n t a) (hs:St c L R w) (hv:YV P ⟨some d,op,ty,pos,after,none⟩ (ev t) L R v) (hd:Nat.blt d n=true) (k:∀a',Fr n (upd t d v) a'→wpListIn Fence.wide m P all Q rest a' w):wpListIn Fence.wide m P all Q (⟨some d,op,ty,pos,after,none⟩ :: rest) a w:=by unfold wpListIn;rw [if_pos zb];refine ⟨fun _ _=>trivial,?_⟩;rw [show Fence.wide.round=none from rfl,Oper.semAt_none];rw [hf.eval,hv c w hs];exact k _ (hf.put (d:=some d) hd v)
def U9d {P:Program} {ρ:Operand→Value} {x y:Operand} {l:Nat} {v:Value} {d:Option Tmp} {ts:Array TypeId} {ty:TypeId} {pos:String} {after:Array Edge} {g:Option (Nat×Bool)} {w:World} (hx:ρ x=.func (.yield l) #[] #[]) (hy:ρ y=v):
 (execOp ρ ⟨d,.call ⟨.value x,#[y],ts⟩,ty,pos,after,g⟩).run P w=(Instr.yield l #[v]).run P w:=by simp only [execOp,resolve,hx,Deferred.ofValue];simp [invoke,hy,yga,yFa]
def Zne {P : Program} {n m l : Nat} {all : Array Oper} {Q : Exit → Act → World → Prop} {rest : List Oper} {t : Nat → Value} {a : Act} {w : World} {d : Tmp} {x y : Operand} {ts : Array TypeId} {ty : TypeId} {pos : String} {after : Array Edge} {v r : Value} {S : World → Prop}
 (hf:Fr n t a) (hx:ev t x=.func (.yield l) #[] #[]) (hy:ev t y=v) (hd:Nat.blt d n=true) (hY:YieldAt Fence.wide (m - 1) P l #[v] w fun e w'=>e=.returned r∧S w') (k:∀a' w',Fr n (upd t d r) a'→S w'→wpListIn Fence.wide m P all Q rest a' w'):
 wpListIn Fence.wide m P all Q (⟨some d,.call ⟨.value x,#[y],ts⟩,ty,pos,after,none⟩ :: rest) a w:=by unfold wpListIn;rw [if_pos zb];refine ⟨fun _ _=>trivial,?_⟩;rw [show Fence.wide.round=none from rfl,Oper.semAt_none];obtain ⟨fn,tmps,asg,bod,h1,h2⟩:=hY;rw [hf.eval,U9d hx hy,h1];refine ⟨fun h=>zE,h2.mono ?_⟩;rintro e w' ⟨rfl,hs⟩;exact k _ _ (hf.put (d:=some d) hd r) hs
def St.allocO {c:Ctx} {L:LB} {R:LS} {w:World} (h:St c L R w) {o:Obj} (hn:NoCells o):St c L R (w.alloc o):=by
 obtain ⟨⟨G,hh,hg⟩,ho,hk⟩:=h;have old:∀b,b < w.heap.size→(w.alloc o).heap[b]?=w.heap[b]?:=fun b hb=>by exact ubr
 refine ⟨⟨G,⟨hh.nd,fun e he=>(old _ (hh.lt he)).trans (hh.own e he),hh.ng,fun b hb=>by have:=hh.gs b hb;simp;omega,fun r hr=>(hh.rep r hr).mono (fun _ h=>h) (fun b hb=>old b (hh.gs b hb))⟩,hg⟩,ho,⟨hk.os,hk.tape,hk.output,?_,fun b hb hb2=>?_,fun a=>?_⟩⟩;·have := hk.size;simp;omega
 ·rw [old b (yib hb hk.size)];exact hk.block b hb hb2
 ·
  rw [← hk.frz a];rcases Nat.lt_trichotomy a.block w.heap.size with h1 | h1 | h1;·exact yEb (old _ h1)
  ·rw [Vab (w := w.alloc o) (o := o) (by rw [h1]; show (w.heap.push _)[w.heap.size]? = _; simp) hn];unfold World.frozen?;rw [h1,yH (ym _)]
  ·unfold World.frozen?;rw [yH zH,yH za]
def Kif (w:World) (o:Obj) (b:Nat) (hb:b < w.heap.size):(w.alloc o).heap[b]?=w.heap[b]?:=by exact ubr
def Tri.raw {P : Program} {f : FuncId} {args : Array Value} {L : LB} {R : LS} {Post : Y3} (h1 : ∀ (xs : Array Value) (w : World), (callFunc f xs).run P w = .ok (.enter f xs) w)
 (h2:∀(w:World) (G:Nat→Prop),Holds L G R w→Calls P f args w fun e w'=>∃v U J,e=.returned v∧Post v U J∧St ⟨w,inL L,G⟩ U J w'):Tri P f args L R Post:=⟨h1,h2⟩
end Go.Aw
end
namespace Go.Proofs.YtchfclmokpbldaaGreat
open Go.Aw Go
end Go.Proofs.YtchfclmokpbldaaGreat
