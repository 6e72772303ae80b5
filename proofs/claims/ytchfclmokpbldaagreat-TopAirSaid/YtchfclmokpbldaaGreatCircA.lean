/-
  Merged texts. By an AI agent.
-/
import Derived.Test.YtchfclmokpbldaaGreatCircR
import Derived.Test.YtchfclmokpbldaaGreatLaw12a
import Derived.Test.YtchfclmokpbldaaGreatTrueP
set_option linter.all false
set_option maxHeartbeats 4000000
set_option maxRecDepth 20000
namespace Go.Proofs.YtchfclmokpbldaaGreat
open Go.Aw Go
section
attribute [local irreducible] CJ LJ DJ Tri YV Gives U5 J2 Kn U6 RV J4 OwL.L
def Jpd {m:XMine} {fl:Arr XSpan} {p:OwL Bool} {w:Int} {A:LB} {R:LS} (hB:InB (p.L 4 blc) A) (hk:p.ok 1 blc) (hm:MineR m R) (hfl:InR (Yob fl) R) (hok:MineOk m) (hn:fl.l.length=m.roads.l.length) (hl:p.l.length=m.places.l.length) (hs0:∀j:Nat,p.l.getD j false=true→(m.places.l.getD j default).surface=false):
 Tri Tryz.prog 201 [m.val,fl.val,p.val,.int .i64 w].toArray A R (fun v U J=>∃q:OwL Bool,v=q.val∧q.ok 1 blc∧SprIs m (Vda m fl.l) w p.l q.l∧q.L 4 blc ++ A=U∧R=J):=by have h:=Uzd m fl p.arr w [] ([Zwf p.arr] ++ R) ⟨hm.places.mono fun r h=>Ja (.tail _ h),hm.roads.mono fun r h=>Ja (.tail _ h)⟩ (hfl.mono fun r h=>Ja (.tail _ h)) zJb hok hn hl hs0;have h2:=Tri.lend (S:=[Zwf p.arr]) (Post:=fun v U=>∃q:OwL Bool,v=q.val∧q.ok 1 blc∧SprIs m (Vda m fl.l) w p.l q.l∧q.L 4 blc ++ []=U) (Spl.rest (L:=A)) (fun w G hh s hs=>by rw [List.mem_singleton.1 hs];exact Ya hh hB hk Y4 ze yg) (h.mono fun v U J ⟨q,a1,a2,a3,a4,a5⟩=>⟨⟨q,a1,a2,a3,a4⟩,a5⟩);exact Tri.post_perm h2 fun v L'' J ⟨U,e,⟨q,a1,a2,a3,a4⟩,a5⟩=>⟨q.L 4 blc ++ A,by rw [← e,← a4,yX];exact yva,q,a1,a2,a3,rfl,a5⟩
def OnB (m:XMine) (fl:List XSpan) (i d:Nat) (on:Bool):Prop:=on=true↔∃b:Bool,bn b < d∧Vga m fl i b
def OnB.zero {m:XMine} {fl:List XSpan} {i:Nat}:OnB m fl i 0 false:=⟨fun h=>zE,fun ⟨b,h,_⟩=>za⟩
def OnB.no {m:XMine} {fl:List XSpan} {i d:Nat} {on:Bool} (h:OnB m fl i d on) (hd:d < 2) (hc:¬ Vga m fl i (Ync d)):OnB m fl i (d + 1) on:=by
 refine h.trans ⟨fun ⟨b,h1,h2⟩=>⟨b,by omega,h2⟩,fun ⟨b,h1,h2⟩=>?_⟩;rcases J6g h1 hd with h3 | h3;·exact ⟨b,h3,h2⟩
 ·rw [h3] at h2;exact absurd h2 hc
def OnB.yes {m:XMine} {fl:List XSpan} {i d:Nat} (hd:d < 2) (hc:Vga m fl i (Ync d)):OnB m fl i (d + 1) true:=⟨fun _=>⟨_,U8f hd,hc⟩,fun _=>rfl⟩
def OnB.stay {m:XMine} {fl:List XSpan} {i d:Nat} {on:Bool} (h:OnB m fl i d on) (ho:on=true):OnB m fl i (d + 1) true:=⟨fun _=>let ⟨b,h1,h2⟩:=h.1 ho;⟨b,Nat.lt_succ_of_lt h1,h2⟩,fun _=>rfl⟩
def OnB.pick {m:XMine} {fl:List XSpan} {i d:Nat} {on x:Bool} (h:OnB m fl i d on) (ho:on=false) (hd:d < 2) (hx:x=true↔Vga m fl i (Ync d)):OnB m fl i (d + 1) x:=by
 subst ho;cases x with
 | false=>exact h.no hd fun hc=>by have:=hx.2 hc;cases this
 | true=>exact .yes hd (hx.1 rfl)
def OnB.done {m:XMine} {fl:List XSpan} {i:Nat} {on:Bool} (h:OnB m fl i 2 on):on=true↔(Vga m fl i false∨Vga m fl i true):=
 h.trans ⟨fun ⟨b,_,h2⟩=>by cases b with | false=>exact .inl h2 | true=>exact .inr h2,fun h=>h.elim (fun h=>⟨false,by decide,h⟩) (fun h=>⟨true,by decide,h⟩)⟩
def Kke (m:XMine) (fl:Arr XSpan) (L:LB) (R:LS) (hm:MineR m R) (hfl:InR (Yob fl) R) (hv:Ua m=0) (hn:fl.l.length=m.roads.l.length):
 Tri Tryz.prog 120 [m.val,fl.val].toArray L R (fun w U J=>∃p:OwL Int,w=p.val∧p.ok 1 Jk∧CircIs m fl.l p.l∧p.L 3 Jk ++ L=U∧R=J):=by
 have hmp:=hm.places;have hok:=Zqa hv;have hnp:=hok.places;have hnr:=hok.roads;refine Je 82 Tryz.call120 Tryz.func120 rfl rfl rfl ?_;apply (Xaf);intro b2;apply Xbr∘qbe∘qbm;refine q_l rfl (Kkc m fl _ _ hm) ?_;apply (Xbl);refine q_c ?_ ?_<;>intro hc0;·(exfalso;rcases hc0 with h | h <;> omega)
 apply qbv∘Xbr∘Xbf;refine Jm [(1,.slice _ _ _),(2,.pointer _),(5,.slice _ _ _),(6,.int _ _)] zh fun tq0=>?_;refine Uh (rg 5 7++rg 16 65) ((⟨fun g=>[(6,.int .i64 ((g.1.1:Nat):Int)),(5,g.1.2.val)],fun g=>g.1.2.L 3 Jk ++ (⟨b2,m.cells,28⟩ :: L),fun _=>R,fun g=>m.roads.l.length - g.1.1⟩:Head {g:Nat×OwL Int // g.1≤m.roads.l.length∧g.2.ok 1 Jk∧CircTo m fl.l g.1 g.2.l})) (⟨(0,OwL.nil),by dsimp only;omega,OwL.nil_ok,CircTo.zero⟩) zh zU zLb ?_;rintro ⟨⟨i,p⟩,w1,w2,w3⟩ junk;try dsimp only
 dsimp only at w1 w2 w3;have hpl:=w3.len;apply Xa3∘Xdi;refine q_c ?_ ?_<;>intro hc1;·
  have hi:i < m.roads.l.length:=by omega
  apply qbb∘Xdv∘Xbf;refine Ve (rg 5 7++rg 16 65) zJ [(5,.slice _ _ _),(6,.int _ _),(7,.bool _),(8,.int _ _)] zh fun tq1=>?_;refine q_p ([7,8,9,10,11]++rg 23 53) ((⟨fun g=>[(8,.int .i64 ((g.1.1:Nat):Int)),(7,.bool g.1.2)],fun _=>p.L 3 Jk ++ (⟨b2,m.cells,28⟩ :: L),fun _=>R,fun g=>2 - g.1.1⟩:Head {g:Nat×Bool // g.1≤2∧OnB m fl.l i g.1 g.2})) (⟨(0,false),by dsimp only;omega,OnB.zero⟩) ?_;rintro ⟨⟨d,on⟩,v1,v2⟩ junk;try dsimp only
  dsimp only at v1 v2;apply Xa3∘Xa5;refine q_c ?_ ?_<;>intro hc2;·
   obtain ⟨b,hb⟩:∃b,b=Ync d:=⟨_,rfl⟩;have her:=K3e hok hi b;have hpf:=Jn (l:=m.places.l) (k:=(Upb m i b).toNat) default za;have hpt:=Jn (l:=m.places.l) (k:=(Zea m i b).toNat) default za;apply qbb∘qbe∘Xbw∘qbn;refine q_l rfl (Tri.cast (Znd m i b _ _ hm hi) (by rw [hb];rfl)) ?_;refine Jy zSb rfl ?_;apply Xa7∘qad∘Xar∘qbe∘Xap∘qaa∘qbn;refine q_l rfl (Tri.cast (U5e m fl i b _ _ hm hfl hi hn) (by rw [hb];rfl)) ?_;apply (Xcq);apply J6 (G:=[_,_,_,_,_,_]) (j:=7) (cj:=42) rfl rfl zb rfl zsb rfl;·intro hg8;replace hg8:=qb hg8;apply (Xah);refine Jy zfb rfl ?_;exact (Xa9) qai
   intro junk8;apply (qah);apply J6 (G:=[_,_,_,_,_,_]) (j:=15) (cj:=50) rfl rfl zb rfl zsb rfl;·intro hg16;replace hg16:=qb hg16;apply (Xah);refine Jy zgb rfl ?_;exact (Xa9) qai
   intro junk16;apply (qaf);refine q_c ?_ ?_<;>intro hc3;·
    refine K5 (Kj (J3 (Jb (Jh ?_))));apply (Xbd);exact Kd ⟨(d + 1,on),by dsimp only;omega,v2.no za (fun h=>by
    rw [← hb] at h;obtain ⟨g1,g2,g3,_⟩:=h;rcases hc3 with (h1 | h1) | h1;·rw [g1] at h1;cases h1
    ·rw [g2] at h1;cases h1
    ·rw [g3] at h1;cases h1)⟩ zm zh zi zLb zx
   apply qbv∘Xab∘qc7;rintro v U J ⟨b61,rfl,rfl,hR61⟩;replace hR61:=hR61.symm;subst hR61;apply (Xcy);refine U4 zgc ?_;obtain ⟨l0,hl0⟩:∃l0,l0=List.replicate m.places.l.length false:=⟨_,rfl⟩;(have hl0n:l0.length=m.places.l.length:=by rw [hl0];simp);(have hQ1:(⟨.own b61 m.places.l.length [],l0⟩:OwL Bool).ok 1 blc:=by rw [hl0];exact Yc Y4 zD);have hQ2:=Jn (l:=l0) (k:=(Zea m i b).toNat) false za;have hS1:(⟨.own b61 m.places.l.length [],U1c m.places.l.length (Zea m i b).toNat⟩:OwL Bool).ok 1 blc:=OwL.len_ok Y4 hQ1 (by simp [U1c,hl0n]);refine U4 (show _=(⟨.own b61 m.places.l.length [],l0⟩:OwL Bool).L 4 blc ++ _ by rw [hl0]) ?_;(have hSl:(⟨.own b61 m.places.l.length [],U1c m.places.l.length (Zea m i b).toNat⟩:OwL Bool).l.length=m.places.l.length:=by simp [U1c]);(have hss:∀j:Nat,(⟨.own b61 m.places.l.length [],U1c m.places.l.length (Zea m i b).toNat⟩:OwL Bool).l.getD j false=true→(m.places.l.getD j default).surface=false:=fun j hj=>by rw [(V8c za).1 hj];exact hc3.2);apply (Xb5);refine Jy (Js tb ((⟨.own b61 m.places.l.length [],l0⟩:OwL Bool)) _ rfl rfl ((show _=Value.slice _ _ _ from rfl).trans (Un hl0n)) rfl zg (i:=(Zea m i b).toNat) zk zt) rfl ?_;refine V6 (Ju tb ((⟨.own b61 m.places.l.length [],l0⟩:OwL Bool)) (true) rfl rfl rfl rfl zj zg yf zg ze zb zb) ?_;rintro v U J ⟨rfl,rfl⟩;apply (qaf);refine U4 (show _=(⟨.own b61 m.places.l.length [],U1c m.places.l.length (Zea m i b).toNat⟩:OwL Bool).L 4 blc ++ _ by rw [hl0];rfl) ?_;apply qay∘qah∘qah;refine Yl (k:=66) zsb (fun hg2=>?_) (fun hg2=>?_);·replace hg2:=qb hg2;have hjunk:True:=trivial;(iterate 8 refine Jma rfl rfl ?_);exact uaI
   replace hg2:=qb hg2;refine K8 zIb rfl rfl ?_;refine K8 zrd rfl rfl ?_;refine K8 zrd rfl rfl ?_;refine K8 zqd rfl rfl ?_;refine Kwa rfl (Tri.cast (Jpd (A:=(⟨.own b61 m.places.l.length [],U1c m.places.l.length (Zea m i b).toNat⟩:OwL Bool).L 4 blc ++ _) (p:=(⟨.own b61 m.places.l.length [],U1c m.places.l.length (Zea m i b).toNat⟩:OwL Bool)) (w:=(i:Int)) zG hS1 hm hfl hok hn hSl hss) zab) rfl rfl ?_;rintro v U J ⟨q,rfl,hqk,hqS,rfl,rfl⟩;have hql:=hqS.len;rw [hSl] at hql;have hqg:=Jn (l:=q.l) (k:=(Upb m i b).toNat) false za;have hqi:=Yre hqS (show (Zea m i b).toNat < m.places.l.length by omega) (show (Upb m i b).toNat < m.places.l.length by omega);refine K8 zqd rfl rfl ?_;refine K8 (Js tb (q) _ rfl rfl rfl rfl zg (i:=(Upb m i b).toNat) zk zt) rfl rfl ?_;refine K8 (J9 tb (q) rfl rfl rfl zj zg yf zg zb) rfl rfl ?_;exact uaI
  obtain rfl:d=2:=by omega
  have hdn:=v2.done;apply qbk∘Xdw;refine q_c ?_ ?_<;>intro hc4;·apply Xb5∘qcx;rintro v U J ⟨b79,rfl,rfl,hR79⟩;replace hR79:=hR79.symm;subst hR79;refine Yv (Jx (f:=Jk) (p:=p) (a:=(i:Int)) tb rfl rfl rfl rfl (w2) zj zDb rfl zy) rfl ?_;rintro v U J ⟨o80,rfl,hok80,rfl,rfl⟩;apply qc4∘Xc9;exact q_k ⟨(i + 1,(⟨o80,_⟩:OwL Int)),by dsimp only;omega,hok80,w3.yes (hdn.1 hc4)⟩
  apply (Xcz);exact q_k ⟨(i + 1,p),by dsimp only;omega,w2,w3.no (fun h=>by rw [hdn.2 (.inl h)] at hc4;cases hc4) (fun h=>by rw [hdn.2 (.inr h)] at hc4;cases hc4)⟩
 obtain rfl:i=m.roads.l.length:=by omega
 apply (Xdu);refine q_r (p.L 3 Jk ++ L) R zxd ?_;exact ⟨p,rfl,w2,w3.done,rfl,rfl⟩
end
section
def Jbd (fl:List Int):List XSpan:=(List.range fl.length).map fun k=>⟨fl.getD k 0,fl.getD k 0⟩
def Jle {fl:List Int} {i:Nat} (h:i < fl.length):(Jbd fl).getD i default=⟨fl.getD i 0,fl.getD i 0⟩:=by rw [yh,Jbd,yr,yV h];rfl
def J2d {m:XMine} {f g:List XSpan} {i:Nat} {back:Bool} (h:(g.getD i default).low≤(f.getD i default).low∧(f.getD i default).high≤(g.getD i default).high) (hc:Kne m f i back=true):Kne m g i back=true:=by
 unfold Kne at hc ⊢;rw [yo] at hc ⊢;refine ⟨hc.1,?_⟩;cases back with
 | true=>simp only [if_true,decide_eq_true_eq] at hc ⊢;omega
 | false=>simp only [yhb,if_false,decide_eq_true_eq] at hc ⊢;omega
def Yge {m:XMine} {l l':List XArc} {w:Int} (h:∀a∈l,a∈l') {u v:Nat} (k:Goes m l w u v):Goes m l' w u v:=by
 induction k with
 | refl=>exact .refl
 | tail _ s ih=>obtain ⟨a,h1,h2⟩:=s;exact ih.tail ⟨a,h a h1,h2⟩
def Uye {m:XMine} {f g:List XSpan} {C D:List Int} (h:∀i:Nat,i < m.roads.l.length→(g.getD i default).low≤(f.getD i default).low∧(f.getD i default).high≤(g.getD i default).high) (hC:CircIs m f C) (hD:CircIs m g D) {x:Int} (hx:x∈C):x∈D:=by obtain ⟨i,back,rfl,hi,h1,h2,h3,h4⟩:=(hC.iff x).1 hx;refine (hD.iff _).2 ⟨i,back,rfl,hi,J2d (h i hi) h1,h2,h3,Yge (fun a ha=>?_) h4⟩;obtain ⟨j,b,k1,k2,e⟩:=Uha.1 ha;exact Uha.2 ⟨j,b,k1,J2d (h j k1) k2,e⟩
attribute [local irreducible] CJ LJ DJ Tri YV Gives U5 J2 Kn U6 RV J4 OwL.L
def Kic (m:XMine) (fl:Arr Int) (i:Nat) (L:LB) (R:LS) (hm:MineR m R) (hfl:InR (isl fl) R) (hv:Ua m=0) (hn:fl.l.length=m.roads.l.length):
 Tri Tryz.prog 49 [m.val,fl.val,.int .i64 (i:Int)].toArray L R (fun w U J=>∃(b:Bool) (C:List Int),w=.bool b∧CircIs m (Jbd fl.l) C∧(b=true→(i:Int)∈C)∧L=U∧R=J):=by
 have hok:=Zqa hv;have hnp:=hok.places;have hnr:=hok.roads;refine Je 32 Tryz.call49 Tryz.func49 rfl rfl rfl ?_;apply (Xaf);intro b3;apply Xbn∘Xaq∘qc7;rintro v U J ⟨b12,rfl,rfl,hR12⟩;replace hR12:=hR12.symm;subst hR12;apply (Xd5);refine U4 zPc ?_;apply qay∘Xbz;refine Jm [(2,.int _ _),(3,.pointer _),(7,.slice _ _ _),(13,.slice _ _ _),(14,.int _ _),(15,.int _ _)] zh fun tq0=>?_;refine q_p ([8,9]++rg 15 12) ((⟨fun g=>[(15,.int .i64 ((g.1.1:Nat):Int))],fun g=>(⟨.own b12 fl.l.length [],g.1.2⟩:OwL XSpan).L 90 XSpan.cells ++ (⟨b3,m.cells,28⟩ :: L),fun _=>R,fun g=>fl.l.length - g.1.1⟩:Head {g:Nat×List XSpan // g.1≤fl.l.length∧WrTo fl.l.length ⟨0,0⟩ (fun k=>(⟨fl.l.getD k 0,fl.l.getD k 0⟩:XSpan)) g.1 g.2})) (⟨(0,List.replicate fl.l.length ⟨0,0⟩),by dsimp only;omega,.zero⟩) ?_;rintro ⟨⟨k,l⟩,w1,w2⟩ junk;try dsimp only
 dsimp only at w1 w2;have hll:=w2.len;have hkq:(⟨.own b12 fl.l.length [],l⟩:OwL XSpan).ok 2 XSpan.cells:=by have:=Yc (f:=XSpan.cells) (wd:=2) (b:=b12) (n:=fl.l.length) (x:=⟨0,0⟩) yf zD;exact OwL.len_ok yf this zma
 apply (Xam);refine q_c ?_ ?_<;>intro hc0;·
  have hfg:=Jn (l:=fl.l) (k:=k) 0 za;have hlg:=w2.non k (ym _) za;apply (Xa1);refine Jy zC rfl ?_;apply Xdn∘qad;refine Kc (Jb (Jh ?_));apply (qbm);iterate 3 apply (qaa)
  apply (qcd);refine Jy (Js tb ((⟨.own b12 fl.l.length [],l⟩:OwL XSpan)) _ rfl rfl ((show _=Value.slice _ _ _ from rfl).trans (Un hll)) rfl zg (i:=k) zk zt) rfl ?_;refine V6 (Uj tb ((⟨.own b12 fl.l.length [],l⟩:OwL XSpan)) (⟨fl.l.getD k 0,fl.l.getD k 0⟩) rfl rfl rfl rfl zj zg yf zg (yQ rfl) zb zb) ?_;rintro v U J ⟨rfl,rfl⟩;apply (Xa8);exact q_k ⟨(k + 1,l.set k ⟨fl.l.getD k 0,fl.l.getD k 0⟩),by dsimp only;omega,w2.next za rfl⟩
 obtain rfl:k=fl.l.length:=by omega
 have hle:l=Jbd fl.l:=w2.done;apply (qc3);refine U9 (A:=[]) (wd:=2) [] yf ze hkq yg ?_;refine U4 zoa ?_;rw [show (Value.slice (some ⟨b12,0,none⟩) fl.l.length fl.l.length)=(⟨.own b12 fl.l.length [],l⟩:OwL XSpan).arr.val by simp only [OwL.arr,Arr.val,Ow.addr,Ow.cap,hll]];have hlR:InR (Yob (⟨.own b12 fl.l.length [],l⟩:OwL XSpan).arr) (Yob (⟨.own b12 fl.l.length [],l⟩:OwL XSpan).arr :: R):=Ja (.head _);apply qay∘qbe∘qbm;refine Jw rfl (Kke m (⟨.own b12 fl.l.length [],l⟩:OwL XSpan).arr _ _ ⟨hm.places.mono fun r hr=>Ja (.tail _ hr),hm.roads.mono fun r hr=>Ja (.tail _ hr)⟩ hlR hv (by show l.length=_;omega)) rfl ?_;rintro v U J ⟨p,rfl,hpk,hC,rfl,rfl⟩;apply (qaa);refine q_l rfl (K4e (A:=_) zG hpk) ?_;apply (Xbb);refine Kx (U:=L) (J:=R) (Vu rfl zjd) ?hp ?hL ?hR;case hp=>exact ⟨_,p.l,rfl,by rw [← hle];exact hC,fun h=>of_decide_eq_true h,rfl,rfl⟩
 case hL=>exact zi
 case hR=>exact fun r hr=>Ja (.tail _ hr)
end
end Go.Proofs.YtchfclmokpbldaaGreat
