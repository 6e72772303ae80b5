/-
  Merged texts. By an AI agent.
-/
import Derived.Test.YtchfclmokpbldaaGreatCongrS
import Derived.Test.YtchfclmokpbldaaGreatAwakeP
import Derived.Test.YtchfclmokpbldaaGreatStaG
import Derived.Test.YtchfclmokpbldaaGreatDrawT
import Derived.Test.YtchfclmokpbldaaGreatCloneS
import Derived.Test.YtchfclmokpbldaaGreatEasy
import Derived.Test.YtchfclmokpbldaaGreatStaE
import Derived.Test.YtchfclmokpbldaaGreatMadeB
import Derived.Test.YtchfclmokpbldaaGreatRuleP
import Derived.Test.YtchfclmokpbldaaGreatStaF
set_option linter.all false
set_option maxHeartbeats 4000000
set_option maxRecDepth 20000
namespace Go.Proofs.YtchfclmokpbldaaGreat
open Go.Aw Go
section
def Zb (len:Int):XAir:=⟨⟨⟨none,0,[⟨0,true⟩,⟨0,true⟩]⟩,⟨none,0,[V6b len]⟩⟩,⟨none,0,[]⟩,⟨none,0,[]⟩⟩
def Zbf (ho:Int):XZone:=⟨⟨none,0,[⟨1,0,0,0⟩]⟩,ho,⟨none,0,[0]⟩,1⟩
def Zte (len dl ho:Int):XSite:=⟨Zb len,⟨none,0,[easySens]⟩,⟨none,0,[Kvb dl]⟩,⟨none,0,[Zbf ho]⟩,⟨none,0,[1,2]⟩⟩
def V8e {s:XSite} {len dl ho:Int} (h:EasyD s len dl ho):SiteE s (Zte len dl ho):=by
 obtain ⟨z,h7,z1,z2,z3,z4⟩:=h.zone;show K1 s=K1 (Zte len dl ho);rw [K1,Zr,Ylc,h.places,h.roads,h.fans,h.doors,h.sens,h.conds,h7,h.pers];show _=(⟨_,_,_,⟨none,0,[K1b (Zbf ho)]⟩,_⟩:XSite);have e:K1b z=K1b (Zbf ho):=by rw [K1b,z1,z2,z3,z4];rfl
 rw [yQ,e];rfl
def Zyb:U8e (Zb 1) U2=true:=by rfl
def Yse (p:Int):LowIs (K3 (Zb 1) U2 0) p (Vm (K3 (Zb 1) U2 0) p):=
 Zna (V6d (Zyb)).1 ⟨by decide,by show (0:Int) < 1;decide⟩ p
def Jge (p:Int):HighIs (K3 (Zb 1) U2 0) p (Um (K3 (Zb 1) U2 0) p):=
 V8a (V6d (Zyb)).1 ⟨by decide,by show (0:Int) < 1;decide⟩ p
def Yrd:K3 (Zb 1) U2 0 300=⟨0,0⟩:=by rfl
def Zie:K3 (Zb 1) U2 0 301=⟨601,601⟩:=by rfl
def Zwe:K3 (Zb 1) U2 0 299=⟨-599,-599⟩:=by rfl
def Jse:Vm (K3 (Zb 1) U2 0) 0=300:=by
 have h1:=Yse 0;have e0:=Yrd;have e1:=Zie;generalize Vm (K3 (Zb 1) U2 0) 0=z at *;rcases Int.lt_trichotomy z 300 with h | h | h;·have:=h1.gt 300 h za;rw [e0] at this;dsimp only at this;omega
 ·exact h
 ·have:=h1.le 301 za za;rw [e1] at this;dsimp only at this;omega
def U8d:Um (K3 (Zb 1) U2 0) 0=300:=by
 have h1:=Jge 0;have e0:=Yrd;have e1:=Zwe;generalize Um (K3 (Zb 1) U2 0) 0=z at *;rcases Int.lt_trichotomy z 300 with h | h | h;·have:=h1.ge 299 za za;rw [e1] at this;dsimp only at this;omega
 ·exact h
 ·have:=h1.lt 300 za h;rw [e0] at this;dsimp only at this;omega
def Jve:AiryIs (Zb 1).mine [true,true]:=by
 have hs:Z9d (Zb 1).mine=[true,true]:=rfl;refine ⟨rfl,fun i hi=>?_⟩;rw [hs] at hi ⊢;simp only [yw,yM] at hi ⊢;rcases yl i 1 with h | h;·
  obtain rfl : i = 0 := by omega
  exact ⟨fun _=>⟨0,by decide,rfl,.refl⟩,fun _=>rfl⟩
 ·
  obtain rfl : i = 1 := by omega
  exact ⟨fun _=>⟨1,by decide,rfl,.refl⟩,fun _=>rfl⟩
def Vsd (up:Bool):Ui (Zb 1) U2 [true,true] up [0,0] (Zb 1).mine.places.l.length=some [0,0]:=by have h0:Yeb (Zb 1) [true,true] 0=true:=rfl;have h1:Yeb (Zb 1) [true,true] 1=true:=rfl;show Ui (Zb 1) U2 [true,true] up [0,0] (0 + 1 + 1)=_;rw [Ui,Ui,Ui,yKa,if_pos h0,yKa,if_pos h1]
def Vmd:StartOk (Zb 1) U2 [0,0] [true,true]:=by
 refine ⟨by rfl,by rfl,rfl,fun p hp=>?_,fun i hi hf=>?_⟩;·simp only [yS, yP, or_false] at hp;omega
 ·
  rcases yl i 1 with h1 | h1;·(obtain rfl : i = 0 := by omega);rfl
  ·(obtain rfl : i = 1 := by have : i < 2 := hi; omega);rfl
def Jsb (up:Bool):Uc (Zb 1) U2 [true,true] up [0,0]=(0,[0,0]):=by have r:Vk (Zb 1) U2 [true,true] up 200 [0,0]=some [0,0]:=Zzb (n:=199) (Vsd up);rw [Uc,if_neg (by rw [Uva.2 (Vmd)];decide),r]
def Y9b:Yt (Zb 1) U2 [true,true]=(0,[0,0],[0,0]):=by have h0:List.replicate (Zb 1).mine.places.l.length (0:Int)=[0,0]:=rfl;rw [Yt,h0,Jsb];dsimp only;rw [if_neg ze,Jsb,if_neg ze,Jsb,if_neg ze]
abbrev Vre:XBounds:=⟨⟨none,0,[0,0]⟩,⟨none,0,[0,0]⟩⟩
def Kfd:Ze (Zb 1) U2 Vre [true,true]=0:=by
 refine K6c.2 ⟨⟨by rfl,by rfl,rfl,rfl,fun p hp=>?_,fun p hp=>?_⟩,fun i hi hf=>?_,fun i hi hf=>?_⟩;·simp only [yS, yP, or_false] at hp;omega
 ·simp only [yS, yP, or_false] at hp;omega
 ·
  rcases yl i 1 with h | h;·(obtain rfl : i = 0 := by omega);exact ⟨rfl,rfl⟩
  ·(obtain rfl : i = 1 := by have : i < 2 := hi; omega);exact ⟨rfl,rfl⟩
 ·
  rcases yl i 1 with h | h;·(obtain rfl : i = 0 := by omega);exact absurd rfl hf
  ·(obtain rfl : i = 1 := by have : i < 2 := hi; omega);exact absurd rfl hf
def Yce:Veb (Zb 1) U2 [true,true]=(0,[⟨300,300⟩]):=by
 have h1:Kx (Zb 1)=0:=by rfl
 have h2:Uza (Zb 1) U2=true:=by rfl
 have h3:Y3a (Zb 1) U2 [true,true]=Vre:=by rw [Y3a,Y9b]
 rw [Veb,if_neg (by rw [h1];decide),if_neg (by rw [h2];decide),Y9b,if_pos rfl,h3,U3,if_pos (Kfd)];have h4:Uz (Zb 1) U2 Vre [true,true] 0=⟨300,300⟩:=by have e:Uz (Zb 1) U2 Vre [true,true] 0=⟨Vm (K3 (Zb 1) U2 0) 0,Um (K3 (Zb 1) U2 0) 0⟩:=rfl;rw [e,Jse,U8d]
 show (0,[Uz (Zb 1) U2 Vre [true,true] 0])=_;rw [h4]
abbrev easyG:PSite:=⟨Zte 1 1 1,[0],3,[true,true]⟩
abbrev Uqa:List XSpan:=[⟨300,300⟩]
def Znd {n : Nat} {lost : XSpan} {t : Int} {l : List XSens} (h : ∀ i : Nat, (l.getD i default).kind ≠ 3) : ∀ (m : List XMeas) (st : NarSt), m.foldl (J1a n 3 lost t l) st = st
 | [],_=>rfl
 | x :: m,st=>by
  rw [List.foldl_cons,J1a,if_pos (fun k=>h _ k.1.2.1)]
  exact Znd h m st
def Kge : ∀ i : Nat, (([easySens] : List XSens).getD i default).kind ≠ 3
 | 0=>by decide
 | k + 1=>by show (0:Int)≠3;decide
def Vdc (p:PSta):flP easyG p=Uqa:=by have h1:Zae easyG.site p.meas p.time=([],[]):=rfl;have h2:easyG.site.sensors.l=[easySens]:=rfl;have h3:flS easyG.site.air easyG.air ([],[])=Uqa:=congrArg Prod.snd Yce;rw [flP,Yja,Zce,Zlb,h1,h2,h3,Znd Kge]
def Za (p0:PSta) (t:Int):PSta:=
 let p:={ p0 with time:=t }
 let v:=valuesV easyG.site p.meas p.watches Uqa t
 let q:=settleB easyG (Zra easyG { p with watches:=valuesW easyG.site p.meas p.watches Uqa t,cuts:=cutsC easyG.site v p.cuts t } (cutsN easyG.site v p.cuts t))
 darkTo easyG v q q.cuts.length
def J7a (p:PSta) (t:Int):Ji easyG p t=Za p t:=by rw [Ji,settleA,Vrb,Vdc];rfl
def Zzd:XTele:=Vyf 0 9
def Jtc (t:Int) (p:PSta):PSta:=Za { p with meas:=U1a [easySens] t p.meas Zzd } t
def Y5e {p:PSta} {t:Int} (h1:p.held=[]) (h2:p.dropped=0) (hl:¬ Zu p t):Yqa easyG p (Ydf 0 9) t=(Jtc t p,0):=by
 have e:Vb (p.held ++ Ydf 0 9) p.dropped=⟨[],0,[Zzd]⟩:=by have:=Jje (f:=Vyf 0 9) ze [] 0;rw [yca,Y2a] at this;rw [h1,h2];exact this
 have e2:({ p with held:=[],dropped:=0,meas:=U1a [easySens] t p.meas Zzd }:PSta)={ p with meas:=U1a [easySens] t p.meas Zzd }:=by cases p;dsimp only at h1 h2;subst h1;subst h2;rfl
 rw [Yqa,if_neg hl,J7a,feedR,e,Jtc];show (Za { p with held:=[],dropped:=0,meas:=U1a [easySens] t p.meas Zzd } t,(0:Int))=_;rw [e2]
def Kwa : Nat → PSta
 | 0=>pAw 0
 | k + 1=>Jtc (1 + 6 * (k:Int)) (Kwa k)
def easyQ:PSta:=Za { Kwa 10 with sw:=Z1 (Kwa 10).sw 0 (-1) } 60
def easyQ2:PSta:=Za easyQ 61
def easyQ3:PSta:=Zh { easyQ2 with rest:=askR easyG.site easyQ2.cuts Uqa easyQ2.rest 0 0 61 } 4 0 0
def easyQ4:PSta:=Za easyQ3 62
def easyQ5:PSta:=Zh { easyQ4 with rest:=confirmR easyG.site easyQ4.cuts Uqa easyQ4.rest 1 62 } 5 easyQ4.rest.zone 1
def easyQ6:PSta:=Za easyQ5 63
def Yxf:V7 (Kwa 10).sw [0] 3 0 (-1)=0:=by kernel_rfl
def Zif:askE easyG.site easyQ2.cuts Uqa easyQ2.rest 0 0 61=0:=by kernel_rfl
def U9f:confirmE easyG.site easyQ4.cuts Uqa easyQ4.rest 1 62=0:=by kernel_rfl
def Ywf:Vs easyG.site easyQ6.cuts Uqa easyQ6.rest (mkF easyG easyQ6) 63=0:=by kernel_rfl
def easyC:List XCut:=Kna easyG.site easyQ6.cuts Uqa easyQ6.rest (mkF easyG easyQ6) 63
def easySw:List XSwitch:=Zz easyG.site easyQ6.cuts Uqa easyQ6.rest (mkF easyG easyQ6) 63
def Vle:easyC.length=1∧(easyC.getD 0 default).off=false:=⟨by kernel_rfl,by kernel_rfl⟩
def Yae:easySw.length=1∧(easySw.getD 0 default).closed=true:=⟨by kernel_rfl,by kernel_rfl⟩
def Vua : ∀ k, (Kwa k).held = [] ∧ (Kwa k).dropped = 0
 | 0=>⟨rfl,rfl⟩
 | k + 1=>by
  have h:=Vua k
  rw [Kwa,Jtc,← J7a]
  have e:=Vla (g:=easyG) (p:={ Kwa k with meas:=U1a [easySens] (1 + 6 * (k:Int)) (Kwa k).meas Zzd }) (1 + 6 * (k:Int))
  exact ⟨e.held.trans h.1,e.dropped.trans h.2⟩
def Uqc : ∀ k : Nat, (Kwa k).time ≤ 6 * (k : Int) ∧ 0 ≤ (Kwa k).time
 | 0=>⟨by decide,by decide⟩
 | k + 1=>by
  rw [Kwa,Jtc,← J7a,Vo]
  omega
def Znc (k:Nat) (hk:k < 100):Yqa easyG (Kwa k) (Ydf 0 9) (1 + 6 * (k:Int))=(Kwa (k + 1),0):=by have ht:=Uqc k;exact Y5e (Vua k).1 (Vua k).2 (by rw [Zu];omega)
def Uyb:J5a easyG (Kwa 10) 0 (-1) 60=(easyQ,0):=by have ht:=Uqc 10;rw [J5a,if_neg (by rw [Zu];omega),if_neg (by rw [show V7 (Kwa 10).sw easyG.zn easyG.rp 0 (-1)=0 from Yxf];decide),J7a];rfl
def Jle:easyQ.time=60:=by rw [easyQ,← J7a,Vo]
def Zqc:Jze easyG easyQ 0 0 61=(easyQ3,0):=by rw [Jze,if_neg (by rw [Zu,Jle];decide)];dsimp only;rw [J7a,Vdc,show askE easyG.site (Za easyQ 61).cuts Uqa (Za easyQ 61).rest 0 0 61=0 from Zif,if_neg ze];rfl
def Vxd:easyQ3.time=61:=by show (Za easyQ 61).time=61;rw [← J7a,Vo]
def K6b:Zk easyG easyQ3 1 62=(easyQ5,0):=by rw [Zk,if_neg (by rw [Zu,Vxd];decide)];dsimp only;rw [J7a,Vdc,show confirmE easyG.site (Za easyQ3 62).cuts Uqa (Za easyQ3 62).rest 1 62=0 from U9f,if_neg ze];rfl
def U3d:easyQ5.time=62:=by show (Za easyQ3 62).time=62;rw [← J7a,Vo]
def Ufd:(U4a easyG easyQ5 63).2=0∧(U4a easyG easyQ5 63).1.cuts=easyC∧(U4a easyG easyQ5 63).1.sw=easySw:=by rw [U4a,if_neg (by rw [Zu,U3d];decide)];dsimp only;rw [J7a,Vdc,show Vs easyG.site (Za easyQ5 63).cuts Uqa (Za easyQ5 63).rest (mkF easyG (Za easyQ5 63)) 63=0 from Ywf,if_neg ze];exact zDd
end
section
attribute [local irreducible] CJ LJ DJ Tri YV Gives Uq J2 Km Ur RV J4 OwL.L
structure EasyN (f:XFeeder) (n:Nat):Prop where
 rng:1≤n∧n≤3
 sw:f.switches.l=Z8a n
 zn:f.zones.l=[(n:Int) - 1]
 rp:f.reply=3
def Vwe (c:Nat) (x:Arr Int) (k:Nat) (R:LS) (hx:CodesR x R) (hk:k≤x.l.length):
 Tri Tryz.prog 15 [.pointer (some ⟨c, 0, none⟩)].toArray [cblk c x k] R
  (fun v M U=>∃(s:XSite) (len dl ho:Int) (f:XFeeder) (n k':Nat),v=.tuple #[s.val,f.val]∧EasyD s len dl ho∧EasyN f n∧(k'≤x.l.length∧(x.l.length≤k→len=1∧dl=1∧ho=1∧n=1∧k'=k))∧(SiteR s U∧FeederR f U∧∀r∈R,InR r U)∧cblk c x k' :: []=M):=by refine Tri.postW (Zmc c x k R hx hk) ?_;rintro v M U c w ⟨s,len,dl,ho,sw,zn,n,k',rfl,hE,⟨hsk,hzk⟩,hn,hsl,hzl,hk',⟨hs,hR⟩,rfl⟩ hst;have h1:=hst.frzO (subs:=[]) hsk yf ze yg;have h2:=h1.frzO (subs:=[]) hzk yf ze yg;have h3:∀r∈U,InR r (isl zn.arr :: Jdc sw.arr :: U):=fun r hr=>Ja (.tail _ (.tail _ hr));exact ⟨_,_,h2,s,len,dl,ho,⟨sw.arr,zn.arr,3⟩,n,k',rfl,hE,⟨hn,hsl,hzl,rfl⟩,hk',⟨hs.mono h3,⟨Ja (.tail _ (.head _)),Ja (.head _)⟩,fun r hr=>(hR r hr).mono h3⟩,rfl⟩
end
section
section
variable {A B:Prop}
def Jgf(h:A→B:=by exact Jy ztb rfl):=h
end
abbrev Zzf:XFeeder:=⟨⟨none,0,Z8a 1⟩,⟨none,0,[0]⟩,3⟩
attribute [local irreducible] Za Kwa easyQ easyQ3 easyQ5
def Zvd:Inv easyG (pAw 0):=Ync (s:=Zte 1 1 1) (f:=Zzf) (A:=[true,true]) zc Jve
def Kqb : ∀ k, k ≤ 100 → Inv easyG (Kwa k)
 | 0,_=>by rw [Kwa];exact Zvd
 | k + 1,h=>by
  have e:=congrArg Prod.fst (Znc k za)
  have:=(Kqb k za).feed (b:=Ydf 0 9) (Kmc ⟨by decide,by decide⟩ ⟨by decide,by decide⟩) (1 + 6 * (k:Int))
  rw [e] at this;exact this
def easyQ_inv:Inv easyG easyQ:=by have:=(Kqb 10 ze).answer 0 (-1) 60;rw [Uyb] at this;exact this
def easyQ3_inv:Inv easyG easyQ3:=by have:=easyQ_inv.ask 0 0 61;rw [Zqc] at this;exact this
def J1e:Inv easyG easyQ5:=by have:=easyQ3_inv.confirm 1 62;rw [K6b] at this;exact this
attribute [local irreducible] CJ LJ DJ Tri YV Gives Uq J2 Km Ur RV J4 OwL.L
def Vqb (L:LB) (R:LS):Tri Tryz.prog 29 ([]:List Value).toArray L R (fun v M U=>v=.bool true∧L=M∧R=U):=by
 refine Jd 81 Tryz.call29 Tryz.func29 rfl rfl rfl ?_;apply Xbh∘qa4;refine Y5d 1 ?_;apply (qay);refine Jo rfl (Uwe ⟨none,0,[]⟩ _ _ ⟨Ja (.head _),fun i q hq=>by simp at hq⟩) rfl ?_;rintro v M U ⟨c,rfl,hx,rfl,rfl⟩;refine Jo rfl (Tri.spl (.consL .rest) (Vwe c _ 0 _ hx (yga _))) rfl ?_;rintro v M U ⟨_,rfl,s,len,dl,ho,f,n,k1,rfl,hE,hN,⟨hk1,he0⟩,⟨hs,hf,hR0⟩,rfl⟩;refine Jy zPb rfl ?_;apply Xa6∘qaq;intro b1;apply (qaq);intro b2;apply qak∘Xc1;obtain ⟨rfl,rfl,rfl,rfl,_⟩:=he0 (yga _);have hRR:∀r∈R,InR r U:=fun r hr=>hR0 r (.tail _ (.tail _ hr));obtain ⟨A,hA⟩:=K5e s.air.mine;refine Vg (M:=⟨b2,f.cells,42⟩ :: ⟨b1,s.cells,38⟩ :: L) (List.sublist_append_left _ _) zBb ?_;have h0:=Kfe (f:=f) hE hN.rng hN.sw hN.zn hN.rp;have hI:=Ync (A:=A) h0 hA;apply (qay);refine Jy zvb rfl ?_;refine Jy zrb rfl ?_;refine Jo rfl (Jec s f A _ _ hs hf hA) rfl ?_;rintro v M U ⟨x,S1,rfl,hxR,hx0,_,rfl,rfl⟩;rw [h0];have hx:=hx0 h0;rw [J7e hE hN.sw] at hx;have hxG:StaIs easyG (Kwa 0) x:=by rw [Kwa];exact { hx with site:=hx.site.trans (V8e hE),zn:=hx.zn.trans hN.zn,rp:=hx.rp.trans hN.rp }
 refine Jy zPb rfl ?_;apply Xa6∘qaq;intro b3;apply qak∘Xby∘Xat;refine q_c ?_ ?_<;>intro hc0;·
  apply (Xdm);refine Kv (M:=L) (U:=R) (Va rfl zcd) ?hp ?hL ?hR;case hp=>exact absurd hc0 zo
  case hL=>exact zg
  case hR=>exact fun r hr=>(hRR r hr).mono fun r hr=>Ja (yk _ hr)
 apply qbo∘Xba;refine Jl [(3,.pointer _),(5,.int _ _)] zh fun tq0=>?_;refine q_p ([5]++rg 19 11) ((⟨fun g=>[(5,.int .i64 (1 + 6 * ((g.1.1:Nat):Int)))],fun g=>⟨b3,g.1.2.1.cells,54⟩ :: L,fun g=>g.1.2.2,fun g=>10 - g.1.1⟩:Head {g:Nat×XSta×LS // g.1≤10∧StaIs easyG (Kwa g.1) g.2.1∧StaR g.2.1 g.2.2∧∀r∈R,InR r g.2.2})) (⟨(0,x,S1 ++ U),by dsimp only;omega,hxG,hxR,fun r hr=>(hRR r hr).mono fun r hr=>Ja (yk _ hr)⟩) ?_;rintro ⟨⟨k,u,S⟩,hk,hu,huR,hsub⟩ junk;try dsimp only
 dsimp only at hk hu huR hsub;apply Xa1∘Xbb;refine q_c ?_ ?_<;>intro hc1;·have hIk:=Kqb k za;have hst:=Znc k za;have hpf:=Vua k;refine J3 (Jb (Jp (Kc ?_)));refine J5 tb [29] [0,2,1,3,4,5,6] [7] ([Blk.mk b3 _ _]) _ Kr zc zg zUa ?_;refine Kp ztb rfl rfl rfl rfl ?_;apply (qbf);refine Ks rfl (Yof 0 9 _ _ ⟨by decide,by decide⟩ ⟨by decide,by decide⟩) rfl rfl ?_;rintro v M U ⟨q,rfl,hql,hqR,hSR,rfl⟩;refine ⟨zg,zq,?_⟩;refine Ks rfl (Yxb easyG (Kwa k) u q (1 + 6 * (k:Int)) _ _ hIk hu (huR.mono hSR) hqR (by rw [hql];exact Kmc ⟨by decide,by decide⟩ ⟨by decide,by decide⟩) (by rw [hql,Ydf,Zja];show (2:Nat) + 6≤_;decide) (by rw [hpf.2];decide)) rfl rfl ?_;rintro v M U ⟨w,S3,rfl,hw,hwR,rfl,rfl⟩;refine ⟨zg,zq,?_⟩;rw [hql,hst] at hw;refine Kp zPb rfl rfl rfl rfl ?_;refine Kp zbc rfl rfl rfl rfl ?_;refine Vf zbc rfl rfl rfl rfl ?_;apply Xcm∘qby∘Xbo;exact q_k ⟨(k + 1,w,_),by dsimp only;omega,hw,hwR,fun r hr=>((hsub r hr).mono hSR).mono fun r hr=>Ja (yk _ hr)⟩
 obtain rfl:k=10:=by omega
 apply qbk∘Jgf;refine Jo rfl (Usc easyG (Kwa 10) u 0 (-1) 60 _ _ (Kqb 10 ze) hu huR) rfl ?_;rintro v M U ⟨w1,Sa,rfl,hw1,hw1R,rfl,rfl⟩;rw [Uyb] at hw1;refine Jy zPb rfl ?_;apply Xa6∘Xa0∘Jgf;refine Jo rfl (Jde easyG easyQ w1 0 0 61 _ _ easyQ_inv hw1 hw1R) rfl ?_;rintro v M U ⟨w2,Sb,rfl,hw2,hw2R,rfl,rfl⟩;rw [Zqc] at hw2;refine Jy zPb rfl ?_;apply Xa6∘Xa0∘Jgf;refine Jo rfl (J7c easyG easyQ3 w2 1 62 _ _ easyQ3_inv hw2 hw2R) rfl ?_;rintro v M U ⟨w3,Sc,rfl,hw3,hw3R,rfl,rfl⟩;rw [K6b] at hw3;refine Jy zPb rfl ?_;apply Xa6∘Xa0∘Jgf;refine Jo rfl (Z9c easyG easyQ5 w3 63 _ _ J1e hw3 hw3R) rfl ?_;rintro v M U ⟨w4,Sd,rfl,hw4,hw4R,rfl,rfl⟩;refine Jy zPb rfl ?_;apply Xa6∘qak∘Xcb;obtain ⟨e1,e2,e3⟩:=Ufd;rw [e1];have hcl:w4.cuts.l=easyC:=hw4.cuts.trans e2;have hsl:w4.feeder.switches.l=easySw:=hw4.sw.trans e3;have hcn:w4.cuts.l.length=1:=by rw [hcl];exact Vle.1
 have hsn:w4.feeder.switches.l.length=1:=by rw [hsl];exact Yae.1
 have hcg:=Jt (l:=w4.cuts.l) (k:=0) default za;have hsg:=Jt (l:=w4.feeder.switches.l) (k:=0) default za;have hco:(w4.cuts.l.getD 0 default).off=false:=by rw [hcl];exact Vle.2
 have hso:(w4.feeder.switches.l.getD 0 default).closed=true:=by rw [hsl];exact Yae.2
 obtain ⟨cc,hce⟩:∃cc,cc=w4.cuts.l.getD 0 default:=⟨_,rfl⟩;obtain ⟨ss,hse⟩:∃ss,ss=w4.feeder.switches.l.getD 0 default:=⟨_,rfl⟩;rw [← hce] at hcg hco;rw [← hse] at hsg hso;have hcR:=hw4R.cuts;have hsR:=hw4R.feeder.sw;apply Xa9∘Xcc;apply Uy (G:=[_,_,_,_]) (j:=2) (cj:=52) rfl rfl zb rfl zmb rfl;·intro hg3;replace hg3:=qb hg3;exact (Xab) zKd
 intro junk3;apply (qah);apply Uy (G:=[_,_,_,_,_,_]) (j:=8) (cj:=58) rfl rfl zb rfl zmb rfl;·intro hg9;replace hg9:=qb hg9;exact (Xaa∘qdt∘Xbx∘qb4) qai
 intro junk9;apply (qah);apply Uy (G:=[_,_,_,_,_]) (j:=16) (cj:=66) rfl rfl zb rfl zmb rfl;·intro hg17;replace hg17:=qb hg17;exact (Xce) zKd
 intro junk17;apply (qah);apply Uy (G:=[_,_,_,_,_,_]) (j:=23) (cj:=73) rfl rfl zb rfl zmb rfl;·intro hg24;replace hg24:=qb hg24;exact (Xdv∘qdt∘Xbx) qai
 intro junk24;apply (Xbk);refine Kv (M:=L) (U:=R) (Va rfl zcd) ?hp ?hL ?hR;case hp=>exact ⟨by simp [hco,hso,hcn,hsn],rfl,rfl⟩
 case hL=>exact zg
 case hR=>exact fun r hr=>(hsub r hr).mono fun r hr=>Ja zG
end
section
def Wd (x y:XSpan):Prop:=x.low≤x.high∧y.low≤x.low∧x.high≤y.high
structure MLoose (m m':XMeas):Prop where
 sensor:m'.sensor=m.sensor
 time:m'.time=m.time
 span:m'=m∨(Wd m.span m'.span∧(-1000000000≤m'.span.low∧m'.span.high≤1000000000))
section
variable {S:List XSens} {m m':List XMeas} {fl fl':List XSpan} {c:XCond} {w:XWatch} {t:Int} (hl:m'.length=m.length) (h:∀i:Nat,i < m.length→MLoose (m.getD i default) (m'.getD i default)) (hfl:fl'.length=fl.length) (hf:∀i:Nat,i < fl.length→Wd (fl.getD i default) (fl'.getD i default))
include hl h
include hfl hf
end
end
section
def MeasI (T:Int) (m:List XMeas):Prop:=∀i:Nat,i < m.length→(m.getD i default).time≤T∧((m.getD i default).sensor < 0∨((m.getD i default).sensor=(i:Int)∧((m.getD i default).span=nothingS∨-549755813888≤(m.getD i default).span.low)))
section
variable {g:PSite} {p:PSta}
end
end
section
section
variable {g:PSite} {p:PSta}
structure KeepW (p q:PSta):Prop where
 watches:q.watches=p.watches
 rest:q.rest=p.rest
def KeepW.trans {p q r:PSta} (h:KeepW p q) (k:KeepW q r):KeepW p r:=⟨k.watches.trans h.watches,k.rest.trans h.rest⟩
def Ume (z:Int):KeepW p (Yac g p z):=by rw [Yac];split <;> exact ⟨rfl,rfl⟩
def V7e : ∀ (l : List Int) {p : PSta}, KeepW p (Zra g p l)
 | [],p=>⟨rfl,rfl⟩
 | z :: l,p=>(Ume z).trans (V7e l)
def Voc (k : Int) : ∀ (l : List Int) {p : PSta}, KeepW p (Jsa k p l)
 | [],p=>⟨rfl,rfl⟩
 | z :: l,p=>KeepW.trans (q:=Zh p k z 0) ⟨rfl,rfl⟩ (Voc k l)
def Yme (vals : List Int) : ∀ k, KeepW p (darkTo g vals p k)
 | 0=>⟨rfl,rfl⟩
 | k + 1=>by
  refine (Yme vals k).trans ?_
  rw [darkTo,Via]
  split
  ·exact ⟨rfl,rfl⟩
  ·exact KeepW.trans (q:={ darkTo g vals p k with cuts:=(darkTo g vals p k).cuts.set k ⟨true,((darkTo g vals p k).cuts.getD k default).clear,Kpa (g.site.zones.l.getD k default).rule.l vals⟩ }) ⟨rfl,rfl⟩ (Ume _)
end
end
section
attribute [local irreducible] CJ LJ DJ Tri YV Gives Uq J2 Km Ur RV J4 OwL.L
structure PAct where
 kind:Int
 n:Int
 m:Int
 wait:Int
 bytes:List Int
structure XAct where
 kind:Int
 n:Int
 m:Int
 wait:Int
 bytes:Arr Int
instance:Inhabited XAct:=⟨⟨0,0,0,0,⟨none,0,[]⟩⟩⟩
instance:Inhabited PAct:=⟨⟨0,0,0,0,[]⟩⟩
def Yvf (a:PAct):Prop:=a.kind=0∨a.kind=1∨a.kind=2
instance (a:PAct):Decidable (Yvf a):=by unfold Yvf;infer_instance
def Zyd (g:PSite) (p:PSta) (a:PAct):PSta×Int:=
 if Yvf a then Yqa g p a.bytes (p.time + a.wait)
 else if a.kind=3 then J5a g p a.n (a.m - 1) (p.time + a.wait)
 else if a.kind=4 then Jze g p a.n a.m (p.time + a.wait)
 else if a.kind=5 then Zk g p a.n (p.time + a.wait)
 else if a.kind=6 then U4a g p (p.time + a.wait)
 else Yib g p (p.time + a.wait)
end
section
def MeasI.mono {T t:Int} {m:List XMeas} (h:MeasI T m) (ht:T≤t):MeasI t m:=fun i hi=>⟨by have:=(h i hi).1;omega,(h i hi).2⟩
def J6e (s:XSens) (r:Int):Jpa s r=nothingS∨-549755813888≤(Jpa s r).low:=by
 rw [Jpa];split;·exact .inl rfl
 rename_i h;have hm:=Kwd (s:=s) (r:=r) za za;have hs:=Yra (s:=s) za;rw [Zn] at hs;split;·
  split;·exact .inl rfl
  ·exact .inr zu
 split;·exact .inr (by simp only [Zpe];omega)
 ·exact .inr (by simp only [Zpe];omega)
def Y8f {S:List XSens} {T t:Int} {m:List XMeas} (f:XTele) (h:MeasI T m) (ht:T≤t) (hl:m.length=S.length):MeasI t (U1a S t m f):=by
 rw [U1a];split;·
  rename_i he;have ha:=Z4b he;intro i hi;rw [yE] at hi;rw [yh,yG];split;·
   rename_i e;rw [if_pos za];show (Vqa S f t).time≤t∧((Vqa S f t).sensor < 0∨((Vqa S f t).sensor=(i:Int)∧((Vqa S f t).span=nothingS∨_)));refine ⟨yF _,.inr ⟨by show Jra S f.address=_;omega,?_⟩⟩;show (if f.kind=1 then Jpa _ _ else nothingS)=nothingS∨-549755813888≤(if f.kind=1 then Jpa _ _ else nothingS).low;split;·exact J6e _ _
   ·exact .inl rfl
  ·rw [← yh];exact (h.mono ht) i hi
 ·exact h.mono ht
def Uie {S : List XSens} {T t : Int} (ht : T ≤ t) : ∀ (l : List XTele) {m : List XMeas}, MeasI T m → m.length = S.length → MeasI t (l.foldl (U1a S t) m)
 | [],m,h,_=>h.mono ht
 | f :: l,m,h,hl=>Uie (T:=t) (yF _) l (Y8f f h ht hl) ((Z4c ..).trans hl)
section
variable {g:PSite} {p:PSta}
def Utc {t:Int} (h:MeasI t p.meas):MeasI (Ji g p t).time (Ji g p t).meas:=by rw [Vo,(Vla t).meas];exact h
def Zxf (hI:Inv g p) (h:MeasI p.time p.meas) (a:PAct) (hw:0≤a.wait):MeasI (Zyd g p a).1.time (Zyd g p a).1.meas∧p.time≤(Zyd g p a).1.time∧(Zyd g p a).1.time≤p.time + a.wait:=by
 have ht:p.time≤p.time + a.wait:=by omega
 have hs:=Utc (g:=g) (p:=p) (h.mono ht);have hst:=Vo (g:=g) (p:=p) (p.time + a.wait);have h0:MeasI p.time p.meas∧p.time≤p.time∧p.time≤p.time + a.wait:=⟨h,yF _,ht⟩;rw [Zyd];split;·
  rw [Yqa]; split;·exact h0
  ·have h1 := Utc (g := g) (p := feedR g p a.bytes (p.time + a.wait)) (Uie (S := g.site.sensors.l) (t := p.time + a.wait) ht (Vb (p.held ++ a.bytes) p.dropped).out h hI.meas);have h2:=Vo (g:=g) (p:=feedR g p a.bytes (p.time + a.wait)) (p.time + a.wait);dsimp only;exact ⟨h1,by omega,by omega⟩
 split;·
  rw [J5a]; split;·exact h0
  split;·exact h0
  ·have h1 := Utc (g := g) (p := { p with sw := Z1 p.sw a.n (a.m - 1) }) (h.mono ht);have h2:=Vo (g:=g) (p:={ p with sw:=Z1 p.sw a.n (a.m - 1) }) (p.time + a.wait);dsimp only at h1 h2 ⊢;exact ⟨h1,by omega,by omega⟩
 split;·
  rw [Jze]; split;·exact h0
  exact uaw
 split;·
  rw [Zk]; split;·exact h0
  exact uaw
 split;·
  rw [U4a]; split;·exact h0
  exact uaw
 ·
  rw [Yib]; split;·exact h0
  ·dsimp only;exact ⟨hs,by omega,by omega⟩
end
end
section
def Zdb {l : List XNode} {vals : List Int} (h : ∀ x ∈ l, x.kind = 1 → vals.getD x.cond.toNat 0 = 0) : ∀ k, k ≤ l.length → ∀ j, (Uf l vals k).getD j 0 = 0
 | 0,_,j=>by rw [Uf];rfl
 | k + 1,hk,j=>by
  have ih:=Zdb h k za
  have hg:=Jt (l:=l) (k:=k) default za
  have hn:Una vals (Uf l vals k) (l.getD k default)=0:=by
   rw [Una]
   split
   ·rename_i h1
    have:=h _ (yi hg) h1
    rw [Kec,this];split <;> rfl
   split
   ·rw [ih];rfl
   split
   ·rw [ih,ih];rfl
   ·rw [ih,ih];rfl
  rw [Uf,hn,yh,yea]
  split
  ·rw [← yh];exact ih j
  ·cases hj:j - (Uf l vals k).length with
   | zero=>rfl
   | succ n=>rfl
def Y3c {l:List XNode} {vals:List Int} (h:∀x∈l,x.kind=1→vals.getD x.cond.toNat 0=0):Kpa l vals=0:=by
 rw [Kpa];split;·exact Zdb h _ (ym _) _
 ·rfl
def Deaf (S:List XSens) (m:List XMeas) (t:Int):Prop:=∀i:Nat,i < S.length→atS (S.getD i default) (m.getD i default) t=nothingS
def Deaf.known {S:List XSens} {m:List XMeas} {t:Int} (h:Deaf S m t) (n:Int):Y2 S m n t=nothingS:=by
 rw [Y2];split;·rename_i k;exact h _ za
 ·rfl
def Ve (c:XCond):Prop:=c.kind=1∨c.kind=2∨c.kind=3
instance (c:XCond):Decidable (Ve c):=by unfold Ve;infer_instance
def Vnd {S:List XSens} {m:List XMeas} {fl:List XSpan} {c:XCond} {w:XWatch} {t:Int} (h:Deaf S m t) (hc:Ve c) (hl:-562949953421312≤c.value∧c.value≤562949953421312) (hv:c.kind=1→-562949953421312≤c.level.cut∧c.level.cut≤562949953421312):Kuc S m fl c w t=0:=by
 have e1:∀n:Int,-562949953421312≤n∧n≤562949953421312→Z6 nothingS n=0:=fun n hn=>by have a:nothingS.low= -1125899906842624:=rfl;have b:nothingS.high=1125899906842624:=rfl;rw [Z6,if_neg za,if_neg za,if_neg za]
 rw [Kuc,h.known];unfold Ve at hc;rw [if_neg za];split;·rw [e1 _ hl];rfl
 split;·rfl
 rw [if_neg za];have hk:c.kind=1:=by omega
 have e2:=e1 _ (hv hk);have e3:Zp c.level w nothingS t=⟨true,-1,t⟩:=by rw [Zp,if_pos (by rw [e2];decide)]
 rw [e3,if_neg (by show ¬ true=false;decide),e2,if_neg ze]
section
variable {g:PSite} {p:PSta}
def Jyc (t:Int):(Ji g p t).watches=valuesW g.site p.meas p.watches (flP g { p with time:=t }) t:=by rw [Ji];refine (Yme _ _).watches.trans ?_;rw [settleB];refine (Voc _ _).watches.trans ((Voc _ _).watches.trans ?_);show (settleA g { p with time:=t }).watches=_;rw [settleA];exact (V7e _).watches
def Koe (c:XCut):Prop:=c.off=true∧c.clear= -1
def Vod {vals:List Int} {i:Nat} (h:Koe (p.cuts.getD i default)) (z:Nat):Koe ((Via g vals p z).cuts.getD i default):=by
 rw [Via];split;·exact h
 ·
  rw [K4b];show Koe ((List.set _ _ _).getD i default);rw [yh,yG];split;·
   rename_i hz;subst hz;split;·exact ⟨rfl,h.2⟩
   ·rename_i hl;have:=h.1;rw [yh,yt za] at this;cases this
  ·rw [← yh];exact h
def Y3b {vals : List Int} {i : Nat} (h : Koe (p.cuts.getD i default)) : ∀ k, Koe ((darkTo g vals p k).cuts.getD i default)
 | 0=>h
 | k + 1=>Vod (Y3b h k) k
def K8d {t:Int} {i:Nat} (hI:Inv g { p with time:=t }) (hi:i < p.cuts.length) (hv:Kpa (g.site.zones.l.getD i default).rule.l (Vrb g { p with time:=t })≠-1):Koe ((Ji g p t).cuts.getD i default):=by have hce:=hI.cutErr;rw [Ji];refine Y3b ?_ _;rw [settleB,Ucb,Ucb];show Koe ((settleA g { p with time:=t }).cuts.getD i default);rw [settleA,J2d];show Koe ((cutsC g.site (Vrb g { p with time:=t }) p.cuts t).getD i default);rw [cutsC,if_neg (fun h=>h hce),yh,yr,yU hi];show Koe (Upf _ _ t);rw [Upf,if_neg hv];split <;> exact ⟨rfl,rfl⟩
def Jsd (h : ∀ k : Nat, k < g.site.conds.l.length → (g.site.conds.l.getD k default).kind = 1 → Jad (g.site.conds.l.getD k default).level (p.watches.getD k default) = 1099511627776) {v : Int} (hv : v ≤ 1099511627776) : ∀ k, k ≤ g.site.conds.l.length → Kae g p k v = v
 | 0,_=>rfl
 | k + 1,hk=>by
  rw [Kae,Jsd h hv k za]
  split
  ·rename_i hc
   rw [h k za hc];omega
  ·rfl
def Vme {l:XLevel} {w:XWatch} {t:Int} (hv:-1000000000≤l.cut∧l.cut≤1000000000):Jad l (Zp l w nothingS t)=1099511627776:=by have a:nothingS.low= -1125899906842624:=rfl;have b:nothingS.high=1125899906842624:=rfl;rw [Zp,if_pos (by rw [Z6,if_neg za,if_neg za,if_neg za];decide),Jad,if_pos (.inr (by show (-1:Int) < 0;decide))]
def Zxe (sw:List XSwitch) (rp:Int):Zxc sw rp≤1099511627776:=by
 have:∀(l:List XSwitch) (v:Int),v≤1099511627776→l.foldl (Kvd rp) v≤1099511627776:=by
  intro l;induction l with
  | nil=>exact fun v h=>h
  | cons x l ih=>intro v hv;refine ih _ ?_;rw [Kvd];split <;> omega
 exact this sw _ (yF _)
def Y5f {t:Int} (hI:Inv g p) (ht:p.time≤t∧t≤2147483648) (hd:Deaf g.site.sensors.l p.meas t):K6g g (Ji g p t)=if Zxc (Ji g p t).sw g.rp≤t then t + 1 else Zxc (Ji g p t).sw g.rp:=by
 have hIT:=hI.at ht.1 ht.2;have hm:(Ji g p t).meas=p.meas:=(Vla t).meas;have htm:=Vo (g:=g) (p:=p) t;have hw:=Jyc (g:=g) (p:=p) t;have hve:valuesErr g.site p.meas p.watches (flP g { p with time:=t }) t=0:=hIT.valErr;have hk:Ktb g (Ji g p t)=false:=by rw [Ktb,List.any_eq_false];intro i _;rw [hm,htm,hd.known];simp
 have hC:Kae g (Ji g p t) g.site.conds.l.length (Zxc (Ji g p t).sw g.rp)=Zxc (Ji g p t).sw g.rp:=by
  refine Jsd (fun k hk hc=>?_) (Zxe _ _) _ (ym _);have hlv:=Ymc (hI.sok.cond _ (yi (Jt (l:=g.site.conds.l) (k:=k) default hk))) hc;rw [Yr] at hlv;have e:(Ji g p t).watches.getD k default=Zp (g.site.conds.l.getD k default).level (p.watches.getD k default) nothingS t:=by rw [hw,valuesW,if_neg (fun h=>h hve),yh,yr,yU (by rw [hI.wlen];exact hk)];show Ywa _ _ _ _ _=_;rw [Ywa,if_pos hc,hd.known]
  rw [e,Vme za]
 have hq:Zuf g (Ji g p t)=Zxc (Ji g p t).sw g.rp:=by rw [Zuf,if_neg (by rw [hk];decide),hC]
 rw [K6g,hq,htm]
def Jif {t:Int} {i:Nat} (hI:Inv g p) (ht:p.time≤t∧t≤2147483648) (hd:Deaf g.site.sensors.l p.meas t) (hi:i < g.site.zones.l.length) (hn:∀x∈(g.site.zones.l.getD i default).rule.l,x.kind=1→Ve (g.site.conds.l.getD x.cond.toNat default)):Koe ((Ji g p t).cuts.getD i default):=by
 have hIT:=hI.at ht.1 ht.2;have hve:valuesErr g.site p.meas p.watches (flP g { p with time:=t }) t=0:=hIT.valErr;refine K8d hIT (by rw [hI.clen];exact hi) ?_;rw [Y3c];·decide
 intro x hx h1;have hms:=hn x hx h1;show (valuesV g.site p.meas p.watches (flP g { p with time:=t }) t).getD x.cond.toNat 0=0;rw [valuesV,if_neg (fun h=>h hve),yh,yr];rcases yl x.cond.toNat p.watches.length with hl | hl;·rw [yU hl];have hce:=hI.sok.cond _ (yi (Jt (l:=g.site.conds.l) (k:=x.cond.toNat) default (by rw [← hI.wlen];exact hl)));have hf:=K2b hce;refine Vnd hd hms za fun hk=>?_;have hlv:=Ymc hce hk;rw [Yr] at hlv;omega
 ·rw [yt (by rw [ypb];exact hl)];rfl
end
end
end Go.Proofs.YtchfclmokpbldaaGreat
