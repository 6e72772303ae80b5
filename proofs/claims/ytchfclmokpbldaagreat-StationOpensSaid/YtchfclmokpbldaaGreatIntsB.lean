/-
  Merged texts. By an AI agent.
-/
import Derived.Test.YtchfclmokpbldaaGreatMadeB
import Derived.Test.YtchfclmokpbldaaGreatRefA
import Derived.Test.YtchfclmokpbldaaGreatAppR
import Derived.Test.YtchfclmokpbldaaGreatRefC
set_option linter.all false
set_option maxHeartbeats 4000000
set_option maxRecDepth 20000
namespace Go.Proofs.YtchfclmokpbldaaGreat
open Go.Aw Go
section
attribute [local irreducible] CJ LJ DJ Tri YV Gives U7 Kb Kp U8 RV Ke OwL.L
section
variable {A B:Prop}
def Upe(h:A→B:=by exact J0 zIc rfl):=h
def Vge(h:B:=by exact ⟨staZ,Ktb,by rw [he];rfl,V8d R,fun h=>by omega,fun _=>rfl,rfl,rfl⟩):=h
def Zzf(h:A→B:=by exact J0 zzb rfl):=h
end
def Jac (s:XSite) (f:XFeeder) (A:List Bool) (L:LB) (R:LS) (hs:SiteR s R) (hf:FeederR f R) (hA:AiryIs s.air.mine A):
 Tri Tryz.prog 52 [s.val,f.val].toArray L R (Vnd s f A L R):=by
 have hswR:=hf.sw.mono fun r hr=>Jb (yl Ktb hr);refine Jd 108 Tryz.call52 Tryz.func52 rfl rfl rfl ?_;apply (Xag);intro b2;apply (qax);intro b3;apply (qaq);intro b4;apply qad∘qco;refine Kxe ?_;have hR0:∀r∈R,InR r (Ktb ++ R):=fun r hr=>Jb (yl _ hr);have hs0:=hs.mono hR0;have hf0:=hf.mono hR0;apply (qay);refine J0 zxb rfl ?_;refine q_l rfl (Uqd s _ _ hs0) ?_;apply (Xbj);refine q_c ?_ ?_<;>intro hc0;·
  apply qae∘Upe∘Xc6;refine q_r L (Ktb ++ R) zCd ?_;have he:Ym s f=K7 s:=by rw [Ym,if_pos hc0]
  exact Vge
 apply qbo∘Zzf;refine q_l rfl (Z7a f _ _ hf0) ?_;apply (Xbj);refine q_c ?_ ?_<;>intro hc1;·
  apply qae∘Upe∘Xc6;refine q_r L (Ktb ++ R) zCd ?_;have he:Ym s f=feedE f.switches.l f.zones.l f.reply:=by rw [Ym,if_neg hc0,if_pos hc1]
  exact Vge
 apply qbo∘Xe0∘Xaw;refine q_c ?_ ?_<;>intro hc2;·
  apply qae∘Upe∘Xcb;refine q_r L (Ktb ++ R) zCd ?_;have he:Ym s f=17:=by rw [Ym,if_neg hc0,if_neg hc1,if_pos zc]
  exact Vge
 have hse:K7 s=0:=Decidable.not_not.1 hc0;have hfe:feedE f.switches.l f.zones.l f.reply=0:=Decidable.not_not.1 hc1;have hfo:=Zo hfe;have hsn:=hfo.sn;have hzl:=hfo.zl;have hso:=(Ys hse).len;apply (qcl);refine Kg tb [0,1,2,3,4,5] ([Blk.mk b3 _ _,Blk.mk b2 _ _]) Kn zf zk ?_;refine Kq zxb rfl rfl rfl ?_;refine Kq zzb rfl rfl rfl ?_;refine q_d rfl (Jpd _ _) ?_;refine Kq zic rfl rfl rfl ?_;apply (qbr);intro b8;apply (qbg);refine J9 (Ja (Ji (Ji ?_)));refine V4 (M:=⟨b8,(⟨s,0,⟨none,0,[]⟩,0,⟨none,0,[]⟩,⟨none,0,[]⟩,⟨none,0,[]⟩,f,noRest,⟨none,0,[]⟩⟩:XSta).cells,54⟩ :: ⟨b4,staZ.cells,54⟩ :: ⟨b3,f.cells,42⟩ :: ⟨b2,s.cells,38⟩ :: L) ze ?_;apply (Xe2);refine Jh [(2,.pointer _),(3,.pointer _),(4,.pointer _),(8,.pointer _),(9,.int _ _)] zg fun tq0=>?_;refine q_s ([5,9]++rg 38 15) (fun g:{k:Nat // k≤f.switches.l.length∧∀j:Nat,j < k→(f.switches.l.getD j default).since=0}=>[(9,.int .i64 ((g.1:Nat):Int))]) (fun g=>f.switches.l.length - g.1) (⟨0,by omega,fun j hj=>by omega⟩) ?_;rintro ⟨k,hk,hal⟩ junk;try dsimp only
 apply (Xbm);refine q_c ?_ ?_<;>intro hc3;·
  have hg:=Js (l:=f.switches.l) (k:=k) default zc;apply (Xcz);refine J0 zC rfl ?_;apply Xbd∘Xaw;refine q_c ?_ ?_<;>intro hc4;·apply qae∘Upe∘qak∘Xet;refine q_r L (Ktb ++ R) zCd ?_;(have he:Ym s f=8:=by rw [Ym,if_neg hc0,if_neg hc1,if_neg zc,if_pos ⟨_,yi hg,hc4⟩]);exact Vge
  apply (Xa4);exact uaw
 have hal2:∀x∈f.switches.l,x.since=0:=fun x hx=>by obtain ⟨j,hj,rfl⟩:=yGa hx;have:=hal j zc;rwa [yh,yx hj] at this
 have he:Ym s f=0:=by rw [Ym,if_neg hc0,if_neg hc1,if_neg zc,if_neg (fun ⟨x,hx,h⟩=>h (hal2 x hx))]
 have hn:∀q∈Ktb,InR q (Ktb ++ R):=fun q hq=>Jb (yr _ hq);have hZ:=V8d R;apply (Xdl);refine Jh [(2,.pointer _),(3,.pointer _),(4,.pointer _),(8,.pointer _),(10,.int _ _)] zg fun tq1=>?_;refine q_p ([10]++rg 53 15) ((⟨fun g=>[(10,.int .i64 ((g.1.1:Nat):Int))],fun g=>⟨b8,(⟨s,0,⟨none,0,[]⟩,0,⟨none,0,[]⟩,⟨none,0,[]⟩,⟨none,0,[]⟩,g.1.2.1,noRest,⟨none,0,[]⟩⟩:XSta).cells,54⟩ :: ⟨b4,staZ.cells,54⟩ :: ⟨b3,f.cells,42⟩ :: ⟨b2,s.cells,38⟩ :: L,fun g=>g.1.2.2,fun g=>f.switches.l.length - g.1.1⟩:Head {g:Nat×XFeeder×LS // g.1≤f.switches.l.length∧(g.2.1.switches.l=Zxc f.switches.l g.1∧g.2.1.zones.l=f.zones.l∧g.2.1.reply=f.reply)∧FeederR g.2.1 g.2.2∧∀r∈Ktb ++ R,InR r g.2.2})) (⟨(0,f,Ktb ++ R),by dsimp only;omega,⟨rfl,rfl,rfl⟩,hf0,Jc _⟩) ?_;rintro ⟨⟨k1,f1,S1⟩,hk1,⟨hfs,hfz,hfr⟩,hf1,hext⟩ junk;try dsimp only
 dsimp only [XSta.cells];dsimp only at hk1 hfs hfz hfr hf1 hext;apply (Xbm);refine q_c ?_ ?_<;>intro hc5;·
  have hkp:=Vna (rp:=f.reply) hfe k1;have hfe1:feedE f1.switches.l f1.zones.l f1.reply=0:=by rw [hfs,hfz,hfr];exact hkp.feedE hfe ⟨yI _,by decide⟩
  have hl1:f1.switches.l.length=f.switches.l.length:=by rw [hfs];exact hkp.len
  have hto1:Kma f1.switches.l 0:=by rw [hfs];exact hkp.time ⟨⟨yI _,by decide⟩,fun x hx=>by rw [hal2 x hx];exact yI _⟩
  have hcan:Z1b f1.switches.l f1.zones.l f1.reply (k1:Int) 0=0:=by rw [Z1b,if_neg (by rw [hfe1];decide),if_neg zc,if_pos hto1]
  refine Jt (Ja (Ji (Jy (Je ?_))));apply qab∘Zzf∘qaa;refine Ju rfl (K0d f1 (k1:Int) 0 _ _ hf1) rfl ?_;rintro v M U ⟨pp,qq,rp,rfl,⟨hppk,hqqk⟩,hop,rfl,rfl⟩;refine J0 zcc rfl ?_;apply Xbq∘qab;refine Kta tb rfl rfl rfl rfl zD ze ze ze ?_;refine J6 (Jg (Ja ?_));obtain ⟨hppl,hqql,rfl⟩:=hop hcan;refine Kt (T:=3) (f:=Jj) (wd:=1) qq [] zm yf zj hqqk yg ?_;refine V4 zA ?_;refine Kt (T:=76) (f:=XSwitch.cells) (wd:=5) pp [] zm yf zj hppk yg ?_;refine V4 zA ?_;exact (qay∘Xak) zfe
 obtain rfl:k1=f.switches.l.length:=by omega
 apply (Xdl);refine Jh [(2,.pointer _),(4,.pointer _),(8,.pointer _),(11,.int _ _)] zg fun tq2=>?_;refine K8 ([11]++rg 68 13) ((⟨fun g=>[(11,.int .i64 ((g.1.1:Nat):Int))],fun g=>⟨b8,(⟨s,0,⟨none,0,[]⟩,0,g.1.2.arr,⟨none,0,[]⟩,⟨none,0,[]⟩,f1,noRest,⟨none,0,[]⟩⟩:XSta).cells,54⟩ :: (g.1.2.L 93 XMeas.cells ++ (⟨b4,staZ.cells,54⟩ :: ⟨b3,f.cells,42⟩ :: ⟨b2,s.cells,38⟩ :: L)),fun _=>S1,fun g=>s.sensors.l.length - g.1.1⟩:Head {g:Nat×OwL XMeas // g.1≤s.sensors.l.length∧g.2.ok 4 XMeas.cells∧g.2.l=List.replicate g.1 Z5})) (⟨(0,OwL.nil),by dsimp only;omega,OwL.nil_ok,rfl⟩) zg zK zJb ?_;rintro ⟨⟨k2,pm2⟩,hk2,hm2k,hm2⟩ junk;try dsimp only
 dsimp only [XSta.cells];dsimp only at hk2 hm2k hm2;have hm2n:pm2.l.length=k2:=by rw [hm2,yaa]
 apply (Xbm);refine q_c ?_ ?_<;>intro hc6;·refine Jt (Ja (Ji (Jy (Je ?_))));apply (Xaa);refine J0 zmc rfl ?_;refine Y6 zDb rfl ?_;rintro v M U ⟨b78,rfl,rfl,hR78⟩;replace hR78:=hR78.symm;subst hR78;refine Y6 zvd rfl ?_;rintro v M U ⟨o79,rfl,hok79,rfl,rfl⟩;apply Xbo∘Xb6;exact q_k ⟨(k2 + 1,⟨o79,pm2.l ++ [Z5]⟩),by dsimp only;omega,hok79,by dsimp only;rw [hm2,yza]⟩
 obtain rfl:k2=s.sensors.l.length:=by omega
 apply (Xdl);refine Jh [(2,.pointer _),(4,.pointer _),(8,.pointer _),(12,.int _ _)] zg fun tq3=>?_;refine K8 ([12]++rg 81 13) ((⟨fun g=>[(12,.int .i64 ((g.1.1:Nat):Int))],fun g=>⟨b8,(⟨s,0,⟨none,0,[]⟩,0,pm2.arr,g.1.2.arr,⟨none,0,[]⟩,f1,noRest,⟨none,0,[]⟩⟩:XSta).cells,54⟩ :: (g.1.2.L 153 XWatch.cells ++ (pm2.L 93 XMeas.cells ++ (⟨b4,staZ.cells,54⟩ :: ⟨b3,f.cells,42⟩ :: ⟨b2,s.cells,38⟩ :: L))),fun _=>S1,fun g=>s.conds.l.length - g.1.1⟩:Head {g:Nat×OwL XWatch // g.1≤s.conds.l.length∧g.2.ok 3 XWatch.cells∧g.2.l=List.replicate g.1 (⟨true,-1,0⟩:XWatch)})) (⟨(0,OwL.nil),by dsimp only;omega,OwL.nil_ok,rfl⟩) zg zK zJb ?_;rintro ⟨⟨k3,pw2⟩,hk3,hw2k,hw2⟩ junk;try dsimp only
 dsimp only [XSta.cells];dsimp only at hk3 hw2k hw2;have hw2n:pw2.l.length=k3:=by rw [hw2,yaa]
 apply (Xbm);refine q_c ?_ ?_<;>intro hc7;·refine Jt (Ja (Ji (Jy ?_)));refine Kh tb [] [0,1,2,3] [4,5,6] ([Blk.mk b8 _ _]) _ Kn zf zk yd ?_;apply (Xah);refine Kv rfl (Ycc _ _) rfl rfl ?_;rintro v M U ⟨rfl,rfl,rfl⟩;refine ⟨zk,zu,?_⟩;refine Keb zEb rfl rfl rfl ?_;rintro v M U ⟨b91,rfl,rfl,hR91⟩;replace hR91:=hR91.symm;subst hR91;apply (Xb3);refine V7a ztd rfl rfl rfl ?_;rintro v M U ⟨o92,rfl,hok92,rfl,rfl⟩;apply Xdb∘Xcd;exact q_k ⟨(k3 + 1,⟨o92,pw2.l ++ [⟨true,-1,0⟩]⟩),by dsimp only;omega,hok92,by dsimp only;rw [hw2,yza]⟩
 obtain rfl:k3=s.conds.l.length:=by omega
 apply (Xdl);refine Jh [(2,.pointer _),(4,.pointer _),(8,.pointer _),(13,.int _ _)] zg fun tq4=>?_;refine K8 ([13]++rg 94 13) ((⟨fun g=>[(13,.int .i64 ((g.1.1:Nat):Int))],fun g=>⟨b8,(⟨s,0,⟨none,0,[]⟩,0,pm2.arr,pw2.arr,g.1.2.arr,f1,noRest,⟨none,0,[]⟩⟩:XSta).cells,54⟩ :: (g.1.2.L 71 XCut.cells ++ (pw2.L 153 XWatch.cells ++ (pm2.L 93 XMeas.cells ++ (⟨b4,staZ.cells,54⟩ :: ⟨b3,f.cells,42⟩ :: ⟨b2,s.cells,38⟩ :: L)))),fun _=>S1,fun g=>s.zones.l.length - g.1.1⟩:Head {g:Nat×OwL XCut // g.1≤s.zones.l.length∧g.2.ok 3 XCut.cells∧g.2.l=List.replicate g.1 (⟨true,-1,0⟩:XCut)})) (⟨(0,OwL.nil),by dsimp only;omega,OwL.nil_ok,rfl⟩) zg zK zJb ?_;rintro ⟨⟨k4,pc2⟩,hk4,hc2k,hc2⟩ junk;try dsimp only
 dsimp only [XSta.cells];dsimp only at hk4 hc2k hc2;have hc2n:pc2.l.length=k4:=by rw [hc2,yaa]
 apply (Xbm);refine q_c ?_ ?_<;>intro hc8;·refine Jt (Ja (Ji (Jy (Je ?_))));apply (Xaa);refine J0 zNb rfl ?_;refine Y6 zEb rfl ?_;rintro v M U ⟨b104,rfl,rfl,hR104⟩;replace hR104:=hR104.symm;subst hR104;refine Y6 zud rfl ?_;rintro v M U ⟨o105,rfl,hok105,rfl,rfl⟩;apply Xbo∘Xb6;exact q_k ⟨(k4 + 1,⟨o105,pc2.l ++ [⟨true,-1,0⟩]⟩),by dsimp only;omega,hok105,by dsimp only;rw [hc2,yza]⟩
 obtain rfl:k4=s.zones.l.length:=by omega
 refine Kt (T:=93) (f:=XMeas.cells) (wd:=4) pm2 [] zm yf zj hm2k yg ?_;refine V4 zA ?_;refine Kt (T:=153) (f:=XWatch.cells) (wd:=3) pw2 [] zm yf zj hw2k yg ?_;refine V4 zA ?_;refine Kt (T:=71) (f:=XCut.cells) (wd:=3) pc2 [] zm yf zj hc2k yg ?_;refine V4 zA ?_;obtain ⟨R2,hR2e⟩:∃R2,R2=J6c pc2.arr :: Zrc pw2.arr :: V3a pm2.arr :: S1:=⟨_,rfl⟩;refine K4c zcd ?_;have h12:∀r∈S1,InR r (R2 ++ R):=fun r hr=>Jb (by rw [hR2e];exact .tail _ (.tail _ (.tail _ (yr _ hr))));have h02:∀r∈Ktb ++ R,InR r (R2 ++ R):=fun r hr=>(hext r hr).mono h12;have hRR2:∀r∈R,InR r R2:=fun r hr=>(hext r (yl _ hr)).mono fun r hr=>Jb (by rw [hR2e];exact .tail _ (.tail _ (.tail _ hr)));have e2:InR (J6c pc2.arr) (R2 ++ R):=Jb zoa;have e3:InR (Zrc pw2.arr) (R2 ++ R):=Jb zka;have e4:InR (V3a pm2.arr) (R2 ++ R):=Jb zAa;apply (qbk);refine J0 zBb rfl ?_;apply (Xc7);refine Ku (M:=L) (U:=R2 ++ R) zCd ?hp ?hL ?hR;case hp=>exact ⟨(⟨s,0,⟨none,0,[]⟩,0,pm2.arr,pw2.arr,pc2.arr,f1,noRest,⟨none,0,[]⟩⟩:XSta),R2,by rw [he],⟨hs0.mono h02,hZ.held.mono h02,e4,e3,e2,hf1.mono h12,hZ.log.mono h02⟩,fun _=>⟨rfl,rfl,rfl,rfl,hm2,hw2,hc2,hfs,hfz,hfr,rfl,rfl⟩,fun h=>absurd he h,rfl,rfl⟩
 case hL=>exact zk
 case hR=>exact ubw
end
section
attribute [local irreducible] CJ LJ DJ Tri YV Gives U7 Kb Kp U8 RV Ke OwL.L
end
end Go.Proofs.YtchfclmokpbldaaGreat
