/-
  Merged texts. By an AI agent.
-/
import Derived.Test.YtchfclmokpbldaaGreatRefC
import Derived.Test.YtchfclmokpbldaaGreatStatM
import Derived.Test.YtchfclmokpbldaaGreatSiteC
import Derived.Test.YtchfclmokpbldaaGreatMadeB
import Derived.Test.YtchfclmokpbldaaGreatLaw11b
import Derived.Test.YtchfclmokpbldaaGreatFeedP
import Derived.Test.YtchfclmokpbldaaGreatSiteD
set_option linter.all false
set_option maxHeartbeats 4000000
set_option maxRecDepth 20000
namespace Go.Proofs.YtchfclmokpbldaaGreat
open Go.Aw Go
section
section
variable {A B:Prop}
def V9e(h:A→B:=by exact Kq zrd rfl rfl rfl):=h
def Yvf(h:A→B:=by exact Kg tb [0,1,2,3,4,5,6,7,8] ([]) Kn zf zk):=h
def Zrf(h:A→B:=by exact Kq zX rfl rfl rfl):=h
def V0f(h:A→B:=by exact Kq zPa rfl rfl rfl):=h
def Ybf(h:A→B:=by exact J0 zzb rfl):=h
def Vsf(h:A→B:=by exact J0 zZb rfl):=h
end
def Jje:StrEq Tryz.prog 150 [.i,.i,.i,.i]:=
 Kza [(3,[.i]),(3,[.i]),(3,[.i]),(3,[.i])] zf zf zf zf rfl (by
  intro p hp
  simp only [yT,yP,or_false] at hp
  rcases hp with rfl | rfl | rfl | rfl <;> exact Z3 zf)
def Kzf:StrEq Tryz.prog 159 [.i,.b]:=
 Kza [(3,[.i]),(4,[.b])] zf zf zf zf rfl (by
  intro p hp
  simp only [yT,yP,or_false] at hp
  rcases hp with rfl | rfl
  ·exact Z3 zf
  ·exact Jhb zf)
def Uqf {T:TypeId} {ti:TI} (h:Zd tb.tab T=some ti):∃i,Tryz.prog.info? T=some i:=by obtain ⟨i,u,z,hi,_⟩:=Vq (tb.ok _ _ h);exact ⟨i,hi⟩
def Jrd {d:Nat}:FE Tryz.prog (d + 2) 90 [.i,.i]:=by obtain ⟨i,hi⟩:=Uqf (T:=90) rfl;exact Jbg (pl:=[(3,[.i]),(3,[.i])]) zf zf hi zf zf (by intro p hp;simp only [yT,yP,or_false] at hp;rcases hp with rfl | rfl <;> exact Z3 zf)
def Zkf:StrEq Tryz.prog 93 [.i,.i,.i,.i]:=
 Kza [(3,[.i]),(3,[.i]),(90,[.i,.i])] zf zf zf zf rfl (by
  intro p hp
  simp only [yT,yP,or_false] at hp
  rcases hp with rfl | rfl | rfl
  ·exact Z3 zf
  ·exact Z3 zf
  ·exact Jrd)
def Jsg:StrEq Tryz.prog 157 [.i,.i,.i,.i,.b,.b,.i,.i,.i,.i]:=
 Kza [(3,[.i]),(3,[.i]),(3,[.i]),(3,[.i]),(4,[.b]),(4,[.b]),(90,[.i,.i]),(90,[.i,.i])] zf zf zf zf rfl (by
  intro p hp
  simp only [yT,yP,or_false] at hp
  rcases hp with rfl | rfl | rfl | rfl | rfl | rfl | rfl | rfl
  ·exact Z3 zf
  ·exact Z3 zf
  ·exact Z3 zf
  ·exact Z3 zf
  ·exact Jhb zf
  ·exact Jhb zf
  ·exact Jrd
  ·exact Jrd)
attribute [local irreducible] CJ LJ DJ Tri YV Gives U7 Kb Kp U8 RV Ke OwL.L
def Jnd (x y:Arr XEntry) (L:LB) (R:LS) (hx:InR (Uec x) R) (hy:InR (Uec y) R) (he:x.l=y.l):
 Tri Tryz.prog 64 [x.val,y.val].toArray L R (fun v M U=>v=.bool true∧L=M∧R=U):=by
 have hle:x.l.length=y.l.length:=by rw [he]
 refine Kba Tryz.call64 hx fun hxn=>?_;refine Jd 26 Tryz.call64 Tryz.func64 rfl rfl rfl ?_;apply Xew∘Xaq∘Xaq∘Xaw;refine q_c ?_ ?_<;>intro hc0;·exact zxe
 apply (Xcj);refine Jh [(0,.slice _ _ _),(1,.slice _ _ _),(5,.int _ _)] zg fun tq0=>?_;refine q_s ([4,5]++rg 11 15) (fun g:{k:Nat // k≤x.l.length}=>[(5,.int .i64 ((g.1:Nat):Int))]) (fun g=>x.l.length - g.1) (⟨0,by omega⟩) ?_;rintro ⟨k,hk⟩ junk;try dsimp only
 apply (Xcr);refine q_c ?_ ?_<;>intro hc1;·
  have hxg:=Js (l:=x.l) (k:=k) default zc;have hyg:y.l[k]?=some (x.l.getD k default):=by rw [← he];exact hxg
  refine Jt (Ja (Ji (Jy (Ji ?_))));apply Yvf∘V9e∘Xdo∘qdp∘V9e∘Xdo∘qdp;refine Kq (Jta Jje rfl rfl zI zI rfl) rfl rfl rfl ?_;exact uaI
 exact zMf
def Y5c (x y:Arr XMeas) (L:LB) (R:LS) (hx:InR (V3a x) R) (hy:InR (V3a y) R) (he:x.l=y.l):
 Tri Tryz.prog 61 [x.val,y.val].toArray L R (fun v M U=>v=.bool true∧L=M∧R=U):=by
 have hle:x.l.length=y.l.length:=by rw [he]
 refine Kba Tryz.call61 hx fun hxn=>?_;refine Jd 26 Tryz.call61 Tryz.func61 rfl rfl rfl ?_;apply Xew∘Xaq∘Xaq∘Xaw;refine q_c ?_ ?_<;>intro hc0;·exact zxe
 apply (Xcj);refine Jh [(0,.slice _ _ _),(1,.slice _ _ _),(5,.int _ _)] zg fun tq0=>?_;refine q_s ([4,5]++rg 11 15) (fun g:{k:Nat // k≤x.l.length}=>[(5,.int .i64 ((g.1:Nat):Int))]) (fun g=>x.l.length - g.1) (⟨0,by omega⟩) ?_;rintro ⟨k,hk⟩ junk;try dsimp only
 apply (Xcr);refine q_c ?_ ?_<;>intro hc1;·
  have hxg:=Js (l:=x.l) (k:=k) default zc;have hyg:y.l[k]?=some (x.l.getD k default):=by rw [← he];exact hxg
  refine Jt (Ja (Ji (Jy (Ji ?_))));apply Yvf∘V9e∘Xdo∘qdp∘V9e∘Xdo∘qdp;refine Kq (Jta Zkf rfl rfl zI zI rfl) rfl rfl rfl ?_;exact uaI
 exact zMf
def Ylc (m w:XMine) (L:LB) (R:LS) (hm:MineR m R) (hw:MineR w R) (h1:m.places.l=w.places.l) (h2:m.roads.l=w.roads.l) (hn:m.places.l.length≤1000∧m.roads.l.length≤1000):
 Tri Tryz.prog 127 [m.val,w.val].toArray L R (fun v M U=>v=.bool true∧L=M∧R=U):=by
 have hp1:=hm.places;have hp2:=hw.places;have hr1:=hm.roads;have hr2:=hw.roads;have hl1:m.places.l.length=w.places.l.length:=by rw [h1]
 have hl2:m.roads.l.length=w.roads.l.length:=by rw [h2]
 refine Jd 59 Tryz.call127 Tryz.func127 rfl rfl rfl ?_;apply (Xag);intro b2;apply (qax);intro b3;apply Xdm∘Xe0∘Xb8;apply J3 (G:=[_,_,_,_,_,_,_]) (j:=7) (cj:=14) rfl rfl ze rfl ztb rfl;·intro hg8;replace hg8:=qb hg8;exact (Xe0) zUd
 intro junk8;apply (qaf);refine q_c ?_ ?_<;>intro hc0;·apply (Xc0);refine q_b L R ?_;exact absurd hl2 zc
 apply (Xcj);refine Jh [(2,.pointer _),(3,.pointer _),(5,.int _ _)] zg fun tq0=>?_;refine q_s ([4,5]++rg 23 18) (fun g:{k:Nat // k≤m.places.l.length}=>[(5,.int .i64 ((g.1:Nat):Int))]) (fun g=>m.places.l.length - g.1) (⟨0,by omega⟩) ?_;rintro ⟨k,hk⟩ junk;try dsimp only
 apply (Xbm);refine q_c ?_ ?_<;>intro hc1;·
  have hxg:=Js (l:=m.places.l) (k:=k) default zc;have hyg:w.places.l[k]?=some (m.places.l.getD k default):=by rw [← h1];exact hxg
  refine Jt (Ja (Ji (Jy (Ji ?_))));refine Kg tb [0,1,2,3,4,5,6,7,8,9,10] _ Kn zf ye ?_;apply Xev∘qdo∘Xev∘qdo;refine Kq (Jta Kzf rfl rfl zI zI rfl) rfl rfl rfl ?_;exact uaI
 apply (Xdl);refine Jh [(2,.pointer _),(3,.pointer _),(6,.int _ _)] zg fun tq1=>?_;refine q_s ([4,6]++rg 41 18) (fun g:{j:Nat // j≤m.roads.l.length}=>[(6,.int .i64 ((g.1:Nat):Int))]) (fun g=>m.roads.l.length - g.1) (⟨0,by omega⟩) ?_;rintro ⟨j,hj⟩ junk;try dsimp only
 apply (Xbm);refine q_c ?_ ?_<;>intro hc3;·
  have hxg:=Js (l:=m.roads.l) (k:=j) default zc;have hyg:w.roads.l[j]?=some (m.roads.l.getD j default):=by rw [← h2];exact hxg
  refine Jt (Ja (Ji (Jy (Ji ?_))));refine Kg tb [0,1,2,3,4,5,6,7,8,9,10] _ Kn zf ye ?_;apply Xa8∘Zrf∘V0f∘Xa8∘Zrf∘V0f;refine Kq (Jta Jsg rfl rfl zI zI rfl) rfl rfl rfl ?_;apply (qbu);refine q_c ?_ ?_<;>intro hc4;·apply (Xci);refine q_b L R ?_;exact absurd hc4 zY
  apply (Xa4);exact q_k (⟨j + 1,by omega⟩)
 exact zMf
def Zpb (x y : XSta) (L : LB) (R : LS) (hx : StaR x R) (hy : StaR y R) (hb : K8c x.held.l) (e1 : x.time = y.time) (e2 : x.dropped = y.dropped) (e3 : x.held.l = y.held.l) (e4 : x.meas.l = y.meas.l) (e5 : x.watches.l = y.watches.l) (e6 : x.cuts.l = y.cuts.l) (e7 : x.feeder.switches.l = y.feeder.switches.l ∧ x.feeder.zones.l = y.feeder.zones.l ∧ x.feeder.reply = y.feeder.reply) (e8 : x.rest = y.rest) (e9 : x.log.l = y.log.l) (e10 : x.site.air.mine.places.l = y.site.air.mine.places.l ∧ x.site.air.mine.roads.l = y.site.air.mine.roads.l) (e11 : x.site.zones.l.length = y.site.zones.l.length)
 (hn:x.site.air.mine.places.l.length≤1000∧x.site.air.mine.roads.l.length≤1000):
 Tri Tryz.prog 53 [x.val,y.val].toArray L R (fun v M U=>v=.bool true∧L=M∧R=U):=by
 have hh1:=hx.held;have hh2:=hy.held;have hb2:K8c y.held.l:=by rw [← e3];exact hb
 refine Jd 94 Tryz.call53 Tryz.func53 rfl rfl rfl ?_;apply (Xag);intro b2;apply (qax);intro b3;apply qaz∘qam∘Xbl∘Xcn;apply Ue (G:=[_,_,_,_,_,_,_]) (j:=5) (cj:=10) rfl rfl ze rfl ztb rfl;·intro hg6;replace hg6:=qb hg6;exact (Xez∘Xez) zme
 intro junk6;apply (qah);apply Ue (G:=[_,_,_,_,_,_,_,_,_]) (j:=14) (cj:=19) rfl rfl ze rfl ztb rfl;·intro hg15;replace hg15:=qb hg15;apply (Xez);refine J0 (Yzb tb rfl rfl rfl rfl hh1 hb) rfl ?_;apply (Xez);refine J0 (Yzb tb rfl rfl rfl rfl hh2 hb2) rfl ?_;refine J0 (Vec tb rfl rfl rfl (by rw [e3])) rfl ?_;exact qai
 intro junk15;apply (qah);apply Ue (G:=[_,_,_,_,_]) (j:=25) (cj:=30) rfl rfl ze rfl ztb rfl;·intro hg26;replace hg26:=qb hg26;apply (Xbl);refine q_l rfl (Y5c x.meas y.meas _ _ hx.meas hy.meas e4) ?_;exact qai
 intro junk26;apply (qah);apply Ue (G:=[_,_,_,_,_]) (j:=32) (cj:=37) rfl rfl ze rfl ztb rfl;·intro hg33;replace hg33:=qb hg33;apply (Xbl);refine q_l rfl (Ygb x.watches y.watches _ _ hx.watches hy.watches e5) ?_;exact qai
 intro junk33;apply (qah);apply Ue (G:=[_,_,_,_,_]) (j:=39) (cj:=44) rfl rfl ze rfl ztb rfl;·intro hg40;replace hg40:=qb hg40;apply (Xbl);refine q_l rfl (Zjc x.cuts y.cuts _ _ hx.cuts hy.cuts e6) ?_;exact qai
 intro junk40;apply (qah);apply Ue (G:=[_,_,_,_,_]) (j:=46) (cj:=51) rfl rfl ze rfl ztb rfl;·intro hg47;replace hg47:=qb hg47;apply qab∘Ybf∘qab∘Ybf;refine q_l rfl (Joc x.feeder y.feeder _ _ hx.feeder hy.feeder e7.1 e7.2.1 e7.2.2) ?_;exact qai
 intro junk47;apply (qah);apply Ue (G:=[_,_,_,_,_]) (j:=53) (cj:=58) rfl rfl ze rfl ztb rfl;·intro hg54;replace hg54:=qb hg54;apply qab∘Vsf∘qab∘Vsf;refine J0 (Kkc K2d rfl rfl zI zI rfl) rfl ?_;exact qai
 intro junk54;apply (qah);apply Ue (G:=[_,_,_,_,_]) (j:=60) (cj:=65) rfl rfl ze rfl ztb rfl;·intro hg61;replace hg61:=qb hg61;apply (Xbl);refine q_l rfl (Jnd x.log y.log _ _ hx.log hy.log e9) ?_;exact qai
 intro junk61;apply (qah);apply Ue (G:=[_,_,_,_,_,_,_,_,_]) (j:=67) (cj:=72) rfl rfl ze rfl ztb rfl;·
  intro hg68;replace hg68:=qb hg68;iterate 3 apply (qab)
  apply (qbe);iterate 3 apply (qab)
  apply (qbe);refine q_l rfl (Ylc x.site.air.mine y.site.air.mine _ _ hx.site.air.mineR hy.site.air.mineR e10.1 e10.2 hn) ?_;exact qai
 intro junk68;apply (qah);apply Ue (G:=[_,_,_,_,_,_,_,_,_]) (j:=78) (cj:=83) rfl rfl ze rfl ztb rfl;·intro hg79;replace hg79:=qb hg79;exact (Xcg∘Xcg) zme
 intro junk79;apply (Xbb);refine q_b L R ?_;exact ⟨by rw [e1,e2,e8,e11];simp [Vl,Yca],rfl,rfl⟩
def StaIs.same {g:PSite} {p:PSta} {x y:XSta} {L:LB} {R:LS} (hI:Inv g p) (hx:StaIs g p x) (hy:StaIs g p y) (h1:StaR x R) (h2:StaR y R):
 Tri Tryz.prog 53 [x.val,y.val].toArray L R (fun v M U=>v=.bool true∧L=M∧R=U):=by have hao:=(Ve hI.air).mine;have e:=hx.site.trans hy.site.symm;refine Zpb x y L R h1 h2 (by rw [hx.held];exact hI.held.1) (hx.time.trans hy.time.symm) (hx.dropped.trans hy.dropped.symm) (hx.held.trans hy.held.symm) (hx.meas.trans hy.meas.symm) (hx.watches.trans hy.watches.symm) (hx.cuts.trans hy.cuts.symm) ⟨hx.sw.trans hy.sw.symm,hx.zn.trans hy.zn.symm,hx.rp.trans hy.rp.symm⟩ (hx.rest.trans hy.rest.symm) (hx.log.trans hy.log.symm) ⟨SiteE.places e,SiteE.roads e⟩ (SiteE.nzones e) ?_;rw [SiteE.places hx.site,SiteE.roads hx.site];have:=hao.places;have:=hao.roads;omega
end
section
attribute [local irreducible] CJ LJ DJ Tri YV Gives U7 Kb Kp U8 RV Ke OwL.L
section
variable {A B:Prop}
def Ywd(h:A→B:=by exact J0 zQ rfl):=h
def Yte(h:A→B:=by exact U6 zOb rfl rfl):=h
def Vdf(h:A→B:=by exact U6 zKa rfl rfl):=h
end
def V7b (L:LB) (R:LS):Tri Tryz.prog 51 ([]:List Value).toArray L R (fun v M U=>v=.bool true∧L=M∧R=U):=by
 refine Jd 62 Tryz.call51 Tryz.func51 rfl rfl rfl ?_;apply Xa3∘qa4;refine V9c 1 ?_;apply (qay);refine Ju rfl (Jte ⟨none,0,[]⟩ _ _ ⟨Jb (.head _),fun i q hq=>by simp at hq⟩) rfl ?_;rintro v M U ⟨c,rfl,hx,rfl,rfl⟩;refine Ju rfl (Tri.spl (.consL .rest) (Jie c _ 0 _ hx (yma _))) rfl ?_;rintro v M U ⟨_,rfl,s,len,dl,ho,f,n,k1,rfl,hE,hN,⟨hk1,he0⟩,⟨hs,hf,hR0⟩,rfl⟩;refine J0 zcc rfl ?_;apply Xbq∘qaq;intro b1;apply (qaq);intro b2;apply qak∘Xem;obtain ⟨rfl,rfl,rfl,rfl,_⟩:=he0 (yma _);have hRR:∀r∈R,InR r U:=fun r hr=>hR0 r (.tail _ (.tail _ hr));obtain ⟨A,hA⟩:=K9e s.air.mine;refine Kpa (M:=⟨b2,f.cells,42⟩ :: ⟨b1,s.cells,38⟩ :: L) (List.sublist_append_left _ _) zJb ?_;have h0:=Jvc (f:=f) hE hN.rng hN.sw hN.zn hN.rp;have hI:=Y0a (A:=A) h0 hA;have hq:=Uge (f:=f) (A:=A) hE hN.sw hN.zn hN.rp hA;apply (qay);refine J0 zxb rfl ?_;refine J0 zzb rfl ?_;refine Ju rfl (Yeb s f A _ _ hs hf hA) rfl ?_;rintro v M U ⟨x,S1,rfl,hxR,hx0,_,rfl,rfl⟩;rw [h0];have hx:=hx0 h0;refine J0 zcc rfl ?_;apply Xbq∘qaq;intro b3;apply qak∘Xar;refine J0 zBb rfl ?_;refine Ju rfl (Yfd (gOf s f A) (Zhb s f) x 0 0 2 _ _ hI hx hxR) rfl ?_;rintro v M U ⟨y,S2,rfl,hy,hyR,rfl,rfl⟩;rw [hq] at hy ⊢;refine J0 zcc rfl ?_;apply Xbq∘qaq;intro b5;apply qak∘Xdf;obtain ⟨z,h7,_⟩:=hE.zone;have hxc:x.cuts.l=[⟨true,-1,0⟩]:=by rw [hx.cuts,Kac hE hN.sw];rfl
 have hyl:y.log.l=[⟨2,7,0,20⟩]:=hy.log;have hcn:x.cuts.l.length=1:=by rw [hxc];rfl
 have hln:y.log.l.length=1:=by rw [hyl];rfl
 have hcg:x.cuts.l[0]?=some ⟨true,-1,0⟩:=by rw [hxc];rfl
 have hlg:y.log.l[0]?=some ⟨2,7,0,20⟩:=by rw [hyl];rfl
 have hxR2:=hxR.mono (U:=S2 ++ (S1 ++ U)) fun r hr=>Jb (yl _ hr);have hcR:=hxR2.cuts;have hlR:=hyR.log;have hv:StaV x (S2 ++ (S1 ++ U)):=StaV.of hI hx hxR2.site hxR2.meas;have hfl1:(Uka x.site (gOf s f A).air x.meas.l x.time).length=1:=by rw [StaIs.flows hx,hI.flLen];exact congrArg List.length hE.roads
 apply Xb0∘Xcn;refine Zi (k:=25) ztb (fun hg3=>?_) (fun hg3=>?_);·
  replace hg3:=qb hg3;refine U6 zIb rfl rfl ?_;apply (Yte);refine U6 zHb rfl rfl ?_;refine U6 zvc rfl rfl ?_;apply Ywd∘qah;refine Zi (k:=31) ztb (fun hg9=>?_) (fun hg9=>?_);·
   replace hg9:=qb hg9;refine U6 zIb rfl rfl ?_;apply Yte∘Vdf;refine U6 zMc rfl rfl ?_;refine U6 zba rfl rfl ?_;apply Ywd∘qah;refine Zi (k:=38) ztb (fun hg16=>?_) (fun hg16=>?_);·
    replace hg16:=qb hg16;refine U6 (J2 zub) rfl rfl ?_;refine U6 zvc rfl rfl ?_;apply Ywd∘qah;refine Zi (k:=42) ztb (fun hg20=>?_) (fun hg20=>?_);·
     replace hg20:=qb hg20;refine U6 zIb rfl rfl ?_;apply (Yte);refine U6 zHb rfl rfl ?_;refine U6 zvc rfl rfl ?_;apply Ywd∘qah;refine Zi (k:=48) ztb (fun hg26=>?_) (fun hg26=>?_);·
      replace hg26:=qb hg26;refine U6 zIb rfl rfl ?_;apply Yte∘Vdf;refine U6 zIa rfl rfl ?_;refine U6 (Kf (qs:=[(0,(Value.int _ _).cells.toList),(1,(Value.int _ _).cells.toList),(3,(Value.int _ _).cells.toList)]) (out:=[_,_,_,_]) tb rfl rfl rfl rfl) rfl rfl ?_;refine U6 (Kkc Jje rfl rfl zI zI rfl) rfl rfl ?_;apply Ywd∘qah;refine Zi (k:=56) ztb (fun hg34=>?_) (fun hg34=>?_);·
       replace hg34:=qb hg34;refine U6 zBb rfl rfl ?_;refine Vha rfl (Kbb x (gOf s f A).air _ _ hv (SiteE.airy hx.site hI.airy)) rfl rfl ?_;rintro v M U ⟨fl,rfl,hfl,rfl,rfl⟩;refine U6 zHb rfl rfl ?_;refine U6 zvc rfl rfl ?_;apply Ywd∘Xbb;refine Ku (M:=L) (U:=R) (U3 rfl zjd) ?hp ?hL ?hR;case hp=>exact ⟨by simp [hfl,hfl1],rfl,rfl⟩
       case hL=>exact zk
       case hR=>exact fun r hr=>(hRR r hr).mono fun r hr=>Jb zJ
      replace hg34:=qb hg34;exact absurd (show true=false from hg34) zj
     replace hg26:=qb hg26;(first | exact absurd rfl hg26 | (simp at hg26;done) | (simp [hcn,hln] at hg26;done) | exact absurd zj hg26)
    replace hg20:=qb hg20;(first | exact absurd rfl hg20 | (simp at hg20;done) | (simp [hcn,hln] at hg20;done) | exact absurd zj hg20)
   replace hg16:=qb hg16;(first | exact absurd rfl hg16 | (simp at hg16;done) | (simp [hcn,hln] at hg16;done) | exact absurd zj hg16)
  replace hg9:=qb hg9;(first | exact absurd rfl hg9 | (simp at hg9;done) | (simp [hcn,hln] at hg9;done) | exact absurd zj hg9)
 replace hg3:=qb hg3;(first | exact absurd rfl hg3 | (simp at hg3;done) | (simp [hcn,hln] at hg3;done) | exact absurd zj hg3)
end
section
attribute [local irreducible] CJ LJ DJ Tri YV Gives U7 Kb Kp U8 RV Ke OwL.L
def Ube {l:List Bool}:∀{k:Nat},l[k]?=some false→(l.set k true).count true=l.count true + 1:=by
 induction l with
 | nil=>intro k h;simp at h
 | cons b l ih=>
  intro k h;cases k with
  | zero=>simp only [ySa,yEa] at h;subst h;simp
  | succ k=>simp only [List.getElem?_cons_succ] at h;simp only [yRb,List.count_cons,ih h];omega
def Y3d {l:List Bool} (h:l.count true < l.length):∃j:Nat,l[j]?=some false:=by
 induction l with
 | nil=>simp at h
 | cons b l ih=>
  cases b with
  | false=>exact ⟨0,rfl⟩
  | true=>simp only [List.count_cons_self,yC] at h;obtain ⟨j,hj⟩:=ih zc;exact ⟨j + 1,hj⟩
def Z1d {m m2 jf n:Int} (hm:0≤m∧m < n) (hj:0≤jf∧jf < n) (hne:m≠jf) (h:m2=if m + 1=n then 0 else m + 1):(if m2≤jf then jf - m2 else jf - m2 + n).toNat < (if m≤jf then jf - m else jf - m + n).toNat:=by split at h <;> (repeat' split) <;> omega
end
end Go.Proofs.YtchfclmokpbldaaGreat
