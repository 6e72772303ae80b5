/-
  Merged texts. By an AI agent.
-/
import Derived.Test.YtchfclmokpbldaaGreatStaE
set_option linter.all false
set_option maxHeartbeats 4000000
set_option maxRecDepth 20000
namespace Go.Proofs.YtchfclmokpbldaaGreat
open Go.Aw Go
section
attribute [local irreducible] CJ LJ DJ Tri YV Gives U0 J3 Kj Uz RV J5 OwL.L
section
variable {A B:Prop}
def Yre(h:A→B:=by exact Jx zlb rfl):=h
end
def Ufd:∀(n:Nat) {l:List Int} (d:Int),l.length=n→BytesOk l→∀f∈(U3 l d).out,BytesOk f.data:=by
 intro n;induction n using Nat.strongRecOn with
 | ind n ih=>
  intro l d hn hb f hf;rcases yca (l=[]) with h | h;·subst h;rw [Y0a] at hf;cases hf
  ·
   have hpos := List.length_pos_iff.2 h;have hbt:BytesOk l.tail:=fun x hx=>hb x (yGb hx);have hskip:=ih l.tail.length (by rw [ybb];omega) (d + 1) rfl hbt;rcases yca (Z9 l) with h1 | h1;·rw [Jsa h (.inl h1)] at hf;exact hskip f hf
   ·
    rcases yca (U6 l) with h2 | h2;·rw [Zla h h1 h2] at hf;cases hf
    ·
     rcases yca (Zxa (Kkb l) = Vgb l) with h3 | h3;·
      rw [U1a h h1 h2 h3] at hf;rcases List.mem_cons.1 hf with hf | hf;·rw [hf];intro x hx;have hx:x∈(l.take (4 + lenT l)).drop 4:=hx;exact hb x (yIb (yta hx))
      ·exact ih (l.drop (lenT l + 6)).length (by rw [yP];omega) d rfl (fun x hx=>hb x (yta hx)) f hf
     ·rw [Jsa h (.inr ⟨h2,h3⟩)] at hf;exact hskip f hf
def Yjc:∀(n:Nat) {l:List Int} (d:Int),l.length=n→(U3 l d).out.length≤n:=by
 intro n;induction n using Nat.strongRecOn with
 | ind n ih=>
  intro l d hn;rcases yca (l=[]) with h | h;·subst h;rw [Y0a];exact yT _
  ·
   have hpos := List.length_pos_iff.2 h;have hskip:=ih l.tail.length (by rw [ybb];omega) (d + 1) rfl;rw [ybb] at hskip;rcases yca (Z9 l) with h1 | h1;·rw [Jsa h (.inl h1)];omega
   ·
    rcases yca (U6 l) with h2 | h2;·rw [Zla h h1 h2];exact yT _
    ·
     rcases yca (Zxa (Kkb l) = Vgb l) with h3 | h3;·rw [U1a h h1 h2 h3];have:=ih (l.drop (lenT l + 6)).length (by rw [yP];omega) d rfl;rw [yP] at this;show (_ :: _).length≤n;rw [yw];omega
     ·rw [Jsa h (.inr ⟨h2,h3⟩)];omega
def Kre {S:List XSens} {t:Int} {m:List XMeas} {l:List XTele} {k:Nat} {x:XTele} (h:l[k]?=some x):(l.take (k + 1)).foldl (Una S t) m=Una S t ((l.take k).foldl (Una S t) m) x:=by rw [yfa,h,ywa];rfl
def staZ:XSta:=⟨⟨⟨⟨⟨none,0,[]⟩,⟨none,0,[]⟩⟩,⟨none,0,[]⟩,⟨none,0,[]⟩⟩,⟨none,0,[]⟩,⟨none,0,[]⟩,⟨none,0,[]⟩,⟨none,0,[]⟩⟩,0,⟨none,0,[]⟩,0,⟨none,0,[]⟩,⟨none,0,[]⟩,⟨none,0,[]⟩,⟨⟨none,0,[]⟩,⟨none,0,[]⟩,0⟩,⟨0,0,0,0,0⟩,⟨none,0,[]⟩⟩
def Zlc {S:List XSens} {f:XTele} {t:Int} (h:Vp S f t=0):0≤J3a S f.address∧(J3a S f.address).toNat < S.length:=by
 rw [Vp] at h;split at h;·cases h
 split at h;·cases h
 rename_i h2;have:=Ztd (S:=S) (ad:=f.address) za;exact ⟨this.2,this.1⟩
def Jbb (g:PSite) (p:PSta) (x:XSta) (by_:Arr Int) (t:Int) (L:LB) (R:LS) (hI:Inv g p) (hx:StaIs g p x) (hR:StaR x R) (hbR:InR (bsl by_) R) (hbB:BytesOk by_.l) (hbn:by_.l.length≤100000) (hdr:0≤p.dropped∧p.dropped≤1152921504606846976):
 Tri Tryz.prog 18 [x.val,by_.val,.int .i64 t].toArray L R (Zfa g (Yda g p by_.l t) L R):=by
 have hxd:x.dropped=p.dropped:=hx.dropped;refine Jj 65 Tryz.call18 Tryz.func18 rfl rfl rfl ?_;apply (Xaf);intro b3;apply (qaq);intro b6;apply Xag∘Yre;refine Jy rfl zUb rfl ?_;rintro v M U ⟨s,h,w,c,f,pm,pl,S0,rfl,hK,rfl,rfl⟩;apply (qaq);intro b8;apply Xa8∘Yre∘qaa;refine q_l rfl (Jla x t _ _) ?_;apply (qaf);refine q_c ?_ ?_<;>intro hc0;·refine Jr ?_;refine Kg (T:=93) (f:=XMeas.cells) (wd:=4) pm [] zj yf ze hK.km yg ?_;refine Vf zp ?_;refine Kg (T:=150) (f:=XEntry.cells) (wd:=4) pl [] zj yf ze hK.kl yg ?_;refine Vf zp ?_;apply qay∘Yre∘Xaz;refine q_r L ((Zw pl.arr :: V5 pm.arr :: S0) ++ R) zOc ?_;have hl:V7 p t:=(J9a hx).1 zF;exact ⟨(⟨s,x.time,h,x.dropped,pm.arr,w,c,f,x.rest,pl.arr⟩:XSta),Zw pl.arr :: V5 pm.arr :: S0,by rw [Yda,if_pos hl],by rw [Yda,if_pos hl];exact hK.is hx,hK.fin (fun r hr=>Ja (.tail _ (.tail _ hr))) zQb zsb,rfl,rfl⟩
 have hl:¬ V7 p t:=fun h=>absurd ((J9a hx).2 h) zF;have ht:=Ya hl;have hIs:=hK.is hx;have hhl:h.l=p.held:=hIs.held;have hheld:=hI.held;have hsl:s.sensors.l=g.site.sensors.l:=SiteE.sens hIs.site;have hsn:=hI.sok.len;have hBB:BytesOk (h.l ++ by_.l):=fun y hy=>by
  rcases List.mem_append.1 hy with hy | hy;·exact hheld.1 y (by rw [← hhl];exact hy)
  ·exact hbB y hy
 have hpmn:pm.l.length=g.site.sensors.l.length:=by rw [show pm.l=p.meas from hIs.meas];exact hI.meas
 apply qbv∘Xdp∘qbm;refine Jy rfl (J9d h by_ x.dropped _ _ hK.held (hbR.mono fun r hr=>Ja (yi _ hr)) hBB za (by rw [hhl];omega)) rfl ?_;rintro v M U ⟨ph,out,rfl,⟨hphk,houtk⟩,hphl,houtl,hdata,rfl,hRt⟩;have hfe:U3 (h.l ++ by_.l) x.dropped=U3 (p.held ++ by_.l) p.dropped:=by rw [hhl,hxd]
 have houtn:out.l.length≤200000:=by have h1:=Yjc _ (l:=h.l ++ by_.l) x.dropped rfl;rw [← houtl,yz,yo,hhl] at h1;omega
 have hbytes:=Ufd _ (l:=h.l ++ by_.l) x.dropped rfl hBB;rw [← houtl] at hbytes;refine Jx zCb rfl ?_;apply (Xdr);intro b9;apply qak∘qc4∘qam∘qbe∘qab;refine K4a tb rfl rfl rfl rfl zy zb zb zb ?_;apply (qco);refine Kg (T:=118) (f:=XFrame.cells) (wd:=3) out (out.l.map XFrame.sub) zj yf ze houtk (fun s hs=>by obtain ⟨y,hy,rfl⟩:=List.mem_map.1 hs;exact hdata y hy) ?_;refine Vf zp ?_;refine Kg (T:=5) (f:=Jea) (wd:=1) ph [] zj yf ze hphk yg ?_;refine Vf zp ?_;obtain ⟨R4,hR4e⟩:∃R4,R4=bsl ph.arr :: Kog out.arr :: U:=⟨_,rfl⟩;have hR4:∀r∈S0 ++ R,InR r R4:=fun r hr=>(hRt r hr).mono fun r hr=>Ja (by rw [hR4e];exact .tail _ (.tail _ hr));have hphR:InR (bsl ph.arr) R4:=Ja (by rw [hR4e];exact .head _);have houtR:InR (Kog out.arr) R4:=Ja (by rw [hR4e];exact .tail _ (.head _));have hdata4:∀y∈out.l,InR (bsl y.data) R4:=fun y hy=>(hdata y hy).mono fun r hr=>Ja (by rw [hR4e];exact .tail _ (.tail _ hr));have hsR4:=hK.site.sensors.mono hR4;refine Vvc (show _=R4 by rw [hR4e]) ?_;refine Kbf houtR fun houtc=>?_;refine Vn (M:=⟨b8,(⟨s,x.time,ph.arr,(U3 (h.l ++ by_.l) x.dropped).dropped,pm.arr,w,c,f,x.rest,pl.arr⟩:XSta).cells,54⟩ :: (pl.L 150 XEntry.cells ++ (pm.L 93 XMeas.cells ++ (⟨b6,staZ.cells,54⟩ :: ⟨b3,x.cells,54⟩ :: L)))) zi ztb ?_;apply qay∘Xbt;refine Jp [(2,.int _ _),(6,.pointer _),(8,.pointer _),(30,.slice _ _ _),(31,.int _ _),(32,.int _ _)] zh fun tq0=>?_;refine q_p ([12,13,14]++rg 32 30) ((⟨fun g=>[(32,.int .i64 ((g.1.1:Nat):Int))],fun g=>⟨b8,(⟨s,x.time,ph.arr,(U3 (h.l ++ by_.l) x.dropped).dropped,pm.arr,w,c,f,x.rest,pl.arr⟩:XSta).cells,54⟩ :: (pl.L 150 XEntry.cells ++ ((⟨pm.o,g.1.2⟩:OwL XMeas).L 93 XMeas.cells ++ (⟨b6,staZ.cells,54⟩ :: ⟨b3,x.cells,54⟩ :: L))),fun _=>R4,fun g=>out.l.length - g.1.1⟩:Head {q:Nat×List XMeas // q.1≤out.l.length∧q.2=((out.l.map XFrame.tele).take q.1).foldl (Una g.site.sensors.l t) p.meas})) (⟨(0,pm.l),by dsimp only;omega,hIs.meas⟩) ?_;rintro ⟨⟨k,ml⟩,hk,hml⟩ junk;try dsimp only
 dsimp only at hk hml;have hmn:ml.length=pm.l.length:=by rw [hml,(Uvc (S:=g.site.sensors.l) (t:=t) _ hI.mok).2,show pm.l=p.meas from hIs.meas]
 have hmk:(⟨pm.o,ml⟩:OwL XMeas).ok 4 XMeas.cells:=OwL.len_ok yf hK.km hmn;apply (Xak);refine q_c ?_ ?_<;>intro hc1;·
  have hg:=Jw (l:=out.l) (k:=k) default za;obtain ⟨fr,hfr⟩:∃fr,fr=out.l.getD k default:=⟨_,rfl⟩;rw [← hfr] at hg;have hfm:=yj hg;have hgt:(out.l.map XFrame.tele)[k]?=some fr.tele:=by rw [yt,hg];rfl
  have hnx:=Kre (S:=g.site.sensors.l) (t:=t) (m:=p.meas) hgt;rw [← hml] at hnx;have hfb:BytesOk fr.data.l:=hbytes fr.tele (yj hgt);apply (qbb);refine Jx zB rfl ?_;apply qdk∘qaq;intro b12;apply Xay∘Xdm;refine Jx zkb rfl ?_;apply (qaa);refine Jy rfl (Z7b s.sensors fr t _ _ hsR4 (hdata4 fr hfm) hfb (by rw [hsl];omega)) rfl ?_;rintro v M U ⟨m,rfl,hm,rfl,rfl⟩;refine Jx zCb rfl ?_;apply (Xdr);intro b13;apply qak∘Xau∘qbn∘qah;apply Ui (G:=[_,_,_,_,_,_]) (j:=2) (cj:=47) rfl rfl zb rfl zfb rfl;·intro hg3;replace hg3:=qb hg3;exact (Xaa∘Xab) zyd
  intro junk3;apply (qaf);refine q_c ?_ ?_<;>intro hc2;·(have hdE:Vp g.site.sensors.l fr.tele t=0:=by rw [← hsl];exact hc2.1);have hmD:=hm hc2.1;rw [hsl] at hmD;(have hms:m.sensor=J3a g.site.sensors.l fr.tele.address:=by rw [hmD];rfl);have hda:=Zlc hdE;have hmg:=Jw (l:=ml) (k:=m.sensor.toNat) default (by rw [hms];omega);(have hms0:0≤m.sensor:=by omega);apply qay∘Xbq∘qa8;refine Jx (Jv tb ((⟨pm.o,ml⟩:OwL XMeas)) _ rfl rfl ((show _=Value.slice _ _ _ from rfl).trans (by simp only [OwL.val,hmn])) rfl zg (i:=m.sensor.toNat) zk zu) rfl ?_;refine Ym (U2 tb ((⟨pm.o,ml⟩:OwL XMeas)) (m) rfl rfl rfl rfl zj zg yf zg (yQ rfl) zb zb) ?_;rintro v M U ⟨rfl,rfl⟩;apply (Xa7);exact q_k ⟨(k + 1,ml.set m.sensor.toNat m),by dsimp only;omega,by dsimp only;rw [hnx,Una,if_pos hdE,← hmD,hms]⟩
  apply (Xax);exact Kr ⟨(k + 1,ml),by dsimp only;omega,by
  dsimp only;rw [hnx,Una,if_neg];intro hdE;have hdE2:Vp s.sensors.l fr.tele t=0:=by rw [hsl];exact hdE
  have hda:=Zlc hdE;have hms:m.sensor=J3a g.site.sensors.l fr.tele.address:=by rw [hm hdE2,hsl];rfl
  rcases hc2 with h9 | h9;·exact h9 hdE2
  ·exact h9 (by rw [hms];omega)⟩ zm zh zi ztb zx
 obtain rfl:k=out.l.length:=by omega
 have hall:(out.l.map XFrame.tele).take out.l.length=(U3 (p.held ++ by_.l) p.dropped).out:=by rw [← hfe,← houtl,yG (by rw [yz];exact yl _)]
 rw [hall] at hml;have hI1:=hI.feedR hbB t;have hcv:(⟨pm.o,ml⟩:OwL XMeas).arr.val=pm.arr.val:=by simp only [OwL.arr,Arr.val,hmn]
 refine Kg (T:=93) (f:=XMeas.cells) (wd:=4) (⟨pm.o,ml⟩:OwL XMeas) [] zj yf ze hmk yg ?_;refine Vf zp ?_;refine Vf (M:=⟨b8,(⟨s,x.time,ph.arr,(U3 (h.l ++ by_.l) x.dropped).dropped,(⟨pm.o,ml⟩:OwL XMeas).arr,w,c,f,x.rest,pl.arr⟩:XSta).cells,54⟩ :: (pl.L 150 XEntry.cells ++ (⟨b6,staZ.cells,54⟩ :: ⟨b3,x.cells,54⟩ :: L))) (by simp only [XSta.cells,hcv]) ?_;have hX1:StaIs g (feedR g p by_.l t) (⟨s,x.time,ph.arr,(U3 (h.l ++ by_.l) x.dropped).dropped,(⟨pm.o,ml⟩:OwL XMeas).arr,w,c,f,x.rest,pl.arr⟩:XSta):={ hIs with held:=by show ph.l=_;rw [hphl,hfe];rfl,dropped:=by show (U3 (h.l ++ by_.l) x.dropped).dropped=_;rw [hfe];rfl,meas:=hml };obtain ⟨R5,hR5e⟩:∃R5,R5=V5 (⟨pm.o,ml⟩:OwL XMeas).arr :: R4:=⟨_,rfl⟩;have hmR5:InR (V5 (⟨pm.o,ml⟩:OwL XMeas).arr) R5:=Ja (by rw [hR5e];exact .head _);have hR45:∀r∈R4,InR r R5:=fun r hr=>Ja (by rw [hR5e];exact .tail _ hr);have hS0:∀r∈S0 ++ R,InR r R5:=fun r hr=>(hR4 r hr).mono hR45;refine Vvc (show _=R5 by rw [hR5e]) ?_;apply (Xc5);refine Jy rfl (Kra g (feedR g p by_.l t) (⟨s,x.time,ph.arr,(U3 (h.l ++ by_.l) x.dropped).dropped,(⟨pm.o,ml⟩:OwL XMeas).arr,w,c,f,x.rest,pl.arr⟩:XSta) pl b8 t _ _ hI1 hX1 (hK.site.mono hS0) hmR5 (hK.watches.mono hS0) (hK.cuts.mono hS0) (hK.feeder.mono hS0) hK.kl ht) rfl ?_;rintro v M U ⟨w2,c2,f2,q,S2,hqk,hS,⟨hw2,hc2,hf2⟩,rfl,rfl⟩;apply (qa4);refine Kg (T:=150) (f:=XEntry.cells) (wd:=4) q [] zj yf ze hqk yg ?_;refine Vf zp ?_;have h3:∀r∈S2 ++ R5,InR r ((Zw q.arr :: (S2 ++ R5)) ++ R):=fun r hr=>Ja (.tail _ (ym _ hr));have h35:∀r∈R5,InR r ((Zw q.arr :: (S2 ++ R5)) ++ R):=fun r hr=>h3 r (yi _ hr);have h4:∀r∈S0 ++ R,InR r ((Zw q.arr :: (S2 ++ R5)) ++ R):=fun r hr=>(hS0 r hr).mono h35;apply qay∘Yre∘Xbl;refine Kq (M:=L) (U:=(Zw q.arr :: (S2 ++ R5)) ++ R) zOc ?hp ?hL ?hR;case hp=>
  have e1:Yda g p by_.l t=(Je g (feedR g p by_.l t) t,0):=by rw [Yda,if_neg hl]
  exact ⟨(⟨s,t,ph.arr,(U3 (h.l ++ by_.l) x.dropped).dropped,(⟨pm.o,ml⟩:OwL XMeas).arr,w2,c2,f2,(Je g (feedR g p by_.l t) t).rest,q.arr⟩:XSta),Zw q.arr :: (S2 ++ R5),by rw [e1],by rw [e1];exact hS,⟨hK.site.mono h4,(hphR.mono hR45).mono h35,hmR5.mono h35,hw2.mono h3,hc2.mono h3,hf2.mono h3,Ja (.head _)⟩,rfl,rfl⟩
 case hL=>exact zi
 case hR=>
  exact fun r hr=>by
   rcases List.mem_append.1 hr with h | h;·exact Ja h
   ·exact (hS0 r (yi _ h)).mono fun r hr=>Ja (.tail _ (yi _ hr))
end
section
attribute [local irreducible] CJ LJ DJ Tri YV Gives U0 J3 Kj Uz RV J5 OwL.L
section
variable {A B:Prop}
def Uae(h:A→B:=by exact Jx zlb rfl):=h
def Z7f(h:A→B:=by exact Kg (T:=93) (f:=XMeas.cells) (wd:=4) pm [] zj yf ze hK.km yg):=h
def Jtg(h:A→B:=by exact Kg (T:=150) (f:=XEntry.cells) (wd:=4) q2 [] zj yf ze hq2k yg):=h
def Jag(h:A→B:=by exact Kab rfl rfl rfl rfl zy zb zb zb zi):=h
end
structure FeedEq (f f':XFeeder):Prop where
 sw:f.switches.l=f'.switches.l
 zn:f.zones.l=f'.zones.l
 rp:f.reply=f'.reply
section
variable {s s':XSite} {f f':XFeeder} (h:SiteE s s') (k:FeedEq f f') (c:List XCut) (fl:List XSpan) (r:XRest) (t:Int)
include k in
def Joc (z:Int):atR f z=atR f' z:=by rw [atR,atR,k.sw,k.zn,k.rp]
include h k
def Y3e:Zs s c fl r f t=Zs s' c fl r f' t:=by simp only [Zs,SiteE.sharedE h,SiteE.readyE h,SiteE.nzones h,k.sw,k.zn,k.rp,Joc k]
def Zha:Uk s c fl r f t=Uk s' c fl r f' t:=by simp only [Uk,Y3e h k,k.sw,k.zn,k.rp,Joc k]
def Yod:Vz s c fl r f t=Vz s' c fl r f' t:=by simp only [Vz,Zha h k,Jle,k.zn,Joc k]
def Y6d:V4 s c fl r f t=V4 s' c fl r f' t:=by simp only [V4,Zha h k,Jle,k.zn,Joc k]
def Jhd:Ve s c fl r f t=Ve s' c fl r f' t:=by simp only [Ve,Zha h k,k.sw,Joc k]
end
def Uob (g:PSite) (p:PSta) (x:XSta) (t:Int) (L:LB) (R:LS) (hI:Inv g p) (hx:StaIs g p x) (hR:StaR x R):
 Tri Tryz.prog 23 [x.val,.int .i64 t].toArray L R (Zfa g (Ye g p t) L R):=by
 refine Jj 67 Tryz.call23 Tryz.func23 rfl rfl rfl ?_;apply (Xaf);intro b2;apply (qaq);intro b4;apply Xag∘Uae;refine Jy rfl zUb rfl ?_;rintro v M U ⟨s,h,w,c,f,pm,pl,S0,rfl,hK,rfl,rfl⟩;apply (qaq);intro b6;apply Xa8∘Uae∘qaa;refine q_l rfl (Jla x t _ _) ?_;apply (qaf);refine q_c ?_ ?_<;>intro hc0;·refine Jr ?_;apply (Z7f);refine Vf zp ?_;refine Kg (T:=150) (f:=XEntry.cells) (wd:=4) pl [] zj yf ze hK.kl yg ?_;refine Vf zp ?_;apply qay∘Uae∘Xaz;refine q_r L ((Zw pl.arr :: V5 pm.arr :: S0) ++ R) zOc ?_;have hl:V7 p t:=(J9a hx).1 zF;exact ⟨(⟨s,x.time,h,x.dropped,pm.arr,w,c,f,x.rest,pl.arr⟩:XSta),Zw pl.arr :: V5 pm.arr :: S0,by rw [Ye,if_pos hl],by rw [Ye,if_pos hl];exact hK.is hx,hK.fin (fun r hr=>Ja (.tail _ (.tail _ hr))) zQb zsb,rfl,rfl⟩
 have hl:¬ V7 p t:=fun h=>absurd ((J9a hx).2 h) zF;have ht:=Ya hl;have hIs:=hK.is hx;have hS0:∀r∈S0 ++ R,InR r (V5 pm.arr :: (S0 ++ R)):=fun r hr=>Ja (.tail _ hr);apply (Z7f);refine Vf zp ?_;apply qbv∘qaa;refine Jy rfl zEc rfl ?_;rintro v M U ⟨w2,c2,f2,q,S2,hqk,hS,⟨hw2,hc2,hf2⟩,rfl,rfl⟩;apply (qa4);have hI2:=hI.settle ht.1 ht.2;have h5:∀r∈V5 pm.arr :: (S0 ++ R),InR r (S2 ++ (V5 pm.arr :: (S0 ++ R))):=fun r hr=>Ja (yi _ hr);have h6:∀r∈S0 ++ R,InR r (S2 ++ (V5 pm.arr :: (S0 ++ R))):=fun r hr=>(hS0 r hr).mono h5;have hv2:StaV (⟨s,t,h,x.dropped,pm.arr,w2,c2,f2,(Je g p t).rest,q.arr⟩:XSta) (S2 ++ (V5 pm.arr :: (S0 ++ R))):=StaV.of hI2 hS (hK.site.mono h6) (h5 _ (.head _));have hA2:AiryIs s.air.mine g.air:=SiteE.airy hS.site hI2.airy;have hce:c2.l=(Je g p t).cuts:=hS.cuts;have hfq:FeedEq f2 (mkF g (Je g p t)):=⟨hS.sw,hS.zn,hS.rp⟩;have hsz:=hI2.sok.len;have hfo:=hI2.fok;have hn1:c2.l.length≤1000:=by rw [hce,hI2.clen];omega
 have hn2:f2.switches.l.length≤1000:=by rw [hfq.sw];exact yqa hfo.sn ze
 have hn3:f2.zones.l.length≤1000:=by rw [hfq.zn];exact yqa hfo.zl ze
 apply qay∘Xdm∘Xb5;refine Kp tb [0,1,2,3,4,6,7,8,9,10,5,11,12,13,14,15,16,17,18,19,20,21,22] _ K3 zc ye ?_;apply (qal);refine K2 zob rfl rfl rfl ?_;apply (Xan);refine K2 zlb rfl rfl rfl ?_;apply (qal);refine K2 zqb rfl rfl rfl ?_;apply (qal);refine K2 zkb rfl rfl rfl ?_;apply (qao);refine Yj rfl zdc rfl rfl ?_;rintro v M U ⟨fl,rfl,hfl,rfl,rfl⟩;refine ⟨zi,zw,?_⟩;refine Yj rfl (Upe s c2 fl (Je g p t).rest f2 t _ _ ⟨(hK.site.mono h6).mono fun r hr=>Ja (.tail _ hr),hc2.mono fun r hr=>Ja (.tail _ hr),Ja (.head _)⟩ (hf2.mono fun r hr=>Ja (.tail _ hr)) ⟨hn1,hn2,hn3⟩) rfl rfl ?_;rintro v M U ⟨rq,pc,psw,pz,rp,rfl,⟨hpck,hpswk,hpzk⟩,hCI,rfl,hRC⟩;refine ⟨zi,zw,?_⟩;refine K2 zCb rfl rfl rfl ?_;iterate 4 refine K2 zJb rfl rfl rfl ?_
 apply (qbr);intro b8;apply (qbr);intro b10;apply (qbg);refine K2 (Uc zhb) rfl rfl rfl ?_;apply (Xdi);refine Jz (Jc (Jr (Jr ?_)));have hfe:fl.l=flP g (Je g p t):=hfl.trans (StaIs.flows hS);have hcE:Uk s c2.l fl.l (Je g p t).rest f2 t=Uk g.site (Je g p t).cuts (flP g (Je g p t)) (Je g p t).rest (mkF g (Je g p t)) t:=by rw [Zha hS.site hfq,hce,hfe]
 have hcR:rq=Vz g.site (Je g p t).cuts (flP g (Je g p t)) (Je g p t).rest (mkF g (Je g p t)) t:=by rw [hCI.rest,Yod hS.site hfq,hce,hfe]
 have hcC:pc.l=V4 g.site (Je g p t).cuts (flP g (Je g p t)) (Je g p t).rest (mkF g (Je g p t)) t:=by rw [hCI.cuts,Y6d hS.site hfq,hce,hfe]
 have hcS:psw.l=Ve g.site (Je g p t).cuts (flP g (Je g p t)) (Je g p t).rest (mkF g (Je g p t)) t:=by rw [hCI.sw,Jhd hS.site hfq,hce,hfe]
 have hcZ:pz.l=g.zn:=hCI.zn.trans hfq.zn;have hcP:rp=g.rp:=hCI.rp.trans hfq.rp;rw [hcE];obtain ⟨e,he⟩:∃e,e=Uk g.site (Je g p t).cuts (flP g (Je g p t)) (Je g p t).rest (mkF g (Je g p t)) t:=⟨_,rfl⟩;rw [← he] at hcE ⊢;have hqln:q.l.length≤400:=by have:=hI2.log;rw [← hS.log] at this;exact this
 refine Kg (T:=3) (f:=Jo) (wd:=1) pz [] zj yf ze hpzk yg ?_;refine Vf zp ?_;refine Kg (T:=76) (f:=XSwitch.cells) (wd:=5) psw [] zj yf ze hpswk yg ?_;refine Vf zp ?_;refine Kg (T:=71) (f:=XCut.cells) (wd:=3) pc [] zj yf ze hpck yg ?_;refine Vf zp ?_;obtain ⟨R3,hR3e⟩:∃R3,R3=Unc pc.arr :: Vcb psw.arr :: isl pz.arr :: U:=⟨_,rfl⟩;have hR13:∀r∈(S2 ++ (V5 pm.arr :: (S0 ++ R))),InR r R3:=fun r hr=>(hRC r (.tail _ hr)).mono fun r hr=>Ja (by rw [hR3e];exact .tail _ (.tail _ (.tail _ hr)));have hpcR:InR (Unc pc.arr) R3:=Ja (by rw [hR3e];exact .head _);have hpfR:FeederR ⟨psw.arr,pz.arr,rp⟩ R3:=⟨Ja (by rw [hR3e];exact .tail _ (.head _)),Ja (by rw [hR3e];exact .tail _ (.tail _ (.head _)))⟩;have hR03:∀r∈S0 ++ R,InR r R3:=fun r hr=>(h6 r hr).mono hR13;refine Vvc (show _=R3 by rw [hR3e]) ?_;apply Xa1∘Xao;refine q_c ?_ ?_<;>intro hc1;·
  refine Jr ?_;refine Vn (M:=⟨b6,(⟨s,t,h,x.dropped,pm.arr,w2,c2,f2,(Je g p t).rest,q.arr⟩:XSta).cells,54⟩ :: (q.L 150 XEntry.cells ++ _)) zi ztb ?_;apply Xa1∘qaa;refine Jy rfl (Jza (⟨s,t,h,x.dropped,pm.arr,w2,c2,f2,(Je g p t).rest,q.arr⟩:XSta) q b6 7 (Je g p t).rest.zone e _ _ hqk hqln) rfl ?_;rintro v M U ⟨q2,hq2k,hq2l,rfl,rfl⟩;apply qa4∘Jtg;refine Vf zp ?_;have h3:∀r∈(S2 ++ (V5 pm.arr :: (S0 ++ R))),InR r ((Zw q2.arr :: R3) ++ R):=fun r hr=>(hR13 r hr).mono fun r hr=>Ja (.tail _ (ym _ hr));have h4:∀r∈S0 ++ R,InR r ((Zw q2.arr :: R3) ++ R):=fun r hr=>(h6 r hr).mono h3;apply qay∘Uae∘Xbz;refine Kq (M:=L) (U:=(Zw q2.arr :: R3) ++ R) zOc ?hp ?hL ?hR;case hp=>(have e1:Ye g p t=(Zg (Je g p t) 7 (Je g p t).rest.zone e,e):=by rw [Ye,if_neg hl];dsimp only;rw [← he,if_pos hc1]);exact ⟨(⟨s,t,h,x.dropped,pm.arr,w2,c2,f2,(Je g p t).rest,q2.arr⟩:XSta),Zw q2.arr :: R3,by rw [e1],by rw [e1];exact hS.note hq2l,⟨hK.site.mono h4,hK.held.mono h4,(h5 _ (.head _)).mono h3,hw2.mono h3,hc2.mono h3,hf2.mono h3,Ja (.head _)⟩,rfl,rfl⟩
  case hL=>exact zi
  case hR=>
   exact fun r hr=>by
    rcases List.mem_append.1 hr with h | h;·exact Ja h
    ·exact (hR03 r (yi _ h)).mono fun r hr=>Ja (.tail _ hr)
 have he0:e=0:=Decidable.not_not.1 hc1;have hcan:Zs s c2.l fl.l (Je g p t).rest f2 t=0:=by
  have h9:Uk s c2.l fl.l (Je g p t).rest f2 t=0:=hcE.trans he0;rw [Uk] at h9;split at h9;·omega
  ·rename_i h8;exact Decidable.not_not.1 h8
 obtain ⟨hz1,hz2,hz3⟩:=V0d hcan;apply qbv∘Xaa∘qab;refine Jx zkb rfl ?_;apply (qaa);refine Jy rfl (Vyd c2 f2 (Je g p t).rest.zone _ _ (hc2.mono hR13) (hf2.mono hR13) hz3 za hz2) rfl ?_;rintro v M U ⟨rfl,rfl,hRN⟩;obtain ⟨R4,hR4⟩:∃R4,R4=U:=⟨_,rfl⟩;rw [← hR4] at hRN ⊢;refine Jx zCb rfl ?_;apply Xa3∘Xbk∘qa4;refine Kh tb [59,60] [0,1,2] [3,4,5,6,7,8] (_) _ K3 zc zi (by (repeat (first | apply List.Sublist.cons (a:=Blk.mk b6 _ _) | apply List.Sublist.cons_cons));exact yx _) ?_;refine Ku zqb rfl rfl rfl rfl ?_;refine V2 zMc rfl rfl rfl rfl ?_;refine V2 zkb rfl rfl rfl rfl ?_;apply qba∘qal∘Jag∘Xc1∘qal∘Jag∘qb9;have hat:atR f2 (Je g p t).rest.zone=atR (mkF g (Je g p t)) (Je g p t).rest.zone:=Joc hfq _;refine Vn (M:=⟨b6,(⟨s,t,h,x.dropped,pm.arr,w2,pc.arr,⟨psw.arr,pz.arr,rp⟩,rq,q.arr⟩:XSta).cells,54⟩ :: (q.L 150 XEntry.cells ++ _)) zi ztb ?_;apply (Xa1);refine Jy rfl (Jza (⟨s,t,h,x.dropped,pm.arr,w2,pc.arr,⟨psw.arr,pz.arr,rp⟩,rq,q.arr⟩:XSta) q b6 6 (atR f2 (Je g p t).rest.zone) 0 _ _ hqk hqln) rfl ?_;rintro v M U ⟨q2,hq2k,hq2l,rfl,rfl⟩;apply qa4∘Jtg;refine Vf zp ?_;obtain ⟨R5,hR5e⟩:∃R5,R5=Zw q2.arr :: R4:=⟨_,rfl⟩;refine Vvc (show _=R5 by rw [hR5e]) ?_;have hq2R:InR (Zw q2.arr) (R5 ++ R):=Ja (by rw [hR5e];exact .head _);have h45:∀r∈R4,InR r (R5 ++ R):=fun r hr=>Ja (by rw [hR5e];exact .tail _ (ym _ hr));have h35:∀r∈R3,InR r (R5 ++ R):=fun r hr=>(hRN r hr).mono h45;have h15:∀r∈(S2 ++ (V5 pm.arr :: (S0 ++ R))),InR r (R5 ++ R):=fun r hr=>(hR13 r hr).mono h35;have h4:∀r∈S0 ++ R,InR r (R5 ++ R):=fun r hr=>(hR03 r hr).mono h35;have hRR:∀r∈R,InR r R5:=fun r hr=>((hR03 r (yi _ hr)).mono hRN).mono fun r hr=>Ja (by rw [hR5e];exact .tail _ hr);apply qay∘Uae∘Xbl;refine Kq (M:=L) (U:=R5 ++ R) zOc ?hp ?hL ?hR;case hp=>
  have e1:Ye g p t=(Zg { (Je g p t) with rest:=Vz g.site (Je g p t).cuts (flP g (Je g p t)) (Je g p t).rest (mkF g (Je g p t)) t,cuts:=V4 g.site (Je g p t).cuts (flP g (Je g p t)) (Je g p t).rest (mkF g (Je g p t)) t,sw:=Ve g.site (Je g p t).cuts (flP g (Je g p t)) (Je g p t).rest (mkF g (Je g p t)) t } 6 (atR (mkF g (Je g p t)) (Je g p t).rest.zone) 0,0):=by rw [Ye,if_neg hl];dsimp only;rw [← he,if_neg hc1]
  have hS9:StaIs g { (Je g p t) with rest:=Vz g.site (Je g p t).cuts (flP g (Je g p t)) (Je g p t).rest (mkF g (Je g p t)) t,cuts:=V4 g.site (Je g p t).cuts (flP g (Je g p t)) (Je g p t).rest (mkF g (Je g p t)) t,sw:=Ve g.site (Je g p t).cuts (flP g (Je g p t)) (Je g p t).rest (mkF g (Je g p t)) t } (⟨s,t,h,x.dropped,pm.arr,w2,pc.arr,⟨psw.arr,pz.arr,rp⟩,rq,q.arr⟩:XSta):={ hS with rest:=hcR,cuts:=hcC,sw:=hcS,zn:=hcZ,rp:=hcP };rw [hat] at hq2l;exact ⟨(⟨s,t,h,x.dropped,pm.arr,w2,pc.arr,⟨psw.arr,pz.arr,rp⟩,rq,q2.arr⟩:XSta),R5,by rw [e1],by rw [e1];exact hS9.note hq2l,⟨hK.site.mono h4,hK.held.mono h4,(h5 _ (.head _)).mono h15,hw2.mono h15,hpcR.mono h35,hpfR.mono h35,hq2R⟩,rfl,rfl⟩
 case hL=>exact zi
 case hR=>
  exact fun r hr=>by
   rcases List.mem_append.1 hr with h | h;·exact Ja h
   ·exact hRR r h
end
end Go.Proofs.YtchfclmokpbldaaGreat
