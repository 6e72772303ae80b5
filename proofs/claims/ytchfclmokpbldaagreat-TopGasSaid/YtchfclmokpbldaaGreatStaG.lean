/-
  Merged texts. By an AI agent.
-/
import Derived.Test.YtchfclmokpbldaaGreatStaE
set_option linter.all false
set_option maxHeartbeats 4000000
set_option maxRecDepth 20000
namespace Go.Proofs.YtchfclmokpbldaaGreat
open Go.Aw Go
section
attribute [local irreducible] CJ LJ DJ Tri YV Gives Uq J2 Kj Ut RV J3 OwL.L
section
variable {A B:Prop}
def Z8e(h:A→B:=by exact Jw zub rfl):=h
end
def Kud:∀(n:Nat) {l:List Int} (d:Int),l.length=n→BytesOk l→∀f∈(Vc l d).out,BytesOk f.data:=by
 intro n;induction n using Nat.strongRecOn with
 | ind n ih=>
  intro l d hn hb f hf;rcases yga (l=[]) with h | h;·subst h;rw [Y1a] at hf;cases hf
  ·
   have hpos := List.length_pos_iff.2 h;have hbt:BytesOk l.tail:=fun x hx=>hb x (yQb hx);have hskip:=ih l.tail.length (by rw [yhb];omega) (d + 1) rfl hbt;rcases yga (Z7 l) with h1 | h1;·rw [Jpa h (.inl h1)] at hf;exact hskip f hf
   ·
    rcases yga (U9 l) with h2 | h2;·rw [Zga h h1 h2] at hf;cases hf
    ·
     rcases yga (Zza (Kvb l) = Vlb l) with h3 | h3;·
      rw [U0a h h1 h2 h3] at hf;rcases List.mem_cons.1 hf with hf | hf;·rw [hf];intro x hx;have hx:x∈(l.take (4 + lenT l)).drop 4:=hx;exact hb x (yrb (ywa hx))
      ·exact ih (l.drop (lenT l + 6)).length (by rw [yV];omega) d rfl (fun x hx=>hb x (ywa hx)) f hf
     ·rw [Jpa h (.inr ⟨h2,h3⟩)] at hf;exact hskip f hf
def Zdc:∀(n:Nat) {l:List Int} (d:Int),l.length=n→(Vc l d).out.length≤n:=by
 intro n;induction n using Nat.strongRecOn with
 | ind n ih=>
  intro l d hn;rcases yga (l=[]) with h | h;·subst h;rw [Y1a];exact yS _
  ·
   have hpos := List.length_pos_iff.2 h;have hskip:=ih l.tail.length (by rw [yhb];omega) (d + 1) rfl;rw [yhb] at hskip;rcases yga (Z7 l) with h1 | h1;·rw [Jpa h (.inl h1)];omega
   ·
    rcases yga (U9 l) with h2 | h2;·rw [Zga h h1 h2];exact yS _
    ·
     rcases yga (Zza (Kvb l) = Vlb l) with h3 | h3;·rw [U0a h h1 h2 h3];have:=ih (l.drop (lenT l + 6)).length (by rw [yV];omega) d rfl;rw [yV] at this;show (_ :: _).length≤n;rw [yA];omega
     ·rw [Jpa h (.inr ⟨h2,h3⟩)];omega
def K3e {S:List XSens} {t:Int} {m:List XMeas} {l:List XTele} {k:Nat} {x:XTele} (h:l[k]?=some x):(l.take (k + 1)).foldl (Yha S t) m=Yha S t ((l.take k).foldl (Yha S t) m) x:=by rw [yfa,h,yAa];rfl
def staZ:XSta:=⟨⟨⟨⟨⟨none,0,[]⟩,⟨none,0,[]⟩⟩,⟨none,0,[]⟩,⟨none,0,[]⟩⟩,⟨none,0,[]⟩,⟨none,0,[]⟩,⟨none,0,[]⟩,⟨none,0,[]⟩⟩,0,⟨none,0,[]⟩,0,⟨none,0,[]⟩,⟨none,0,[]⟩,⟨none,0,[]⟩,⟨⟨none,0,[]⟩,⟨none,0,[]⟩,0⟩,⟨0,0,0,0,0⟩,⟨none,0,[]⟩⟩
def Ymc {S:List XSens} {f:XTele} {t:Int} (h:Vu S f t=0):0≤J4a S f.address∧(J4a S f.address).toNat < S.length:=by
 rw [Vu] at h;split at h;·cases h
 split at h;·cases h
 rename_i h2;have:=Z9d (S:=S) (ad:=f.address) za;exact ⟨this.2,this.1⟩
def Uxd (g:PSite) (p:PSta) (x:XSta) (by_:Arr Int) (t:Int) (L:LB) (R:LS) (hI:Inv g p) (hx:StaIs g p x) (hR:StaR x R) (hbR:InR (bsl by_) R) (hbB:BytesOk by_.l) (hbn:by_.l.length≤100000) (hdr:0≤p.dropped∧p.dropped≤1152921504606846976):
 Tri Tryz.prog 18 [x.val,by_.val,.int .i64 t].toArray L R (J8b g (Jtc g p by_.l t) L R):=by
 have hxd:x.dropped=p.dropped:=hx.dropped;refine Je 65 Tryz.call18 Tryz.func18 rfl rfl rfl ?_;apply (Xaf);intro b3;apply (qaq);intro b6;apply Xag∘Z8e;refine Jv rfl zpc rfl ?_;rintro v U J ⟨s,h,w,c,f,pm,pl,S0,rfl,hK,rfl,rfl⟩;apply (qaq);intro b8;apply Xa9∘Z8e∘qaa;refine q_l rfl (K6a x t _ _) ?_;apply (qaf);refine q_c ?_ ?_<;>intro hc0;·refine Jq ?_;refine Kp (T:=93) (f:=XMeas.cells) (wd:=4) pm [] zj yf ze hK.km yg ?_;refine U2 zq ?_;refine Kp (T:=150) (f:=XEntry.cells) (wd:=4) pl [] zj yf ze hK.kl yg ?_;refine U2 zq ?_;apply qay∘Z8e∘Xa3;refine q_r L ((J5a pl.arr :: Yu pm.arr :: S0) ++ R) zcd ?_;have hl:Jda p t:=(Ura hx).1 zF;exact ⟨(⟨s,x.time,h,x.dropped,pm.arr,w,c,f,x.rest,pl.arr⟩:XSta),J5a pl.arr :: Yu pm.arr :: S0,by rw [Jtc,if_pos hl],by rw [Jtc,if_pos hl];exact hK.is hx,hK.fin (fun r hr=>Ja (.tail _ (.tail _ hr))) zdc zFb,rfl,rfl⟩
 have hl:¬ Jda p t:=fun h=>absurd ((Ura hx).2 h) zF;have ht:=Zr hl;have hIs:=hK.is hx;have hhl:h.l=p.held:=hIs.held;have hheld:=hI.held;have hsl:s.sensors.l=g.site.sensors.l:=SiteE.sens hIs.site;have hsn:=hI.sok.len;have hBB:BytesOk (h.l ++ by_.l):=fun y hy=>by
  rcases List.mem_append.1 hy with hy | hy;·exact hheld.1 y (by rw [← hhl];exact hy)
  ·exact hbB y hy
 have hpmn:pm.l.length=g.site.sensors.l.length:=by rw [show pm.l=p.meas from hIs.meas];exact hI.meas
 apply qbv∘Xd0∘qbm;refine Jv rfl (Kzd h by_ x.dropped _ _ hK.held (hbR.mono fun r hr=>Ja (yj _ hr)) hBB za (by rw [hhl];omega)) rfl ?_;rintro v U J ⟨ph,out,rfl,⟨hphk,houtk⟩,hphl,houtl,hdata,rfl,hRt⟩;have hfe:Vc (h.l ++ by_.l) x.dropped=Vc (p.held ++ by_.l) p.dropped:=by rw [hhl,hxd]
 have houtn:out.l.length≤200000:=by have h1:=Zdc _ (l:=h.l ++ by_.l) x.dropped rfl;rw [← houtl,yD,yl,hhl] at h1;omega
 have hbytes:=Kud _ (l:=h.l ++ by_.l) x.dropped rfl hBB;rw [← houtl] at hbytes;refine Jw zRb rfl ?_;apply Xba∘qaq;intro b9;apply qak∘Xb8∘qbe∘qab;refine Kua tb rfl rfl rfl rfl zC zb zb zb ?_;apply (qco);refine Kp (T:=118) (f:=XFrame.cells) (wd:=3) out (out.l.map XFrame.sub) zj yf ze houtk (fun s hs=>by obtain ⟨y,hy,rfl⟩:=List.mem_map.1 hs;exact hdata y hy) ?_;refine U2 zq ?_;refine Kp (T:=5) (f:=Z9) (wd:=1) ph [] zj yf ze hphk yg ?_;refine U2 zq ?_;obtain ⟨R4,hR4e⟩:∃R4,R4=bsl ph.arr :: Vng out.arr :: J:=⟨_,rfl⟩;have hR4:∀r∈S0 ++ R,InR r R4:=fun r hr=>(hRt r hr).mono fun r hr=>Ja (by rw [hR4e];exact .tail _ (.tail _ hr));have hphR:InR (bsl ph.arr) R4:=Ja (by rw [hR4e];exact .head _);have houtR:InR (Vng out.arr) R4:=Ja (by rw [hR4e];exact .tail _ (.head _));have hdata4:∀y∈out.l,InR (bsl y.data) R4:=fun y hy=>(hdata y hy).mono fun r hr=>Ja (by rw [hR4e];exact .tail _ (.tail _ hr));have hsR4:=hK.site.sensors.mono hR4;refine Jic (show _=R4 by rw [hR4e]) ?_;refine Kuf houtR fun houtc=>?_;refine Vv (U:=⟨b8,(⟨s,x.time,ph.arr,(Vc (h.l ++ by_.l) x.dropped).dropped,pm.arr,w,c,f,x.rest,pl.arr⟩:XSta).cells,54⟩ :: (pl.L 150 XEntry.cells ++ (pm.L 93 XMeas.cells ++ (⟨b6,staZ.cells,54⟩ :: ⟨b3,x.cells,54⟩ :: L)))) zi zAb ?_;apply qay∘Xbr;refine Jm [(2,.int _ _),(6,.pointer _),(8,.pointer _),(30,.slice _ _ _),(31,.int _ _),(32,.int _ _)] zh fun tq0=>?_;refine q_p ([12,13,14]++rg 32 30) ((⟨fun g=>[(32,.int .i64 ((g.1.1:Nat):Int))],fun g=>⟨b8,(⟨s,x.time,ph.arr,(Vc (h.l ++ by_.l) x.dropped).dropped,pm.arr,w,c,f,x.rest,pl.arr⟩:XSta).cells,54⟩ :: (pl.L 150 XEntry.cells ++ ((⟨pm.o,g.1.2⟩:OwL XMeas).L 93 XMeas.cells ++ (⟨b6,staZ.cells,54⟩ :: ⟨b3,x.cells,54⟩ :: L))),fun _=>R4,fun g=>out.l.length - g.1.1⟩:Head {q:Nat×List XMeas // q.1≤out.l.length∧q.2=((out.l.map XFrame.tele).take q.1).foldl (Yha g.site.sensors.l t) p.meas})) (⟨(0,pm.l),by dsimp only;omega,hIs.meas⟩) ?_;rintro ⟨⟨k,ml⟩,hk,hml⟩ junk;try dsimp only
 dsimp only at hk hml;have hmn:ml.length=pm.l.length:=by rw [hml,(Vqc (S:=g.site.sensors.l) (t:=t) _ hI.mok).2,show pm.l=p.meas from hIs.meas]
 have hmk:(⟨pm.o,ml⟩:OwL XMeas).ok 4 XMeas.cells:=OwL.len_ok yf hK.km hmn;apply (Xaj);refine q_c ?_ ?_<;>intro hc1;·
  have hg:=Jp (l:=out.l) (k:=k) default za;obtain ⟨fr,hfr⟩:∃fr,fr=out.l.getD k default:=⟨_,rfl⟩;rw [← hfr] at hg;have hfm:=yh hg;have hgt:(out.l.map XFrame.tele)[k]?=some fr.tele:=by rw [yq,hg];rfl
  have hnx:=K3e (S:=g.site.sensors.l) (t:=t) (m:=p.meas) hgt;rw [← hml] at hnx;have hfb:BytesOk fr.data.l:=hbytes fr.tele (yh hgt);apply (qbb);refine Jw zD rfl ?_;apply (Xc7);intro b12;apply Xaz∘Xdc;refine Jw zrb rfl ?_;apply (qaa);refine Jv rfl (Jmc s.sensors fr t _ _ hsR4 (hdata4 fr hfm) hfb (by rw [hsl];omega)) rfl ?_;rintro v U J ⟨m,rfl,hm,rfl,rfl⟩;refine Jw zRb rfl ?_;apply Xba∘qaq;intro b13;apply qak∘Xau∘Xcl;apply Ui (G:=[_,_,_,_,_,_]) (j:=2) (cj:=47) rfl rfl zb rfl zmb rfl;·intro hg3;replace hg3:=qb hg3;exact (Xaa∘Xab) zOd
  intro junk3;apply (qaf);refine q_c ?_ ?_<;>intro hc2;·(have hdE:Vu g.site.sensors.l fr.tele t=0:=by rw [← hsl];exact hc2.1);have hmD:=hm hc2.1;rw [hsl] at hmD;(have hms:m.sensor=J4a g.site.sensors.l fr.tele.address:=by rw [hmD];rfl);have hda:=Ymc hdE;have hmg:=Jp (l:=ml) (k:=m.sensor.toNat) default (by rw [hms];omega);(have hms0:0≤m.sensor:=by omega);apply qay∘Xa0∘qa8;refine Jw (Jo tb ((⟨pm.o,ml⟩:OwL XMeas)) _ rfl rfl ((show _=Value.slice _ _ _ from rfl).trans (by simp only [OwL.val,hmn])) rfl zg (i:=m.sensor.toNat) zk zp) rfl ?_;refine Vk (Uw tb ((⟨pm.o,ml⟩:OwL XMeas)) (m) rfl rfl rfl rfl zj zg yf zg (yR rfl) zb zb) ?_;rintro v U J ⟨rfl,rfl⟩;apply (Xa4);exact q_k ⟨(k + 1,ml.set m.sensor.toNat m),by dsimp only;omega,by dsimp only;rw [hnx,Yha,if_pos hdE,← hmD,hms]⟩
  apply (Xaw);exact Ka ⟨(k + 1,ml),by dsimp only;omega,by
  dsimp only;rw [hnx,Yha,if_neg];intro hdE;have hdE2:Vu s.sensors.l fr.tele t=0:=by rw [hsl];exact hdE
  have hda:=Ymc hdE;have hms:m.sensor=J4a g.site.sensors.l fr.tele.address:=by rw [hm hdE2,hsl];rfl
  rcases hc2 with h9 | h9;·exact h9 hdE2
  ·exact h9 (by rw [hms];omega)⟩ zm zh zi zAb zx
 obtain rfl:k=out.l.length:=by omega
 have hall:(out.l.map XFrame.tele).take out.l.length=(Vc (p.held ++ by_.l) p.dropped).out:=by rw [← hfe,← houtl,yO (by rw [yD];exact ym _)]
 rw [hall] at hml;have hI1:=hI.feedR hbB t;have hcv:(⟨pm.o,ml⟩:OwL XMeas).arr.val=pm.arr.val:=by simp only [OwL.arr,Arr.val,hmn]
 refine Kp (T:=93) (f:=XMeas.cells) (wd:=4) (⟨pm.o,ml⟩:OwL XMeas) [] zj yf ze hmk yg ?_;refine U2 zq ?_;refine U2 (U:=⟨b8,(⟨s,x.time,ph.arr,(Vc (h.l ++ by_.l) x.dropped).dropped,(⟨pm.o,ml⟩:OwL XMeas).arr,w,c,f,x.rest,pl.arr⟩:XSta).cells,54⟩ :: (pl.L 150 XEntry.cells ++ (⟨b6,staZ.cells,54⟩ :: ⟨b3,x.cells,54⟩ :: L))) (by simp only [XSta.cells,hcv]) ?_;have hX1:StaIs g (feedR g p by_.l t) (⟨s,x.time,ph.arr,(Vc (h.l ++ by_.l) x.dropped).dropped,(⟨pm.o,ml⟩:OwL XMeas).arr,w,c,f,x.rest,pl.arr⟩:XSta):={ hIs with held:=by show ph.l=_;rw [hphl,hfe];rfl,dropped:=by show (Vc (h.l ++ by_.l) x.dropped).dropped=_;rw [hfe];rfl,meas:=hml };obtain ⟨R5,hR5e⟩:∃R5,R5=Yu (⟨pm.o,ml⟩:OwL XMeas).arr :: R4:=⟨_,rfl⟩;have hmR5:InR (Yu (⟨pm.o,ml⟩:OwL XMeas).arr) R5:=Ja (by rw [hR5e];exact .head _);have hR45:∀r∈R4,InR r R5:=fun r hr=>Ja (by rw [hR5e];exact .tail _ hr);have hS0:∀r∈S0 ++ R,InR r R5:=fun r hr=>(hR4 r hr).mono hR45;refine Jic (show _=R5 by rw [hR5e]) ?_;apply (Xdg);refine Jv rfl (U3a g (feedR g p by_.l t) (⟨s,x.time,ph.arr,(Vc (h.l ++ by_.l) x.dropped).dropped,(⟨pm.o,ml⟩:OwL XMeas).arr,w,c,f,x.rest,pl.arr⟩:XSta) pl b8 t _ _ hI1 hX1 (hK.site.mono hS0) hmR5 (hK.watches.mono hS0) (hK.cuts.mono hS0) (hK.feeder.mono hS0) hK.kl ht) rfl ?_;rintro v U J ⟨w2,c2,f2,q,S2,hqk,hS,⟨hw2,hc2,hf2⟩,rfl,rfl⟩;apply (qa4);refine Kp (T:=150) (f:=XEntry.cells) (wd:=4) q [] zj yf ze hqk yg ?_;refine U2 zq ?_;have h3:∀r∈S2 ++ R5,InR r ((J5a q.arr :: (S2 ++ R5)) ++ R):=fun r hr=>Ja (.tail _ (yp _ hr));have h35:∀r∈R5,InR r ((J5a q.arr :: (S2 ++ R5)) ++ R):=fun r hr=>h3 r (yj _ hr);have h4:∀r∈S0 ++ R,InR r ((J5a q.arr :: (S2 ++ R5)) ++ R):=fun r hr=>(hS0 r hr).mono h35;apply qay∘Z8e∘Xb2;refine K2 (U:=L) (J:=(J5a q.arr :: (S2 ++ R5)) ++ R) zcd ?hp ?hL ?hR;case hp=>
  have e1:Jtc g p by_.l t=(Jk g (feedR g p by_.l t) t,0):=by rw [Jtc,if_neg hl]
  exact ⟨(⟨s,t,ph.arr,(Vc (h.l ++ by_.l) x.dropped).dropped,(⟨pm.o,ml⟩:OwL XMeas).arr,w2,c2,f2,(Jk g (feedR g p by_.l t) t).rest,q.arr⟩:XSta),J5a q.arr :: (S2 ++ R5),by rw [e1],by rw [e1];exact hS,⟨hK.site.mono h4,(hphR.mono hR45).mono h35,hmR5.mono h35,hw2.mono h3,hc2.mono h3,hf2.mono h3,Ja (.head _)⟩,rfl,rfl⟩
 case hL=>exact zi
 case hR=>
  exact fun r hr=>by
   rcases List.mem_append.1 hr with h | h;·exact Ja h
   ·exact (hS0 r (yj _ h)).mono fun r hr=>Ja (.tail _ (yj _ hr))
end
section
attribute [local irreducible] CJ LJ DJ Tri YV Gives Uq J2 Kj Ut RV J3 OwL.L
section
variable {A B:Prop}
def U9e(h:A→B:=by exact Jw zub rfl):=h
def J5g(h:A→B:=by exact Kp (T:=93) (f:=XMeas.cells) (wd:=4) pm [] zj yf ze hK.km yg):=h
def Kmg(h:A→B:=by exact Kp (T:=150) (f:=XEntry.cells) (wd:=4) q2 [] zj yf ze hq2k yg):=h
def Jpg(h:A→B:=by exact J7b rfl rfl rfl rfl zC zb zb zb zi):=h
end
structure FeedEq (f f':XFeeder):Prop where
 sw:f.switches.l=f'.switches.l
 zn:f.zones.l=f'.zones.l
 rp:f.reply=f'.reply
section
variable {s s':XSite} {f f':XFeeder} (h:SiteE s s') (k:FeedEq f f') (c:List XCut) (fl:List XSpan) (r:XRest) (t:Int)
include k in
def Kcc (z:Int):atR f z=atR f' z:=by rw [atR,atR,k.sw,k.zn,k.rp]
include h k
def Jyf:Jga s c fl r f t=Jga s' c fl r f' t:=by simp only [Jga,SiteE.sharedE h,SiteE.readyE h,SiteE.nzones h,k.sw,k.zn,k.rp,Kcc k]
def Zka:Vt s c fl r f t=Vt s' c fl r f' t:=by simp only [Vt,Jyf h k,k.sw,k.zn,k.rp,Kcc k]
def Zhd:K4a s c fl r f t=K4a s' c fl r f' t:=by simp only [K4a,Zka h k,Yoe,k.zn,Kcc k]
def Z3d:Kca s c fl r f t=Kca s' c fl r f' t:=by simp only [Kca,Zka h k,Yoe,k.zn,Kcc k]
def Kpd:Zj s c fl r f t=Zj s' c fl r f' t:=by simp only [Zj,Zka h k,k.sw,Kcc k]
end
def Zzc (g:PSite) (p:PSta) (x:XSta) (t:Int) (L:LB) (R:LS) (hI:Inv g p) (hx:StaIs g p x) (hR:StaR x R):
 Tri Tryz.prog 23 [x.val,.int .i64 t].toArray L R (J8b g (Yya g p t) L R):=by
 refine Je 67 Tryz.call23 Tryz.func23 rfl rfl rfl ?_;apply (Xaf);intro b2;apply (qaq);intro b4;apply Xag∘U9e;refine Jv rfl zpc rfl ?_;rintro v U J ⟨s,h,w,c,f,pm,pl,S0,rfl,hK,rfl,rfl⟩;apply (qaq);intro b6;apply Xa9∘U9e∘qaa;refine q_l rfl (K6a x t _ _) ?_;apply (qaf);refine q_c ?_ ?_<;>intro hc0;·refine Jq ?_;apply (J5g);refine U2 zq ?_;refine Kp (T:=150) (f:=XEntry.cells) (wd:=4) pl [] zj yf ze hK.kl yg ?_;refine U2 zq ?_;apply qay∘U9e∘Xa3;refine q_r L ((J5a pl.arr :: Yu pm.arr :: S0) ++ R) zcd ?_;have hl:Jda p t:=(Ura hx).1 zF;exact ⟨(⟨s,x.time,h,x.dropped,pm.arr,w,c,f,x.rest,pl.arr⟩:XSta),J5a pl.arr :: Yu pm.arr :: S0,by rw [Yya,if_pos hl],by rw [Yya,if_pos hl];exact hK.is hx,hK.fin (fun r hr=>Ja (.tail _ (.tail _ hr))) zdc zFb,rfl,rfl⟩
 have hl:¬ Jda p t:=fun h=>absurd ((Ura hx).2 h) zF;have ht:=Zr hl;have hIs:=hK.is hx;have hS0:∀r∈S0 ++ R,InR r (Yu pm.arr :: (S0 ++ R)):=fun r hr=>Ja (.tail _ hr);apply (J5g);refine U2 zq ?_;apply (Xdz);refine Jv rfl (U3a g p (⟨s,x.time,h,x.dropped,pm.arr,w,c,f,x.rest,pl.arr⟩:XSta) pl b6 t _ _ hI hIs (hK.site.mono hS0) zFb (hK.watches.mono hS0) (hK.cuts.mono hS0) (hK.feeder.mono hS0) hK.kl ht) rfl ?_;rintro v U J ⟨w2,c2,f2,q,S2,hqk,hS,⟨hw2,hc2,hf2⟩,rfl,rfl⟩;apply (qa4);have hI2:=hI.settle ht.1 ht.2;have h5:∀r∈Yu pm.arr :: (S0 ++ R),InR r (S2 ++ (Yu pm.arr :: (S0 ++ R))):=fun r hr=>Ja (yj _ hr);have h6:∀r∈S0 ++ R,InR r (S2 ++ (Yu pm.arr :: (S0 ++ R))):=fun r hr=>(hS0 r hr).mono h5;have hv2:StaV (⟨s,t,h,x.dropped,pm.arr,w2,c2,f2,(Jk g p t).rest,q.arr⟩:XSta) (S2 ++ (Yu pm.arr :: (S0 ++ R))):=StaV.of hI2 hS (hK.site.mono h6) (h5 _ (.head _));have hA2:AiryIs s.air.mine g.air:=SiteE.airy hS.site hI2.airy;have hce:c2.l=(Jk g p t).cuts:=hS.cuts;have hfq:FeedEq f2 (mkF g (Jk g p t)):=⟨hS.sw,hS.zn,hS.rp⟩;have hsz:=hI2.sok.len;have hfo:=hI2.fok;have hn1:c2.l.length≤1000:=by rw [hce,hI2.clen];omega
 have hn2:f2.switches.l.length≤1000:=by rw [hfq.sw];exact ysa hfo.sn ze
 have hn3:f2.zones.l.length≤1000:=by rw [hfq.zn];exact ysa hfo.zl ze
 apply qay∘Xdc∘Xca;refine Ke tb [0,1,2,3,4,6,7,8,9,10,5,11,12,13,14,15,16,17,18,19,20,21,22] _ Ko zc ye ?_;apply (qal);refine Ks zvb rfl rfl rfl ?_;apply (Xal);refine Ks zub rfl rfl rfl ?_;apply (qal);refine Ks zCb rfl rfl rfl ?_;apply (qal);refine Ks zrb rfl rfl rfl ?_;apply (qao);refine Vo rfl zqc rfl rfl ?_;rintro v U J ⟨fl,rfl,hfl,rfl,rfl⟩;refine ⟨zi,zt,?_⟩;refine Vo rfl (Uge s c2 fl (Jk g p t).rest f2 t _ _ ⟨(hK.site.mono h6).mono fun r hr=>Ja (.tail _ hr),hc2.mono fun r hr=>Ja (.tail _ hr),Ja (.head _)⟩ (hf2.mono fun r hr=>Ja (.tail _ hr)) ⟨hn1,hn2,hn3⟩) rfl rfl ?_;rintro v U J ⟨rq,pc,psw,pz,rp,rfl,⟨hpck,hpswk,hpzk⟩,hCI,rfl,hRC⟩;refine ⟨zi,zt,?_⟩;refine Ks zRb rfl rfl rfl ?_;iterate 4 refine Ks zXb rfl rfl rfl ?_
 apply (qbr);intro b8;apply (qbr);intro b10;apply (qbg);refine Ks (K8 zob) rfl rfl rfl ?_;apply (Xdf);refine J1 (Jb (Jq (Jq ?_)));have hfe:fl.l=flP g (Jk g p t):=hfl.trans (StaIs.flows hS);have hcE:Vt s c2.l fl.l (Jk g p t).rest f2 t=Vt g.site (Jk g p t).cuts (flP g (Jk g p t)) (Jk g p t).rest (mkF g (Jk g p t)) t:=by rw [Zka hS.site hfq,hce,hfe]
 have hcR:rq=K4a g.site (Jk g p t).cuts (flP g (Jk g p t)) (Jk g p t).rest (mkF g (Jk g p t)) t:=by rw [hCI.rest,Zhd hS.site hfq,hce,hfe]
 have hcC:pc.l=Kca g.site (Jk g p t).cuts (flP g (Jk g p t)) (Jk g p t).rest (mkF g (Jk g p t)) t:=by rw [hCI.cuts,Z3d hS.site hfq,hce,hfe]
 have hcS:psw.l=Zj g.site (Jk g p t).cuts (flP g (Jk g p t)) (Jk g p t).rest (mkF g (Jk g p t)) t:=by rw [hCI.sw,Kpd hS.site hfq,hce,hfe]
 have hcZ:pz.l=g.zn:=hCI.zn.trans hfq.zn;have hcP:rp=g.rp:=hCI.rp.trans hfq.rp;rw [hcE];obtain ⟨e,he⟩:∃e,e=Vt g.site (Jk g p t).cuts (flP g (Jk g p t)) (Jk g p t).rest (mkF g (Jk g p t)) t:=⟨_,rfl⟩;rw [← he] at hcE ⊢;have hqln:q.l.length≤400:=by have:=hI2.log;rw [← hS.log] at this;exact this
 refine Kp (T:=3) (f:=Jj) (wd:=1) pz [] zj yf ze hpzk yg ?_;refine U2 zq ?_;refine Kp (T:=76) (f:=XSwitch.cells) (wd:=5) psw [] zj yf ze hpswk yg ?_;refine U2 zq ?_;refine Kp (T:=71) (f:=XCut.cells) (wd:=3) pc [] zj yf ze hpck yg ?_;refine U2 zq ?_;obtain ⟨R3,hR3e⟩:∃R3,R3=Vuc pc.arr :: Zeb psw.arr :: isl pz.arr :: J:=⟨_,rfl⟩;have hR13:∀r∈(S2 ++ (Yu pm.arr :: (S0 ++ R))),InR r R3:=fun r hr=>(hRC r (.tail _ hr)).mono fun r hr=>Ja (by rw [hR3e];exact .tail _ (.tail _ (.tail _ hr)));have hpcR:InR (Vuc pc.arr) R3:=Ja (by rw [hR3e];exact .head _);have hpfR:FeederR ⟨psw.arr,pz.arr,rp⟩ R3:=⟨Ja (by rw [hR3e];exact .tail _ (.head _)),Ja (by rw [hR3e];exact .tail _ (.tail _ (.head _)))⟩;have hR03:∀r∈S0 ++ R,InR r R3:=fun r hr=>(h6 r hr).mono hR13;refine Jic (show _=R3 by rw [hR3e]) ?_;apply Xa5∘Xat;refine q_c ?_ ?_<;>intro hc1;·
  refine Jq ?_;refine Vv (U:=⟨b6,(⟨s,t,h,x.dropped,pm.arr,w2,c2,f2,(Jk g p t).rest,q.arr⟩:XSta).cells,54⟩ :: (q.L 150 XEntry.cells ++ _)) zi zAb ?_;apply Xa5∘qaa;refine Jv rfl (Jua (⟨s,t,h,x.dropped,pm.arr,w2,c2,f2,(Jk g p t).rest,q.arr⟩:XSta) q b6 7 (Jk g p t).rest.zone e _ _ hqk hqln) rfl ?_;rintro v U J ⟨q2,hq2k,hq2l,rfl,rfl⟩;apply qa4∘Kmg;refine U2 zq ?_;have h3:∀r∈(S2 ++ (Yu pm.arr :: (S0 ++ R))),InR r ((J5a q2.arr :: R3) ++ R):=fun r hr=>(hR13 r hr).mono fun r hr=>Ja (.tail _ (yp _ hr));have h4:∀r∈S0 ++ R,InR r ((J5a q2.arr :: R3) ++ R):=fun r hr=>(h6 r hr).mono h3;apply qay∘U9e∘Xcg;refine K2 (U:=L) (J:=(J5a q2.arr :: R3) ++ R) zcd ?hp ?hL ?hR;case hp=>(have e1:Yya g p t=(Jma (Jk g p t) 7 (Jk g p t).rest.zone e,e):=by rw [Yya,if_neg hl];dsimp only;rw [← he,if_pos hc1]);exact ⟨(⟨s,t,h,x.dropped,pm.arr,w2,c2,f2,(Jk g p t).rest,q2.arr⟩:XSta),J5a q2.arr :: R3,by rw [e1],by rw [e1];exact hS.note hq2l,⟨hK.site.mono h4,hK.held.mono h4,(h5 _ (.head _)).mono h3,hw2.mono h3,hc2.mono h3,hf2.mono h3,Ja (.head _)⟩,rfl,rfl⟩
  case hL=>exact zi
  case hR=>
   exact fun r hr=>by
    rcases List.mem_append.1 hr with h | h;·exact Ja h
    ·exact (hR03 r (yj _ h)).mono fun r hr=>Ja (.tail _ hr)
 have he0:e=0:=Decidable.not_not.1 hc1;have hcan:Jga s c2.l fl.l (Jk g p t).rest f2 t=0:=by
  have h9:Vt s c2.l fl.l (Jk g p t).rest f2 t=0:=hcE.trans he0;rw [Vt] at h9;split at h9;·omega
  ·rename_i h8;exact Decidable.not_not.1 h8
 obtain ⟨hz1,hz2,hz3⟩:=Yjd hcan;apply qbv∘Xaa∘qab;refine Jw zrb rfl ?_;apply (qaa);refine Jv rfl (Vyd c2 f2 (Jk g p t).rest.zone _ _ (hc2.mono hR13) (hf2.mono hR13) hz3 za hz2) rfl ?_;rintro v U J ⟨rfl,rfl,hRN⟩;obtain ⟨R4,hR4⟩:∃R4,R4=J:=⟨_,rfl⟩;rw [← hR4] at hRN ⊢;refine Jw zRb rfl ?_;apply Xba∘Xa7∘qa4;refine J7 tb [59,60] [0,1,2] [3,4,5,6,7,8] (_) _ Ko zc zi (by (repeat (first | apply List.Sublist.cons (a:=Blk.mk b6 _ _) | apply List.Sublist.cons_cons));exact yt _) ?_;refine Ku zCb rfl rfl rfl rfl ?_;refine Vd zZc rfl rfl rfl rfl ?_;refine Vd zrb rfl rfl rfl rfl ?_;apply qba∘qal∘Jpg∘Xb1∘qal∘Jpg∘qb9;have hat:atR f2 (Jk g p t).rest.zone=atR (mkF g (Jk g p t)) (Jk g p t).rest.zone:=Kcc hfq _;refine Vv (U:=⟨b6,(⟨s,t,h,x.dropped,pm.arr,w2,pc.arr,⟨psw.arr,pz.arr,rp⟩,rq,q.arr⟩:XSta).cells,54⟩ :: (q.L 150 XEntry.cells ++ _)) zi zAb ?_;apply (Xa5);refine Jv rfl (Jua (⟨s,t,h,x.dropped,pm.arr,w2,pc.arr,⟨psw.arr,pz.arr,rp⟩,rq,q.arr⟩:XSta) q b6 6 (atR f2 (Jk g p t).rest.zone) 0 _ _ hqk hqln) rfl ?_;rintro v U J ⟨q2,hq2k,hq2l,rfl,rfl⟩;apply qa4∘Kmg;refine U2 zq ?_;obtain ⟨R5,hR5e⟩:∃R5,R5=J5a q2.arr :: R4:=⟨_,rfl⟩;refine Jic (show _=R5 by rw [hR5e]) ?_;have hq2R:InR (J5a q2.arr) (R5 ++ R):=Ja (by rw [hR5e];exact .head _);have h45:∀r∈R4,InR r (R5 ++ R):=fun r hr=>Ja (by rw [hR5e];exact .tail _ (yp _ hr));have h35:∀r∈R3,InR r (R5 ++ R):=fun r hr=>(hRN r hr).mono h45;have h15:∀r∈(S2 ++ (Yu pm.arr :: (S0 ++ R))),InR r (R5 ++ R):=fun r hr=>(hR13 r hr).mono h35;have h4:∀r∈S0 ++ R,InR r (R5 ++ R):=fun r hr=>(hR03 r hr).mono h35;have hRR:∀r∈R,InR r R5:=fun r hr=>((hR03 r (yj _ hr)).mono hRN).mono fun r hr=>Ja (by rw [hR5e];exact .tail _ hr);apply qay∘U9e∘Xb2;refine K2 (U:=L) (J:=R5 ++ R) zcd ?hp ?hL ?hR;case hp=>
  have e1:Yya g p t=(Jma { (Jk g p t) with rest:=K4a g.site (Jk g p t).cuts (flP g (Jk g p t)) (Jk g p t).rest (mkF g (Jk g p t)) t,cuts:=Kca g.site (Jk g p t).cuts (flP g (Jk g p t)) (Jk g p t).rest (mkF g (Jk g p t)) t,sw:=Zj g.site (Jk g p t).cuts (flP g (Jk g p t)) (Jk g p t).rest (mkF g (Jk g p t)) t } 6 (atR (mkF g (Jk g p t)) (Jk g p t).rest.zone) 0,0):=by rw [Yya,if_neg hl];dsimp only;rw [← he,if_neg hc1]
  have hS9:StaIs g { (Jk g p t) with rest:=K4a g.site (Jk g p t).cuts (flP g (Jk g p t)) (Jk g p t).rest (mkF g (Jk g p t)) t,cuts:=Kca g.site (Jk g p t).cuts (flP g (Jk g p t)) (Jk g p t).rest (mkF g (Jk g p t)) t,sw:=Zj g.site (Jk g p t).cuts (flP g (Jk g p t)) (Jk g p t).rest (mkF g (Jk g p t)) t } (⟨s,t,h,x.dropped,pm.arr,w2,pc.arr,⟨psw.arr,pz.arr,rp⟩,rq,q.arr⟩:XSta):={ hS with rest:=hcR,cuts:=hcC,sw:=hcS,zn:=hcZ,rp:=hcP };rw [hat] at hq2l;exact ⟨(⟨s,t,h,x.dropped,pm.arr,w2,pc.arr,⟨psw.arr,pz.arr,rp⟩,rq,q2.arr⟩:XSta),R5,by rw [e1],by rw [e1];exact hS9.note hq2l,⟨hK.site.mono h4,hK.held.mono h4,(h5 _ (.head _)).mono h15,hw2.mono h15,hpcR.mono h35,hpfR.mono h35,hq2R⟩,rfl,rfl⟩
 case hL=>exact zi
 case hR=>
  exact fun r hr=>by
   rcases List.mem_append.1 hr with h | h;·exact Ja h
   ·exact hRR r h
end
end Go.Proofs.YtchfclmokpbldaaGreat
