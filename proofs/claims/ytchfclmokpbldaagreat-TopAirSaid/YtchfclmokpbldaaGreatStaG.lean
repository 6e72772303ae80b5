/-
  Merged texts. By an AI agent.
-/
import Derived.Test.YtchfclmokpbldaaGreatStaE
set_option linter.all false
set_option maxHeartbeats 4000000
set_option maxRecDepth 20000
namespace Go.Proofs.YtchfclmokpbldaaGreat
open Go.Aw Go
section
attribute [local irreducible] CJ LJ DJ Tri YV Gives U5 J2 Kn U6 RV J4 OwL.L
section
variable {A B:Prop}
def Jcf(h:A→B:=by exact Jy zBb rfl):=h
end
def Uwd:∀(n:Nat) {l:List Int} (d:Int),l.length=n→BytesOk l→∀f∈(U2 l d).out,BytesOk f.data:=by
 intro n;induction n using Nat.strongRecOn with
 | ind n ih=>
  intro l d hn hb f hf;rcases yia (l=[]) with h | h;·subst h;rw [Vaa] at hf;cases hf
  ·
   have hpos := List.length_pos_iff.2 h;have hbt:BytesOk l.tail:=fun x hx=>hb x (yOb hx);have hskip:=ih l.tail.length (by rw [yfb];omega) (d + 1) rfl hbt;rcases yia (Jca l) with h1 | h1;·rw [J2a h (.inl h1)] at hf;exact hskip f hf
   ·
    rcases yia (Vg l) with h2 | h2;·rw [Zya h h1 h2] at hf;cases hf
    ·
     rcases yia (Z7a (K2b l) = V7b l) with h3 | h3;·
      rw [Vha h h1 h2 h3] at hf;rcases List.mem_cons.1 hf with hf | hf;·rw [hf];intro x hx;have hx:x∈(l.take (4 + lenT l)).drop 4:=hx;exact hb x (yQb (yqa hx))
      ·exact ih (l.drop (lenT l + 6)).length (by rw [yY];omega) d rfl (fun x hx=>hb x (yqa hx)) f hf
     ·rw [J2a h (.inr ⟨h2,h3⟩)] at hf;exact hskip f hf
def Zwc:∀(n:Nat) {l:List Int} (d:Int),l.length=n→(U2 l d).out.length≤n:=by
 intro n;induction n using Nat.strongRecOn with
 | ind n ih=>
  intro l d hn;rcases yia (l=[]) with h | h;·subst h;rw [Vaa];exact yea _
  ·
   have hpos := List.length_pos_iff.2 h;have hskip:=ih l.tail.length (by rw [yfb];omega) (d + 1) rfl;rw [yfb] at hskip;rcases yia (Jca l) with h1 | h1;·rw [J2a h (.inl h1)];omega
   ·
    rcases yia (Vg l) with h2 | h2;·rw [Zya h h1 h2];exact yea _
    ·
     rcases yia (Z7a (K2b l) = V7b l) with h3 | h3;·rw [Vha h h1 h2 h3];have:=ih (l.drop (lenT l + 6)).length (by rw [yY];omega) d rfl;rw [yY] at this;show (_ :: _).length≤n;rw [yA];omega
     ·rw [J2a h (.inr ⟨h2,h3⟩)];omega
def Ufe {S:List XSens} {t:Int} {m:List XMeas} {l:List XTele} {k:Nat} {x:XTele} (h:l[k]?=some x):(l.take (k + 1)).foldl (Y1a S t) m=Y1a S t ((l.take k).foldl (Y1a S t) m) x:=by rw [yha,h,yCa];rfl
def staZ:XSta:=⟨⟨⟨⟨⟨none,0,[]⟩,⟨none,0,[]⟩⟩,⟨none,0,[]⟩,⟨none,0,[]⟩⟩,⟨none,0,[]⟩,⟨none,0,[]⟩,⟨none,0,[]⟩,⟨none,0,[]⟩⟩,0,⟨none,0,[]⟩,0,⟨none,0,[]⟩,⟨none,0,[]⟩,⟨none,0,[]⟩,⟨⟨none,0,[]⟩,⟨none,0,[]⟩,0⟩,⟨0,0,0,0,0⟩,⟨none,0,[]⟩⟩
def Zoc {S:List XSens} {f:XTele} {t:Int} (h:Vm S f t=0):0≤Jla S f.address∧(Jla S f.address).toNat < S.length:=by
 rw [Vm] at h;split at h;·cases h
 split at h;·cases h
 rename_i h2;have:=J6e (S:=S) (ad:=f.address) za;exact ⟨this.2,this.1⟩
def Vjd (g:PSite) (p:PSta) (x:XSta) (by_:Arr Int) (t:Int) (L:LB) (R:LS) (hI:Inv g p) (hx:StaIs g p x) (hR:StaR x R) (hbR:InR (bsl by_) R) (hbB:BytesOk by_.l) (hbn:by_.l.length≤100000) (hdr:0≤p.dropped∧p.dropped≤1152921504606846976):
 Tri Tryz.prog 18 [x.val,by_.val,.int .i64 t].toArray L R (Ksb g (Kdc g p by_.l t) L R):=by
 have hxd:x.dropped=p.dropped:=hx.dropped;refine Je 65 Tryz.call18 Tryz.func18 rfl rfl rfl ?_;apply (Xaf);intro b3;apply (qaq);intro b6;apply Xag∘Jcf;refine Jw rfl zEc rfl ?_;rintro v U J ⟨s,h,w,c,f,pm,pl,S0,rfl,hK,rfl,rfl⟩;apply (qaq);intro b8;apply Xbe∘Jcf∘qaa;refine q_l rfl (Uda x t _ _) ?_;apply (qaf);refine q_c ?_ ?_<;>intro hc0;·refine Jq ?_;refine Ko (T:=93) (f:=XMeas.cells) (wd:=4) pm [] zj yf ze hK.km yg ?_;refine U4 zp ?_;refine Ko (T:=150) (f:=XEntry.cells) (wd:=4) pl [] zj yf ze hK.kl yg ?_;refine U4 zp ?_;apply qay∘Jcf∘Xa4;refine q_r L ((Kia pl.arr :: Yy pm.arr :: S0) ++ R) zud ?_;have hl:Jya p t:=(U5a hx).1 zI;exact ⟨(⟨s,x.time,h,x.dropped,pm.arr,w,c,f,x.rest,pl.arr⟩:XSta),Kia pl.arr :: Yy pm.arr :: S0,by rw [Kdc,if_pos hl],by rw [Kdc,if_pos hl];exact hK.is hx,hK.fin (fun r hr=>Ja (.tail _ (.tail _ hr))) zoc zJb,rfl,rfl⟩
 have hl:¬ Jya p t:=fun h=>absurd ((U5a hx).2 h) zI;have ht:=Zy hl;have hIs:=hK.is hx;have hhl:h.l=p.held:=hIs.held;have hheld:=hI.held;have hsl:s.sensors.l=g.site.sensors.l:=SiteE.sens hIs.site;have hsn:=hI.sok.len;have hBB:BytesOk (h.l ++ by_.l):=fun y hy=>by
  rcases List.mem_append.1 hy with hy | hy;·exact hheld.1 y (by rw [← hhl];exact hy)
  ·exact hbB y hy
 have hpmn:pm.l.length=g.site.sensors.l.length:=by rw [show pm.l=p.meas from hIs.meas];exact hI.meas
 apply qbv∘Xc6∘qbm;refine Jw rfl (Zlb h by_ x.dropped _ _ hK.held (hbR.mono fun r hr=>Ja (yj _ hr)) hBB za (by rw [hhl];omega)) rfl ?_;rintro v U J ⟨ph,out,rfl,⟨hphk,houtk⟩,hphl,houtl,hdata,rfl,hRt⟩;have hfe:U2 (h.l ++ by_.l) x.dropped=U2 (p.held ++ by_.l) p.dropped:=by rw [hhl,hxd]
 have houtn:out.l.length≤200000:=by have h1:=Zwc _ (l:=h.l ++ by_.l) x.dropped rfl;rw [← houtl,yE,yl,hhl] at h1;omega
 have hbytes:=Uwd _ (l:=h.l ++ by_.l) x.dropped rfl hBB;rw [← houtl] at hbytes;refine Jy zSb rfl ?_;apply (Xeb);intro b9;apply qak∘Xcb∘qbe∘qab;refine Uja tb rfl rfl rfl rfl zB zb zb zb ?_;apply (qco);refine Ko (T:=118) (f:=XFrame.cells) (wd:=3) out (out.l.map XFrame.sub) zj yf ze houtk (fun s hs=>by obtain ⟨y,hy,rfl⟩:=List.mem_map.1 hs;exact hdata y hy) ?_;refine U4 zp ?_;refine Ko (T:=5) (f:=Yb) (wd:=1) ph [] zj yf ze hphk yg ?_;refine U4 zp ?_;obtain ⟨R4,hR4e⟩:∃R4,R4=bsl ph.arr :: Ygg out.arr :: J:=⟨_,rfl⟩;have hR4:∀r∈S0 ++ R,InR r R4:=fun r hr=>(hRt r hr).mono fun r hr=>Ja (by rw [hR4e];exact .tail _ (.tail _ hr));have hphR:InR (bsl ph.arr) R4:=Ja (by rw [hR4e];exact .head _);have houtR:InR (Ygg out.arr) R4:=Ja (by rw [hR4e];exact .tail _ (.head _));have hdata4:∀y∈out.l,InR (bsl y.data) R4:=fun y hy=>(hdata y hy).mono fun r hr=>Ja (by rw [hR4e];exact .tail _ (.tail _ hr));have hsR4:=hK.site.sensors.mono hR4;refine J9c (show _=R4 by rw [hR4e]) ?_;refine Uuf houtR fun houtc=>?_;refine Vp (U:=⟨b8,(⟨s,x.time,ph.arr,(U2 (h.l ++ by_.l) x.dropped).dropped,pm.arr,w,c,f,x.rest,pl.arr⟩:XSta).cells,54⟩ :: (pl.L 150 XEntry.cells ++ (pm.L 93 XMeas.cells ++ (⟨b6,staZ.cells,54⟩ :: ⟨b3,x.cells,54⟩ :: L)))) zi zLb ?_;apply qay∘Xbz;refine Jm [(2,.int _ _),(6,.pointer _),(8,.pointer _),(30,.slice _ _ _),(31,.int _ _),(32,.int _ _)] zh fun tq0=>?_;refine q_p ([12,13,14]++rg 32 30) ((⟨fun g=>[(32,.int .i64 ((g.1.1:Nat):Int))],fun g=>⟨b8,(⟨s,x.time,ph.arr,(U2 (h.l ++ by_.l) x.dropped).dropped,pm.arr,w,c,f,x.rest,pl.arr⟩:XSta).cells,54⟩ :: (pl.L 150 XEntry.cells ++ ((⟨pm.o,g.1.2⟩:OwL XMeas).L 93 XMeas.cells ++ (⟨b6,staZ.cells,54⟩ :: ⟨b3,x.cells,54⟩ :: L))),fun _=>R4,fun g=>out.l.length - g.1.1⟩:Head {q:Nat×List XMeas // q.1≤out.l.length∧q.2=((out.l.map XFrame.tele).take q.1).foldl (Y1a g.site.sensors.l t) p.meas})) (⟨(0,pm.l),by dsimp only;omega,hIs.meas⟩) ?_;rintro ⟨⟨k,ml⟩,hk,hml⟩ junk;try dsimp only
 dsimp only at hk hml;have hmn:ml.length=pm.l.length:=by rw [hml,(Vsc (S:=g.site.sensors.l) (t:=t) _ hI.mok).2,show pm.l=p.meas from hIs.meas]
 have hmk:(⟨pm.o,ml⟩:OwL XMeas).ok 4 XMeas.cells:=OwL.len_ok yf hK.km hmn;apply (Xam);refine q_c ?_ ?_<;>intro hc1;·
  have hg:=Jn (l:=out.l) (k:=k) default za;obtain ⟨fr,hfr⟩:∃fr,fr=out.l.getD k default:=⟨_,rfl⟩;rw [← hfr] at hg;have hfm:=yi hg;have hgt:(out.l.map XFrame.tele)[k]?=some fr.tele:=by rw [yr,hg];rfl
  have hnx:=Ufe (S:=g.site.sensors.l) (t:=t) (m:=p.meas) hgt;rw [← hml] at hnx;have hfb:BytesOk fr.data.l:=hbytes fr.tele (yi hgt);apply (qbb);refine Jy zC rfl ?_;apply qdk∘qaq;intro b12;apply Xaz∘Xdr;refine Jy zxb rfl ?_;apply (qaa);refine Jw rfl (Jlb s.sensors fr t _ _ hsR4 (hdata4 fr hfm) hfb (by rw [hsl];omega)) rfl ?_;rintro v U J ⟨m,rfl,hm,rfl,rfl⟩;refine Jy zSb rfl ?_;apply (Xeb);intro b13;apply qak∘Xas∘Xcn;apply K9 (G:=[_,_,_,_,_,_]) (j:=2) (cj:=47) rfl rfl zb rfl zsb rfl;·intro hg3;replace hg3:=qb hg3;exact (Xaa∘Xab) zme
  intro junk3;apply (qaf);refine q_c ?_ ?_<;>intro hc2;·(have hdE:Vm g.site.sensors.l fr.tele t=0:=by rw [← hsl];exact hc2.1);have hmD:=hm hc2.1;rw [hsl] at hmD;(have hms:m.sensor=Jla g.site.sensors.l fr.tele.address:=by rw [hmD];rfl);have hda:=Zoc hdE;have hmg:=Jn (l:=ml) (k:=m.sensor.toNat) default (by rw [hms];omega);(have hms0:0≤m.sensor:=by omega);apply qay∘Xa2∘qa8;refine Jy (Js tb ((⟨pm.o,ml⟩:OwL XMeas)) _ rfl rfl ((show _=Value.slice _ _ _ from rfl).trans (by simp only [OwL.val,hmn])) rfl zg (i:=m.sensor.toNat) zk zt) rfl ?_;refine V6 (Uj tb ((⟨pm.o,ml⟩:OwL XMeas)) (m) rfl rfl rfl rfl zj zg yf zg (yQ rfl) zb zb) ?_;rintro v U J ⟨rfl,rfl⟩;apply (Xa8);exact q_k ⟨(k + 1,ml.set m.sensor.toNat m),by dsimp only;omega,by dsimp only;rw [hnx,Y1a,if_pos hdE,← hmD,hms]⟩
  apply (Xaw);exact Kd ⟨(k + 1,ml),by dsimp only;omega,by
  dsimp only;rw [hnx,Y1a,if_neg];intro hdE;have hdE2:Vm s.sensors.l fr.tele t=0:=by rw [hsl];exact hdE
  have hda:=Zoc hdE;have hms:m.sensor=Jla g.site.sensors.l fr.tele.address:=by rw [hm hdE2,hsl];rfl
  rcases hc2 with h9 | h9;·exact h9 hdE2
  ·exact h9 (by rw [hms];omega)⟩ zm zh zi zLb zx
 obtain rfl:k=out.l.length:=by omega
 have hall:(out.l.map XFrame.tele).take out.l.length=(U2 (p.held ++ by_.l) p.dropped).out:=by rw [← hfe,← houtl,yS (by rw [yE];exact ym _)]
 rw [hall] at hml;have hI1:=hI.feedR hbB t;have hcv:(⟨pm.o,ml⟩:OwL XMeas).arr.val=pm.arr.val:=by simp only [OwL.arr,Arr.val,hmn]
 refine Ko (T:=93) (f:=XMeas.cells) (wd:=4) (⟨pm.o,ml⟩:OwL XMeas) [] zj yf ze hmk yg ?_;refine U4 zp ?_;refine U4 (U:=⟨b8,(⟨s,x.time,ph.arr,(U2 (h.l ++ by_.l) x.dropped).dropped,(⟨pm.o,ml⟩:OwL XMeas).arr,w,c,f,x.rest,pl.arr⟩:XSta).cells,54⟩ :: (pl.L 150 XEntry.cells ++ (⟨b6,staZ.cells,54⟩ :: ⟨b3,x.cells,54⟩ :: L))) (by simp only [XSta.cells,hcv]) ?_;have hX1:StaIs g (feedR g p by_.l t) (⟨s,x.time,ph.arr,(U2 (h.l ++ by_.l) x.dropped).dropped,(⟨pm.o,ml⟩:OwL XMeas).arr,w,c,f,x.rest,pl.arr⟩:XSta):={ hIs with held:=by show ph.l=_;rw [hphl,hfe];rfl,dropped:=by show (U2 (h.l ++ by_.l) x.dropped).dropped=_;rw [hfe];rfl,meas:=hml };obtain ⟨R5,hR5e⟩:∃R5,R5=Yy (⟨pm.o,ml⟩:OwL XMeas).arr :: R4:=⟨_,rfl⟩;have hmR5:InR (Yy (⟨pm.o,ml⟩:OwL XMeas).arr) R5:=Ja (by rw [hR5e];exact .head _);have hR45:∀r∈R4,InR r R5:=fun r hr=>Ja (by rw [hR5e];exact .tail _ hr);have hS0:∀r∈S0 ++ R,InR r R5:=fun r hr=>(hR4 r hr).mono hR45;refine J9c (show _=R5 by rw [hR5e]) ?_;apply (Xdk);refine Jw rfl (Vka g (feedR g p by_.l t) (⟨s,x.time,ph.arr,(U2 (h.l ++ by_.l) x.dropped).dropped,(⟨pm.o,ml⟩:OwL XMeas).arr,w,c,f,x.rest,pl.arr⟩:XSta) pl b8 t _ _ hI1 hX1 (hK.site.mono hS0) hmR5 (hK.watches.mono hS0) (hK.cuts.mono hS0) (hK.feeder.mono hS0) hK.kl ht) rfl ?_;rintro v U J ⟨w2,c2,f2,q,S2,hqk,hS,⟨hw2,hc2,hf2⟩,rfl,rfl⟩;apply (qa4);refine Ko (T:=150) (f:=XEntry.cells) (wd:=4) q [] zj yf ze hqk yg ?_;refine U4 zp ?_;have h3:∀r∈S2 ++ R5,InR r ((Kia q.arr :: (S2 ++ R5)) ++ R):=fun r hr=>Ja (.tail _ (yp _ hr));have h35:∀r∈R5,InR r ((Kia q.arr :: (S2 ++ R5)) ++ R):=fun r hr=>h3 r (yj _ hr);have h4:∀r∈S0 ++ R,InR r ((Kia q.arr :: (S2 ++ R5)) ++ R):=fun r hr=>(hS0 r hr).mono h35;apply qay∘Jcf∘Xb3;refine Kx (U:=L) (J:=(Kia q.arr :: (S2 ++ R5)) ++ R) zud ?hp ?hL ?hR;case hp=>
  have e1:Kdc g p by_.l t=(Jj g (feedR g p by_.l t) t,0):=by rw [Kdc,if_neg hl]
  exact ⟨(⟨s,t,ph.arr,(U2 (h.l ++ by_.l) x.dropped).dropped,(⟨pm.o,ml⟩:OwL XMeas).arr,w2,c2,f2,(Jj g (feedR g p by_.l t) t).rest,q.arr⟩:XSta),Kia q.arr :: (S2 ++ R5),by rw [e1],by rw [e1];exact hS,⟨hK.site.mono h4,(hphR.mono hR45).mono h35,hmR5.mono h35,hw2.mono h3,hc2.mono h3,hf2.mono h3,Ja (.head _)⟩,rfl,rfl⟩
 case hL=>exact zi
 case hR=>
  exact fun r hr=>by
   rcases List.mem_append.1 hr with h | h;·exact Ja h
   ·exact (hS0 r (yj _ h)).mono fun r hr=>Ja (.tail _ (yj _ hr))
end
section
attribute [local irreducible] CJ LJ DJ Tri YV Gives U5 J2 Kn U6 RV J4 OwL.L
section
variable {A B:Prop}
def Vhe(h:A→B:=by exact Jy zBb rfl):=h
def J8g(h:A→B:=by exact Ko (T:=93) (f:=XMeas.cells) (wd:=4) pm [] zj yf ze hK.km yg):=h
def Uxg(h:A→B:=by exact Ko (T:=150) (f:=XEntry.cells) (wd:=4) q2 [] zj yf ze hq2k yg):=h
def Vmg(h:A→B:=by exact Uab rfl rfl rfl rfl zB zb zb zb zi):=h
end
structure FeedEq (f f':XFeeder):Prop where
 sw:f.switches.l=f'.switches.l
 zn:f.zones.l=f'.zones.l
 rp:f.reply=f'.reply
section
variable {s s':XSite} {f f':XFeeder} (h:SiteE s s') (k:FeedEq f f') (c:List XCut) (fl:List XSpan) (r:XRest) (t:Int)
include k in
def U9c (z:Int):atR f z=atR f' z:=by rw [atR,atR,k.sw,k.zn,k.rp]
include h k
def Ucf:Jta s c fl r f t=Jta s' c fl r f' t:=by simp only [Jta,SiteE.sharedE h,SiteE.readyE h,SiteE.nzones h,k.sw,k.zn,k.rp,U9c k]
def Z0a:Vw s c fl r f t=Vw s' c fl r f' t:=by simp only [Vw,Ucf h k,k.sw,k.zn,k.rp,U9c k]
def Zxd:K7a s c fl r f t=K7a s' c fl r f' t:=by simp only [K7a,Z0a h k,Zee,k.zn,U9c k]
def J3e:Kla s c fl r f t=Kla s' c fl r f' t:=by simp only [Kla,Z0a h k,Zee,k.zn,U9c k]
def U2d:Zt s c fl r f t=Zt s' c fl r f' t:=by simp only [Zt,Z0a h k,k.sw,U9c k]
end
def Zfc (g:PSite) (p:PSta) (x:XSta) (t:Int) (L:LB) (R:LS) (hI:Inv g p) (hx:StaIs g p x) (hR:StaR x R):
 Tri Tryz.prog 23 [x.val,.int .i64 t].toArray L R (Ksb g (Zka g p t) L R):=by
 refine Je 67 Tryz.call23 Tryz.func23 rfl rfl rfl ?_;apply (Xaf);intro b2;apply (qaq);intro b4;apply Xag∘Vhe;refine Jw rfl zEc rfl ?_;rintro v U J ⟨s,h,w,c,f,pm,pl,S0,rfl,hK,rfl,rfl⟩;apply (qaq);intro b6;apply Xbe∘Vhe∘qaa;refine q_l rfl (Uda x t _ _) ?_;apply (qaf);refine q_c ?_ ?_<;>intro hc0;·refine Jq ?_;apply (J8g);refine U4 zp ?_;refine Ko (T:=150) (f:=XEntry.cells) (wd:=4) pl [] zj yf ze hK.kl yg ?_;refine U4 zp ?_;apply qay∘Vhe∘Xa4;refine q_r L ((Kia pl.arr :: Yy pm.arr :: S0) ++ R) zud ?_;have hl:Jya p t:=(U5a hx).1 zI;exact ⟨(⟨s,x.time,h,x.dropped,pm.arr,w,c,f,x.rest,pl.arr⟩:XSta),Kia pl.arr :: Yy pm.arr :: S0,by rw [Zka,if_pos hl],by rw [Zka,if_pos hl];exact hK.is hx,hK.fin (fun r hr=>Ja (.tail _ (.tail _ hr))) zoc zJb,rfl,rfl⟩
 have hl:¬ Jya p t:=fun h=>absurd ((U5a hx).2 h) zI;have ht:=Zy hl;have hIs:=hK.is hx;have hS0:∀r∈S0 ++ R,InR r (Yy pm.arr :: (S0 ++ R)):=fun r hr=>Ja (.tail _ hr);apply (J8g);refine U4 zp ?_;apply (Xd6);refine Jw rfl (Vka g p (⟨s,x.time,h,x.dropped,pm.arr,w,c,f,x.rest,pl.arr⟩:XSta) pl b6 t _ _ hI hIs (hK.site.mono hS0) zJb (hK.watches.mono hS0) (hK.cuts.mono hS0) (hK.feeder.mono hS0) hK.kl ht) rfl ?_;rintro v U J ⟨w2,c2,f2,q,S2,hqk,hS,⟨hw2,hc2,hf2⟩,rfl,rfl⟩;apply (qa4);have hI2:=hI.settle ht.1 ht.2;have h5:∀r∈Yy pm.arr :: (S0 ++ R),InR r (S2 ++ (Yy pm.arr :: (S0 ++ R))):=fun r hr=>Ja (yj _ hr);have h6:∀r∈S0 ++ R,InR r (S2 ++ (Yy pm.arr :: (S0 ++ R))):=fun r hr=>(hS0 r hr).mono h5;have hv2:StaV (⟨s,t,h,x.dropped,pm.arr,w2,c2,f2,(Jj g p t).rest,q.arr⟩:XSta) (S2 ++ (Yy pm.arr :: (S0 ++ R))):=StaV.of hI2 hS (hK.site.mono h6) (h5 _ (.head _));have hA2:AiryIs s.air.mine g.air:=SiteE.airy hS.site hI2.airy;have hce:c2.l=(Jj g p t).cuts:=hS.cuts;have hfq:FeedEq f2 (mkF g (Jj g p t)):=⟨hS.sw,hS.zn,hS.rp⟩;have hsz:=hI2.sok.len;have hfo:=hI2.fok;have hn1:c2.l.length≤1000:=by rw [hce,hI2.clen];omega
 have hn2:f2.switches.l.length≤1000:=by rw [hfq.sw];exact yta hfo.sn ze
 have hn3:f2.zones.l.length≤1000:=by rw [hfq.zn];exact yta hfo.zl ze
 apply qay∘Xdr∘Xce;refine Ki tb [0,1,2,3,4,6,7,8,9,10,5,11,12,13,14,15,16,17,18,19,20,21,22] _ Kq zc ye ?_;apply (qal);refine K0 zAb rfl rfl rfl ?_;apply (Xai);refine K0 zBb rfl rfl rfl ?_;apply (qal);refine K0 zKb rfl rfl rfl ?_;apply (qal);refine K0 zxb rfl rfl rfl ?_;apply (qao);refine Yp rfl zFc rfl rfl ?_;rintro v U J ⟨fl,rfl,hfl,rfl,rfl⟩;refine ⟨zi,zq,?_⟩;refine Yp rfl (K9e s c2 fl (Jj g p t).rest f2 t _ _ ⟨(hK.site.mono h6).mono fun r hr=>Ja (.tail _ hr),hc2.mono fun r hr=>Ja (.tail _ hr),Ja (.head _)⟩ (hf2.mono fun r hr=>Ja (.tail _ hr)) ⟨hn1,hn2,hn3⟩) rfl rfl ?_;rintro v U J ⟨rq,pc,psw,pz,rp,rfl,⟨hpck,hpswk,hpzk⟩,hCI,rfl,hRC⟩;refine ⟨zi,zq,?_⟩;refine K0 zSb rfl rfl rfl ?_;iterate 4 refine K0 zhc rfl rfl rfl ?_
 apply (qbr);intro b8;apply (qbr);intro b10;apply (qbg);refine K0 (Uo zub) rfl rfl rfl ?_;apply (Xdj);refine J1 (Jb (Jq (Jq ?_)));have hfe:fl.l=flP g (Jj g p t):=hfl.trans (StaIs.flows hS);have hcE:Vw s c2.l fl.l (Jj g p t).rest f2 t=Vw g.site (Jj g p t).cuts (flP g (Jj g p t)) (Jj g p t).rest (mkF g (Jj g p t)) t:=by rw [Z0a hS.site hfq,hce,hfe]
 have hcR:rq=K7a g.site (Jj g p t).cuts (flP g (Jj g p t)) (Jj g p t).rest (mkF g (Jj g p t)) t:=by rw [hCI.rest,Zxd hS.site hfq,hce,hfe]
 have hcC:pc.l=Kla g.site (Jj g p t).cuts (flP g (Jj g p t)) (Jj g p t).rest (mkF g (Jj g p t)) t:=by rw [hCI.cuts,J3e hS.site hfq,hce,hfe]
 have hcS:psw.l=Zt g.site (Jj g p t).cuts (flP g (Jj g p t)) (Jj g p t).rest (mkF g (Jj g p t)) t:=by rw [hCI.sw,U2d hS.site hfq,hce,hfe]
 have hcZ:pz.l=g.zn:=hCI.zn.trans hfq.zn;have hcP:rp=g.rp:=hCI.rp.trans hfq.rp;rw [hcE];obtain ⟨e,he⟩:∃e,e=Vw g.site (Jj g p t).cuts (flP g (Jj g p t)) (Jj g p t).rest (mkF g (Jj g p t)) t:=⟨_,rfl⟩;rw [← he] at hcE ⊢;have hqln:q.l.length≤400:=by have:=hI2.log;rw [← hS.log] at this;exact this
 refine Ko (T:=3) (f:=Jk) (wd:=1) pz [] zj yf ze hpzk yg ?_;refine U4 zp ?_;refine Ko (T:=76) (f:=XSwitch.cells) (wd:=5) psw [] zj yf ze hpswk yg ?_;refine U4 zp ?_;refine Ko (T:=71) (f:=XCut.cells) (wd:=3) pc [] zj yf ze hpck yg ?_;refine U4 zp ?_;obtain ⟨R3,hR3e⟩:∃R3,R3=Vic pc.arr :: Y1b psw.arr :: isl pz.arr :: J:=⟨_,rfl⟩;have hR13:∀r∈(S2 ++ (Yy pm.arr :: (S0 ++ R))),InR r R3:=fun r hr=>(hRC r (.tail _ hr)).mono fun r hr=>Ja (by rw [hR3e];exact .tail _ (.tail _ (.tail _ hr)));have hpcR:InR (Vic pc.arr) R3:=Ja (by rw [hR3e];exact .head _);have hpfR:FeederR ⟨psw.arr,pz.arr,rp⟩ R3:=⟨Ja (by rw [hR3e];exact .tail _ (.head _)),Ja (by rw [hR3e];exact .tail _ (.tail _ (.head _)))⟩;have hR03:∀r∈S0 ++ R,InR r R3:=fun r hr=>(h6 r hr).mono hR13;refine J9c (show _=R3 by rw [hR3e]) ?_;apply Xbc∘Xat;refine q_c ?_ ?_<;>intro hc1;·
  refine Jq ?_;refine Vp (U:=⟨b6,(⟨s,t,h,x.dropped,pm.arr,w2,c2,f2,(Jj g p t).rest,q.arr⟩:XSta).cells,54⟩ :: (q.L 150 XEntry.cells ++ _)) zi zLb ?_;apply Xbc∘qaa;refine Jw rfl (J3a (⟨s,t,h,x.dropped,pm.arr,w2,c2,f2,(Jj g p t).rest,q.arr⟩:XSta) q b6 7 (Jj g p t).rest.zone e _ _ hqk hqln) rfl ?_;rintro v U J ⟨q2,hq2k,hq2l,rfl,rfl⟩;apply qa4∘Uxg;refine U4 zp ?_;have h3:∀r∈(S2 ++ (Yy pm.arr :: (S0 ++ R))),InR r ((Kia q2.arr :: R3) ++ R):=fun r hr=>(hR13 r hr).mono fun r hr=>Ja (.tail _ (yp _ hr));have h4:∀r∈S0 ++ R,InR r ((Kia q2.arr :: R3) ++ R):=fun r hr=>(h6 r hr).mono h3;apply qay∘Vhe∘Xcl;refine Kx (U:=L) (J:=(Kia q2.arr :: R3) ++ R) zud ?hp ?hL ?hR;case hp=>(have e1:Zka g p t=(Jua (Jj g p t) 7 (Jj g p t).rest.zone e,e):=by rw [Zka,if_neg hl];dsimp only;rw [← he,if_pos hc1]);exact ⟨(⟨s,t,h,x.dropped,pm.arr,w2,c2,f2,(Jj g p t).rest,q2.arr⟩:XSta),Kia q2.arr :: R3,by rw [e1],by rw [e1];exact hS.note hq2l,⟨hK.site.mono h4,hK.held.mono h4,(h5 _ (.head _)).mono h3,hw2.mono h3,hc2.mono h3,hf2.mono h3,Ja (.head _)⟩,rfl,rfl⟩
  case hL=>exact zi
  case hR=>
   exact fun r hr=>by
    rcases List.mem_append.1 hr with h | h;·exact Ja h
    ·exact (hR03 r (yj _ h)).mono fun r hr=>Ja (.tail _ hr)
 have he0:e=0:=Decidable.not_not.1 hc1;have hcan:Jta s c2.l fl.l (Jj g p t).rest f2 t=0:=by
  have h9:Vw s c2.l fl.l (Jj g p t).rest f2 t=0:=hcE.trans he0;rw [Vw] at h9;split at h9;·omega
  ·rename_i h8;exact Decidable.not_not.1 h8
 obtain ⟨hz1,hz2,hz3⟩:=Y8d hcan;apply qbv∘Xaa∘qab;refine Jy zxb rfl ?_;apply (qaa);refine Jw rfl (Ycd c2 f2 (Jj g p t).rest.zone _ _ (hc2.mono hR13) (hf2.mono hR13) hz3 za hz2) rfl ?_;rintro v U J ⟨rfl,rfl,hRN⟩;obtain ⟨R4,hR4⟩:∃R4,R4=J:=⟨_,rfl⟩;rw [← hR4] at hRN ⊢;refine Jy zSb rfl ?_;apply Xa7∘Xb6∘qa4;refine J7 tb [59,60] [0,1,2] [3,4,5,6,7,8] (_) _ Kq zc zi (by (repeat (first | apply List.Sublist.cons (a:=Blk.mk b6 _ _) | apply List.Sublist.cons_cons));exact yt _) ?_;refine Kt zKb rfl rfl rfl rfl ?_;refine Vo zrd rfl rfl rfl rfl ?_;refine Vo zxb rfl rfl rfl rfl ?_;apply qba∘qal∘Vmg∘Xb0∘qal∘Vmg∘qb9;have hat:atR f2 (Jj g p t).rest.zone=atR (mkF g (Jj g p t)) (Jj g p t).rest.zone:=U9c hfq _;refine Vp (U:=⟨b6,(⟨s,t,h,x.dropped,pm.arr,w2,pc.arr,⟨psw.arr,pz.arr,rp⟩,rq,q.arr⟩:XSta).cells,54⟩ :: (q.L 150 XEntry.cells ++ _)) zi zLb ?_;apply (Xbc);refine Jw rfl (J3a (⟨s,t,h,x.dropped,pm.arr,w2,pc.arr,⟨psw.arr,pz.arr,rp⟩,rq,q.arr⟩:XSta) q b6 6 (atR f2 (Jj g p t).rest.zone) 0 _ _ hqk hqln) rfl ?_;rintro v U J ⟨q2,hq2k,hq2l,rfl,rfl⟩;apply qa4∘Uxg;refine U4 zp ?_;obtain ⟨R5,hR5e⟩:∃R5,R5=Kia q2.arr :: R4:=⟨_,rfl⟩;refine J9c (show _=R5 by rw [hR5e]) ?_;have hq2R:InR (Kia q2.arr) (R5 ++ R):=Ja (by rw [hR5e];exact .head _);have h45:∀r∈R4,InR r (R5 ++ R):=fun r hr=>Ja (by rw [hR5e];exact .tail _ (yp _ hr));have h35:∀r∈R3,InR r (R5 ++ R):=fun r hr=>(hRN r hr).mono h45;have h15:∀r∈(S2 ++ (Yy pm.arr :: (S0 ++ R))),InR r (R5 ++ R):=fun r hr=>(hR13 r hr).mono h35;have h4:∀r∈S0 ++ R,InR r (R5 ++ R):=fun r hr=>(hR03 r hr).mono h35;have hRR:∀r∈R,InR r R5:=fun r hr=>((hR03 r (yj _ hr)).mono hRN).mono fun r hr=>Ja (by rw [hR5e];exact .tail _ hr);apply qay∘Vhe∘Xb3;refine Kx (U:=L) (J:=R5 ++ R) zud ?hp ?hL ?hR;case hp=>
  have e1:Zka g p t=(Jua { (Jj g p t) with rest:=K7a g.site (Jj g p t).cuts (flP g (Jj g p t)) (Jj g p t).rest (mkF g (Jj g p t)) t,cuts:=Kla g.site (Jj g p t).cuts (flP g (Jj g p t)) (Jj g p t).rest (mkF g (Jj g p t)) t,sw:=Zt g.site (Jj g p t).cuts (flP g (Jj g p t)) (Jj g p t).rest (mkF g (Jj g p t)) t } 6 (atR (mkF g (Jj g p t)) (Jj g p t).rest.zone) 0,0):=by rw [Zka,if_neg hl];dsimp only;rw [← he,if_neg hc1]
  have hS9:StaIs g { (Jj g p t) with rest:=K7a g.site (Jj g p t).cuts (flP g (Jj g p t)) (Jj g p t).rest (mkF g (Jj g p t)) t,cuts:=Kla g.site (Jj g p t).cuts (flP g (Jj g p t)) (Jj g p t).rest (mkF g (Jj g p t)) t,sw:=Zt g.site (Jj g p t).cuts (flP g (Jj g p t)) (Jj g p t).rest (mkF g (Jj g p t)) t } (⟨s,t,h,x.dropped,pm.arr,w2,pc.arr,⟨psw.arr,pz.arr,rp⟩,rq,q.arr⟩:XSta):={ hS with rest:=hcR,cuts:=hcC,sw:=hcS,zn:=hcZ,rp:=hcP };rw [hat] at hq2l;exact ⟨(⟨s,t,h,x.dropped,pm.arr,w2,pc.arr,⟨psw.arr,pz.arr,rp⟩,rq,q2.arr⟩:XSta),R5,by rw [e1],by rw [e1];exact hS9.note hq2l,⟨hK.site.mono h4,hK.held.mono h4,(h5 _ (.head _)).mono h15,hw2.mono h15,hpcR.mono h35,hpfR.mono h35,hq2R⟩,rfl,rfl⟩
 case hL=>exact zi
 case hR=>
  exact fun r hr=>by
   rcases List.mem_append.1 hr with h | h;·exact Ja h
   ·exact hRR r h
end
end Go.Proofs.YtchfclmokpbldaaGreat
