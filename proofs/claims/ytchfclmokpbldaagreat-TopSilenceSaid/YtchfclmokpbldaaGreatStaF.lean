/-
  Stations: bytes that come, closing, when one is due, the program's side. By an AI agent; no person has read it.
-/
import Derived.Test.YtchfclmokpbldaaGreatStaE
set_option linter.all false
set_option maxHeartbeats 4000000
namespace Go.Proofs.YtchfclmokpbldaaGreat
open Go.Aw Go
set_option maxRecDepth 20000
attribute [local irreducible] CJ LJ DJ Tri YV Gives Uq J2 Km Ur RV J4 OwL.L
section
variable {A B:Prop}
def Z5e(h:A→B:=by exact Jy ztb rfl):=h
end
def U4d:∀(n:Nat) {l:List Int} (d:Int),l.length=n→BytesOk l→∀f∈(Vb l d).out,BytesOk f.data:=by
 intro n;induction n using Nat.strongRecOn with
 | ind n ih=>
  intro l d hn hb f hf;rcases yha (l=[]) with h | h;·subst h;rw [Y2a] at hf;cases hf
  ·
   have hpos := List.length_pos_iff.2 h;have hbt:BytesOk l.tail:=fun x hx=>hb x (yOb hx);have hskip:=ih l.tail.length (by rw [yfb];omega) (d + 1) rfl hbt;rcases yha (Jja l) with h1 | h1;·rw [Jya h (.inl h1)] at hf;exact hskip f hf
   ·
    rcases yha (Vc l) with h2 | h2;·rw [Zga h h1 h2] at hf;cases hf
    ·
     rcases yha (Jab (K5b l) = Vxb l) with h3 | h3;·
      rw [Vea h h1 h2 h3] at hf;rcases List.mem_cons.1 hf with hf | hf;·rw [hf];intro x hx;have hx:x∈(l.take (4 + lenT l)).drop 4:=hx;exact hb x (yWa (yxa hx))
      ·exact ih (l.drop (lenT l + 6)).length (by rw [yX];omega) d rfl (fun x hx=>hb x (yxa hx)) f hf
     ·rw [Jya h (.inr ⟨h2,h3⟩)] at hf;exact hskip f hf
def Jqd:∀(n:Nat) {l:List Int} (d:Int),l.length=n→(Vb l d).out.length≤n:=by
 intro n;induction n using Nat.strongRecOn with
 | ind n ih=>
  intro l d hn;rcases yha (l=[]) with h | h;·subst h;rw [Y2a];exact yga _
  ·
   have hpos := List.length_pos_iff.2 h;have hskip:=ih l.tail.length (by rw [yfb];omega) (d + 1) rfl;rw [yfb] at hskip;rcases yha (Jja l) with h1 | h1;·rw [Jya h (.inl h1)];omega
   ·
    rcases yha (Vc l) with h2 | h2;·rw [Zga h h1 h2];exact yga _
    ·
     rcases yha (Jab (K5b l) = Vxb l) with h3 | h3;·rw [Vea h h1 h2 h3];have:=ih (l.drop (lenT l + 6)).length (by rw [yX];omega) d rfl;rw [yX] at this;show (_ :: _).length≤n;rw [yw];omega
     ·rw [Jya h (.inr ⟨h2,h3⟩)];omega
def Kue {S:List XSens} {t:Int} {m:List XMeas} {l:List XTele} {k:Nat} {x:XTele} (h:l[k]?=some x):(l.take (k + 1)).foldl (U1a S t) m=U1a S t ((l.take k).foldl (U1a S t) m) x:=by rw [yfa,h,yBa];rfl
def staZ:XSta:=⟨⟨⟨⟨⟨none,0,[]⟩,⟨none,0,[]⟩⟩,⟨none,0,[]⟩,⟨none,0,[]⟩⟩,⟨none,0,[]⟩,⟨none,0,[]⟩,⟨none,0,[]⟩,⟨none,0,[]⟩⟩,0,⟨none,0,[]⟩,0,⟨none,0,[]⟩,⟨none,0,[]⟩,⟨none,0,[]⟩,⟨⟨none,0,[]⟩,⟨none,0,[]⟩,0⟩,⟨0,0,0,0,0⟩,⟨none,0,[]⟩⟩
def Z4b {S:List XSens} {f:XTele} {t:Int} (h:Vt S f t=0):0≤Jra S f.address∧(Jra S f.address).toNat < S.length:=by
 rw [Vt] at h;split at h;·cases h
 split at h;·cases h
 rename_i h2;have:=Kje (S:=S) (ad:=f.address) za;exact ⟨this.2,this.1⟩
def Yxb (g:PSite) (p:PSta) (x:XSta) (by_:Arr Int) (t:Int) (L:LB) (R:LS) (hI:Inv g p) (hx:StaIs g p x) (hR:StaR x R) (hbR:InR (bsl by_) R) (hbB:BytesOk by_.l) (hbn:by_.l.length≤100000) (hdr:0≤p.dropped∧p.dropped≤1152921504606846976):
 Tri Tryz.prog 18 [x.val,by_.val,.int .i64 t].toArray L R (Zla g (Yqa g p by_.l t) L R):=by
 have hxd:x.dropped=p.dropped:=hx.dropped;refine Jd 65 Tryz.call18 Tryz.func18 rfl rfl rfl ?_;apply (Xaf);intro b3;apply (qaq);intro b6;apply Xag∘Z5e;refine Jo rfl zkc rfl ?_;rintro v M U ⟨s,h,w,c,f,pm,pl,S0,rfl,hK,rfl,rfl⟩;apply (qaq);intro b8;apply Xbc∘Z5e∘qaa;refine q_l rfl (J0a x t _ _) ?_;apply (qaf);refine q_c ?_ ?_<;>intro hc0;·refine Jp ?_;refine Kk (T:=93) (f:=XMeas.cells) (wd:=4) pm [] zj yf ze hK.km yg ?_;refine U0 zt ?_;refine Kk (T:=150) (f:=XEntry.cells) (wd:=4) pl [] zj yf ze hK.kl yg ?_;refine U0 zt ?_;apply qay∘Z5e∘Xa3;refine q_r L ((Jda pl.arr :: Ya pm.arr :: S0) ++ R) zgd ?_;have hl:Zu p t:=(Koa hx).1 zE;exact ⟨(⟨s,x.time,h,x.dropped,pm.arr,w,c,f,x.rest,pl.arr⟩:XSta),Jda pl.arr :: Ya pm.arr :: S0,by rw [Yqa,if_pos hl],by rw [Yqa,if_pos hl];exact hK.is hx,hK.fin (fun r hr=>Ja (.tail _ (.tail _ hr))) zZb zCb,rfl,rfl⟩
 have hl:¬ Zu p t:=fun h=>absurd ((Koa hx).2 h) zE;have ht:=Yw hl;have hIs:=hK.is hx;have hhl:h.l=p.held:=hIs.held;have hheld:=hI.held;have hsl:s.sensors.l=g.site.sensors.l:=SiteE.sens hIs.site;have hsn:=hI.sok.len;have hBB:BytesOk (h.l ++ by_.l):=fun y hy=>by
  rcases List.mem_append.1 hy with hy | hy;·exact hheld.1 y (by rw [← hhl];exact hy)
  ·exact hbB y hy
 have hpmn:pm.l.length=g.site.sensors.l.length:=by rw [show pm.l=p.meas from hIs.meas];exact hI.meas
 apply qbv∘Xd9∘qbm;refine Jo rfl (K3d h by_ x.dropped _ _ hK.held (hbR.mono fun r hr=>Ja (yk _ hr)) hBB za (by rw [hhl];omega)) rfl ?_;rintro v M U ⟨ph,out,rfl,⟨hphk,houtk⟩,hphl,houtl,hdata,rfl,hRt⟩;have hfe:Vb (h.l ++ by_.l) x.dropped=Vb (p.held ++ by_.l) p.dropped:=by rw [hhl,hxd]
 have houtn:out.l.length≤200000:=by have h1:=Jqd _ (l:=h.l ++ by_.l) x.dropped rfl;rw [← houtl,yA,yj,hhl] at h1;omega
 have hbytes:=U4d _ (l:=h.l ++ by_.l) x.dropped rfl hBB;rw [← houtl] at hbytes;refine Jy zPb rfl ?_;apply Xa6∘qaq;intro b9;apply qak∘qc4∘qam∘qbe∘qab;refine K6a tb rfl rfl rfl rfl zB zb zb zb ?_;apply (qco);refine Kk (T:=118) (f:=XFrame.cells) (wd:=3) out (out.l.map XFrame.sub) zj yf ze houtk (fun s hs=>by obtain ⟨y,hy,rfl⟩:=List.mem_map.1 hs;exact hdata y hy) ?_;refine U0 zt ?_;refine Kk (T:=5) (f:=Vp) (wd:=1) ph [] zj yf ze hphk yg ?_;refine U0 zt ?_;obtain ⟨R4,hR4e⟩:∃R4,R4=bsl ph.arr :: Yig out.arr :: U:=⟨_,rfl⟩;have hR4:∀r∈S0 ++ R,InR r R4:=fun r hr=>(hRt r hr).mono fun r hr=>Ja (by rw [hR4e];exact .tail _ (.tail _ hr));have hphR:InR (bsl ph.arr) R4:=Ja (by rw [hR4e];exact .head _);have houtR:InR (Yig out.arr) R4:=Ja (by rw [hR4e];exact .tail _ (.head _));have hdata4:∀y∈out.l,InR (bsl y.data) R4:=fun y hy=>(hdata y hy).mono fun r hr=>Ja (by rw [hR4e];exact .tail _ (.tail _ hr));have hsR4:=hK.site.sensors.mono hR4;refine Ubb (show _=R4 by rw [hR4e]) ?_;refine Usf houtR fun houtc=>?_;refine Vg (M:=⟨b8,(⟨s,x.time,ph.arr,(Vb (h.l ++ by_.l) x.dropped).dropped,pm.arr,w,c,f,x.rest,pl.arr⟩:XSta).cells,54⟩ :: (pl.L 150 XEntry.cells ++ (pm.L 93 XMeas.cells ++ (⟨b6,staZ.cells,54⟩ :: ⟨b3,x.cells,54⟩ :: L)))) zg zBb ?_;apply qay∘Xb5;refine Jl [(2,.int _ _),(6,.pointer _),(8,.pointer _),(30,.slice _ _ _),(31,.int _ _),(32,.int _ _)] zh fun tq0=>?_;refine q_p ([12,13,14]++rg 32 30) ((⟨fun g=>[(32,.int .i64 ((g.1.1:Nat):Int))],fun g=>⟨b8,(⟨s,x.time,ph.arr,(Vb (h.l ++ by_.l) x.dropped).dropped,pm.arr,w,c,f,x.rest,pl.arr⟩:XSta).cells,54⟩ :: (pl.L 150 XEntry.cells ++ ((⟨pm.o,g.1.2⟩:OwL XMeas).L 93 XMeas.cells ++ (⟨b6,staZ.cells,54⟩ :: ⟨b3,x.cells,54⟩ :: L))),fun _=>R4,fun g=>out.l.length - g.1.1⟩:Head {q:Nat×List XMeas // q.1≤out.l.length∧q.2=((out.l.map XFrame.tele).take q.1).foldl (U1a g.site.sensors.l t) p.meas})) (⟨(0,pm.l),by dsimp only;omega,hIs.meas⟩) ?_;rintro ⟨⟨k,ml⟩,hk,hml⟩ junk;try dsimp only
 dsimp only at hk hml;have hmn:ml.length=pm.l.length:=by rw [hml,(Vzc (S:=g.site.sensors.l) (t:=t) _ hI.mok).2,show pm.l=p.meas from hIs.meas]
 have hmk:(⟨pm.o,ml⟩:OwL XMeas).ok 4 XMeas.cells:=OwL.len_ok yf hK.km hmn;apply (Xan);refine q_c ?_ ?_<;>intro hc1;·
  have hg:=Jt (l:=out.l) (k:=k) default za;obtain ⟨fr,hfr⟩:∃fr,fr=out.l.getD k default:=⟨_,rfl⟩;rw [← hfr] at hg;have hfm:=yi hg;have hgt:(out.l.map XFrame.tele)[k]?=some fr.tele:=by rw [yr,hg];rfl
  have hnx:=Kue (S:=g.site.sensors.l) (t:=t) (m:=p.meas) hgt;rw [← hml] at hnx;have hfb:BytesOk fr.data.l:=hbytes fr.tele (yi hgt);apply (qbb);refine Jy zC rfl ?_;apply qdk∘qaq;intro b12;apply Xa0∘Xdv;refine Jy zrb rfl ?_;apply (qaa);refine Jo rfl (Kac s.sensors fr t _ _ hsR4 (hdata4 fr hfm) hfb (by rw [hsl];omega)) rfl ?_;rintro v M U ⟨m,rfl,hm,rfl,rfl⟩;refine Jy zPb rfl ?_;apply Xa6∘qaq;intro b13;apply qak∘Xav∘Xcc;apply Uy (G:=[_,_,_,_,_,_]) (j:=2) (cj:=47) rfl rfl zb rfl zmb rfl;·intro hg3;replace hg3:=qb hg3;exact (Xaa∘Xab) zJd
  intro junk3;apply (qaf);refine q_c ?_ ?_<;>intro hc2;·(have hdE:Vt g.site.sensors.l fr.tele t=0:=by rw [← hsl];exact hc2.1);have hmD:=hm hc2.1;rw [hsl] at hmD;(have hms:m.sensor=Jra g.site.sensors.l fr.tele.address:=by rw [hmD];rfl);have hda:=Z4b hdE;have hmg:=Jt (l:=ml) (k:=m.sensor.toNat) default (by rw [hms];omega);(have hms0:0≤m.sensor:=by omega);apply qay∘Xbe∘qa8;refine Jy (Jw tb ((⟨pm.o,ml⟩:OwL XMeas)) _ rfl rfl ((show _=Value.slice _ _ _ from rfl).trans (by simp only [OwL.val,hmn])) rfl zi (i:=m.sensor.toNat) zk zw) rfl ?_;refine Ye (Uv tb ((⟨pm.o,ml⟩:OwL XMeas)) (m) rfl rfl rfl rfl zj zi yf zi (yW rfl) zb zb) ?_;rintro v M U ⟨rfl,rfl⟩;apply (Xa8);exact q_k ⟨(k + 1,ml.set m.sensor.toNat m),by dsimp only;omega,by dsimp only;rw [hnx,U1a,if_pos hdE,← hmD,hms]⟩
  apply (Xay);exact Ki ⟨(k + 1,ml),by dsimp only;omega,by
  dsimp only;rw [hnx,U1a,if_neg];intro hdE;have hdE2:Vt s.sensors.l fr.tele t=0:=by rw [hsl];exact hdE
  have hda:=Z4b hdE;have hms:m.sensor=Jra g.site.sensors.l fr.tele.address:=by rw [hm hdE2,hsl];rfl
  rcases hc2 with h9 | h9;·exact h9 hdE2
  ·exact h9 (by rw [hms];omega)⟩ zm zh zg zBb zu
 obtain rfl:k=out.l.length:=by omega
 have hall:(out.l.map XFrame.tele).take out.l.length=(Vb (p.held ++ by_.l) p.dropped).out:=by rw [← hfe,← houtl,yN (by rw [yA];exact ym _)]
 rw [hall] at hml;have hI1:=hI.feedR hbB t;have hcv:(⟨pm.o,ml⟩:OwL XMeas).arr.val=pm.arr.val:=by simp only [OwL.arr,Arr.val,hmn]
 refine Kk (T:=93) (f:=XMeas.cells) (wd:=4) (⟨pm.o,ml⟩:OwL XMeas) [] zj yf ze hmk yg ?_;refine U0 zt ?_;refine U0 (M:=⟨b8,(⟨s,x.time,ph.arr,(Vb (h.l ++ by_.l) x.dropped).dropped,(⟨pm.o,ml⟩:OwL XMeas).arr,w,c,f,x.rest,pl.arr⟩:XSta).cells,54⟩ :: (pl.L 150 XEntry.cells ++ (⟨b6,staZ.cells,54⟩ :: ⟨b3,x.cells,54⟩ :: L))) (by simp only [XSta.cells,hcv]) ?_;have hX1:StaIs g (feedR g p by_.l t) (⟨s,x.time,ph.arr,(Vb (h.l ++ by_.l) x.dropped).dropped,(⟨pm.o,ml⟩:OwL XMeas).arr,w,c,f,x.rest,pl.arr⟩:XSta):={ hIs with held:=by show ph.l=_;rw [hphl,hfe];rfl,dropped:=by show (Vb (h.l ++ by_.l) x.dropped).dropped=_;rw [hfe];rfl,meas:=hml };obtain ⟨R5,hR5e⟩:∃R5,R5=Ya (⟨pm.o,ml⟩:OwL XMeas).arr :: R4:=⟨_,rfl⟩;have hmR5:InR (Ya (⟨pm.o,ml⟩:OwL XMeas).arr) R5:=Ja (by rw [hR5e];exact .head _);have hR45:∀r∈R4,InR r R5:=fun r hr=>Ja (by rw [hR5e];exact .tail _ hr);have hS0:∀r∈S0 ++ R,InR r R5:=fun r hr=>(hR4 r hr).mono hR45;refine Ubb (show _=R5 by rw [hR5e]) ?_;apply (Xdf);refine Jo rfl (K3a g (feedR g p by_.l t) (⟨s,x.time,ph.arr,(Vb (h.l ++ by_.l) x.dropped).dropped,(⟨pm.o,ml⟩:OwL XMeas).arr,w,c,f,x.rest,pl.arr⟩:XSta) pl b8 t _ _ hI1 hX1 (hK.site.mono hS0) hmR5 (hK.watches.mono hS0) (hK.cuts.mono hS0) (hK.feeder.mono hS0) hK.kl ht) rfl ?_;rintro v M U ⟨w2,c2,f2,q,S2,hqk,hS,⟨hw2,hc2,hf2⟩,rfl,rfl⟩;apply (qa4);refine Kk (T:=150) (f:=XEntry.cells) (wd:=4) q [] zj yf ze hqk yg ?_;refine U0 zt ?_;have h3:∀r∈S2 ++ R5,InR r ((Jda q.arr :: (S2 ++ R5)) ++ R):=fun r hr=>Ja (.tail _ (yp _ hr));have h35:∀r∈R5,InR r ((Jda q.arr :: (S2 ++ R5)) ++ R):=fun r hr=>h3 r (yk _ hr);have h4:∀r∈S0 ++ R,InR r ((Jda q.arr :: (S2 ++ R5)) ++ R):=fun r hr=>(hS0 r hr).mono h35;apply qay∘Z5e∘Xb0;refine Kv (M:=L) (U:=(Jda q.arr :: (S2 ++ R5)) ++ R) zgd ?hp ?hL ?hR;case hp=>
  have e1:Yqa g p by_.l t=(Ji g (feedR g p by_.l t) t,0):=by rw [Yqa,if_neg hl]
  exact ⟨(⟨s,t,ph.arr,(Vb (h.l ++ by_.l) x.dropped).dropped,(⟨pm.o,ml⟩:OwL XMeas).arr,w2,c2,f2,(Ji g (feedR g p by_.l t) t).rest,q.arr⟩:XSta),Jda q.arr :: (S2 ++ R5),by rw [e1],by rw [e1];exact hS,⟨hK.site.mono h4,(hphR.mono hR45).mono h35,hmR5.mono h35,hw2.mono h3,hc2.mono h3,hf2.mono h3,Ja (.head _)⟩,rfl,rfl⟩
 case hL=>exact zg
 case hR=>
  exact fun r hr=>by
   rcases List.mem_append.1 hr with h | h;·exact Ja h
   ·exact (hS0 r (yk _ h)).mono fun r hr=>Ja (.tail _ (yk _ hr))
end Go.Proofs.YtchfclmokpbldaaGreat
