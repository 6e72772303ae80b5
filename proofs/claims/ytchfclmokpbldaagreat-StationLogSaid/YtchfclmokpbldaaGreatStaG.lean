/-
  Texts of one chapter, merged. By an AI agent; no person has read it.
-/
import Derived.Test.YtchfclmokpbldaaGreatStaE
set_option linter.unusedVariables false
set_option linter.unusedSimpArgs false
set_option maxRecDepth 20000
namespace Go.Proofs.YtchfclmokpbldaaGreat
open Go.Aw Go
section
attribute [local irreducible] CJ LJ DJ Tri YV Gives Ui J0 Ke Uh RV J2 OwL.L
section
variable {A9 B9:Prop}
theorem Kue (a:A9) (h:A9→B9:=by exact Jx zjb rfl):B9:=h a
end
theorem Zlc:∀(n:Nat) {l:List Int} (d:Int),l.length=n→BytesOk l→∀f∈(Uz l d).out,BytesOk f.data:=by
  intro n
  induction n using Nat.strongRecOn with
  | ind n ih=>
    intro l d hn hb f hf
    rcases Classical.em (l=[]) with h | h
    · subst h;rw [Jhb] at hf;cases hf
    · have hpos := List.length_pos_iff.2 h
      have hbt:BytesOk l.tail:=fun x hx=>hb x (List.mem_of_mem_tail hx)
      have hskip:=ih l.tail.length (by rw [List.length_tail];omega) (d + 1) rfl hbt
      rcases Classical.em (Jja l) with h1 | h1
      · rw [Z1 h (.inl h1)] at hf;exact hskip f hf
      · rcases Classical.em (U5 l) with h2 | h2
        · rw [Yna h h1 h2] at hf;cases hf
        · rcases Classical.em (Jtb (K9b l) = Ypb l) with h3 | h3
          · rw [Yga h h1 h2 h3] at hf
            rcases List.mem_cons.1 hf with hf | hf
            · rw [hf]
              intro x hx
              have hx:x∈(l.take (4 + lenT l)).drop 4:=hx
              exact hb x (List.mem_of_mem_take (List.mem_of_mem_drop hx))
            · exact ih (l.drop (lenT l + 6)).length (by rw [List.length_drop];omega) d rfl (fun x hx=>hb x (List.mem_of_mem_drop hx)) f hf
          · rw [Z1 h (.inr ⟨h2,h3⟩)] at hf;exact hskip f hf
theorem K6c:∀(n:Nat) {l:List Int} (d:Int),l.length=n→(Uz l d).out.length≤n:=by
  intro n
  induction n using Nat.strongRecOn with
  | ind n ih=>
    intro l d hn
    rcases Classical.em (l=[]) with h | h
    · subst h;rw [Jhb];exact Nat.zero_le _
    · have hpos := List.length_pos_iff.2 h
      have hskip:=ih l.tail.length (by rw [List.length_tail];omega) (d + 1) rfl
      rw [List.length_tail] at hskip
      rcases Classical.em (Jja l) with h1 | h1
      · rw [Z1 h (.inl h1)];omega
      · rcases Classical.em (U5 l) with h2 | h2
        · rw [Yna h h1 h2];exact Nat.zero_le _
        · rcases Classical.em (Jtb (K9b l) = Ypb l) with h3 | h3
          · rw [Yga h h1 h2 h3]
            have:=ih (l.drop (lenT l + 6)).length (by rw [List.length_drop];omega) d rfl
            rw [List.length_drop] at this
            show (_ :: _).length≤n
            rw [List.length_cons];omega
          · rw [Z1 h (.inr ⟨h2,h3⟩)];omega
theorem V9d {S:List XSens} {t:Int} {m:List XMeas} {l:List XTele} {k:Nat} {x:XTele} (h:l[k]?=some x):(l.take (k + 1)).foldl (Jub S t) m=Jub S t ((l.take k).foldl (Jub S t) m) x:=by
  rw [List.take_add_one,h,List.foldl_append];rfl
def staZ:XSta:=⟨⟨⟨⟨⟨none,0,[]⟩,⟨none,0,[]⟩⟩,⟨none,0,[]⟩,⟨none,0,[]⟩⟩,⟨none,0,[]⟩,⟨none,0,[]⟩,⟨none,0,[]⟩,⟨none,0,[]⟩⟩,0,⟨none,0,[]⟩,0,⟨none,0,[]⟩,⟨none,0,[]⟩,⟨none,0,[]⟩,⟨⟨none,0,[]⟩,⟨none,0,[]⟩,0⟩,⟨0,0,0,0,0⟩,⟨none,0,[]⟩⟩
theorem Yhc {S:List XSens} {f:XTele} {t:Int} (h:U7 S f t=0):0≤Jna S f.address∧(Jna S f.address).toNat < S.length:=by
  rw [U7] at h
  split at h
  · cases h
  split at h
  · cases h
  rename_i h2
  have:=Uod (S:=S) (ad:=f.address) za
  exact ⟨this.2,this.1⟩
set_option maxHeartbeats 1000000 in
theorem Jmd (g:PSite) (p:PSta) (x:XSta) (by_:Arr Int) (t:Int) (L:List Blk) (R:List Sl) (hI:Inv g p) (hx:StaIs g p x) (hR:StaR x R) (hbR:InR (bsl by_) R) (hbB:BytesOk by_.l) (hbn:by_.l.length≤100000) (hdr:0≤p.dropped∧p.dropped≤1152921504606846976):
    Tri Tryz.prog 18 [x.val,by_.val,.int .i64 t].toArray L R (Uva g (K8b g p by_.l t) L R):=by
  have hxd:x.dropped=p.dropped:=hx.dropped
  refine Jg 65 Tryz.call18 Tryz.func18 rfl rfl rfl ?_
  refine Xag ?_
  intro b3
  refine qaq ?_
  intro b6
  refine Xaf ?_
  refine Kue ?_
  refine Js rfl zTb rfl ?_
  rintro v L' R' ⟨s,h,w,c,f,pm,pl,S0,rfl,hK,rfl,rfl⟩
  refine qaq ?_
  intro b8
  refine Xa9 ?_
  refine Kue ?_
  refine qaa ?_
  refine q_l rfl (Jaa x t _ _) ?_
  refine qaf ?_
  refine q_c (fun hc0=>?_) (fun hc0=>?_)
  ·
   refine Jn ?_
   refine Kd (T:=93) (f:=XMeas.cells) (wd:=4) pm [] zj (fun _=>rfl) zc hK.km (fun s hs=>by cases hs) ?_
   refine Uv zp ?_
   refine Kd (T:=150) (f:=XEntry.cells) (wd:=4) pl [] zj (fun _=>rfl) zc hK.kl (fun s hs=>by cases hs) ?_
   refine Uv zp ?_
   refine qay ?_
   refine Kue ?_
   refine Xaz ?_
   refine q_r (L':=L) (R':=((Yw pl.arr :: Vn pm.arr :: S0) ++ R)) zLc ?_
   have hl:Jia p t:=(Joa hx).1 zC
   exact ⟨(⟨s,x.time,h,x.dropped,pm.arr,w,c,f,x.rest,pl.arr⟩:XSta),Yw pl.arr :: Vn pm.arr :: S0,by rw [K8b,if_pos hl],by rw [K8b,if_pos hl];exact hK.is hx,hK.fin (fun r hr=>Ja (.tail _ (.tail _ hr))) zMb zpb,rfl,rfl⟩
  have hl:¬ Jia p t:=fun h=>absurd ((Joa hx).2 h) zC
  have ht:=K9 hl
  have hIs:=hK.is hx
  have hhl:h.l=p.held:=hIs.held
  have hheld:=hI.held
  have hsl:s.sensors.l=g.site.sensors.l:=SiteE.sens hIs.site
  have hsn:=hI.sok.len
  have hBB:BytesOk (h.l ++ by_.l):=fun y hy=>by
    rcases List.mem_append.1 hy with hy | hy
    · exact hheld.1 y (by rw [← hhl];exact hy)
    · exact hbB y hy
  have hpmn:pm.l.length=g.site.sensors.l.length:=by rw [show pm.l=p.meas from hIs.meas];exact hI.meas
  refine qbv ?_
  refine Xdp ?_
  refine qbm ?_
  refine Js rfl (Zjc h by_ x.dropped _ _ hK.held (hbR.mono fun r hr=>Ja (List.mem_append_right _ hr)) hBB za (by rw [hhl];omega)) rfl ?_
  rintro v L' R' ⟨ph,out,rfl,⟨hphk,houtk⟩,hphl,houtl,hdata,rfl,hRt⟩
  have hfe:Uz (h.l ++ by_.l) x.dropped=Uz (p.held ++ by_.l) p.dropped:=by rw [hhl,hxd]
  have houtn:out.l.length≤200000:=by
    have h1:=K6c _ (l:=h.l ++ by_.l) x.dropped rfl
    rw [← houtl,List.length_map,List.length_append,hhl] at h1
    omega
  have hbytes:=Zlc _ (l:=h.l ++ by_.l) x.dropped rfl hBB
  rw [← houtl] at hbytes
  refine Jx zDb rfl ?_
  refine Xcx ?_
  intro b9
  refine qak ?_
  refine qc4 ?_
  refine qam ?_
  refine qbe ?_
  refine qab ?_
  refine Kca tb rfl rfl rfl rfl zA zb zb zb ?_
  refine qco ?_
  refine Kd (T:=118) (f:=XFrame.cells) (wd:=3) out (out.l.map XFrame.sub) zj (fun _=>rfl) zc houtk (fun s hs=>by
    obtain ⟨y,hy,rfl⟩:=List.mem_map.1 hs
    exact hdata y hy) ?_
  refine Uv zp ?_
  refine Kd (T:=5) (f:=Zw) (wd:=1) ph [] zj (fun _=>rfl) zc hphk (fun s hs=>by cases hs) ?_
  refine Uv zp ?_
  obtain ⟨R4,hR4e⟩:∃R4,R4=bsl ph.arr :: Yff out.arr :: R':=⟨_,rfl⟩
  have hR4:∀r∈S0 ++ R,InR r R4:=fun r hr=>(hRt r hr).mono fun r hr=>Ja (by rw [hR4e];exact .tail _ (.tail _ hr))
  have hphR:InR (bsl ph.arr) R4:=Ja (by rw [hR4e];exact .head _)
  have houtR:InR (Yff out.arr) R4:=Ja (by rw [hR4e];exact .tail _ (.head _))
  have hdata4:∀y∈out.l,InR (bsl y.data) R4:=fun y hy=>(hdata y hy).mono fun r hr=>Ja (by rw [hR4e];exact .tail _ (.tail _ hr))
  have hsR4:=hK.site.sensors.mono hR4
  refine Ymb (show _=R4 by rw [hR4e]) ?_
  refine Yld houtR fun houtc=>?_
  refine U2 (L':=⟨b8,(⟨s,x.time,ph.arr,(Uz (h.l ++ by_.l) x.dropped).dropped,pm.arr,w,c,f,x.rest,pl.arr⟩:XSta).cells,54⟩ :: (pl.L 150 XEntry.cells ++ (pm.L 93 XMeas.cells ++ (⟨b6,staZ.cells,54⟩ :: ⟨b3,x.cells,54⟩ :: L)))) zi zqb ?_
  refine qay ?_
  refine Xbt ?_
  refine Jo [(2,Value.int _ _),(6,Value.pointer _),(8,Value.pointer _),(30,Value.slice _ _ _),(31,Value.int _ _),(32,Value.int _ _)] zg fun tq0=>?_
  refine q_p [12,13,14,32,33,34,35,36,37,38,39,40,41,42,43,44,45,46,47,48,49,50,51,52,53,54,55,56,57,58,59,60,61] ((⟨fun g=>[(32,.int .i64 ((g.1.1:Nat):Int))],fun g=>⟨b8,(⟨s,x.time,ph.arr,(Uz (h.l ++ by_.l) x.dropped).dropped,pm.arr,w,c,f,x.rest,pl.arr⟩:XSta).cells,54⟩ :: (pl.L 150 XEntry.cells ++ ((⟨pm.o,g.1.2⟩:OwL XMeas).L 93 XMeas.cells ++ (⟨b6,staZ.cells,54⟩ :: ⟨b3,x.cells,54⟩ :: L))),fun _=>R4,fun g=>out.l.length - g.1.1⟩:Head {q:Nat×List XMeas // q.1≤out.l.length∧q.2=((out.l.map XFrame.tele).take q.1).foldl (Jub g.site.sensors.l t) p.meas})) (⟨(0,pm.l),by dsimp only;omega,hIs.meas⟩) ?_
  rintro ⟨⟨k,ml⟩,hk,hml⟩ junk
  try dsimp only
  dsimp only at hk hml
  have hmn:ml.length=pm.l.length:=by rw [hml,(J8c (S:=g.site.sensors.l) (t:=t) _ hI.mok).2,show pm.l=p.meas from hIs.meas]
  have hmk:(⟨pm.o,ml⟩:OwL XMeas).ok 4 XMeas.cells:=OwL.len_ok (fun _=>rfl) hK.km hmn
  refine Xak ?_
  refine q_c (fun hc1=>?_) (fun hc1=>?_)
  ·
   have hg:=Jw (l:=out.l) (k:=k) default za
   obtain ⟨fr,hfr⟩:∃fr,fr=out.l.getD k default:=⟨_,rfl⟩
   rw [← hfr] at hg
   have hfm:=List.mem_of_getElem? hg
   have hgt:(out.l.map XFrame.tele)[k]?=some fr.tele:=by rw [List.getElem?_map,hg];rfl
   have hnx:=V9d (S:=g.site.sensors.l) (t:=t) (m:=p.meas) hgt
   rw [← hml] at hnx
   have hfb:BytesOk fr.data.l:=hbytes fr.tele (List.mem_of_getElem? hgt)
   refine qbb ?_
   refine Jx zB rfl ?_
   refine qdk ?_
   refine qaq ?_
   intro b12
   refine Xa0 ?_
   refine qab ?_
   refine Xaa ?_
   refine Jx zkb rfl ?_
   refine qaa ?_
   refine Js rfl (Ylb s.sensors fr t _ _ hsR4 (hdata4 fr hfm) hfb (by rw [hsl];omega)) rfl ?_
   rintro v L' R' ⟨m,rfl,hm,rfl,rfl⟩
   refine Jx zDb rfl ?_
   refine Xcx ?_
   intro b13
   refine qak ?_
   refine Xat ?_
   refine qbn ?_
   refine qah ?_
   apply Ur (G:=[_,_,_,_,_,_]) (j:=2) (cj:=47) rfl rfl zb rfl zdb rfl
   ·
    intro hg3
    replace hg3:=qb hg3
    refine Xaa ?_
    refine Xac ?_
    exact zyd
   intro junk3
   refine qaf ?_
   refine q_c (fun hc2=>?_) (fun hc2=>?_)
   ·
    have hdE:U7 g.site.sensors.l fr.tele t=0:=by rw [← hsl];exact hc2.1
    have hmD:=hm hc2.1
    rw [hsl] at hmD
    have hms:m.sensor=Jna g.site.sensors.l fr.tele.address:=by rw [hmD];rfl
    have hda:=Yhc hdE
    have hmg:=Jw (l:=ml) (k:=m.sensor.toNat) default (by rw [hms];omega)
    have hms0:0≤m.sensor:=by omega
    refine qay ?_
    refine Xbe ?_
    refine qa8 ?_
    refine Jx (Ju tb ((⟨pm.o,ml⟩:OwL XMeas)) _ rfl rfl ((show _=Value.slice _ _ _ from rfl).trans (by simp only [OwL.val,hmn])) rfl zh (i:=m.sensor.toNat) zk zu) rfl ?_
    refine Ye (Um tb ((⟨pm.o,ml⟩:OwL XMeas)) (m) rfl rfl rfl rfl zj zh (fun _=>rfl) zh (Nat.le_of_ble_eq_true rfl) zb zb) ?_
    rintro v L' R' ⟨rfl,rfl⟩
    refine Xa8 ?_
    exact q_k ⟨(k + 1,ml.set m.sensor.toNat m),by dsimp only;omega,by dsimp only;rw [hnx,Jub,if_pos hdE,← hmD,hms]⟩
   refine Xax ?_
   exact Kf ⟨(k + 1,ml),by dsimp only;omega,by
   dsimp only
   rw [hnx,Jub,if_neg]
   intro hdE
   have hdE2:U7 s.sensors.l fr.tele t=0:=by rw [hsl];exact hdE
   have hda:=Yhc hdE
   have hms:m.sensor=Jna g.site.sensors.l fr.tele.address:=by rw [hm hdE2,hsl];rfl
   rcases hc2 with h9 | h9
   · exact h9 hdE2
   · exact h9 (by rw [hms];omega)⟩ zm zg zi zqb zx
  obtain rfl:k=out.l.length:=by omega
  have hall:(out.l.map XFrame.tele).take out.l.length=(Uz (p.held ++ by_.l) p.dropped).out:=by rw [← hfe,← houtl,List.take_of_length_le (by rw [List.length_map];exact Nat.le_refl _)]
  rw [hall] at hml
  have hI1:=hI.feedR hbB t
  have hcv:(⟨pm.o,ml⟩:OwL XMeas).arr.val=pm.arr.val:=by simp only [OwL.arr,Arr.val,hmn]
  refine Kd (T:=93) (f:=XMeas.cells) (wd:=4) (⟨pm.o,ml⟩:OwL XMeas) [] zj (fun _=>rfl) zc hmk (fun s hs=>by cases hs) ?_
  refine Uv zp ?_
  refine Uv (L':=⟨b8,(⟨s,x.time,ph.arr,(Uz (h.l ++ by_.l) x.dropped).dropped,(⟨pm.o,ml⟩:OwL XMeas).arr,w,c,f,x.rest,pl.arr⟩:XSta).cells,54⟩ :: (pl.L 150 XEntry.cells ++ (⟨b6,staZ.cells,54⟩ :: ⟨b3,x.cells,54⟩ :: L))) (by simp only [XSta.cells,hcv]) ?_
  have hX1:StaIs g (feedR g p by_.l t) (⟨s,x.time,ph.arr,(Uz (h.l ++ by_.l) x.dropped).dropped,(⟨pm.o,ml⟩:OwL XMeas).arr,w,c,f,x.rest,pl.arr⟩:XSta):={ hIs with held:=by show ph.l=_;rw [hphl,hfe];rfl,dropped:=by show (Uz (h.l ++ by_.l) x.dropped).dropped=_;rw [hfe];rfl,meas:=hml }
  obtain ⟨R5,hR5e⟩:∃R5,R5=Vn (⟨pm.o,ml⟩:OwL XMeas).arr :: R4:=⟨_,rfl⟩
  have hmR5:InR (Vn (⟨pm.o,ml⟩:OwL XMeas).arr) R5:=Ja (by rw [hR5e];exact .head _)
  have hR45:∀r∈R4,InR r R5:=fun r hr=>Ja (by rw [hR5e];exact .tail _ hr)
  have hS0:∀r∈S0 ++ R,InR r R5:=fun r hr=>(hR4 r hr).mono hR45
  refine Ymb (show _=R5 by rw [hR5e]) ?_
  refine Xdi ?_
  refine Js rfl (J4a g (feedR g p by_.l t) (⟨s,x.time,ph.arr,(Uz (h.l ++ by_.l) x.dropped).dropped,(⟨pm.o,ml⟩:OwL XMeas).arr,w,c,f,x.rest,pl.arr⟩:XSta) pl b8 t _ _ hI1 hX1 (hK.site.mono hS0) hmR5 (hK.watches.mono hS0) (hK.cuts.mono hS0) (hK.feeder.mono hS0) hK.kl ht) rfl ?_
  rintro v L' R' ⟨w2,c2,f2,q,S2,hqk,hS,⟨hw2,hc2,hf2⟩,rfl,rfl⟩
  refine qa4 ?_
  refine Kd (T:=150) (f:=XEntry.cells) (wd:=4) q [] zj (fun _=>rfl) zc hqk (fun s hs=>by cases hs) ?_
  refine Uv zp ?_
  have h3:∀r∈S2 ++ R5,InR r ((Yw q.arr :: (S2 ++ R5)) ++ R):=fun r hr=>Ja (.tail _ (List.mem_append_left _ hr))
  have h35:∀r∈R5,InR r ((Yw q.arr :: (S2 ++ R5)) ++ R):=fun r hr=>h3 r (List.mem_append_right _ hr)
  have h4:∀r∈S0 ++ R,InR r ((Yw q.arr :: (S2 ++ R5)) ++ R):=fun r hr=>(hS0 r hr).mono h35
  refine qay ?_
  refine Kue ?_
  refine Xbl ?_
  refine Ks (L':=L) (R':=(Yw q.arr :: (S2 ++ R5)) ++ R) zLc ?hp ?hL ?hR
  case hp=>
   have e1:K8b g p by_.l t=(Jd g (feedR g p by_.l t) t,0):=by rw [K8b,if_neg hl]
   exact ⟨(⟨s,t,ph.arr,(Uz (h.l ++ by_.l) x.dropped).dropped,(⟨pm.o,ml⟩:OwL XMeas).arr,w2,c2,f2,(Jd g (feedR g p by_.l t) t).rest,q.arr⟩:XSta),Yw q.arr :: (S2 ++ R5),by rw [e1],by rw [e1];exact hS,⟨hK.site.mono h4,(hphR.mono hR45).mono h35,hmR5.mono h35,hw2.mono h3,hc2.mono h3,hf2.mono h3,Ja (.head _)⟩,rfl,rfl⟩
  case hL=>exact zi
  case hR=>
   exact fun r hr=>by
     rcases List.mem_append.1 hr with h | h
     · exact Ja h
     · exact (hS0 r (List.mem_append_right _ h)).mono fun r hr=>Ja (.tail _ (List.mem_append_right _ hr))
end
section
attribute [local irreducible] CJ LJ DJ Tri YV Gives Ui J0 Ke Uh RV J2 OwL.L
section
variable {A9 B9:Prop}
theorem Y1d (a:A9) (h:A9→B9:=by exact Jx zjb rfl):B9:=h a
theorem Kkf (a:A9) (h:A9→B9:=by exact Kd (T:=93) (f:=XMeas.cells) (wd:=4) pm [] zj (fun _=>rfl) zc hK.km (fun s hs=>by cases hs)):B9:=h a
theorem Kxf (a:A9) (h:A9→B9:=by exact Kd (T:=150) (f:=XEntry.cells) (wd:=4) q2 [] zj (fun _=>rfl) zc hq2k (fun s hs=>by cases hs)):B9:=h a
theorem Ucf (a:A9) (h:A9→B9:=by exact Zva rfl rfl rfl rfl zA zb zb zb zi):B9:=h a
end
structure FeedEq (f f':XFeeder):Prop where
  sw:f.switches.l=f'.switches.l
  zn:f.zones.l=f'.zones.l
  rp:f.reply=f'.reply
section
variable {s s':XSite} {f f':XFeeder} (h:SiteE s s') (k:FeedEq f f') (c:List XCut) (fl:List XSpan) (r:XRest) (t:Int)
include k in
theorem Zpb (z:Int):atR f z=atR f' z:=by rw [atR,atR,k.sw,k.zn,k.rp]
include h k
theorem K8e:Z5 s c fl r f t=Z5 s' c fl r f' t:=by
  simp only [Z5,SiteE.sharedE h,SiteE.readyE h,SiteE.nzones h,k.sw,k.zn,k.rp,Zpb k]
theorem Yba:Vg s c fl r f t=Vg s' c fl r f' t:=by
  simp only [Vg,K8e h k,k.sw,k.zn,k.rp,Zpb k]
theorem Vkd:Yf s c fl r f t=Yf s' c fl r f' t:=by
  simp only [Yf,Yba h k,J0e,k.zn,Zpb k]
theorem Vcd:Vw s c fl r f t=Vw s' c fl r f' t:=by
  simp only [Vw,Yba h k,J0e,k.zn,Zpb k]
theorem Zvc:Vj s c fl r f t=Vj s' c fl r f' t:=by
  simp only [Vj,Yba h k,k.sw,Zpb k]
end
set_option maxHeartbeats 1000000 in
theorem Vdc (g:PSite) (p:PSta) (x:XSta) (t:Int) (L:List Blk) (R:List Sl) (hI:Inv g p) (hx:StaIs g p x) (hR:StaR x R):
    Tri Tryz.prog 23 [x.val,.int .i64 t].toArray L R (Uva g (Kma g p t) L R):=by
  refine Jg 67 Tryz.call23 Tryz.func23 rfl rfl rfl ?_
  refine Xag ?_
  intro b2
  refine qaq ?_
  intro b4
  refine Xaf ?_
  refine Y1d ?_
  refine Js rfl zTb rfl ?_
  rintro v L' R' ⟨s,h,w,c,f,pm,pl,S0,rfl,hK,rfl,rfl⟩
  refine qaq ?_
  intro b6
  refine Xa9 ?_
  refine Y1d ?_
  refine qaa ?_
  refine q_l rfl (Jaa x t _ _) ?_
  refine qaf ?_
  refine q_c (fun hc0=>?_) (fun hc0=>?_)
  ·
   refine Jn ?_
   refine Kkf ?_
   refine Uv zp ?_
   refine Kd (T:=150) (f:=XEntry.cells) (wd:=4) pl [] zj (fun _=>rfl) zc hK.kl (fun s hs=>by cases hs) ?_
   refine Uv zp ?_
   refine qay ?_
   refine Y1d ?_
   refine Xaz ?_
   refine q_r (L':=L) (R':=((Yw pl.arr :: Vn pm.arr :: S0) ++ R)) zLc ?_
   have hl:Jia p t:=(Joa hx).1 zC
   exact ⟨(⟨s,x.time,h,x.dropped,pm.arr,w,c,f,x.rest,pl.arr⟩:XSta),Yw pl.arr :: Vn pm.arr :: S0,by rw [Kma,if_pos hl],by rw [Kma,if_pos hl];exact hK.is hx,hK.fin (fun r hr=>Ja (.tail _ (.tail _ hr))) zMb zpb,rfl,rfl⟩
  have hl:¬ Jia p t:=fun h=>absurd ((Joa hx).2 h) zC
  have ht:=K9 hl
  have hIs:=hK.is hx
  have hS0:∀r∈S0 ++ R,InR r (Vn pm.arr :: (S0 ++ R)):=fun r hr=>Ja (.tail _ hr)
  refine Kkf ?_
  refine Uv zp ?_
  refine qbv ?_
  refine qaa ?_
  refine Js rfl zCc rfl ?_
  rintro v L' R' ⟨w2,c2,f2,q,S2,hqk,hS,⟨hw2,hc2,hf2⟩,rfl,rfl⟩
  refine qa4 ?_
  have hI2:=hI.settle ht.1 ht.2
  have h5:∀r∈Vn pm.arr :: (S0 ++ R),InR r (S2 ++ (Vn pm.arr :: (S0 ++ R))):=fun r hr=>Ja (List.mem_append_right _ hr)
  have h6:∀r∈S0 ++ R,InR r (S2 ++ (Vn pm.arr :: (S0 ++ R))):=fun r hr=>(hS0 r hr).mono h5
  have hv2:StaV (⟨s,t,h,x.dropped,pm.arr,w2,c2,f2,(Jd g p t).rest,q.arr⟩:XSta) (S2 ++ (Vn pm.arr :: (S0 ++ R))):=StaV.of hI2 hS (hK.site.mono h6) (h5 _ (.head _))
  have hA2:AiryIs s.air.mine g.air:=SiteE.airy hS.site hI2.airy
  have hce:c2.l=(Jd g p t).cuts:=hS.cuts
  have hfq:FeedEq f2 (mkF g (Jd g p t)):=⟨hS.sw,hS.zn,hS.rp⟩
  have hsz:=hI2.sok.len
  have hfo:=hI2.fok
  have hn1:c2.l.length≤1000:=by rw [hce,hI2.clen];omega
  have hn2:f2.switches.l.length≤1000:=by rw [hfq.sw];exact Nat.le_trans hfo.sn zc
  have hn3:f2.zones.l.length≤1000:=by rw [hfq.zn];exact Nat.le_trans hfo.zl zc
  refine qay ?_
  refine qab ?_
  refine Xaa ?_
  refine Xb3 ?_
  refine Kn tb [0,1,2,3,4,6,7,8,9,10,5,11,12,13,14,15,16,17,18,19,20,21,22] _ K1 ze (List.Sublist.refl _) ?_
  refine qal ?_
  refine Kv zmb rfl rfl rfl ?_
  refine Xan ?_
  refine Kv zjb rfl rfl rfl ?_
  refine qal ?_
  refine Kv zob rfl rfl rfl ?_
  refine qal ?_
  refine Kv zkb rfl rfl rfl ?_
  refine qao ?_
  refine Yt rfl zac rfl rfl ?_
  rintro v L' R' ⟨fl,rfl,hfl,rfl,rfl⟩
  refine ⟨zi,zw,?_⟩
  refine Yt rfl (Z7d s c2 fl (Jd g p t).rest f2 t _ _ ⟨(hK.site.mono h6).mono fun r hr=>Ja (.tail _ hr),hc2.mono fun r hr=>Ja (.tail _ hr),Ja (.head _)⟩ (hf2.mono fun r hr=>Ja (.tail _ hr)) ⟨hn1,hn2,hn3⟩) rfl rfl ?_
  rintro v L' R' ⟨rq,pc,psw,pz,rp,rfl,⟨hpck,hpswk,hpzk⟩,hCI,rfl,hRC⟩
  refine ⟨zi,zw,?_⟩
  refine Kv zDb rfl rfl rfl ?_
  iterate 4 refine Kv zNb rfl rfl rfl ?_
  refine qbr ?_
  intro b8
  refine qbr ?_
  intro b10
  refine qbg ?_
  refine Kv (Ud zfb) rfl rfl rfl ?_
  refine Xdg ?_
  refine J1 (Jb (Jn (Jn ?_)))
  have hfe:fl.l=flP g (Jd g p t):=hfl.trans (StaIs.flows hS)
  have hcE:Vg s c2.l fl.l (Jd g p t).rest f2 t=Vg g.site (Jd g p t).cuts (flP g (Jd g p t)) (Jd g p t).rest (mkF g (Jd g p t)) t:=by rw [Yba hS.site hfq,hce,hfe]
  have hcR:rq=Yf g.site (Jd g p t).cuts (flP g (Jd g p t)) (Jd g p t).rest (mkF g (Jd g p t)) t:=by rw [hCI.rest,Vkd hS.site hfq,hce,hfe]
  have hcC:pc.l=Vw g.site (Jd g p t).cuts (flP g (Jd g p t)) (Jd g p t).rest (mkF g (Jd g p t)) t:=by rw [hCI.cuts,Vcd hS.site hfq,hce,hfe]
  have hcS:psw.l=Vj g.site (Jd g p t).cuts (flP g (Jd g p t)) (Jd g p t).rest (mkF g (Jd g p t)) t:=by rw [hCI.sw,Zvc hS.site hfq,hce,hfe]
  have hcZ:pz.l=g.zn:=hCI.zn.trans hfq.zn
  have hcP:rp=g.rp:=hCI.rp.trans hfq.rp
  rw [hcE]
  obtain ⟨e,he⟩:∃e,e=Vg g.site (Jd g p t).cuts (flP g (Jd g p t)) (Jd g p t).rest (mkF g (Jd g p t)) t:=⟨_,rfl⟩
  rw [← he] at hcE ⊢
  have hqln:q.l.length≤400:=by have:=hI2.log;rw [← hS.log] at this;exact this
  refine Kd (T:=3) (f:=Jp) (wd:=1) pz [] zj (fun _=>rfl) zc hpzk (fun s hs=>by cases hs) ?_
  refine Uv zp ?_
  refine Kd (T:=76) (f:=XSwitch.cells) (wd:=5) psw [] zj (fun _=>rfl) zc hpswk (fun s hs=>by cases hs) ?_
  refine Uv zp ?_
  refine Kd (T:=71) (f:=XCut.cells) (wd:=3) pc [] zj (fun _=>rfl) zc hpck (fun s hs=>by cases hs) ?_
  refine Uv zp ?_
  obtain ⟨R3,hR3e⟩:∃R3,R3=Kwc pc.arr :: Vhb psw.arr :: isl pz.arr :: R':=⟨_,rfl⟩
  have hR13:∀r∈(S2 ++ (Vn pm.arr :: (S0 ++ R))),InR r R3:=fun r hr=>(hRC r (.tail _ hr)).mono fun r hr=>Ja (by rw [hR3e];exact .tail _ (.tail _ (.tail _ hr)))
  have hpcR:InR (Kwc pc.arr) R3:=Ja (by rw [hR3e];exact .head _)
  have hpfR:FeederR ⟨psw.arr,pz.arr,rp⟩ R3:=⟨Ja (by rw [hR3e];exact .tail _ (.head _)),Ja (by rw [hR3e];exact .tail _ (.tail _ (.head _)))⟩
  have hR03:∀r∈S0 ++ R,InR r R3:=fun r hr=>(h6 r hr).mono hR13
  refine Ymb (show _=R3 by rw [hR3e]) ?_
  refine Xa3 ?_
  refine Xaq ?_
  refine q_c (fun hc1=>?_) (fun hc1=>?_)
  ·
   refine Jn ?_
   refine U2 (L':=⟨b6,(⟨s,t,h,x.dropped,pm.arr,w2,c2,f2,(Jd g p t).rest,q.arr⟩:XSta).cells,54⟩ :: (q.L 150 XEntry.cells ++ _)) zi zqb ?_
   refine Xa3 ?_
   refine qaa ?_
   refine Js rfl (Jda (⟨s,t,h,x.dropped,pm.arr,w2,c2,f2,(Jd g p t).rest,q.arr⟩:XSta) q b6 7 (Jd g p t).rest.zone e _ _ hqk hqln) rfl ?_
   rintro v L' R' ⟨q2,hq2k,hq2l,rfl,rfl⟩
   refine qa4 ?_
   refine Kxf ?_
   refine Uv zp ?_
   have h3:∀r∈(S2 ++ (Vn pm.arr :: (S0 ++ R))),InR r ((Yw q2.arr :: R3) ++ R):=fun r hr=>(hR13 r hr).mono fun r hr=>Ja (.tail _ (List.mem_append_left _ hr))
   have h4:∀r∈S0 ++ R,InR r ((Yw q2.arr :: R3) ++ R):=fun r hr=>(h6 r hr).mono h3
   refine qay ?_
   refine Y1d ?_
   refine Xby ?_
   refine Ks (L':=L) (R':=(Yw q2.arr :: R3) ++ R) zLc ?hp ?hL ?hR
   case hp=>
    have e1:Kma g p t=(Yi (Jd g p t) 7 (Jd g p t).rest.zone e,e):=by rw [Kma,if_neg hl];dsimp only;rw [← he,if_pos hc1]
    exact ⟨(⟨s,t,h,x.dropped,pm.arr,w2,c2,f2,(Jd g p t).rest,q2.arr⟩:XSta),Yw q2.arr :: R3,by rw [e1],by rw [e1];exact hS.note hq2l,⟨hK.site.mono h4,hK.held.mono h4,(h5 _ (.head _)).mono h3,hw2.mono h3,hc2.mono h3,hf2.mono h3,Ja (.head _)⟩,rfl,rfl⟩
   case hL=>exact zi
   case hR=>
    exact fun r hr=>by
      rcases List.mem_append.1 hr with h | h
      · exact Ja h
      · exact (hR03 r (List.mem_append_right _ h)).mono fun r hr=>Ja (.tail _ hr)
  have he0:e=0:=Decidable.not_not.1 hc1
  have hcan:Z5 s c2.l fl.l (Jd g p t).rest f2 t=0:=by
    have h9:Vg s c2.l fl.l (Jd g p t).rest f2 t=0:=hcE.trans he0
    rw [Vg] at h9
    split at h9
    · omega
    · rename_i h8;exact Decidable.not_not.1 h8
  obtain ⟨hz1,hz2,hz3⟩:=Kid hcan
  refine qbv ?_
  refine Xaa ?_
  refine qab ?_
  refine Jx zkb rfl ?_
  refine qaa ?_
  refine Js rfl (J1d c2 f2 (Jd g p t).rest.zone _ _ (hc2.mono hR13) (hf2.mono hR13) hz3 za hz2) rfl ?_
  rintro v L' R' ⟨rfl,rfl,hRN⟩
  obtain ⟨R4,hR4⟩:∃R4,R4=R':=⟨_,rfl⟩
  rw [← hR4] at hRN ⊢
  refine Jx zDb rfl ?_
  refine Xa4 ?_
  refine Xbn ?_
  refine qa4 ?_
  refine Kj tb [59,60] [0,1,2] [3,4,5,6,7,8] (_) _ K1 ze zi (by (repeat (first | apply List.Sublist.cons (a:=Blk.mk b6 _ _) | apply List.Sublist.cons_cons));exact List.Sublist.refl _) ?_
  refine Kx zob rfl rfl rfl rfl ?_
  refine V8 zKc rfl rfl rfl rfl ?_
  refine V8 zkb rfl rfl rfl rfl ?_
  refine qba ?_
  refine qal ?_
  refine Ucf ?_
  refine Xc0 ?_
  refine qal ?_
  refine Ucf ?_
  refine qb9 ?_
  have hat:atR f2 (Jd g p t).rest.zone=atR (mkF g (Jd g p t)) (Jd g p t).rest.zone:=Zpb hfq _
  refine U2 (L':=⟨b6,(⟨s,t,h,x.dropped,pm.arr,w2,pc.arr,⟨psw.arr,pz.arr,rp⟩,rq,q.arr⟩:XSta).cells,54⟩ :: (q.L 150 XEntry.cells ++ _)) zi zqb ?_
  refine Xa3 ?_
  refine Js rfl (Jda (⟨s,t,h,x.dropped,pm.arr,w2,pc.arr,⟨psw.arr,pz.arr,rp⟩,rq,q.arr⟩:XSta) q b6 6 (atR f2 (Jd g p t).rest.zone) 0 _ _ hqk hqln) rfl ?_
  rintro v L' R' ⟨q2,hq2k,hq2l,rfl,rfl⟩
  refine qa4 ?_
  refine Kxf ?_
  refine Uv zp ?_
  obtain ⟨R5,hR5e⟩:∃R5,R5=Yw q2.arr :: R4:=⟨_,rfl⟩
  refine Ymb (show _=R5 by rw [hR5e]) ?_
  have hq2R:InR (Yw q2.arr) (R5 ++ R):=Ja (by rw [hR5e];exact .head _)
  have h45:∀r∈R4,InR r (R5 ++ R):=fun r hr=>Ja (by rw [hR5e];exact .tail _ (List.mem_append_left _ hr))
  have h35:∀r∈R3,InR r (R5 ++ R):=fun r hr=>(hRN r hr).mono h45
  have h15:∀r∈(S2 ++ (Vn pm.arr :: (S0 ++ R))),InR r (R5 ++ R):=fun r hr=>(hR13 r hr).mono h35
  have h4:∀r∈S0 ++ R,InR r (R5 ++ R):=fun r hr=>(hR03 r hr).mono h35
  have hRR:∀r∈R,InR r R5:=fun r hr=>((hR03 r (List.mem_append_right _ hr)).mono hRN).mono fun r hr=>Ja (by rw [hR5e];exact .tail _ hr)
  refine qay ?_
  refine Y1d ?_
  refine Xbl ?_
  refine Ks (L':=L) (R':=R5 ++ R) zLc ?hp ?hL ?hR
  case hp=>
   have e1:Kma g p t=(Yi { (Jd g p t) with rest:=Yf g.site (Jd g p t).cuts (flP g (Jd g p t)) (Jd g p t).rest (mkF g (Jd g p t)) t,cuts:=Vw g.site (Jd g p t).cuts (flP g (Jd g p t)) (Jd g p t).rest (mkF g (Jd g p t)) t,sw:=Vj g.site (Jd g p t).cuts (flP g (Jd g p t)) (Jd g p t).rest (mkF g (Jd g p t)) t } 6 (atR (mkF g (Jd g p t)) (Jd g p t).rest.zone) 0,0):=by rw [Kma,if_neg hl];dsimp only;rw [← he,if_neg hc1]
   have hS9:StaIs g { (Jd g p t) with rest:=Yf g.site (Jd g p t).cuts (flP g (Jd g p t)) (Jd g p t).rest (mkF g (Jd g p t)) t,cuts:=Vw g.site (Jd g p t).cuts (flP g (Jd g p t)) (Jd g p t).rest (mkF g (Jd g p t)) t,sw:=Vj g.site (Jd g p t).cuts (flP g (Jd g p t)) (Jd g p t).rest (mkF g (Jd g p t)) t } (⟨s,t,h,x.dropped,pm.arr,w2,pc.arr,⟨psw.arr,pz.arr,rp⟩,rq,q.arr⟩:XSta):={ hS with rest:=hcR,cuts:=hcC,sw:=hcS,zn:=hcZ,rp:=hcP }
   rw [hat] at hq2l
   exact ⟨(⟨s,t,h,x.dropped,pm.arr,w2,pc.arr,⟨psw.arr,pz.arr,rp⟩,rq,q2.arr⟩:XSta),R5,by rw [e1],by rw [e1];exact hS9.note hq2l,⟨hK.site.mono h4,hK.held.mono h4,(h5 _ (.head _)).mono h15,hw2.mono h15,hpcR.mono h35,hpfR.mono h35,hq2R⟩,rfl,rfl⟩
  case hL=>exact zi
  case hR=>
   exact fun r hr=>by
     rcases List.mem_append.1 hr with h | h
     · exact Ja h
     · exact hRR r h
end
end Go.Proofs.YtchfclmokpbldaaGreat
