import Derived.Test.YtchfclmokpbldaaGreatStaE
set_option linter.unusedVariables false
set_option linter.unusedSimpArgs false
section
/-
  Stations: bytes that come, closing, when one is due, the program's side. By an AI agent; no person has read it.
-/
namespace Go.Proofs.YtchfclmokpbldaaGreat
open Go.Aw Go
set_option maxRecDepth 20000
attribute [local irreducible] CJ LJ DJ Tri YV Gives Jcj Ja1 Jbg Jci RV Ja2 OwL.L
section
variable {A9 B9:Prop}
theorem J38 (a:A9) (h:A9→B9:=by exact Jax (Jal (row:=[_,_,_,_,_,_,_,_,_,_,_,_,_,_,_,_,_,_,_,_,_,_,_]) tb rfl rfl rfl zf zb zb) rfl):B9:=h a
end
theorem Jwr:∀(n:Nat) {l:List Int} (d:Int),l.length=n→BytesOk l→∀f∈(Jc6 l d).out,BytesOk f.data:=by
  intro n
  induction n using Nat.strongRecOn with
  | ind n ih=>
    intro l d hn hb f hf
    rcases Classical.em (l=[]) with h | h
    · subst h;rw [Jl0] at hf;cases hf
    · have hpos := List.length_pos_iff.2 h
      have hbt:BytesOk l.tail:=fun x hx=>hb x (List.mem_of_mem_tail hx)
      have hskip:=ih l.tail.length (by rw [List.length_tail];omega) (d + 1) rfl hbt
      rcases Classical.em (Jf7 l) with h1 | h1
      · rw [Jft h (.inl h1)] at hf;exact hskip f hf
      · rcases Classical.em (Jc4 l) with h2 | h2
        · rw [Jj7 h h1 h2] at hf;cases hf
        · rcases Classical.em (Jss (Jnl l) = Jqe l) with h3 | h3
          · rw [Jj4 h h1 h2 h3] at hf
            rcases List.mem_cons.1 hf with hf | hf
            · rw [hf]
              intro x hx
              have hx:x∈(l.take (4 + lenT l)).drop 4:=hx
              exact hb x (List.mem_of_mem_take (List.mem_of_mem_drop hx))
            · exact ih (l.drop (lenT l + 6)).length (by rw [List.length_drop];omega) d rfl (fun x hx=>hb x (List.mem_of_mem_drop hx)) f hf
          · rw [Jft h (.inr ⟨h2,h3⟩)] at hf;exact hskip f hf
theorem Juh:∀(n:Nat) {l:List Int} (d:Int),l.length=n→(Jc6 l d).out.length≤n:=by
  intro n
  induction n using Nat.strongRecOn with
  | ind n ih=>
    intro l d hn
    rcases Classical.em (l=[]) with h | h
    · subst h;rw [Jl0];exact Nat.zero_le _
    · have hpos := List.length_pos_iff.2 h
      have hskip:=ih l.tail.length (by rw [List.length_tail];omega) (d + 1) rfl
      rw [List.length_tail] at hskip
      rcases Classical.em (Jf7 l) with h1 | h1
      · rw [Jft h (.inl h1)];omega
      · rcases Classical.em (Jc4 l) with h2 | h2
        · rw [Jj7 h h1 h2];exact Nat.zero_le _
        · rcases Classical.em (Jss (Jnl l) = Jqe l) with h3 | h3
          · rw [Jj4 h h1 h2 h3]
            have:=ih (l.drop (lenT l + 6)).length (by rw [List.length_drop];omega) d rfl
            rw [List.length_drop] at this
            show (_ :: _).length≤n
            rw [List.length_cons];omega
          · rw [Jft h (.inr ⟨h2,h3⟩)];omega
theorem J3n {S:List XSens} {t:Int} {m:List XMeas} {l:List XTele} {k:Nat} {x:XTele} (h:l[k]?=some x):(l.take (k + 1)).foldl (Jmo S t) m=Jmo S t ((l.take k).foldl (Jmo S t) m) x:=by
  rw [List.take_add_one,h,List.foldl_append];rfl
def staZ:XSta:=⟨⟨⟨⟨⟨none,0,[]⟩,⟨none,0,[]⟩⟩,⟨none,0,[]⟩,⟨none,0,[]⟩⟩,⟨none,0,[]⟩,⟨none,0,[]⟩,⟨none,0,[]⟩,⟨none,0,[]⟩⟩,0,⟨none,0,[]⟩,0,⟨none,0,[]⟩,⟨none,0,[]⟩,⟨none,0,[]⟩,⟨⟨none,0,[]⟩,⟨none,0,[]⟩,0⟩,⟨0,0,0,0,0⟩,⟨none,0,[]⟩⟩
theorem Juf {S:List XSens} {f:XTele} {t:Int} (h:Jc7 S f t=0):0≤Jf8 S f.address∧(Jf8 S f.address).toNat < S.length:=by
  rw [Jc7] at h
  split at h
  · cases h
  split at h
  · cases h
  rename_i h2
  have:=J0g (S:=S) (ad:=f.address) za
  exact ⟨this.2,this.1⟩
set_option maxHeartbeats 1000000 in
theorem Jxc (g:PSite) (p:PSta) (x:XSta) (by_:Arr Int) (t:Int) (L:List Blk) (R:List Sl) (hI:Inv g p) (hx:StaIs g p x) (hR:StaR x R) (hbR:InR (bsl by_) R) (hbB:BytesOk by_.l) (hbn:by_.l.length≤100000) (hdr:0≤p.dropped∧p.dropped≤1152921504606846976):
    Tri Tryz.prog 18 [x.val,by_.val,.int .i64 t].toArray L R (Jic g (Ju0 g p by_.l t) L R):=by
  have hxd:x.dropped=p.dropped:=hx.dropped
  refine Jad 65 Tryz.call18 Tryz.func18 rfl rfl rfl ?_
  refine Xaf ?_
  intro b3
  refine qaq ?_
  intro b6
  refine Xag ?_
  refine J38 ?_
  refine Jaw rfl (Jeu x _ _ (.of hI hx) hR) rfl ?_
  rintro v L' R' ⟨s,h,w,c,f,pm,pl,S0,rfl,hK,rfl,rfl⟩
  refine qaq ?_
  intro b8
  refine Xba ?_
  refine J38 ?_
  refine qaa ?_
  refine q_l rfl (Jfp x t _ _) ?_
  refine qaf ?_
  refine q_c (fun hc0=>?_) (fun hc0=>?_)
  ·
   refine Jam ?_
   refine Jbe (T:=93) (f:=XMeas.cells) (wd:=4) pm [] zk (fun _=>rfl) ze hK.km (fun s hs=>by cases hs) ?_
   refine Jcy zp ?_
   refine Jbe (T:=150) (f:=XEntry.cells) (wd:=4) pl [] zk (fun _=>rfl) ze hK.kl (fun s hs=>by cases hs) ?_
   refine Jcy zp ?_
   refine qay ?_
   refine J38 ?_
   refine Xa0 ?_
   refine q_r (L':=L) (R':=((Jey pl.arr :: Jde pm.arr :: S0) ++ R)) (Jcf rfl (Jao (row:=[_,_,_,_,_,_,_,_,_,_,_,_,_,_,_,_,_,_,_,_,_,_,_]) tb rfl rfl rfl zf zb zb) (Jaf (show _=Value.int _ _ from rfl))) ?_
   have hl:Jfl p t:=(Jgg hx).1 zE
   exact ⟨(⟨s,x.time,h,x.dropped,pm.arr,w,c,f,x.rest,pl.arr⟩:XSta),Jey pl.arr :: Jde pm.arr :: S0,by rw [Ju0,if_pos hl],by rw [Ju0,if_pos hl];exact hK.is hx,hK.fin (fun r hr=>Jaa (.tail _ (.tail _ hr))) (Jaa (.tail _ (.head _))) (Jaa (.head _)),rfl,rfl⟩
  have hl:¬ Jfl p t:=fun h=>absurd ((Jgg hx).2 h) zE
  have ht:=Jja hl
  have hIs:=hK.is hx
  have hhl:h.l=p.held:=hIs.held
  have hheld:=hI.held
  have hsl:s.sensors.l=g.site.sensors.l:=SiteE.sens hIs.site
  have hsn:=hI.sok.len
  have hBB:BytesOk (h.l ++ by_.l):=fun y hy=>by
    rcases List.mem_append.1 hy with hy | hy
    · exact hheld.1 y (by rw [← hhl];exact hy)
    · exact hbB y hy
  have hpmn:pm.l.length=g.site.sensors.l.length:=by rw [show pm.l=p.meas from hIs.meas];exact hI.meas
  refine qbv ?_
  refine Xds ?_
  refine qbm ?_
  refine Jaw rfl (Jwh h by_ x.dropped _ _ hK.held (hbR.mono fun r hr=>Jaa (List.mem_append_right _ hr)) hBB za (by rw [hhl];omega)) rfl ?_
  rintro v L' R' ⟨ph,out,rfl,⟨hphk,houtk⟩,hphl,houtl,hdata,rfl,hRt⟩
  have hfe:Jc6 (h.l ++ by_.l) x.dropped=Jc6 (p.held ++ by_.l) p.dropped:=by rw [hhl,hxd]
  have houtn:out.l.length≤200000:=by
    have h1:=Juh _ (l:=h.l ++ by_.l) x.dropped rfl
    rw [← houtl,List.length_map,List.length_append,hhl] at h1
    omega
  have hbytes:=Jwr _ (l:=h.l ++ by_.l) x.dropped rfl hBB
  rw [← houtl] at hbytes
  refine Jax (Jav rfl) rfl ?_
  refine Xcs ?_
  intro b9
  refine qak ?_
  refine qc4 ?_
  refine qam ?_
  refine qbe ?_
  refine qab ?_
  refine Jg4 tb rfl rfl rfl rfl zA zb zb zb ?_
  refine qco ?_
  refine Jbe (T:=118) (f:=XFrame.cells) (wd:=3) out (out.l.map XFrame.sub) zk (fun _=>rfl) ze houtk (fun s hs=>by
    obtain ⟨y,hy,rfl⟩:=List.mem_map.1 hs
    exact hdata y hy) ?_
  refine Jcy zp ?_
  refine Jbe (T:=5) (f:=Jkz) (wd:=1) ph [] zk (fun _=>rfl) ze hphk (fun s hs=>by cases hs) ?_
  refine Jcy zp ?_
  obtain ⟨R4,hR4e⟩:∃R4,R4=bsl ph.arr :: Kdn out.arr :: R':=⟨_,rfl⟩
  have hR4:∀r∈S0 ++ R,InR r R4:=fun r hr=>(hRt r hr).mono fun r hr=>Jaa (by rw [hR4e];exact .tail _ (.tail _ hr))
  have hphR:InR (bsl ph.arr) R4:=Jaa (by rw [hR4e];exact .head _)
  have houtR:InR (Kdn out.arr) R4:=Jaa (by rw [hR4e];exact .tail _ (.head _))
  have hdata4:∀y∈out.l,InR (bsl y.data) R4:=fun y hy=>(hdata y hy).mono fun r hr=>Jaa (by rw [hR4e];exact .tail _ (.tail _ hr))
  have hsR4:=hK.site.sensors.mono hR4
  refine Jsd (show _=R4 by rw [hR4e]) ?_
  refine J68 houtR fun houtc=>?_
  refine Jc3 (L':=⟨b8,(⟨s,x.time,ph.arr,(Jc6 (h.l ++ by_.l) x.dropped).dropped,pm.arr,w,c,f,x.rest,pl.arr⟩:XSta).cells,54⟩ :: (pl.L 150 XEntry.cells ++ (pm.L 93 XMeas.cells ++ (⟨b6,staZ.cells,54⟩ :: ⟨b3,x.cells,54⟩ :: L)))) zi (Jac _) ?_
  refine qay ?_
  refine Xbv ?_
  refine Jan [(2,Value.int _ _),(6,Value.pointer _),(8,Value.pointer _),(30,Value.slice _ _ _),(31,Value.int _ _),(32,Value.int _ _)] zh fun tq0=>?_
  refine q_p [12,13,14,32,33,34,35,36,37,38,39,40,41,42,43,44,45,46,47,48,49,50,51,52,53,54,55,56,57,58,59,60,61] ((⟨fun g=>[(32,.int .i64 ((g.1.1:Nat):Int))],fun g=>⟨b8,(⟨s,x.time,ph.arr,(Jc6 (h.l ++ by_.l) x.dropped).dropped,pm.arr,w,c,f,x.rest,pl.arr⟩:XSta).cells,54⟩ :: (pl.L 150 XEntry.cells ++ ((⟨pm.o,g.1.2⟩:OwL XMeas).L 93 XMeas.cells ++ (⟨b6,staZ.cells,54⟩ :: ⟨b3,x.cells,54⟩ :: L))),fun _=>R4,fun g=>out.l.length - g.1.1⟩:Head {q:Nat×List XMeas // q.1≤out.l.length∧q.2=((out.l.map XFrame.tele).take q.1).foldl (Jmo g.site.sensors.l t) p.meas})) (⟨(0,pm.l),by dsimp only;omega,hIs.meas⟩) ?_
  rintro ⟨⟨k,ml⟩,hk,hml⟩ junk
  try dsimp only
  dsimp only at hk hml
  have hmn:ml.length=pm.l.length:=by rw [hml,(Js3 (S:=g.site.sensors.l) (t:=t) _ hI.mok).2,show pm.l=p.meas from hIs.meas]
  have hmk:(⟨pm.o,ml⟩:OwL XMeas).ok 4 XMeas.cells:=OwL.len_ok (fun _=>rfl) hK.km hmn
  refine Xak ?_
  refine q_c (fun hc1=>?_) (fun hc1=>?_)
  ·
   have hg:=Jau (l:=out.l) (k:=k) default za
   obtain ⟨fr,hfr⟩:∃fr,fr=out.l.getD k default:=⟨_,rfl⟩
   rw [← hfr] at hg
   have hfm:=List.mem_of_getElem? hg
   have hgt:(out.l.map XFrame.tele)[k]?=some fr.tele:=by rw [List.getElem?_map,hg];rfl
   have hnx:=J3n (S:=g.site.sensors.l) (t:=t) (m:=p.meas) hgt
   rw [← hml] at hnx
   have hfb:BytesOk fr.data.l:=hbytes fr.tele (List.mem_of_getElem? hgt)
   refine qbb ?_
   refine Jax zC rfl ?_
   refine qdk ?_
   refine qaq ?_
   intro b12
   refine Xa2 ?_
   refine Xcn ?_
   refine Jax (Jal (row:=[_,_,_]) tb rfl rfl rfl zf zb zb) rfl ?_
   refine qaa ?_
   refine Jaw rfl (Jp5 s.sensors fr t _ _ hsR4 (hdata4 fr hfm) hfb (by rw [hsl];omega)) rfl ?_
   rintro v L' R' ⟨m,rfl,hm,rfl,rfl⟩
   refine Jax (Jav rfl) rfl ?_
   refine Xcs ?_
   intro b13
   refine qak ?_
   refine Xat ?_
   refine Xb7 ?_
   apply Jb7 (G:=[_,_,_,_,_,_]) (j:=2) (cj:=47) rfl rfl zb rfl (show _=Value.bool _ from rfl) rfl
   ·
    intro hg3
    replace hg3:=qb hg3
    refine Xaa ?_
    refine Xab ?_
    refine qaj ?_
    exact qai
   intro junk3
   refine qaf ?_
   refine q_c (fun hc2=>?_) (fun hc2=>?_)
   ·
    have hdE:Jc7 g.site.sensors.l fr.tele t=0:=by rw [← hsl];exact hc2.1
    have hmD:=hm hc2.1
    rw [hsl] at hmD
    have hms:m.sensor=Jf8 g.site.sensors.l fr.tele.address:=by rw [hmD];rfl
    have hda:=Juf hdE
    have hmg:=Jau (l:=ml) (k:=m.sensor.toNat) default (by rw [hms];omega)
    have hms0:0≤m.sensor:=by omega
    refine qay ?_
    refine Xa1 ?_
    refine qa8 ?_
    refine Jax (Jat tb ((⟨pm.o,ml⟩:OwL XMeas)) _ rfl rfl ((show _=Value.slice _ _ _ from rfl).trans (by simp only [OwL.val,hmn])) rfl zg (i:=m.sensor.toNat) zj zu) rfl ?_
    refine Jd9 (Jcn tb ((⟨pm.o,ml⟩:OwL XMeas)) (m) rfl rfl rfl rfl zk zg (fun _=>rfl) zg (Nat.le_of_ble_eq_true rfl) zb zb) ?_
    rintro v L' R' ⟨rfl,rfl⟩
    refine Xbb ?_
    exact q_k ⟨(k + 1,ml.set m.sensor.toNat m),by dsimp only;omega,by dsimp only;rw [hnx,Jmo,if_pos hdE,← hmD,hms]⟩
   refine Xay ?_
   exact Jbl ⟨(k + 1,ml),by dsimp only;omega,by
   dsimp only
   rw [hnx,Jmo,if_neg]
   intro hdE
   have hdE2:Jc7 s.sensors.l fr.tele t=0:=by rw [hsl];exact hdE
   have hda:=Juf hdE
   have hms:m.sensor=Jf8 g.site.sensors.l fr.tele.address:=by rw [hm hdE2,hsl];rfl
   rcases hc2 with h9 | h9
   · exact h9 hdE2
   · exact h9 (by rw [hms];omega)⟩ zm zh zi (Jac _) zy
  obtain rfl:k=out.l.length:=by omega
  have hall:(out.l.map XFrame.tele).take out.l.length=(Jc6 (p.held ++ by_.l) p.dropped).out:=by rw [← hfe,← houtl,List.take_of_length_le (by rw [List.length_map];exact Nat.le_refl _)]
  rw [hall] at hml
  have hI1:=hI.feedR hbB t
  have hcv:(⟨pm.o,ml⟩:OwL XMeas).arr.val=pm.arr.val:=by simp only [OwL.arr,Arr.val,hmn]
  refine Jbe (T:=93) (f:=XMeas.cells) (wd:=4) (⟨pm.o,ml⟩:OwL XMeas) [] zk (fun _=>rfl) ze hmk (fun s hs=>by cases hs) ?_
  refine Jcy zp ?_
  refine Jcy (L':=⟨b8,(⟨s,x.time,ph.arr,(Jc6 (h.l ++ by_.l) x.dropped).dropped,(⟨pm.o,ml⟩:OwL XMeas).arr,w,c,f,x.rest,pl.arr⟩:XSta).cells,54⟩ :: (pl.L 150 XEntry.cells ++ (⟨b6,staZ.cells,54⟩ :: ⟨b3,x.cells,54⟩ :: L))) (by simp only [XSta.cells,hcv]) ?_
  have hX1:StaIs g (feedR g p by_.l t) (⟨s,x.time,ph.arr,(Jc6 (h.l ++ by_.l) x.dropped).dropped,(⟨pm.o,ml⟩:OwL XMeas).arr,w,c,f,x.rest,pl.arr⟩:XSta):={ hIs with held:=by show ph.l=_;rw [hphl,hfe];rfl,dropped:=by show (Jc6 (h.l ++ by_.l) x.dropped).dropped=_;rw [hfe];rfl,meas:=hml }
  obtain ⟨R5,hR5e⟩:∃R5,R5=Jde (⟨pm.o,ml⟩:OwL XMeas).arr :: R4:=⟨_,rfl⟩
  have hmR5:InR (Jde (⟨pm.o,ml⟩:OwL XMeas).arr) R5:=Jaa (by rw [hR5e];exact .head _)
  have hR45:∀r∈R4,InR r R5:=fun r hr=>Jaa (by rw [hR5e];exact .tail _ hr)
  have hS0:∀r∈S0 ++ R,InR r R5:=fun r hr=>(hR4 r hr).mono hR45
  refine Jsd (show _=R5 by rw [hR5e]) ?_
  refine qbk ?_
  refine qaa ?_
  refine Jaw rfl (Jgt g (feedR g p by_.l t) (⟨s,x.time,ph.arr,(Jc6 (h.l ++ by_.l) x.dropped).dropped,(⟨pm.o,ml⟩:OwL XMeas).arr,w,c,f,x.rest,pl.arr⟩:XSta) pl b8 t _ _ hI1 hX1 (hK.site.mono hS0) hmR5 (hK.watches.mono hS0) (hK.cuts.mono hS0) (hK.feeder.mono hS0) hK.kl ht) rfl ?_
  rintro v L' R' ⟨w2,c2,f2,q,S2,hqk,hS,⟨hw2,hc2,hf2⟩,rfl,rfl⟩
  refine qa4 ?_
  refine Jbe (T:=150) (f:=XEntry.cells) (wd:=4) q [] zk (fun _=>rfl) ze hqk (fun s hs=>by cases hs) ?_
  refine Jcy zp ?_
  have h3:∀r∈S2 ++ R5,InR r ((Jey q.arr :: (S2 ++ R5)) ++ R):=fun r hr=>Jaa (.tail _ (List.mem_append_left _ hr))
  have h35:∀r∈R5,InR r ((Jey q.arr :: (S2 ++ R5)) ++ R):=fun r hr=>h3 r (List.mem_append_right _ hr)
  have h4:∀r∈S0 ++ R,InR r ((Jey q.arr :: (S2 ++ R5)) ++ R):=fun r hr=>(hS0 r hr).mono h35
  refine qay ?_
  refine J38 ?_
  refine Xbl ?_
  refine Jbw (L':=L) (R':=(Jey q.arr :: (S2 ++ R5)) ++ R) (Jcf rfl (Jao (row:=[_,_,_,_,_,_,_,_,_,_,_,_,_,_,_,_,_,_,_,_,_,_,_]) tb rfl rfl rfl zf zb zb) (Jaf (show _=Value.int _ _ from rfl))) ?hp ?hL ?hR
  case hp=>
   have e1:Ju0 g p by_.l t=(Jaj g (feedR g p by_.l t) t,0):=by rw [Ju0,if_neg hl]
   exact ⟨(⟨s,t,ph.arr,(Jc6 (h.l ++ by_.l) x.dropped).dropped,(⟨pm.o,ml⟩:OwL XMeas).arr,w2,c2,f2,(Jaj g (feedR g p by_.l t) t).rest,q.arr⟩:XSta),Jey q.arr :: (S2 ++ R5),by rw [e1],by rw [e1];exact hS,⟨hK.site.mono h4,(hphR.mono hR45).mono h35,hmR5.mono h35,hw2.mono h3,hc2.mono h3,hf2.mono h3,Jaa (.head _)⟩,rfl,rfl⟩
  case hL=>exact zi
  case hR=>
   exact fun r hr=>by
     rcases List.mem_append.1 hr with h | h
     · exact Jaa h
     · exact (hS0 r (List.mem_append_right _ h)).mono fun r hr=>Jaa (.tail _ (List.mem_append_right _ hr))
end Go.Proofs.YtchfclmokpbldaaGreat
end
section
/-
  Stations: closing, and when one is due, the program's side. By an AI agent; no person has read it.
-/
namespace Go.Proofs.YtchfclmokpbldaaGreat
open Go.Aw Go
set_option maxRecDepth 20000
attribute [local irreducible] CJ LJ DJ Tri YV Gives Jcj Ja1 Jbg Jci RV Ja2 OwL.L
section
variable {A9 B9:Prop}
theorem J3a (a:A9) (h:A9→B9:=by exact Jax (Jal (row:=[_,_,_,_,_,_,_,_,_,_,_,_,_,_,_,_,_,_,_,_,_,_,_]) tb rfl rfl rfl zf zb zb) rfl):B9:=h a
theorem Kb6 (a:A9) (h:A9→B9:=by exact Jbe (T:=93) (f:=XMeas.cells) (wd:=4) pm [] zk (fun _=>rfl) ze hK.km (fun s hs=>by cases hs)):B9:=h a
theorem Kby (a:A9) (h:A9→B9:=by exact Jbe (T:=150) (f:=XEntry.cells) (wd:=4) q2 [] zk (fun _=>rfl) ze hq2k (fun s hs=>by cases hs)):B9:=h a
theorem Kc1 (a:A9) (h:A9→B9:=by exact Jlf rfl rfl rfl rfl zA zb zb zb zi):B9:=h a
end
structure FeedEq (f f':XFeeder):Prop where
  sw:f.switches.l=f'.switches.l
  zn:f.zones.l=f'.zones.l
  rp:f.reply=f'.reply
section
variable {s s':XSite} {f f':XFeeder} (h:SiteE s s') (k:FeedEq f f') (c:List XCut) (fl:List XSpan) (r:XRest) (t:Int)
include k in
theorem Jqt (z:Int):atR f z=atR f' z:=by rw [atR,atR,k.sw,k.zn,k.rp]
include h k
theorem J5q:Jfr s c fl r f t=Jfr s' c fl r f' t:=by
  simp only [Jfr,SiteE.sharedE h,SiteE.readyE h,SiteE.nzones h,k.sw,k.zn,k.rp,Jqt k]
theorem Jj3:Jdj s c fl r f t=Jdj s' c fl r f' t:=by
  simp only [Jdj,J5q h k,k.sw,k.zn,k.rp,Jqt k]
theorem J0o:Jg1 s c fl r f t=Jg1 s' c fl r f' t:=by
  simp only [Jg1,Jj3 h k,J32,k.zn,Jqt k]
theorem J0u:Jg5 s c fl r f t=Jg5 s' c fl r f' t:=by
  simp only [Jg5,Jj3 h k,J32,k.zn,Jqt k]
theorem Jxd:Je1 s c fl r f t=Je1 s' c fl r f' t:=by
  simp only [Je1,Jj3 h k,k.sw,Jqt k]
end
set_option maxHeartbeats 1000000 in
theorem Jvi (g:PSite) (p:PSta) (x:XSta) (t:Int) (L:List Blk) (R:List Sl) (hI:Inv g p) (hx:StaIs g p x) (hR:StaR x R):
    Tri Tryz.prog 23 [x.val,.int .i64 t].toArray L R (Jic g (Jkm g p t) L R):=by
  refine Jad 67 Tryz.call23 Tryz.func23 rfl rfl rfl ?_
  refine Xaf ?_
  intro b2
  refine qaq ?_
  intro b4
  refine Xag ?_
  refine J3a ?_
  refine Jaw rfl (Jeu x _ _ (.of hI hx) hR) rfl ?_
  rintro v L' R' ⟨s,h,w,c,f,pm,pl,S0,rfl,hK,rfl,rfl⟩
  refine qaq ?_
  intro b6
  refine Xba ?_
  refine J3a ?_
  refine qaa ?_
  refine q_l rfl (Jfp x t _ _) ?_
  refine qaf ?_
  refine q_c (fun hc0=>?_) (fun hc0=>?_)
  ·
   refine Jam ?_
   refine Kb6 ?_
   refine Jcy zp ?_
   refine Jbe (T:=150) (f:=XEntry.cells) (wd:=4) pl [] zk (fun _=>rfl) ze hK.kl (fun s hs=>by cases hs) ?_
   refine Jcy zp ?_
   refine qay ?_
   refine J3a ?_
   refine Xa0 ?_
   refine q_r (L':=L) (R':=((Jey pl.arr :: Jde pm.arr :: S0) ++ R)) (Jcf rfl (Jao (row:=[_,_,_,_,_,_,_,_,_,_,_,_,_,_,_,_,_,_,_,_,_,_,_]) tb rfl rfl rfl zf zb zb) (Jaf (show _=Value.int _ _ from rfl))) ?_
   have hl:Jfl p t:=(Jgg hx).1 zE
   exact ⟨(⟨s,x.time,h,x.dropped,pm.arr,w,c,f,x.rest,pl.arr⟩:XSta),Jey pl.arr :: Jde pm.arr :: S0,by rw [Jkm,if_pos hl],by rw [Jkm,if_pos hl];exact hK.is hx,hK.fin (fun r hr=>Jaa (.tail _ (.tail _ hr))) (Jaa (.tail _ (.head _))) (Jaa (.head _)),rfl,rfl⟩
  have hl:¬ Jfl p t:=fun h=>absurd ((Jgg hx).2 h) zE
  have ht:=Jja hl
  have hIs:=hK.is hx
  have hS0:∀r∈S0 ++ R,InR r (Jde pm.arr :: (S0 ++ R)):=fun r hr=>Jaa (.tail _ hr)
  refine Kb6 ?_
  refine Jcy zp ?_
  refine qbv ?_
  refine qaa ?_
  refine Jaw rfl (Jgt g p (⟨s,x.time,h,x.dropped,pm.arr,w,c,f,x.rest,pl.arr⟩:XSta) pl b6 t _ _ hI hIs (hK.site.mono hS0) (Jaa (.head _)) (hK.watches.mono hS0) (hK.cuts.mono hS0) (hK.feeder.mono hS0) hK.kl ht) rfl ?_
  rintro v L' R' ⟨w2,c2,f2,q,S2,hqk,hS,⟨hw2,hc2,hf2⟩,rfl,rfl⟩
  refine qa4 ?_
  have hI2:=hI.settle ht.1 ht.2
  have h5:∀r∈Jde pm.arr :: (S0 ++ R),InR r (S2 ++ (Jde pm.arr :: (S0 ++ R))):=fun r hr=>Jaa (List.mem_append_right _ hr)
  have h6:∀r∈S0 ++ R,InR r (S2 ++ (Jde pm.arr :: (S0 ++ R))):=fun r hr=>(hS0 r hr).mono h5
  have hv2:StaV (⟨s,t,h,x.dropped,pm.arr,w2,c2,f2,(Jaj g p t).rest,q.arr⟩:XSta) (S2 ++ (Jde pm.arr :: (S0 ++ R))):=StaV.of hI2 hS (hK.site.mono h6) (h5 _ (.head _))
  have hA2:AiryIs s.air.mine g.air:=SiteE.airy hS.site hI2.airy
  have hce:c2.l=(Jaj g p t).cuts:=hS.cuts
  have hfq:FeedEq f2 (mkF g (Jaj g p t)):=⟨hS.sw,hS.zn,hS.rp⟩
  have hsz:=hI2.sok.len
  have hfo:=hI2.fok
  have hn1:c2.l.length≤1000:=by rw [hce,hI2.clen];omega
  have hn2:f2.switches.l.length≤1000:=by rw [hfq.sw];exact Nat.le_trans hfo.sn ze
  have hn3:f2.zones.l.length≤1000:=by rw [hfq.zn];exact Nat.le_trans hfo.zl ze
  refine qay ?_
  refine Xcn ?_
  refine Xcd ?_
  refine Jbf tb [0,1,2,3,4,6,7,8,9,10,5,11,12,13,14,15,16,17,18,19,20,21,22] _ Jby zc (List.Sublist.refl _) ?_
  refine qal ?_
  refine Jbu (Jal (row:=[_,_,_,_,_,_,_,_]) tb rfl rfl rfl zf zb zb) rfl rfl rfl ?_
  refine Xan ?_
  refine Jbu (Jal (row:=[_,_,_,_,_,_,_,_,_,_,_,_,_,_,_,_,_,_,_,_,_,_,_]) tb rfl rfl rfl zf zb zb) rfl rfl rfl ?_
  refine qal ?_
  refine Jbu (Jal (row:=[_,_,_,_,_]) tb rfl rfl rfl zf zb zb) rfl rfl rfl ?_
  refine qal ?_
  refine Jbu (Jal (row:=[_,_,_]) tb rfl rfl rfl zf zb zb) rfl rfl rfl ?_
  refine qao ?_
  refine Jei rfl (Jlk (⟨s,t,h,x.dropped,pm.arr,w2,c2,f2,(Jaj g p t).rest,q.arr⟩:XSta) g.air _ _ hv2 hA2) rfl rfl ?_
  rintro v L' R' ⟨fl,rfl,hfl,rfl,rfl⟩
  refine ⟨zi,zx,?_⟩
  refine Jei rfl (J2f s c2 fl (Jaj g p t).rest f2 t _ _ ⟨(hK.site.mono h6).mono fun r hr=>Jaa (.tail _ hr),hc2.mono fun r hr=>Jaa (.tail _ hr),Jaa (.head _)⟩ (hf2.mono fun r hr=>Jaa (.tail _ hr)) ⟨hn1,hn2,hn3⟩) rfl rfl ?_
  rintro v L' R' ⟨rq,pc,psw,pz,rp,rfl,⟨hpck,hpswk,hpzk⟩,hCI,rfl,hRC⟩
  refine ⟨zi,zx,?_⟩
  refine Jbu (Jav rfl) rfl rfl rfl ?_
  iterate 4 refine Jbu (Jb3 rfl rfl) rfl rfl rfl ?_
  refine qbr ?_
  intro b8
  refine qbr ?_
  intro b10
  refine qbg ?_
  refine Jbu (Jca (show _=Value.slice _ _ _ from rfl)) rfl rfl rfl ?_
  refine Xdq ?_
  refine Jaz (Jab (Jam (Jam ?_)))
  have hfe:fl.l=flP g (Jaj g p t):=hfl.trans (StaIs.flows hS)
  have hcE:Jdj s c2.l fl.l (Jaj g p t).rest f2 t=Jdj g.site (Jaj g p t).cuts (flP g (Jaj g p t)) (Jaj g p t).rest (mkF g (Jaj g p t)) t:=by rw [Jj3 hS.site hfq,hce,hfe]
  have hcR:rq=Jg1 g.site (Jaj g p t).cuts (flP g (Jaj g p t)) (Jaj g p t).rest (mkF g (Jaj g p t)) t:=by rw [hCI.rest,J0o hS.site hfq,hce,hfe]
  have hcC:pc.l=Jg5 g.site (Jaj g p t).cuts (flP g (Jaj g p t)) (Jaj g p t).rest (mkF g (Jaj g p t)) t:=by rw [hCI.cuts,J0u hS.site hfq,hce,hfe]
  have hcS:psw.l=Je1 g.site (Jaj g p t).cuts (flP g (Jaj g p t)) (Jaj g p t).rest (mkF g (Jaj g p t)) t:=by rw [hCI.sw,Jxd hS.site hfq,hce,hfe]
  have hcZ:pz.l=g.zn:=hCI.zn.trans hfq.zn
  have hcP:rp=g.rp:=hCI.rp.trans hfq.rp
  rw [hcE]
  obtain ⟨e,he⟩:∃e,e=Jdj g.site (Jaj g p t).cuts (flP g (Jaj g p t)) (Jaj g p t).rest (mkF g (Jaj g p t)) t:=⟨_,rfl⟩
  rw [← he] at hcE ⊢
  have hqln:q.l.length≤400:=by have:=hI2.log;rw [← hS.log] at this;exact this
  refine Jbe (T:=3) (f:=Jap) (wd:=1) pz [] zk (fun _=>rfl) ze hpzk (fun s hs=>by cases hs) ?_
  refine Jcy zp ?_
  refine Jbe (T:=76) (f:=XSwitch.cells) (wd:=5) psw [] zk (fun _=>rfl) ze hpswk (fun s hs=>by cases hs) ?_
  refine Jcy zp ?_
  refine Jbe (T:=71) (f:=XCut.cells) (wd:=3) pc [] zk (fun _=>rfl) ze hpck (fun s hs=>by cases hs) ?_
  refine Jcy zp ?_
  obtain ⟨R3,hR3e⟩:∃R3,R3=Jp3 pc.arr :: Jpm psw.arr :: isl pz.arr :: R':=⟨_,rfl⟩
  have hR13:∀r∈(S2 ++ (Jde pm.arr :: (S0 ++ R))),InR r R3:=fun r hr=>(hRC r (.tail _ hr)).mono fun r hr=>Jaa (by rw [hR3e];exact .tail _ (.tail _ (.tail _ hr)))
  have hpcR:InR (Jp3 pc.arr) R3:=Jaa (by rw [hR3e];exact .head _)
  have hpfR:FeederR ⟨psw.arr,pz.arr,rp⟩ R3:=⟨Jaa (by rw [hR3e];exact .tail _ (.head _)),Jaa (by rw [hR3e];exact .tail _ (.tail _ (.head _)))⟩
  have hR03:∀r∈S0 ++ R,InR r R3:=fun r hr=>(h6 r hr).mono hR13
  refine Jsd (show _=R3 by rw [hR3e]) ?_
  refine Xa4 ?_
  refine Xaq ?_
  refine q_c (fun hc1=>?_) (fun hc1=>?_)
  ·
   refine Jam ?_
   refine Jc3 (L':=⟨b6,(⟨s,t,h,x.dropped,pm.arr,w2,c2,f2,(Jaj g p t).rest,q.arr⟩:XSta).cells,54⟩ :: (q.L 150 XEntry.cells ++ _)) zi (Jac _) ?_
   refine Xa4 ?_
   refine qaa ?_
   refine Jaw rfl (Jf3 (⟨s,t,h,x.dropped,pm.arr,w2,c2,f2,(Jaj g p t).rest,q.arr⟩:XSta) q b6 7 (Jaj g p t).rest.zone e _ _ hqk hqln) rfl ?_
   rintro v L' R' ⟨q2,hq2k,hq2l,rfl,rfl⟩
   refine qa4 ?_
   refine Kby ?_
   refine Jcy zp ?_
   have h3:∀r∈(S2 ++ (Jde pm.arr :: (S0 ++ R))),InR r ((Jey q2.arr :: R3) ++ R):=fun r hr=>(hR13 r hr).mono fun r hr=>Jaa (.tail _ (List.mem_append_left _ hr))
   have h4:∀r∈S0 ++ R,InR r ((Jey q2.arr :: R3) ++ R):=fun r hr=>(h6 r hr).mono h3
   refine qay ?_
   refine J3a ?_
   refine Xbz ?_
   refine Jbw (L':=L) (R':=(Jey q2.arr :: R3) ++ R) (Jcf rfl (Jao (row:=[_,_,_,_,_,_,_,_,_,_,_,_,_,_,_,_,_,_,_,_,_,_,_]) tb rfl rfl rfl zf zb zb) (Jaf (show _=Value.int _ _ from rfl))) ?hp ?hL ?hR
   case hp=>
    have e1:Jkm g p t=(Jf9 (Jaj g p t) 7 (Jaj g p t).rest.zone e,e):=by rw [Jkm,if_neg hl];dsimp only;rw [← he,if_pos hc1]
    exact ⟨(⟨s,t,h,x.dropped,pm.arr,w2,c2,f2,(Jaj g p t).rest,q2.arr⟩:XSta),Jey q2.arr :: R3,by rw [e1],by rw [e1];exact hS.note hq2l,⟨hK.site.mono h4,hK.held.mono h4,(h5 _ (.head _)).mono h3,hw2.mono h3,hc2.mono h3,hf2.mono h3,Jaa (.head _)⟩,rfl,rfl⟩
   case hL=>exact zi
   case hR=>
    exact fun r hr=>by
      rcases List.mem_append.1 hr with h | h
      · exact Jaa h
      · exact (hR03 r (List.mem_append_right _ h)).mono fun r hr=>Jaa (.tail _ hr)
  have he0:e=0:=Decidable.not_not.1 hc1
  have hcan:Jfr s c2.l fl.l (Jaj g p t).rest f2 t=0:=by
    have h9:Jdj s c2.l fl.l (Jaj g p t).rest f2 t=0:=hcE.trans he0
    rw [Jdj] at h9
    split at h9
    · omega
    · rename_i h8;exact Decidable.not_not.1 h8
  obtain ⟨hz1,hz2,hz3⟩:=Jzn hcan
  refine qbv ?_
  refine Xaa ?_
  refine qab ?_
  refine Jax (Jal (row:=[_,_,_]) tb rfl rfl rfl zf zb zb) rfl ?_
  refine qaa ?_
  refine Jaw rfl (Jyo c2 f2 (Jaj g p t).rest.zone _ _ (hc2.mono hR13) (hf2.mono hR13) hz3 za hz2) rfl ?_
  rintro v L' R' ⟨rfl,rfl,hRN⟩
  obtain ⟨R4,hR4⟩:∃R4,R4=R':=⟨_,rfl⟩
  rw [← hR4] at hRN ⊢
  refine Jax (Jav rfl) rfl ?_
  refine Xa5 ?_
  refine Xbm ?_
  refine qa4 ?_
  refine Jbk tb [59,60] [0,1,2] [3,4,5,6,7,8] (_) _ Jby zc zi (by (repeat (first | apply List.Sublist.cons (a:=Blk.mk b6 _ _) | apply List.Sublist.cons_cons));exact List.Sublist.refl _) ?_
  refine Jbv (Jal (row:=[_,_,_,_,_]) tb rfl rfl rfl zf zb zb) rfl rfl rfl rfl ?_
  refine Jd2 (Jav (show _=Value.slice _ _ _ from rfl)) rfl rfl rfl rfl ?_
  refine Jd2 (Jal (row:=[_,_,_]) tb rfl rfl rfl zf zb zb) rfl rfl rfl rfl ?_
  refine qba ?_
  refine qal ?_
  refine Kc1 ?_
  refine Xdc ?_
  refine qal ?_
  refine Kc1 ?_
  refine qb9 ?_
  have hat:atR f2 (Jaj g p t).rest.zone=atR (mkF g (Jaj g p t)) (Jaj g p t).rest.zone:=Jqt hfq _
  refine Jc3 (L':=⟨b6,(⟨s,t,h,x.dropped,pm.arr,w2,pc.arr,⟨psw.arr,pz.arr,rp⟩,rq,q.arr⟩:XSta).cells,54⟩ :: (q.L 150 XEntry.cells ++ _)) zi (Jac _) ?_
  refine Xa4 ?_
  refine Jaw rfl (Jf3 (⟨s,t,h,x.dropped,pm.arr,w2,pc.arr,⟨psw.arr,pz.arr,rp⟩,rq,q.arr⟩:XSta) q b6 6 (atR f2 (Jaj g p t).rest.zone) 0 _ _ hqk hqln) rfl ?_
  rintro v L' R' ⟨q2,hq2k,hq2l,rfl,rfl⟩
  refine qa4 ?_
  refine Kby ?_
  refine Jcy zp ?_
  obtain ⟨R5,hR5e⟩:∃R5,R5=Jey q2.arr :: R4:=⟨_,rfl⟩
  refine Jsd (show _=R5 by rw [hR5e]) ?_
  have hq2R:InR (Jey q2.arr) (R5 ++ R):=Jaa (by rw [hR5e];exact .head _)
  have h45:∀r∈R4,InR r (R5 ++ R):=fun r hr=>Jaa (by rw [hR5e];exact .tail _ (List.mem_append_left _ hr))
  have h35:∀r∈R3,InR r (R5 ++ R):=fun r hr=>(hRN r hr).mono h45
  have h15:∀r∈(S2 ++ (Jde pm.arr :: (S0 ++ R))),InR r (R5 ++ R):=fun r hr=>(hR13 r hr).mono h35
  have h4:∀r∈S0 ++ R,InR r (R5 ++ R):=fun r hr=>(hR03 r hr).mono h35
  have hRR:∀r∈R,InR r R5:=fun r hr=>((hR03 r (List.mem_append_right _ hr)).mono hRN).mono fun r hr=>Jaa (by rw [hR5e];exact .tail _ hr)
  refine qay ?_
  refine J3a ?_
  refine Xbl ?_
  refine Jbw (L':=L) (R':=R5 ++ R) (Jcf rfl (Jao (row:=[_,_,_,_,_,_,_,_,_,_,_,_,_,_,_,_,_,_,_,_,_,_,_]) tb rfl rfl rfl zf zb zb) (Jaf (show _=Value.int _ _ from rfl))) ?hp ?hL ?hR
  case hp=>
   have e1:Jkm g p t=(Jf9 { (Jaj g p t) with rest:=Jg1 g.site (Jaj g p t).cuts (flP g (Jaj g p t)) (Jaj g p t).rest (mkF g (Jaj g p t)) t,cuts:=Jg5 g.site (Jaj g p t).cuts (flP g (Jaj g p t)) (Jaj g p t).rest (mkF g (Jaj g p t)) t,sw:=Je1 g.site (Jaj g p t).cuts (flP g (Jaj g p t)) (Jaj g p t).rest (mkF g (Jaj g p t)) t } 6 (atR (mkF g (Jaj g p t)) (Jaj g p t).rest.zone) 0,0):=by rw [Jkm,if_neg hl];dsimp only;rw [← he,if_neg hc1]
   have hS9:StaIs g { (Jaj g p t) with rest:=Jg1 g.site (Jaj g p t).cuts (flP g (Jaj g p t)) (Jaj g p t).rest (mkF g (Jaj g p t)) t,cuts:=Jg5 g.site (Jaj g p t).cuts (flP g (Jaj g p t)) (Jaj g p t).rest (mkF g (Jaj g p t)) t,sw:=Je1 g.site (Jaj g p t).cuts (flP g (Jaj g p t)) (Jaj g p t).rest (mkF g (Jaj g p t)) t } (⟨s,t,h,x.dropped,pm.arr,w2,pc.arr,⟨psw.arr,pz.arr,rp⟩,rq,q.arr⟩:XSta):={ hS with rest:=hcR,cuts:=hcC,sw:=hcS,zn:=hcZ,rp:=hcP }
   rw [hat] at hq2l
   exact ⟨(⟨s,t,h,x.dropped,pm.arr,w2,pc.arr,⟨psw.arr,pz.arr,rp⟩,rq,q2.arr⟩:XSta),R5,by rw [e1],by rw [e1];exact hS9.note hq2l,⟨hK.site.mono h4,hK.held.mono h4,(h5 _ (.head _)).mono h15,hw2.mono h15,hpcR.mono h35,hpfR.mono h35,hq2R⟩,rfl,rfl⟩
  case hL=>exact zi
  case hR=>
   exact fun r hr=>by
     rcases List.mem_append.1 hr with h | h
     · exact Jaa h
     · exact hRR r h
end Go.Proofs.YtchfclmokpbldaaGreat
end
