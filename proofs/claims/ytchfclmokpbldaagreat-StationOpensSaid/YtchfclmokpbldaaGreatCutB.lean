/-
  Merged texts. By an AI agent.
-/
import Derived.Test.YtchfclmokpbldaaGreatDraw13
set_option linter.all false
set_option maxHeartbeats 4000000
set_option maxRecDepth 20000
namespace Go.Proofs.YtchfclmokpbldaaGreat
open Go.Aw Go
section
attribute [local irreducible] CJ LJ DJ Tri YV Gives U7 Kb Kp U8 RV Ke OwL.L
def Z7 (n lo hi:Int) (L:LB) (R:LS):
 Tri Tryz.prog 261 [.int .i64 n,.int .i64 lo,.int .i64 hi].toArray L R (fun v M U=>v=.bool (decide (lo≤n∧n≤hi))∧L=M∧R=U):=by
 refine Jd 15 Tryz.call261 Tryz.func261 rfl rfl rfl ?_;apply Xa3∘qam∘Xbu∘qbx∘qah;apply Ue (G:=[_,_,_]) (j:=3) (cj:=10) rfl rfl ze rfl ztb rfl;·intro hg4;replace hg4:=qb hg4;exact (Xbu) zSe
 intro junk4;exact ubt
def Zua (s:XSens) (L:LB) (R:LS):
 Tri Tryz.prog 250 [s.val].toArray L R (fun v M U=>v=.int .i64 (Vx s)∧L=M∧R=U):=by
 refine Jd 46 Tryz.call250 Tryz.func250 rfl rfl rfl ?_;apply (Xag);intro b1;apply (Xeh);refine q_l rfl zdd ?_;apply (Xbg);refine q_c ?_ ?_<;>intro hc0;·apply (Xa1);refine q_i L R ?_;exact ⟨by simp at hc0;rw [Vx,if_pos zc],rfl,rfl⟩
 apply (Xch);refine q_l rfl zdd ?_;apply (Xdd);apply J3 (G:=[_,_,_]) (j:=4) (cj:=11) rfl rfl ze rfl ztb rfl;·intro hg5;replace hg5:=qb hg5;exact zge
 intro junk5;apply (qah);apply J3 (G:=[_,_,_,_]) (j:=9) (cj:=16) rfl rfl ze rfl ztb rfl;·intro hg10;replace hg10:=qb hg10;exact zpe
 intro junk10;apply (qah);apply J3 (G:=[_,_,_,_]) (j:=15) (cj:=22) rfl rfl ze rfl ztb rfl;·intro hg16;replace hg16:=qb hg16;exact zpe
 intro junk16;apply (qah);apply J3 (G:=[_,_,_,_]) (j:=21) (cj:=28) rfl rfl ze rfl ztb rfl;·intro hg22;replace hg22:=qb hg22;exact zpe
 intro junk22;apply (qah);apply J3 (G:=[_,_,_,_]) (j:=27) (cj:=34) rfl rfl ze rfl ztb rfl;·intro hg28;replace hg28:=qb hg28;exact zpe
 intro junk28;apply (qah);apply J3 (G:=[_,_,_,_]) (j:=33) (cj:=40) rfl rfl ze rfl ztb rfl;·intro hg34;replace hg34:=qb hg34;exact zpe
 intro junk34;apply (qaf);refine q_c ?_ ?_<;>intro hc1;·apply (Xa1);refine q_i L R ?_;exact ⟨by simp at hc0 hc1;rw [Vx,if_neg zc,if_neg (by rw [Jsa];omega)],rfl,rfl⟩
 apply (Xb4);refine q_i L R ?_;exact ⟨by simp at hc0 hc1;rw [Vx,if_neg zc,if_pos (by rw [Jsa];omega)],rfl,rfl⟩
def Z5b (a b:Int) (L:LB) (R:LS) (ha:-1000000000000≤a∧a≤1000000000000) (hb:0 < b∧b≤1000000):
 Tri Tryz.prog 291 [.int .i64 a,.int .i64 b].toArray L R (fun v M U=>v=.int .i64 (a / b)∧L=M∧R=U):=by
 have hd:-1000000000000≤a.tdiv b∧a.tdiv b≤1000000000000:=by have h1:=Int.natAbs_tdiv_le_natAbs a b;omega
 refine Jd 16 Tryz.call291 Tryz.func291 rfl rfl rfl ?_;apply Xac∘qam∘Xbu∘qdd∘Xau∘Xbu∘qda∘Xao;refine q_c ?_ ?_<;>intro hc0;·apply Xb0∘qa9∘Xa2∘Xam;refine q_i L R ?_;exact ⟨by rw [← Umc hb.1,if_pos hc0],rfl,rfl⟩
 apply qbv∘qaa∘Xam;refine q_i L R ?_;exact ⟨by rw [← Umc hb.1,if_neg hc0],rfl,rfl⟩
def Vcc (a b:Int) (L:LB) (R:LS) (ha:-1000000000000≤a∧a≤1000000000000) (hb:0 < b∧b≤1000000):
 Tri Tryz.prog 259 [.int .i64 a,.int .i64 b].toArray L R (fun v M U=>v=.int .i64 (-((-a) / b))∧L=M∧R=U):=by
 have hd:-1000000000001≤(-a) / b∧(-a) / b≤1000000000001:=by have h1:=Int.natAbs_ediv_le_natAbs (-a) b;omega
 refine Jd 10 Tryz.call259 Tryz.func259 rfl rfl rfl ?_;apply Xac∘Xdr∘qcq∘qaa;refine q_l rfl (Z5b (-a) b _ _ zc hb) ?_;exact (qcq∘Xam) zRf
def Jpe (k:Int) (L:LB) (R:LS):
 Tri Tryz.prog 260 [.int .i64 k].toArray L R (fun v M U=>v=.bool (decide (k=1∨k=2))∧L=M∧R=U):=by
 refine Jd 9 Tryz.call260 Tryz.func260 rfl rfl rfl ?_;apply Xa3∘Xdr∘Xcn;apply J3 (G:=[_,_]) (j:=2) (cj:=5) rfl rfl ze rfl ztb rfl;·intro hg3;replace hg3:=qb hg3;exact (qaa) zme
 intro junk3;exact ubt
def Jke {s:XSens} {m:XMeas} {t:Int} (h:¬ Kwa s m t):-((-(s.drift * (t - m.time))) / 1000)=Z4c s m t:=by have hb:=Jzb h;rw [Z4c,yO zc];omega
def K9f {s:XSens} {m:XMeas} {t:Int} (h:¬ Kwa s m t):1≤s.kind∧s.kind≤6:=by
 rw [Kwa] at h;have he:Vx s=0:=by omega
 rw [Vx] at he;split at he;·omega
 ·omega
def Jbd (s:XSens) (m:XMeas) (t:Int) (L:LB) (R:LS) (hm:Uua m) (ht:0≤t∧t≤2147483648):
 Tri Tryz.prog 212 [s.val,m.val,.int .i64 t].toArray L R (fun v M U=>v=(atS s m t).val∧L=M∧R=U):=by
 rw [Uua] at hm;refine Jd 75 Tryz.call212 Tryz.func212 rfl rfl rfl ?_;apply (Xag);intro b3;apply (qax);intro b4;apply (qaq);intro b6;apply (qco);refine Kg tb [0,1,2,3,4,5,6,7,8,9,10,11,12,13,14,15,16,17,18,19,20,21,22,23,24,25,26,27,28] _ Kn zf ye ?_;refine Kq zxb rfl rfl rfl ?_;refine q_d rfl (Zua s _ _) ?_;refine Kq (Vtb rfl rfl) rfl rfl rfl ?_;apply (qb2);refine U9 (k:=12) ztb (fun hg3=>?_) (fun hg3=>?_);·
  replace hg3:=qb hg3;have hgo:Kwa s m t:=.inl (by simpa using hg3);iterate 3 apply (qap)
  apply (Xb9);iterate 4 apply (qap)
  apply (Xb9);iterate 4 apply (qap)
  apply (Xb9);iterate 7 apply (qap)
  apply (Xbt);refine K0 rfl ?_;apply (qae);refine q_l rfl (Vz _ _) ?_;apply (Xdj);refine q_r L R zfd ?_;first
  |exact uaQ
  |exact uax
 replace hg3:=qb hg3;apply (Xae);refine Kq zBc rfl rfl rfl ?_;apply (Xb9);refine U9 (k:=17) ztb (fun hg8=>?_) (fun hg8=>?_);·
  replace hg8:=qb hg8;have hgo:Kwa s m t:=.inr (.inl (by simp at hg3 hg8;omega));iterate 4 apply (qap)
  apply (Xb9);iterate 4 apply (qap)
  apply (Xb9);iterate 7 apply (qap)
  apply (Xbt);refine K0 rfl ?_;apply (qae);refine q_l rfl (Vz _ _) ?_;apply (Xdj);refine q_r L R zfd ?_;first
  |exact uaQ
  |exact uax
 replace hg8:=qb hg8;apply qal∘qbd;refine q_d rfl (Vz _ _) ?_;refine Kq (Jpb Vjd rfl rfl) rfl rfl rfl ?_;apply (Xb9);refine U9 (k:=23) ztb (fun hg14=>?_) (fun hg14=>?_);·
  replace hg14:=qb hg14;have hgo:Kwa s m t:=.inr (.inr (.inl (by rw [K4b];simp [nothingS] at hg3 hg8 hg14 ⊢;omega)));iterate 4 apply (qap)
  apply (Xb9);iterate 7 apply (qap)
  apply (Xbt);refine K0 rfl ?_;apply (qae);refine q_l rfl (Vz _ _) ?_;apply (Xdj);refine q_r L R zfd ?_;first
  |exact uaQ
  |exact uax
 replace hg14:=qb hg14;apply qao∘Xae;refine Kq zBc rfl rfl rfl ?_;apply (Xb9);refine U9 (k:=29) ztb (fun hg20=>?_) (fun hg20=>?_);·
  replace hg20:=qb hg20;have hgo:Kwa s m t:=.inr (.inr (.inr (.inl (by simp [nothingS] at hg3 hg8 hg14 hg20;omega))));iterate 7 apply (qap)
  apply (Xbt);refine K0 rfl ?_;apply (qae);refine q_l rfl (Vz _ _) ?_;apply (Xdj);refine q_r L R zfd ?_;first
  |exact uaQ
  |exact uax
 replace hg20:=qb hg20;apply qao∘Xae∘qb7∘Xae;refine Kq zKc rfl rfl rfl ?_;apply (Xbt);refine q_c ?_ ?_<;>intro hc0;·
  apply (qae);refine q_l rfl (Vz _ _) ?_;apply (Xdj);refine q_r L R zfd ?_;first
  |exact uaQ
  |exact uax
 have hgo:¬ Kwa s m t:=by rw [Kwa,K4b];simp [nothingS] at hg3 hg8 hg14 hg20 hc0 ⊢;omega
 obtain ⟨hb1,hb2⟩:=Jzb hgo;have hkd:=K9f hgo;have hmc:=Jke hgo;apply (Xch);refine q_l rfl (V2b _ _ _) ?_;apply (qaf);refine q_c ?_ ?_<;>intro hc1;·apply Xcq∘qbe∘Xdj;refine q_r L R zfd ?_;exact ⟨by rw [atS,if_neg hgo,if_pos zc],rfl,rfl⟩
 apply qbv∘Xaf∘Xaa∘qa9∘qcm;refine q_l rfl (Vcc (s.drift * (t - m.time)) 1000 _ _ zc zj) ?_;rw [hmc];apply Xar∘Xc3∘qa9∘Xc3∘qar∘qcd∘qaq;intro b8;apply (Xdz);refine q_l rfl (Jpe _ _ _) ?_;apply (qaf);refine q_c ?_ ?_<;>intro hc2;·apply qay∘Xaa;refine J0 zsc rfl ?_;apply (Xaa);refine J0 zsc rfl ?_;apply Xbs∘Xbs∘qam∘Xcs;refine q_r L R zfd ?_;exact ⟨by rw [atS,if_neg hgo,if_neg zc,if_pos hc2];try rfl,rfl,rfl⟩
 apply qbv∘Xcs;refine q_r L R zfd ?_;exact ⟨by rw [atS,if_neg hgo,if_neg zc,if_neg hc2];try rfl,rfl,rfl⟩
def Y4d {l:List XSpan} {x:XSpan} (h:l[0]?=some x):Yfa l x 1=x:=by rw [Jsb (k:=0) h];show (⟨max x.low x.low,min x.high x.high⟩:XSpan)=x;rw [Int.max_self,Int.min_self]
section
variable {A B:Prop}
def Vve(h:A→B:=by exact Kz zrb rfl rfl rfl rfl):=h
def Kjf(h:A→B:=by exact J0 zxb rfl):=h
def Vrf(h:B:=by exact ⟨by rw [K7,if_neg zc,if_neg zc,if_neg zc,if_neg zc,if_neg zc,e],rfl,rfl⟩):=h
def Jjg(h:A→B:=by exact J0 zrb rfl):=h
def Jrg(h:A→B:=by exact Kh tb [] [0,1,2,3,4,5,6,7,8,9,10] [11] ([Blk.mk b8 _ _,Blk.mk b4 _ _]) _ Kn zf zk (by (repeat (first | apply List.Sublist.cons (a:=Blk.mk b8 _ _) | apply List.Sublist.cons_cons));exact yu _)):=h
def Kng(h:A→B:=by exact Kz zia rfl rfl rfl rfl):=h
def Yof(h:A→B:=by exact Kz zIa rfl rfl rfl rfl):=h
end
def Vcb {e:Int} (h:e=0):nzO e=none:=by rw [nzO,if_pos h]
def Kpb {e:Int} (h:e≠0):nzO e=some e:=by rw [nzO,if_neg h]
abbrev U3e (s:XSite):XCond→Option Int:=fun c=>nzO (J7 s.sensors.l s.air.mine.roads.l.length c)
abbrev Yae (s:XSite):XZone→Option Int:=fun z=>nzO (Yi s.conds.l.length s.air.mine.roads.l.length z)
abbrev Ywc:Int→Option Int:=fun p=>if p < 1∨3 < p then some 19 else none
def Kka (s:XSite) (L:LB) (R:LS) (hs:SiteR s R):
 Tri Tryz.prog 74 [s.val].toArray L R (fun v M U=>v=.int .i64 (K7 s)∧L=M∧R=U):=by
 have hsR:=hs.sensors;have hcR:=hs.conds;have hzR:=hs.zones;have hpR:=hs.persons;refine Jd 90 Tryz.call74 Tryz.func74 rfl rfl rfl ?_;apply (Xag);intro b1;apply Xau∘qab∘qa8;refine q_l rfl (Jka s.air _ _ hs.air) ?_;apply (Xbj);refine q_c ?_ ?_<;>intro hc0;·apply (Xcx);refine q_i L R ?_;exact ⟨by rw [K7,if_pos hc0],rfl,rfl⟩
 apply qbo∘Xb5∘qah;apply J3 (G:=[_,_,_,_]) (j:=4) (cj:=23) rfl rfl ze rfl ztb rfl;·exact zVd
 intro junk5;apply (qah);apply J3 (G:=[_,_,_,_]) (j:=10) (cj:=29) rfl rfl ze rfl ztb rfl;·intro hg11;replace hg11:=qb hg11;exact (Xb5) qai
 intro junk11;apply (qah);apply J3 (G:=[_,_,_,_]) (j:=16) (cj:=35) rfl rfl ze rfl ztb rfl;·intro hg17;replace hg17:=qb hg17;exact (Xb5) qai
 intro junk17;apply (qaf);refine q_c ?_ ?_<;>intro hc1;·exact ubO
 apply qbo∘Kjf;refine q_l rfl (Vbb s _ _ hsR zc) ?_;apply (Xbj);refine q_c ?_ ?_<;>intro hc2;·exact zrf
 apply (Xd8);refine Jh [(1,.pointer _),(47,.slice _ _ _),(48,.int _ _),(49,.int _ _)] zg fun tq0=>?_;refine q_s ([2,6,7]++rg 49 11) (fun g:FS (U3e s) (s.conds.l)=>[(49,.int .i64 ((g.1:Nat):Int))]) (fun g=>(s.conds.l).length - g.1) ⟨0,Yk _ _⟩ ?_;rintro ⟨k0,hk0,hp0⟩ junk;try dsimp only
 apply (Xay);refine q_c ?_ ?_<;>intro hc3;·
  obtain ⟨c,hc⟩:=Ki (l:=s.conds.l) (k:=k0) zc;apply (qbb);refine J0 zP rfl ?_;refine J0 zRa rfl ?_;apply (qaq);intro b6;apply Xbe∘Kjf;refine J0 zCc rfl ?_;refine q_l rfl (K5c s c _ _ hsR zc) ?_;apply (Xbj);refine q_c ?_ ?_<;>intro hc4;·exact zhe
  apply (Xbk);exact q_k ⟨k0 + 1,Ya hp0 hc (Vcb zc)⟩
 have hn0:=V9 hp0 zc;refine K5 (Kk (K1 (J8 (Ja (Ji (Ji ?_))))));have hce:Zv s=0:=by rw [Zv,hn0];rfl
 apply qay∘Xbh;refine Jh [(1,.pointer _),(61,.slice _ _ _),(62,.int _ _),(63,.int _ _)] zg fun tq1=>?_;refine q_s ([2,9,10]++rg 63 11) (fun g:FS (Yae s) (s.zones.l)=>[(63,.int .i64 ((g.1:Nat):Int))]) (fun g=>(s.zones.l).length - g.1) ⟨0,Yk _ _⟩ ?_;rintro ⟨k1,hk1,hp1⟩ junk;try dsimp only
 apply (Xay);refine q_c ?_ ?_<;>intro hc5;·
  obtain ⟨z,hz⟩:=Ki (l:=s.zones.l) (k:=k1) zc;apply (qbb);refine J0 zja rfl ?_;apply (Xeg);intro b9;apply Xbe∘Kjf∘qa8;refine q_l rfl (Uvc s z _ _ (InR.rule hzR hz) (InR.zroads hzR hz)) ?_;apply (Xbj);refine q_c ?_ ?_<;>intro hc6;·exact zee
  apply (Xbk);exact q_k ⟨k1 + 1,Ya hp1 hz (Vcb zc)⟩
 have hn1:=V9 hp1 zc;refine K5 (Kk (K1 (J8 (Ja (Ji (Ji ?_))))));have hze:Yd s=0:=by rw [Yd,hn1];rfl
 apply qay∘Xbh;refine Jh [(75,.slice _ _ _),(76,.int _ _),(77,.int _ _)] zg fun tq2=>?_;refine q_s ([2,12]++rg 77 13) (fun g:FS (Ywc) (s.persons.l)=>[(77,.int .i64 ((g.1:Nat):Int))]) (fun g=>(s.persons.l).length - g.1) ⟨0,Yk _ _⟩ ?_;rintro ⟨k2,hk2,hp2⟩ junk;try dsimp only
 apply (Xay);refine q_c ?_ ?_<;>intro hc7;·
  obtain ⟨p,hp⟩:=Ki (l:=s.persons.l) (k:=k2) zc;apply (qbb);refine J0 zJa rfl ?_;refine J0 (by first | exact Kw (row:=[_]) tb rfl rfl rfl zB zi ze ze | exact Jn (row:=[_]) tb rfl rfl rfl zh ze ze) rfl ?_;apply (qaq);intro b12;apply Xbe∘Xa7;apply J3 (G:=[_,_,_]) (j:=3) (cj:=84) rfl rfl ze rfl ztb rfl;·exact zJd
  intro junk4;apply (qaf);refine q_c ?_ ?_<;>intro hc8;·apply (Xbr);refine q_i L R ?_;(have e:Yu s=19:=by rw [Yu,Vi (f:=Ywc) hp2 hp (show Ywc p=some 19 from if_pos hc8)];rfl);exact Vrf
  apply (Xbk);exact q_k ⟨k2 + 1,Ya hp2 hp (show Ywc p=none from if_neg zc)⟩
 have hn2:=V9 hp2 zc;apply (Xca);refine q_i L R ?_;have e:Yu s=0:=by rw [Yu,hn2];rfl
 exact Vrf
def Zwc (s:XSite) (m:Arr XMeas) (n t:Int) (L:LB) (R:LS) (hs:InR (Urc s.sensors) R) (hm:InR (V3a m) R) (hok:∀x∈m.l,Uua x) (ht:0≤t∧t≤2147483648):
 Tri Tryz.prog 103 [s.val,m.val,.int .i64 n,.int .i64 t].toArray L R (fun v M U=>v=(Ze s.sensors.l m.l n t).val∧L=M∧R=U):=by
 refine Jd 42 Tryz.call103 Tryz.func103 rfl rfl rfl ?_;apply (Xag);intro b4;apply (qaq);intro b8;apply qaw∘qaa∘Xab;refine q_l rfl (Kca n (s.sensors.l.length:Int) _ _) ?_;apply (Xdd);apply J3 (G:=[_,_,_,_]) (j:=6) (cj:=15) rfl rfl ze rfl ztb rfl;·intro hg7;replace hg7:=qb hg7;exact (qaa∘Xek) qai
 intro junk7;apply (qah);apply J3 (G:=[_,_,_,_,_,_,_]) (j:=12) (cj:=21) rfl rfl ze rfl ztb rfl;·
  intro hg13;replace hg13:=qb hg13;have hmg:=Js (l:=m.l) (k:=n.toNat) default (by (try simp at hg13);omega);apply (Xaj);have hnn:0≤n∧n < m.l.length:=by (try simp at hg13);omega
  exact (Jjg∘Xdt) zUd
 intro junk13;apply (qaf);refine q_c ?_ ?_<;>intro hc0;·apply (qae);refine q_l rfl (V0 _ _) ?_;exact ubW
 have hmg:=Js (l:=m.l) (k:=n.toNat) default zc;have hsg:=Js (l:=s.sensors.l) (k:=n.toNat) default zc;have hmo:=hok _ (yi hmg);apply qcl∘Jrg∘Xcy∘Vve∘Kng∘Xey∘Vve∘Yof∘qbf;refine Kv rfl (Z0e _ _ t _ _ hmo ht) rfl rfl ?_;exact zAe
def Yqc (s:XSite) (m:Arr XMeas) (n t:Int) (L:LB) (R:LS) (hs:InR (Urc s.sensors) R) (hm:InR (V3a m) R) (hok:∀x∈m.l,Uua x) (ht:0≤t∧t≤2147483648):
 Tri Tryz.prog 139 [s.val,m.val,.int .i64 n,.int .i64 t].toArray L R (fun v M U=>v=(Ze s.sensors.l m.l n t).val∧L=M∧R=U):=by
 refine Jd 45 Tryz.call139 Tryz.func139 rfl rfl rfl ?_;apply (Xag);intro b4;apply (qaq);intro b8;apply qaw∘Xcf;apply J3 (G:=[_,_,_,_,_]) (j:=2) (cj:=11) rfl rfl ze rfl ztb rfl;·exact zke
 intro junk3;apply (qah);apply J3 (G:=[_,_,_,_]) (j:=9) (cj:=18) rfl rfl ze rfl ztb rfl;·intro hg10;replace hg10:=qb hg10;exact (qaa∘Xek) qai
 intro junk10;apply (qah);apply J3 (G:=[_,_,_,_,_,_,_]) (j:=15) (cj:=24) rfl rfl ze rfl ztb rfl;·
  intro hg16;replace hg16:=qb hg16;have hmg:=Js (l:=m.l) (k:=n.toNat) default (by (try simp at hg16);omega);apply (Xaj);have hnn:0≤n∧n < m.l.length:=by (try simp at hg16);omega
  exact (Jjg∘Xdt) zUd
 intro junk16;apply (qaf);refine q_c ?_ ?_<;>intro hc0;·apply (qae);refine q_l rfl (Vz _ _) ?_;exact ubW
 have hmg:=Js (l:=m.l) (k:=n.toNat) default zc;have hsg:=Js (l:=s.sensors.l) (k:=n.toNat) default zc;have hmo:=hok _ (yi hmg);apply qcl∘Jrg∘Xcy∘Vve∘Kng∘Xey∘Vve∘Yof∘qbf;refine Kv rfl (Jbd _ _ t _ _ hmo ht) rfl rfl ?_;exact zAe
def Jvd (x:XSpan) (L:LB) (R:LS):
 Tri Tryz.prog 231 [x.val].toArray L R (fun v M U=>v=.int .i64 (K6a x)∧L=M∧R=U):=by
 refine Jd 27 Tryz.call231 Tryz.func231 rfl rfl rfl ?_;apply (Xag);intro b1;apply (qad);refine J6 (Ja (Ji (Jy (Ji (Je ?_)))));apply Xaa∘Xa5∘Xaz;refine q_c ?_ ?_<;>intro hc0;·apply (Xbc);refine q_i L R ?_;exact yc
 apply Xc8∘Xcn;apply Ue (G:=[_,_,_]) (j:=3) (cj:=13) rfl rfl ze rfl ztb rfl;·exact ubE
 intro junk4;apply (Xaz);refine q_c ?_ ?_<;>intro hc1;·apply (Xbc);refine q_i L R ?_;exact yc
 apply qae∘Xa5∘qah;apply J3 (G:=[_,_,_]) (j:=3) (cj:=22) rfl rfl ze rfl ztb rfl;·intro hg4;replace hg4:=qb hg4;exact zge
 intro junk4;apply (Xaz);refine q_c ?_ ?_<;>intro hc2;·apply (Xbc);refine q_i L R ?_;exact yc
 refine Jt (Jg (Ja (Ji (Je ?_))));apply (Xam);refine q_i L R ?_;exact yc
def Vae (c:XCond) (w:XWatch) (x:XSpan) (L:LB) (R:LS):
 Tri Tryz.prog 229 [c.val,w.val,x.val].toArray L R (fun v M U=>v=.int .i64 (if w.over=false then -1 else if Jpa x c.level.cut=1 then 1 else 0)∧L=M∧R=U):=by
 refine Jd 18 Tryz.call229 Tryz.func229 rfl rfl rfl ?_;apply (Xag);intro b3;apply (qax);intro b4;apply (qax);intro b5;apply (qad);refine J6 (Ja (Ji (Jy (Ji (Je ?_)))));apply Xaa∘qb4∘Xaz;refine q_c ?_ ?_<;>intro hc0;·apply (Xbc);refine q_i L R ?_;exact ⟨by rw [if_pos zS],rfl,rfl⟩
 apply qae∘qbe∘Xez;refine q_l rfl (Zlb x c.level.cut _ _) ?_;apply (Xba);refine q_c ?_ ?_<;>intro hc1;·apply (Xbc);refine q_i L R ?_;exact ⟨by rw [if_neg zS,if_pos hc1],rfl,rfl⟩
 refine Jt (Jg (Ja (Ji (Je ?_))));apply (Xam);refine q_i L R ?_;exact ⟨by rw [if_neg zS,if_neg hc1],rfl,rfl⟩
end
end Go.Proofs.YtchfclmokpbldaaGreat
