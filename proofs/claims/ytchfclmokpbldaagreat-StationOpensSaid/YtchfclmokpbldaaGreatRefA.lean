/-
  Sites and their errors, the reference's. By an AI agent; no person has read it.
-/
import Derived.Test.YtchfclmokpbldaaGreatCutB
import Derived.Test.YtchfclmokpbldaaGreatRuleR
set_option linter.all false
set_option maxHeartbeats 4000000
namespace Go.Proofs.YtchfclmokpbldaaGreat
open Go.Aw Go
set_option maxRecDepth 20000
attribute [local irreducible] CJ LJ DJ Tri YV Gives U7 Kb Kp U8 RV Ke OwL.L
section
variable {A B:Prop}
def Yuc(h:A→B:=by exact J0 zzb rfl):=h
def Yqe(h:A→B:=by exact J0 zlb rfl):=h
def Jkf(h:B:=by exact ⟨by rw [Koc (n:=s.air.mine.roads.l.length) zc zc k zc (by rw [V8];omega)],rfl,rfl⟩):=h
def Z3f(h:A→B:=by exact J0 zxb rfl):=h
def U4f(h:A→B:=by exact Kg tb [0,1,2,3,4,5,6,7] ([Blk.mk b1 _ _]) Kn zf zk):=h
def Jvg(h:A→B:=by exact Kq zxb rfl rfl rfl):=h
def Ypf(h:A→B:=by exact J0 zJa rfl):=h
def Kcg(h:B:=by exact ⟨by rw [K7,if_neg zc,if_neg zc,if_neg zc,if_neg zc,if_neg zc,e],rfl,rfl⟩):=h
end
def Jec {x:XSens} (h:Vx x=0):0≤x.target:=by
 rw [Vx] at h;split at h;·omega
 split at h;·rename_i h2;rw [Jsa] at h2;omega
 ·omega
def Jpc (s:XSite) (L:LB) (R:LS) (hs:InR (Urc s.sensors) R) (hn:s.sensors.l.length≤64):
 Tri Tryz.prog 203 [s.val].toArray L R (fun v M U=>v=.int .i64 (Uf s.air s.sensors.l)∧L=M∧R=U):=by
 refine Jd 62 Tryz.call203 Tryz.func203 rfl rfl rfl ?_;apply (Xag);intro b1;apply Xau∘Xat;refine Jh [(1,.pointer _),(3,.int _ _)] zg fun tq0=>?_;refine q_s (rg 2 60) (fun g:FSR (Yx s.air s.sensors.l) (s.sensors.l.length)=>[(3,.int .i64 ((g.1:Nat):Int))]) (fun g=>(s.sensors.l.length) - g.1) ⟨0,Yh _ _⟩ ?_;rintro ⟨k0,hk0,hp0⟩ junk;try dsimp only
 apply (Xbm);refine q_c ?_ ?_<;>intro hc0;·
  have hxg:=Js (l:=s.sensors.l) (k:=k0) default zc;obtain ⟨x,hx⟩:∃x,x=s.sensors.l.getD k0 default:=⟨_,rfl⟩;rw [← hx] at hxg;apply (Xcz);refine J0 zP rfl ?_;refine J0 zia rfl ?_;apply (qaq);intro b4;apply Xbi∘Z3f;refine q_l rfl (Zua x _ _) ?_;apply (Xbj);refine q_c ?_ ?_<;>intro hc1;·exact zbg
  have htg:=Jec (x:=x) zc;apply (qbv);iterate 3 apply (qab)
  apply Xcc∘Xeh∘Xa6;refine Vu [6,33,34,35,36] ((⟨fun g=>[(6,.int .i64 g.1)],fun _=>⟨b4,x.cells,88⟩ :: ⟨b1,s.cells,38⟩ :: L,fun _=>R,fun _=>0⟩:Head {n:Int // n=if x.kind=5 then (s.air.fans.l.length:Int) else s.air.mine.roads.l.length})) ?_ ?_;·
   skip
   refine q_c ?_ ?_<;>intro hc2;·apply qay∘Xcg∘Xce;refine q_j ⟨_,?_⟩;(repeat' split) <;> first | rfl | omega
   refine Jt ?_;refine q_j ⟨_,?_⟩;(repeat' split) <;> first | rfl | omega
  rintro ⟨of1,hof1⟩ junk;try dsimp only
  apply qbi∘Xaa∘Xa6;refine Vu [6,40,41,42,43] ((⟨fun g=>[(6,.int .i64 g.1)],fun _=>⟨b4,x.cells,88⟩ :: ⟨b1,s.cells,38⟩ :: L,fun _=>R,fun _=>0⟩:Head {n:Int // n=Jqa s.air x})) ?_ ?_;·
   skip
   refine q_c ?_ ?_<;>intro hc3;·apply qay∘Xcg∘Xce;exact ubj
   refine Jt ?_;exact ubj
  rintro ⟨of,hof⟩ junk;try dsimp only
  apply qbi∘Xaf∘Xdg;refine q_c ?_ ?_<;>intro hc4;·apply (Xco);refine q_i L R ?_;have h:=Ul hp0 zc (show Yx s.air s.sensors.l k0=some 9 by rw [Yx,← hx,if_neg zc,if_pos (by rw [← hof];omega)]);exact zMe
  apply qbv∘Xat;refine Uh (rg 2 60) zG [(3,.int _ _),(4,.pointer _),(7,.int _ _)] zg fun tq1=>?_;refine q_s ([2,7]++rg 48 14) (fun g:{j:Nat // j≤k0∧∀m:Nat,m < j→(s.sensors.l.getD m default).address≠x.address}=>[(7,.int .i64 ((g.1:Nat):Int))]) (fun g=>k0 - g.1) (⟨0,by omega,fun m hm=>by omega⟩) ?_;rintro ⟨j,hj,hal⟩ junk;try dsimp only
  apply (Xea);refine q_c ?_ ?_<;>intro hc5;·
   have hjg:=Js (l:=s.sensors.l) (k:=j) default zc;refine Jt (Ja (Ji (Jy (Ji ?_))));refine Kg tb [0,1,2,3,4,5,6,7,8] ([Blk.mk b4 _ _,Blk.mk b1 _ _]) Kn zf zk ?_;apply (Xa8);refine Kq zX rfl rfl rfl ?_;apply qce∘qbl∘Xae;refine Kq zvc rfl rfl rfl ?_;apply (qbu);refine q_c ?_ ?_<;>intro hc6;·apply (Xac);refine J6 (Ja (Ud (Jv (J1 (K9 (Jv (Jv (J1 (K9 (Jv (J1 ?_)))))))))));refine q_i L R ?_;have h:=Ul hp0 zc (show Yx s.air s.sensors.l k0=some 9 by rw [Yx,← hx,if_neg zc,if_neg (fun h=>h (by rw [← hof];omega)),if_pos ⟨j,by omega,hc6⟩]);exact zMe
   apply (Xa4);exact ua8
  refine K5 (Kk (K1 (J8 (Jg (Ja (Je ?_))))));apply (Xak);exact q_k ⟨k0 + 1,Va hp0 zc (Zqb hx zc (by rw [← hof];omega) (fun m hm=>hal m zc))⟩
 exact zBf
def Upd (s:XSite) (c:XCond) (L:LB) (R:LS) (hs:InR (Urc s.sensors) R) (hn:s.sensors.l.length≤64):
 Tri Tryz.prog 204 [s.val,c.val].toArray L R (fun v M U=>v=.int .i64 (J7 s.sensors.l s.air.mine.roads.l.length c)∧L=M∧R=U):=by
 refine Jd 67 Tryz.call204 Tryz.func204 rfl rfl rfl ?_;apply (Xag);intro b2;apply (qax);intro b3;apply (Xeh);refine J6 (Ja (Jy (Ji (Ji (Je ?_)))));apply (Xba);refine q_c ?_ ?_<;>intro hc0;·refine Jt (Ja ?_);exact uaa
 apply (Xbx);refine q_c ?_ ?_<;>intro hc1;·refine Jt (Ja ?_);exact uaa
 apply (Xbx);refine q_c ?_ ?_<;>intro hc2;·refine Jt (Ja ?_);exact uaa
 apply qay∘Xba;exact uaa
def Und (s:XSite) (z:XZone) (L:LB) (R:LS) (hr:InR (Ykc z.rule) R) (hz:InR (isl z.roads) R):
 Tri Tryz.prog 205 [s.val,z.val].toArray L R (fun v M U=>v=.int .i64 (Yi s.conds.l.length s.air.mine.roads.l.length z)∧L=M∧R=U):=by
 refine Ua Tryz.call205 hz fun hzn=>?_;refine Jd 78 Tryz.call205 Tryz.func205 rfl rfl rfl ?_;apply (Xag);intro b2;apply (qax);intro b3;apply Xeh∘Xab;refine q_l rfl (U8b z.rule s.conds.l.length _ _ hr) ?_;apply (Xbj);refine q_c ?_ ?_<;>intro hc0;·apply (Xcx);refine q_i L R ?_;exact ⟨by rw [Yi,if_pos hc0],rfl,rfl⟩
 apply qbo∘Xa7;apply J3 (G:=[_,_,_]) (j:=3) (cj:=19) rfl rfl ze rfl ztb rfl;·exact zJd
 intro junk4;apply (qah);apply J3 (G:=[_,_,_]) (j:=8) (cj:=24) rfl rfl ze rfl ztb rfl;·exact zde
 intro junk9;apply (qah);apply J3 (G:=[_,_,_]) (j:=13) (cj:=29) rfl rfl ze rfl ztb rfl;·exact zQf
 intro junk14;apply (qaf);refine q_c ?_ ?_<;>intro hc1;·exact ubN
 apply (Xcj);refine Jh [(2,.pointer _),(3,.pointer _),(6,.int _ _)] zg fun tq0=>?_;refine q_s ([4,6]++rg 34 44) (fun g:{k:Nat // k≤z.roads.l.length∧∀j:Nat,j < k→¬ V8 s.air.mine.roads.l.length z.roads.l j}=>[(6,.int .i64 ((g.1:Nat):Int))]) (fun g=>z.roads.l.length - g.1) (⟨0,by omega,fun j hj=>by omega⟩) ?_;rintro ⟨k,hk,hal⟩ junk;try dsimp only
 apply (Xbm);refine q_c ?_ ?_<;>intro hc2;·
  have hzg:=Js (l:=z.roads.l) (k:=k) 0 zc;refine Jt (Ja (Ji (Jy (Ji ?_))));refine Kg tb [0,1,2,3,4,5,6,7,8,9,10,11,12,13,14,15,16,17,18,19,20,21,22,23,24,25,26,27,28,29,30,31,32,33,34,35,36] ([Blk.mk b3 _ _,Blk.mk b2 _ _]) Kn zf zk ?_;apply Xev∘qbl;refine Kq zBc rfl rfl rfl ?_;apply (qb2);refine U9 (k:=47) ztb (fun hg6=>?_) (fun hg6=>?_);·replace hg6:=qb hg6;(iterate 11 apply (qap));exact (Xb9) zlf
  replace hg6:=qb hg6;apply Xev∘qbl;iterate 3 apply (qal)
  apply (qat);refine Kq zHb rfl rfl rfl ?_;refine Kq zJc rfl rfl rfl ?_;apply (Xb9);refine U9 (k:=60) ztb (fun hg19=>?_) (fun hg19=>?_);·replace hg19:=qb hg19;exact zlf
  replace hg19:=qb hg19;apply (qao);refine Kq zKc rfl rfl rfl ?_;apply (qb2);refine U9 (k:=63) ztb (fun hg22=>?_) (fun hg22=>?_);·
   replace hg22:=qb hg22;have hzg2:=Js (l:=z.roads.l) (k:=k - 1) 0 zc;apply Xev∘qbl∘Xa8∘qb7;refine Kq zUa rfl rfl rfl ?_;apply (qbl);refine Kq (Vbd rfl rfl) rfl rfl rfl ?_;apply qbp∘Xbt;refine q_c ?_ ?_<;>intro hc3;·apply (Xbr);refine q_i L R ?_;exact Jkf
   apply (Xa4);exact uaF
  replace hg22:=qb hg22;iterate 12 apply (qap)
  apply qbp∘Xbt;refine Vy rfl ?_;apply (Xa4);exact uaF
 exact zCf
def Uqd (s:XSite) (L:LB) (R:LS) (hs:SiteR s R):
 Tri Tryz.prog 121 [s.val].toArray L R (fun v M U=>v=.int .i64 (K7 s)∧L=M∧R=U):=by
 have hsR:=hs.sensors;have hcR:=hs.conds;have hzR:=hs.zones;have hpR:=hs.persons;refine Jd 100 Tryz.call121 Tryz.func121 rfl rfl rfl ?_;apply (Xag);intro b1;apply Xau∘qab∘qa8;refine q_l rfl (Z2 s.air _ _ hs.air) ?_;apply (Xbj);refine q_c ?_ ?_<;>intro hc0;·apply (Xcx);refine q_i L R ?_;exact ⟨by rw [K7,if_pos hc0],rfl,rfl⟩
 apply qbo∘Xb5∘qah;apply J3 (G:=[_,_,_,_]) (j:=4) (cj:=20) rfl rfl ze rfl ztb rfl;·exact zVd
 intro junk5;apply (qah);apply J3 (G:=[_,_,_,_]) (j:=10) (cj:=26) rfl rfl ze rfl ztb rfl;·intro hg11;replace hg11:=qb hg11;exact (Xb5) qai
 intro junk11;apply (qah);apply J3 (G:=[_,_,_,_]) (j:=16) (cj:=32) rfl rfl ze rfl ztb rfl;·intro hg17;replace hg17:=qb hg17;exact (Xb5) qai
 intro junk17;apply (qaf);refine q_c ?_ ?_<;>intro hc1;·exact ubO
 apply qbo∘Z3f;refine q_l rfl (Jpc s _ _ hsR zc) ?_;apply (Xbj);refine q_c ?_ ?_<;>intro hc2;·exact zrf
 apply (Xcj);refine Jh [(1,.pointer _),(5,.int _ _)] zg fun tq0=>?_;refine q_s ([2,5,6]++rg 43 17) (fun g:FS (U3e s) (s.conds.l)=>[(5,.int .i64 ((g.1:Nat):Int))]) (fun g=>(s.conds.l).length - g.1) ⟨0,Yk _ _⟩ ?_;rintro ⟨k0,hk0,hp0⟩ junk;try dsimp only
 apply (Xbm);refine q_c ?_ ?_<;>intro hc3;·
  obtain ⟨c,hc⟩:=Ki (l:=s.conds.l) (k:=k0) zc;refine Jt (Ja (Ji (Jy (Ji ?_))));apply U4f∘Jvg∘Xa8;refine Kq zP rfl rfl rfl ?_;refine Kq zRa rfl rfl rfl ?_;refine q_d rfl (Upd s c _ _ hsR zc) ?_;apply (qcg);refine J9 (Ja (Ji (Je ?_)));apply qaa∘Xaw;refine q_c ?_ ?_<;>intro hc4;·exact zhe
  apply (Xa4);exact q_k ⟨k0 + 1,Ya hp0 hc (Vcb zc)⟩
 have hn0:=V9 hp0 zc;refine K5 (Kk (K1 (J8 (Ja (Ji (Ji ?_))))));have hce:Zv s=0:=by rw [Zv,hn0];rfl
 apply (Xe2);refine Jh [(1,.pointer _),(7,.int _ _)] zg fun tq1=>?_;refine q_s ([2,7,8]++rg 60 17) (fun g:FS (Yae s) (s.zones.l)=>[(7,.int .i64 ((g.1:Nat):Int))]) (fun g=>(s.zones.l).length - g.1) ⟨0,Yk _ _⟩ ?_;rintro ⟨k1,hk1,hp1⟩ junk;try dsimp only
 apply (Xbm);refine q_c ?_ ?_<;>intro hc5;·
  obtain ⟨z,hz⟩:=Ki (l:=s.zones.l) (k:=k1) zc;refine Jt (Ja (Ji (Jy (Ji ?_))));apply U4f∘Jvg∘Xa8;refine Kq zja rfl rfl rfl ?_;apply (qdp);refine q_d rfl (Und s z _ _ (InR.rule hzR hz) (InR.zroads hzR hz)) ?_;apply (qcg);refine J9 (Ja (Ji (Je ?_)));apply qaa∘Xaw;refine q_c ?_ ?_<;>intro hc6;·exact zee
  apply (Xa4);exact q_k ⟨k1 + 1,Ya hp1 hz (Vcb zc)⟩
 have hn1:=V9 hp1 zc;refine K5 (Kk (K1 (J8 (Ja (Ji (Ji ?_))))));have hze:Yd s=0:=by rw [Yd,hn1];rfl
 apply (Xe2);refine Jh [(1,.pointer _),(9,.int _ _)] zg fun tq2=>?_;refine q_s ([2,9]++rg 77 23) (fun g:FS (Ywc) (s.persons.l)=>[(9,.int .i64 ((g.1:Nat):Int))]) (fun g=>(s.persons.l).length - g.1) ⟨0,Yk _ _⟩ ?_;rintro ⟨k2,hk2,hp2⟩ junk;try dsimp only
 apply (Xbm);refine q_c ?_ ?_<;>intro hc7;·
  obtain ⟨p,hp⟩:=Ki (l:=s.persons.l) (k:=k2) zc;apply Xcz∘Ypf∘Xbd∘Xas;apply J3 (G:=[_,_,_,_,_,_,_]) (j:=7) (cj:=91) rfl rfl ze rfl ztb rfl;·intro hg8;replace hg8:=qb hg8;exact (Xaf∘Ypf∘Xbd) zpf
  intro junk8;apply (qaf);refine q_c ?_ ?_<;>intro hc8;·apply (Xbr);refine q_i L R ?_;(have e:Yu s=19:=by rw [Yu,Vi (f:=Ywc) hp2 hp (show Ywc p=some 19 from if_pos hc8)];rfl);exact Kcg
  apply (Xa4);exact q_k ⟨k2 + 1,Ya hp2 hp (show Ywc p=none from if_neg zc)⟩
 have hn2:=V9 hp2 zc;apply (Xca);refine q_i L R ?_;have e:Yu s=0:=by rw [Yu,hn2];rfl
 exact Kcg
end Go.Proofs.YtchfclmokpbldaaGreat
