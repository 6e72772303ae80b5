/-
  Merged texts. By an AI agent.
-/
import Derived.Test.YtchfclmokpbldaaGreatWinR
import Derived.Test.YtchfclmokpbldaaGreatRule
import Derived.Test.YtchfclmokpbldaaGreatCongrS
set_option linter.all false
set_option maxHeartbeats 4000000
set_option maxRecDepth 20000
namespace Go.Proofs.YtchfclmokpbldaaGreat
open Go.Aw Go
section
attribute [local irreducible] CJ LJ DJ Tri YV Gives U0 J3 Kj Uz RV J5 OwL.L
section
variable {A B:Prop}
def Krf(h:A→B:=by exact Jx zob rfl):=h
def V4f(h:B:=by exact ⟨by rw [K6,if_neg za,if_neg za,if_neg za,if_neg za,if_neg za,e],rfl,rfl⟩):=h
def Z3f(h:A→B:=by exact Ku zab rfl rfl rfl rfl):=h
end
def V8d {e:Int} (h:e=0):nzO e=none:=by rw [nzO,if_pos h]
def K8c {e:Int} (h:e≠0):nzO e=some e:=by rw [nzO,if_neg h]
abbrev J8g (s:XSite):XCond→Option Int:=fun c=>nzO (Ks s.sensors.l s.air.mine.roads.l.length c)
abbrev Jzg (s:XSite):XZone→Option Int:=fun z=>nzO (Yx s.conds.l.length s.air.mine.roads.l.length z)
abbrev Ybe:Int→Option Int:=fun p=>if p < 1∨3 < p then some 19 else none
def Kja (s:XSite) (L:LB) (R:LS) (hs:SiteR s R):
 Tri Tryz.prog 74 [s.val].toArray L R (fun v M U=>v=.int .i64 (K6 s)∧L=M∧R=U):=by
 have hsR:=hs.sensors;have hcR:=hs.conds;have hzR:=hs.zones;have hpR:=hs.persons;refine Jj 90 Tryz.call74 Tryz.func74 rfl rfl rfl ?_;apply (Xaf);intro b1;apply Xap∘qab∘qa8;refine q_l rfl (Z6 s.air _ _ hs.air) ?_;apply (Xba);refine q_c ?_ ?_<;>intro hc0;·apply (Xdl);refine q_i L R ?_;exact ⟨by rw [K6,if_pos hc0],rfl,rfl⟩
 apply qbo∘Xcp∘qah;apply J9 (G:=[_,_,_,_]) (j:=4) (cj:=23) rfl rfl zb rfl zfb rfl;·exact ztd
 intro junk5;apply (qah);apply J9 (G:=[_,_,_,_]) (j:=10) (cj:=29) rfl rfl zb rfl zfb rfl;·intro hg11;replace hg11:=qb hg11;exact (Xcp) qai
 intro junk11;apply (qah);apply J9 (G:=[_,_,_,_]) (j:=16) (cj:=35) rfl rfl zb rfl zfb rfl;·intro hg17;replace hg17:=qb hg17;exact (Xcp) qai
 intro junk17;apply (qaf);refine q_c ?_ ?_<;>intro hc1;·apply (Xa6);refine q_i L R ?_;exact ⟨by rw [K6,if_neg za,if_pos za],rfl,rfl⟩
 apply qbo∘Krf;refine q_l rfl (Veb s _ _ hsR za) ?_;apply (Xba);refine q_c ?_ ?_<;>intro hc2;·apply (Xdl);refine q_i L R ?_;exact ⟨by rw [K6,if_neg za,if_neg za,if_pos hc2],rfl,rfl⟩
 apply (Xco);refine Jp [(1,.pointer _),(47,.slice _ _ _),(48,.int _ _),(49,.int _ _)] zh fun tq0=>?_;refine q_s ([2,6,7]++rg 49 11) (fun g:FS (J8g s) (s.conds.l)=>[(49,.int .i64 ((g.1:Nat):Int))]) (fun g=>(s.conds.l).length - g.1) ⟨0,K1a _ _⟩ ?_;rintro ⟨k0,hk0,hp0⟩ junk;try dsimp only
 apply (Xak);refine q_c ?_ ?_<;>intro hc3;·
  obtain ⟨c,hc⟩:=Ky (l:=s.conds.l) (k:=k0) za;apply (qbb);refine Jx zaa rfl ?_;refine Jx zXa rfl ?_;apply (qaq);intro b6;apply Xay∘Krf;refine Jx (Jm (row:=[_,_,_,_,_,_]) tb rfl rfl rfl zf zb zb) rfl ?_;refine q_l rfl (Vpc s c _ _ hsR za) ?_;apply (Xba);refine q_c ?_ ?_<;>intro hc4;·apply Xdj∘qbt;refine q_i L R ?_;(have e:Kla s=Ks s.sensors.l s.air.mine.roads.l.length c:=by rw [Kla,Zm (f:=J8g s) hp0 hc (K8c hc4)];rfl);exact ⟨by rw [K6,if_neg za,if_neg za,if_neg za,if_pos (by rw [e];exact hc4),e],rfl,rfl⟩
  apply (Xax);exact q_k ⟨k0 + 1,Kba hp0 hc (V8d za)⟩
 have hn0:=Kaa hp0 za;refine Ug (Kw (Ux (Kd (Jc (Jr (Jr ?_))))));have hce:Kla s=0:=by rw [Kla,hn0];rfl
 apply qay∘Xaw;refine Jp [(1,.pointer _),(61,.slice _ _ _),(62,.int _ _),(63,.int _ _)] zh fun tq1=>?_;refine q_s ([2,9,10]++rg 63 11) (fun g:FS (Jzg s) (s.zones.l)=>[(63,.int .i64 ((g.1:Nat):Int))]) (fun g=>(s.zones.l).length - g.1) ⟨0,K1a _ _⟩ ?_;rintro ⟨k1,hk1,hp1⟩ junk;try dsimp only
 apply (Xak);refine q_c ?_ ?_<;>intro hc5;·
  obtain ⟨z,hz⟩:=Ky (l:=s.zones.l) (k:=k1) za;apply (qbb);refine Jx zJa rfl ?_;apply (Xdb);intro b9;apply Xay∘Krf∘qa8;refine q_l rfl (U4c s z _ _ (InR.rule hzR hz) (InR.zroads hzR hz)) ?_;apply (Xba);refine q_c ?_ ?_<;>intro hc6;·apply Xdj∘qbt;refine q_i L R ?_;(have e:Y8 s=Yx s.conds.l.length s.air.mine.roads.l.length z:=by rw [Y8,Zm (f:=Jzg s) hp1 hz (K8c hc6)];rfl);exact ⟨by rw [K6,if_neg za,if_neg za,if_neg za,if_neg za,if_pos (by rw [e];exact hc6),e],rfl,rfl⟩
  apply (Xax);exact q_k ⟨k1 + 1,Kba hp1 hz (V8d za)⟩
 have hn1:=Kaa hp1 za;refine Ug (Kw (Ux (Kd (Jc (Jr (Jr ?_))))));have hze:Y8 s=0:=by rw [Y8,hn1];rfl
 apply qay∘Xaw;refine Jp [(75,.slice _ _ _),(76,.int _ _),(77,.int _ _)] zh fun tq2=>?_;refine q_s ([2,12]++rg 77 13) (fun g:FS (Ybe) (s.persons.l)=>[(77,.int .i64 ((g.1:Nat):Int))]) (fun g=>(s.persons.l).length - g.1) ⟨0,K1a _ _⟩ ?_;rintro ⟨k2,hk2,hp2⟩ junk;try dsimp only
 apply (Xak);refine q_c ?_ ?_<;>intro hc7;·
  obtain ⟨p,hp⟩:=Ky (l:=s.persons.l) (k:=k2) za;apply (qbb);refine Jx zKa rfl ?_;refine Jx (by first | exact Kz (row:=[_]) tb rfl rfl rfl zt zg zb zb | exact Jm (row:=[_]) tb rfl rfl rfl zf zb zb) rfl ?_;apply (qaq);intro b12;apply Xay∘Xbc;apply J9 (G:=[_,_,_]) (j:=3) (cj:=84) rfl rfl zb rfl zfb rfl;·exact zcd
  intro junk4;apply (qaf);refine q_c ?_ ?_<;>intro hc8;·apply (Xby);refine q_i L R ?_;(have e:Jia s=19:=by rw [Jia,Zm (f:=Ybe) hp2 hp (show Ybe p=some 19 from if_pos hc8)];rfl);exact V4f
  apply (Xax);exact q_k ⟨k2 + 1,Kba hp2 hp (show Ybe p=none from if_neg za)⟩
 have hn2:=Kaa hp2 za;apply (Xca);refine q_i L R ?_;have e:Jia s=0:=by rw [Jia,hn2];rfl
 exact V4f
def Zic (s:XSite) (m:Arr XMeas) (n t:Int) (L:LB) (R:LS) (hs:InR (Jme s.sensors) R) (hm:InR (V5 m) R) (hok:∀x∈m.l,Uca x) (ht:0≤t∧t≤2147483648):
 Tri Tryz.prog 103 [s.val,m.val,.int .i64 n,.int .i64 t].toArray L R (fun v M U=>v=(J5a s.sensors.l m.l n t).val∧L=M∧R=U):=by
 refine Jj 42 Tryz.call103 Tryz.func103 rfl rfl rfl ?_;apply (Xaf);intro b4;apply (qaq);intro b8;apply qaw∘qaa∘Xab;refine q_l rfl (Kca n (s.sensors.l.length:Int) _ _) ?_;apply (Xce);apply J9 (G:=[_,_,_,_]) (j:=6) (cj:=15) rfl rfl zb rfl zfb rfl;·intro hg7;replace hg7:=qb hg7;exact (qaa∘Xaq) zjd
 intro junk7;apply (qah);apply J9 (G:=[_,_,_,_,_,_,_]) (j:=12) (cj:=21) rfl rfl zb rfl zfb rfl;·
  intro hg13;replace hg13:=qb hg13;have hmg:=Jw (l:=m.l) (k:=n.toNat) default (by (try simp at hg13);omega);apply (Xat);have hnn:0≤n∧n < m.l.length:=by (try simp at hg13);omega
  refine Jx zab rfl ?_;exact (Xbv∘qaa) zhd
 intro junk13;apply (qaf);refine q_c ?_ ?_<;>intro hc0;·apply (qae);refine q_l rfl (Ub _ _) ?_;apply qak∘qbh;refine q_r L R zDc ?_;exact ⟨by rw [J5a,if_neg za],rfl,rfl⟩
 have hmg:=Jw (l:=m.l) (k:=n.toNat) default za;have hsg:=Jw (l:=s.sensors.l) (k:=n.toNat) default za;have hmo:=hok _ (yj hmg);apply (qcl);refine Kh tb [] [0,1,2,3,4,5,6,7,8,9,10] [11] ([Blk.mk b8 _ _,Blk.mk b4 _ _]) _ K3 zc zi (by (repeat (first | apply List.Sublist.cons (a:=Blk.mk b8 _ _) | apply List.Sublist.cons_cons));exact yx _) ?_;apply Xdc∘Z3f;refine Ku zZ rfl rfl rfl rfl ?_;apply Xdd∘Z3f;refine Ku zFa rfl rfl rfl rfl ?_;apply (qbf);refine Up rfl (J3f _ _ t _ _ hmo ht) rfl rfl ?_;rintro v M U ⟨rfl,rfl,rfl⟩;refine ⟨zi,zw,?_⟩;apply (Xch);refine Jz (Jc (U4 ?_));refine q_r L R zDc ?_;exact ⟨by rw [J5a,if_pos za],rfl,rfl⟩
def Jtd (x:XSpan) (L:LB) (R:LS):
 Tri Tryz.prog 231 [x.val].toArray L R (fun v M U=>v=.int .i64 (Uka x)∧L=M∧R=U):=by
 refine Jj 27 Tryz.call231 Tryz.func231 rfl rfl rfl ?_;apply (Xaf);intro b1;apply (qad);refine J6 (Jc (Jr (Km (Jr (Jh ?_)))));apply Xaa∘Xa5∘Xas;refine q_c ?_ ?_<;>intro hc0;·apply (Xa9);refine q_i L R ?_;exact yc
 apply qae∘Xbj∘qah;apply Ui (G:=[_,_,_]) (j:=3) (cj:=13) rfl rfl zb rfl zfb rfl;·exact zGd
 intro junk4;apply (Xas);refine q_c ?_ ?_<;>intro hc1;·apply (Xa9);refine q_i L R ?_;exact yc
 apply qae∘Xa5∘qah;apply J9 (G:=[_,_,_]) (j:=3) (cj:=22) rfl rfl zb rfl zfb rfl;·intro hg4;replace hg4:=qb hg4;exact zsd
 intro junk4;apply (Xas);refine q_c ?_ ?_<;>intro hc2;·apply (Xa9);refine q_i L R ?_;exact yc
 refine Ka (Jk (Jc (Jr (Jh ?_))));apply (Xah);refine q_i L R ?_;exact yc
def Yoe (c:XCond) (w:XWatch) (x:XSpan) (L:LB) (R:LS):
 Tri Tryz.prog 229 [c.val,w.val,x.val].toArray L R (fun v M U=>v=.int .i64 (if w.over=false then -1 else if Zp x c.level.cut=1 then 1 else 0)∧L=M∧R=U):=by
 refine Jj 18 Tryz.call229 Tryz.func229 rfl rfl rfl ?_;apply (Xaf);intro b3;apply (qax);intro b4;apply (qax);intro b5;apply (qad);refine J6 (Jc (Jr (Km (Jr (Jh ?_)))));apply Xaa∘qb4∘Xas;refine q_c ?_ ?_<;>intro hc0;·apply (Xa9);refine q_i L R ?_;exact ⟨by rw [if_pos zF],rfl,rfl⟩
 apply qae∘qbe∘Xdm;refine q_l rfl (Z0b x c.level.cut _ _) ?_;apply (Xa4);refine q_c ?_ ?_<;>intro hc1;·apply (Xa9);refine q_i L R ?_;exact ⟨by rw [if_neg zF,if_pos hc1],rfl,rfl⟩
 refine Ka (Jk (Jc (Jr (Jh ?_))));apply (Xah);refine q_i L R ?_;exact ⟨by rw [if_neg zF,if_neg hc1],rfl,rfl⟩
end
section
attribute [local irreducible] CJ LJ DJ Tri YV Gives U0 J3 Kj Uz RV J5 OwL.L
section
variable {A B:Prop}
def Y6e(h:A→B:=by exact Ku zec rfl rfl rfl rfl):=h
def U0f(h:A→B:=by exact Jx (by first | exact Jf tb rfl rfl rfl rfl zt (i:=x.cond.toNat) zk za | exact Jl tb rfl rfl rfl rfl (i:=x.cond.toNat) zk za) rfl):=h
def Jbg(h:A→B:=by exact Jx zKc rfl):=h
def Y6f(h:A→B:=by exact Jx zec rfl):=h
def Yqf(h:A→B:=by exact Kh tb [] [0,1,2,3,4,5,6,7,8,9,10,11,12,13] [14] ((⟨b7,XNode.cells x,172⟩ :: ((⟨.own b13 l.l.length [],vs⟩:OwL Int).L 3 Jo ++ []))) _ K3 zc zi yd):=h
def J1g(h:A→B:=by exact Ku zJc rfl rfl rfl rfl):=h
def Y7f(h:A→B:=by exact Ku (Jv tb ((⟨.own b13 l.l.length [],vs⟩:OwL Int)) _ rfl rfl ((show _=Value.slice _ _ _ from rfl).trans (Uq hvl)) rfl zg (i:=x.right.toNat) zk zu) rfl rfl rfl rfl):=h
def Zgf(h:A→B:=by exact Ku zKc rfl rfl rfl rfl):=h
end
def Zo (l:List XNode) (vals:List Int) (k:Nat):List Int:=Ul l vals k ++ List.replicate (l.length - k) 0
def Vhf {l:List XNode} {vals:List Int} {k:Nat} (h:k≤l.length):(Zo l vals k).length=l.length:=by rw [Zo,yo,Yh,yra];omega
def Vcf {l:List XNode} {vals:List Int} {k:Nat} {v:Int} (hk:k < l.length) (h:v=Upa vals (Ul l vals k) (l.getD k default)):(Zo l vals k).set k v=Zo l vals (k + 1):=by have hl:=Yh (l:=l) (vals:=vals) k;rw [Zo,Zo,Ul,← h,show l.length - k=(l.length - (k + 1)) + 1 by omega,yob,List.set_append_right k v za,hl,yec,ysb];simp
def Zfe {l:List XNode} {vals:List Int} {k:Nat} (hk:k < l.length) (h:Upa vals (Ul l vals k) (l.getD k default)=0):Zo l vals k=Zo l vals (k + 1):=by rw [Zo,Zo,Ul,h,show l.length - k=(l.length - (k + 1)) + 1 by omega,yob];simp
def Ugd {l:List XNode} {vals:List Int} {k j:Nat} (h:j < k):(Zo l vals k)[j]?=some ((Ul l vals k).getD j 0):=by have hl:=Yh (l:=l) (vals:=vals) k;rw [Zo,yV za];exact Jw 0 za
def Zze {l:List XNode} {vals:List Int}:Zo l vals l.length=Ul l vals l.length:=by rw [Zo,yec];simp
def Ube {vals v:List Int} {x:XNode} (h:x.kind=1):Upa vals v x=Zyc vals x.cond:=by rw [Upa,if_pos h]
def Vrf {vals v:List Int} {x:XNode} (h:x.kind=2):Upa vals v x= -(v.getD x.left.toNat 0):=by rw [Upa,if_neg za,if_pos h]
def Uef {vals v:List Int} {x:XNode} (h:x.kind=3):Upa vals v x=min (v.getD x.left.toNat 0) (v.getD x.right.toNat 0):=by rw [Upa,if_neg za,if_neg za,if_pos h]
def Urf {vals v:List Int} {x:XNode} (h1:¬ x.kind=1) (h2:¬ x.kind=2) (h3:¬ x.kind=3):Upa vals v x=max (v.getD x.left.toNat 0) (v.getD x.right.toNat 0):=by rw [Upa,if_neg h1,if_neg h2,if_neg h3]
def Kgc (l:Arr XNode) (vals:Arr Int) (L:LB) (R:LS) (hl:InR (V1e l) R) (hv:InR (isl vals) R):
 Tri Tryz.prog 160 [l.val,vals.val].toArray L R (fun v M U=>v=.int .i64 (Kia l.l vals.l)∧L=M∧R=U):=by
 refine Jj 102 Tryz.call160 Tryz.func160 rfl rfl rfl ?_;apply Xac∘qaw∘qbm;refine q_l rfl (Y5b l _ _ hl) ?_;apply (Xbb);refine q_c ?_ ?_<;>intro hc0;·apply (Xa6);refine q_i L R ?_;exact ⟨by rw [Kia,if_neg zF],rfl,rfl⟩
 have hr:Ufa l.l=true:=by simpa using hc0
 have hln:=(K9b.1 hr).1;apply qbv∘Xaq∘qc7;rintro v M U ⟨b13,rfl,rfl,hR13⟩;replace hR13:=hR13.symm;subst hR13;apply qc4∘qco;refine Vf (Y1 (f:=Jo) (x:=0) rfl _) ?_;apply qay∘Xbt;refine Jp [(1,.slice _ _ _),(5,.slice _ _ _),(14,.slice _ _ _),(15,.int _ _),(16,.int _ _)] zh fun tq0=>?_;refine q_p ([6,7]++rg 16 80) ((⟨fun g=>[(16,.int .i64 ((g.1.1:Nat):Int))],fun g=>(⟨.own b13 l.l.length [],g.1.2⟩:OwL Int).L 3 Jo ++ L,fun _=>R,fun g=>l.l.length - g.1.1⟩:Head {g:Nat×List Int // g.1≤l.l.length∧g.2=Zo l.l vals.l g.1})) (⟨(0,List.replicate l.l.length 0),by dsimp only;omega,rfl⟩) ?_;rintro ⟨⟨k,vs⟩,hk,hvs⟩ junk;try dsimp only
 dsimp only at hk hvs;have hvl:vs.length=l.l.length:=by rw [hvs];exact Vhf hk
 have hvk:(⟨.own b13 l.l.length [],vs⟩:OwL Int).ok 1 Jo:=by have:=Yr (f:=Jo) (wd:=1) (b:=b13) (n:=l.l.length) (x:=0) Yd zE;exact OwL.len_ok Yd this (by simp;exact hvl)
 apply (Xak);refine q_c ?_ ?_<;>intro hc1;·
  have hxg:=Jw (l:=l.l) (k:=k) default za;have hno:=Jgd hr k za;have hvg:=Jw (l:=vs) (k:=k) 0 za;have hset:=fun (v:Int)=>Vcf (l:=l.l) (vals:=vals.l) (k:=k) (v:=v) za;have hst:=Zfe (l:=l.l) (vals:=vals.l) (k:=k) za;rw [← hvs] at hset hst;rw [Kcc] at hno;obtain ⟨x,hx⟩:∃x,x=l.l.getD k default:=⟨_,rfl⟩;rw [← hx] at hxg hno hset hst;apply (Xa0);refine Jx zB rfl ?_;apply (Xdb);intro b7;apply qad∘Xbx;refine J6 (Jc (Km (Jr (Jh ?_))));apply (Xa4);refine q_c ?_ ?_<;>intro hc2;·
   apply Xb7∘Xaq∘Xav;apply Ui (G:=[_,_,_,_,_,_]) (j:=5) (cj:=44) rfl rfl zb rfl zfb rfl;·intro hg6;replace hg6:=qb hg6;have hcg:=Jw (l:=vals.l) (k:=x.cond.toNat) 0 za;exact (Xci∘U0f∘qa7) zjd
   intro junk6;apply (qah);apply Ui (G:=[_,_,_,_,_,_]) (j:=13) (cj:=52) rfl rfl zb rfl zfb rfl;·intro hg14;replace hg14:=qb hg14;have hcg:=Jw (l:=vals.l) (k:=x.cond.toNat) 0 za;exact (Xci∘U0f∘qa7∘qbx) qai
   intro junk14;apply (qaf);refine q_c ?_ ?_<;>intro hc3;·have hcg:=Jw (l:=vals.l) (k:=x.cond.toNat) 0 za;apply Xb3∘Xci∘U0f∘qa7∘Jbg;refine Ym (Js tb ((⟨.own b13 l.l.length [],vs⟩:OwL Int)) (vals.l.getD x.cond.toNat 0) rfl rfl rfl rfl zj zg yf zg ze zb zb) ?_;rintro v M U ⟨rfl,rfl⟩;refine J6 (Jk (Jk (Jc (Jh ?_))));apply (Xae);exact q_k ⟨(k + 1,vs.set k (vals.l.getD x.cond.toNat 0)),by dsimp only;omega,hset _ (by rw [Ube hc2,Zyc,if_pos za])⟩
   refine Ka (Jk (Jk (Jc (Jh ?_))));apply (Xae);exact q_k ⟨(k + 1,vs),by dsimp only;omega,hst (by rw [Ube hc2,Zyc,if_neg za])⟩
  apply (Xbp);refine q_c ?_ ?_<;>intro hc4;·(have hlt:x.left.toNat < k:=by omega);have hlg:=Ugd (l:=l.l) (vals:=vals.l) hlt;rw [← hvs] at hlg;have hlr:=Ywa (l:=l.l) (vals:=vals.l) k x.left.toNat;apply Xb3∘Xci;refine Jx zJc rfl ?_;apply Y6f∘qcq∘Jbg;refine Ym (Js tb ((⟨.own b13 l.l.length [],vs⟩:OwL Int)) (-((Ul l.l vals.l k).getD x.left.toNat 0)) rfl rfl rfl rfl zj zg yf zg ze zb zb) ?_;rintro v M U ⟨rfl,rfl⟩;refine J6 (Jk (Jk (Jc (Jh ?_))));apply (Xae);exact q_k ⟨(k + 1,vs.set k (-((Ul l.l vals.l k).getD x.left.toNat 0))),by dsimp only;omega,hset _ (by rw [Vrf hc4])⟩
  have hlt:x.left.toNat < k:=by omega
  have hlg:=Ugd (l:=l.l) (vals:=vals.l) hlt;have hrt:x.right.toNat < k:=by omega
  have hrg:=Ugd (l:=l.l) (vals:=vals.l) hrt;rw [← hvs] at hlg hrg;apply (Xbp);refine q_c ?_ ?_<;>intro hc5;·apply Yqf∘Xdd∘Xcw∘J1g∘Y6e∘Xcw∘Y7f∘Y6e;refine Ku (Zib rfl rfl) rfl rfl rfl rfl ?_;apply Zgf∘qba;refine Kvb (Js tb ((⟨.own b13 l.l.length [],vs⟩:OwL Int)) (min ((Ul l.l vals.l k).getD x.left.toNat 0) ((Ul l.l vals.l k).getD x.right.toNat 0)) rfl rfl rfl rfl zj zg yf zg ze zb zb) rfl rfl ?_;rintro v M U ⟨rfl,rfl⟩;apply (qa1);refine Jz (Jk (Jk (Jc (Jh ?_))));apply (Xae);exact q_k ⟨(k + 1,vs.set k (min ((Ul l.l vals.l k).getD x.left.toNat 0) ((Ul l.l vals.l k).getD x.right.toNat 0))),by dsimp only;omega,hset _ (by rw [Uef hc5])⟩
  apply Yqf∘Xdd∘Xcw∘J1g∘Y6e∘Xcw∘Y7f∘Y6e;refine Ku zmc rfl rfl rfl rfl ?_;apply Zgf∘qba;refine Kvb (Js tb ((⟨.own b13 l.l.length [],vs⟩:OwL Int)) (max ((Ul l.l vals.l k).getD x.left.toNat 0) ((Ul l.l vals.l k).getD x.right.toNat 0)) rfl rfl rfl rfl zj zg yf zg ze zb zb) rfl rfl ?_;rintro v M U ⟨rfl,rfl⟩;apply (qa1);refine Jz (Jk (Jk (Jc (Jh ?_))));apply (Xae);exact q_k ⟨(k + 1,vs.set k (max ((Ul l.l vals.l k).getD x.left.toNat 0) ((Ul l.l vals.l k).getD x.right.toNat 0))),by dsimp only;omega,hset _ (by rw [Urf hc2 hc4 hc5])⟩
 obtain rfl:k=l.l.length:=by omega
 rw [Zze] at hvs;have hvg:=Jw (l:=vs) (k:=l.l.length - 1) 0 za;have hev:Kia l.l vals.l=vs.getD (l.l.length - 1) 0:=by rw [Kia,if_pos hr,hvs]
 apply Xcs∘Xaq∘qa9;refine Jx (Jv tb ((⟨.own b13 l.l.length [],vs⟩:OwL Int)) _ rfl rfl ((show _=Value.slice _ _ _ from rfl).trans (Uq hvl)) rfl zg (i:=l.l.length - 1) zk zu) rfl ?_;apply Y6f∘Xah;refine q_i L R ?_;exact ⟨by rw [hev],rfl,rfl⟩
end
section
attribute [local irreducible] CJ LJ DJ Tri YV Gives U0 J3 Kj Uz RV J5 OwL.L
def Yic (x:XSpan):Int:=if Yxd x=1 then x.low else if Yxd x= -1 then -x.high else 0
def Y0d (r:XRoad) (fr:Int):Int:=1000 * r.len * r.area * fr
def U7c (r:XRoad) (x:XSpan) (fr sec:Int):Prop:=Y0d r fr=0∨0 < Yic x∧Y0d r fr≤Yic x * sec
instance (r:XRoad) (x:XSpan) (fr sec:Int):Decidable (U7c r x fr sec):=by unfold U7c;infer_instance
def Umf {x:XSpan} (h:Yxd x=1):Yic x=x.low∧0 < x.low:=by
 refine ⟨by rw [Yic,if_pos h],?_⟩;rw [Yxd] at h;split at h;·cases h
 split at h;·assumption
 split at h <;> cases h
def K4f {x:XSpan} (h:Yxd x= -1):Yic x= -x.high∧x.high < 0:=by
 refine ⟨by rw [Yic,if_neg za,if_pos h],?_⟩;rw [Yxd] at h;split at h;·cases h
 split at h;·cases h
 split at h;·assumption
 ·cases h
def Yhf {x:XSpan} (h:Yxd x≠1) (h':Yxd x≠-1):Yic x=0:=by rw [Yic,if_neg h,if_neg h']
def Yje {r:XRoad} {fr:Int} (h1:1≤r.len∧r.len≤100000) (h2:1≤r.area∧r.area≤1000) (h3:0≤fr∧fr≤100):
 (0≤1000 * r.len * r.area∧1000 * r.len * r.area≤100000000000)∧0≤1000 * r.len * r.area * fr∧1000 * r.len * r.area * fr≤10000000000000:=by have a0:0≤1000 * r.len * r.area:=yba za za;have a1:1000 * r.len * r.area≤100000000 * 1000:=yza za za za za;have b0:0≤1000 * r.len * r.area * fr:=yba a0 za;have b1:1000 * r.len * r.area * fr≤100000000000 * 100:=yza za za za za;omega
def Yhe {n s l:Int} (hn:1≤n) (hs:0 < s):(n + s - 1).tdiv s≤l↔n≤l * s:=by rw [yR za];have h:=Int.ediv_lt_iff_lt_mul (a:=n + s - 1) (b:=l + 1) hs;rw [Int.add_mul,Int.one_mul] at h;omega
def K5d (r:XRoad) (x:XSpan) (fr sec:Int) (L:LB) (R:LS) (h1:1≤r.len∧r.len≤100000) (h2:1≤r.area∧r.area≤1000) (h3:0≤fr∧fr≤100) (h4:0≤sec∧sec≤2147483648):
 Tri Tryz.prog 233 [r.val,x.val,.int .i64 fr,.int .i64 sec].toArray L R (fun v M U=>v=.bool (decide (U7c r x fr sec))∧L=M∧R=U):=by
 have hN:=Yje h1 h2 h3;refine Jj 44 Tryz.call233 Tryz.func233 rfl rfl rfl ?_;apply (Xaf);intro b4;apply (qax);intro b5;apply qaz∘Xcj∘qcm∘Xaa∘qcm∘Xc6∘Xb2∘Xcm;refine q_c ?_ ?_<;>intro hc0;·apply Xbe∘qbh;refine q_b L R ?_;exact ⟨by rw [decide_eq_true (p:=U7c r x fr sec) (.inl hc0)],rfl,rfl⟩
 have hn1:1≤1000 * r.len * r.area * fr:=by omega
 apply Xcq∘Xcm;refine q_c ?_ ?_<;>intro hc1;·apply Xbe∘qbh;refine q_b L R ?_;refine ⟨by rw [decide_eq_false (p:=U7c r x fr sec)];rintro (h | ⟨_,h⟩) <;> rw [Y0d] at h;omega;rw [hc1,Int.mul_zero] at h;omega,rfl,rfl⟩
 have hcl:=fun l=>Yhe (l:=l) hn1 (show 0 < sec by omega);have hq0:0≤(1000 * r.len * r.area * fr + sec - 1).tdiv sec:=Int.tdiv_nonneg za za;have hq1:(1000 * r.len * r.area * fr + sec - 1).tdiv sec≤100000000000000:=by rw [yR za];have:=ycc (a:=1000 * r.len * r.area * fr + sec - 1) sec za;omega
 apply qbv∘Xbg∘qar∘qa9∘qaa∘qdd∘Xap∘qbe;refine q_l rfl (Vrc x _ _) ?_;refine J6 (Jc (Km (Jr (Jh ?_))));apply (Xa4);refine q_c ?_ ?_<;>intro hc2;·apply qae∘Xam∘qbz∘qaz∘qdb;refine q_b L R ?_;have hd:=Umf hc2;refine ⟨congrArg Value.bool (decide_eq_decide.2 ?_),rfl,rfl⟩;rw [hcl,U7c,Y0d,hd.1];omega
 apply (Xbp);refine q_c ?_ ?_<;>intro hc3;·apply qae∘Xam∘qcq∘qbx∘qaz∘qdb;refine q_b L R ?_;have hd:=K4f hc3;refine ⟨congrArg Value.bool (decide_eq_decide.2 ?_),rfl,rfl⟩;have:=hcl (-x.high);rw [U7c,Y0d,hd.1];omega
 refine Ka (Jk (Jc (Jr (Jh ?_))));apply (Xa2);refine q_b L R ?_;have hd:=Yhf hc2 hc3;refine ⟨by rw [decide_eq_false (p:=U7c r x fr sec)];rintro (h | ⟨h,_⟩);rw [Y0d] at h;omega;omega,rfl,rfl⟩
end
end Go.Proofs.YtchfclmokpbldaaGreat
