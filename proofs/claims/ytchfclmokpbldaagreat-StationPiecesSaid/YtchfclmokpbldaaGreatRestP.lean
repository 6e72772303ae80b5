/-
  Merged texts. By an AI agent.
-/
import Derived.Test.YtchfclmokpbldaaGreatWinR
import Derived.Test.YtchfclmokpbldaaGreatRule
import Derived.Test.YtchfclmokpbldaaGreatAnal
set_option linter.all false
set_option maxHeartbeats 4000000
set_option maxRecDepth 20000
namespace Go.Proofs.YtchfclmokpbldaaGreat
open Go.Aw Go
section
attribute [local irreducible] CJ LJ DJ Tri YV Gives Uo J0 Kj Un RV J2 OwL.L
section
variable {A B:Prop}
def Jbf(h:A→B:=by exact Jx zmb rfl):=h
def Vtf(h:B:=by exact ⟨by rw [K5,if_neg za,if_neg za,if_neg za,if_neg za,if_neg za,e],rfl,rfl⟩):=h
def Yxf(h:A→B:=by exact Kn zZa rfl rfl rfl rfl):=h
end
def Vcd {e:Int} (h:e=0):nzO e=none:=by rw [nzO,if_pos h]
def Kxc {e:Int} (h:e≠0):nzO e=some e:=by rw [nzO,if_neg h]
abbrev Ypf (s:XSite):XCond→Option Int:=fun c=>nzO (Ko s.sensors.l s.air.mine.roads.l.length c)
abbrev Vjf (s:XSite):XZone→Option Int:=fun z=>nzO (V6 s.conds.l.length s.air.mine.roads.l.length z)
abbrev Voe:Int→Option Int:=fun p=>if p < 1∨3 < p then some 19 else none
def J5a (s:XSite) (L:LB) (R:LS) (hs:SiteR s R):
 Tri Tryz.prog 74 [s.val].toArray L R (fun v M U=>v=.int .i64 (K5 s)∧L=M∧R=U):=by
 have hsR:=hs.sensors;have hcR:=hs.conds;have hzR:=hs.zones;have hpR:=hs.persons;refine Je 90 Tryz.call74 Tryz.func74 rfl rfl rfl ?_;apply (Xag);intro b1;apply Xaq∘qab∘qa8;refine q_l rfl (Zt s.air _ _ hs.air) ?_;apply (Xbp);refine q_c ?_ ?_<;>intro hc0;·apply (Xdr);refine q_i L R ?_;exact ⟨by rw [K5,if_pos hc0],rfl,rfl⟩
 apply qbo∘Xdi∘qah;apply Kf (G:=[_,_,_,_]) (j:=4) (cj:=23) rfl rfl zb rfl zfb rfl;·exact zod
 intro junk5;apply (qah);apply Kf (G:=[_,_,_,_]) (j:=10) (cj:=29) rfl rfl zb rfl zfb rfl;·intro hg11;replace hg11:=qb hg11;exact (Xdi) qai
 intro junk11;apply (qah);apply Kf (G:=[_,_,_,_]) (j:=16) (cj:=35) rfl rfl zb rfl zfb rfl;·intro hg17;replace hg17:=qb hg17;exact (Xdi) qai
 intro junk17;apply (qaf);refine q_c ?_ ?_<;>intro hc1;·apply (Xa6);refine q_i L R ?_;exact ⟨by rw [K5,if_neg za,if_pos za],rfl,rfl⟩
 apply qbo∘Jbf;refine q_l rfl (Uhb s _ _ hsR za) ?_;apply (Xbp);refine q_c ?_ ?_<;>intro hc2;·apply (Xdr);refine q_i L R ?_;exact ⟨by rw [K5,if_neg za,if_neg za,if_pos hc2],rfl,rfl⟩
 apply (Xcp);refine Jk [(1,.pointer _),(47,.slice _ _ _),(48,.int _ _),(49,.int _ _)] zh fun tq0=>?_;refine q_s ([2,6,7]++rg 49 11) (fun g:FS (Ypf s) (s.conds.l)=>[(49,.int .i64 ((g.1:Nat):Int))]) (fun g=>(s.conds.l).length - g.1) ⟨0,Kea _ _⟩ ?_;rintro ⟨k0,hk0,hp0⟩ junk;try dsimp only
 apply (Xan);refine q_c ?_ ?_<;>intro hc3;·
  obtain ⟨c,hc⟩:=Kh (l:=s.conds.l) (k:=k0) za;apply (qbb);refine Jx zca rfl ?_;refine Jx zWa rfl ?_;apply (qaq);intro b6;apply Xa1∘Jbf;refine Jx zjc rfl ?_;refine q_l rfl (Jqc s c _ _ hsR za) ?_;apply (Xbp);refine q_c ?_ ?_<;>intro hc4;·apply Xbr∘qad∘qbt;refine q_i L R ?_;(have e:J8a s=Ko s.sensors.l s.air.mine.roads.l.length c:=by rw [J8a,Zc (f:=Ypf s) hp0 hc (Kxc hc4)];rfl);exact ⟨by rw [K5,if_neg za,if_neg za,if_neg za,if_pos (by rw [e];exact hc4),e],rfl,rfl⟩
  apply (Xa3);exact q_k ⟨k0 + 1,Jza hp0 hc (Vcd za)⟩
 have hn0:=Jva hp0 za;refine K4 (Km (K2 (J8 (Jb (Jl (Jl ?_))))));have hce:J8a s=0:=by rw [J8a,hn0];rfl
 apply qay∘Xaz;refine Jk [(1,.pointer _),(61,.slice _ _ _),(62,.int _ _),(63,.int _ _)] zh fun tq1=>?_;refine q_s ([2,9,10]++rg 63 11) (fun g:FS (Vjf s) (s.zones.l)=>[(63,.int .i64 ((g.1:Nat):Int))]) (fun g=>(s.zones.l).length - g.1) ⟨0,Kea _ _⟩ ?_;rintro ⟨k1,hk1,hp1⟩ junk;try dsimp only
 apply (Xan);refine q_c ?_ ?_<;>intro hc5;·
  obtain ⟨z,hz⟩:=Kh (l:=s.zones.l) (k:=k1) za;apply (qbb);refine Jx zJa rfl ?_;apply (Xdj);intro b9;apply Xa1∘Jbf∘qa8;refine q_l rfl (J4c s z _ _ (InR.rule hzR hz) (InR.zroads hzR hz)) ?_;apply (Xbp);refine q_c ?_ ?_<;>intro hc6;·apply Xbr∘qad∘qbt;refine q_i L R ?_;(have e:Yt s=V6 s.conds.l.length s.air.mine.roads.l.length z:=by rw [Yt,Zc (f:=Vjf s) hp1 hz (Kxc hc6)];rfl);exact ⟨by rw [K5,if_neg za,if_neg za,if_neg za,if_neg za,if_pos (by rw [e];exact hc6),e],rfl,rfl⟩
  apply (Xa3);exact q_k ⟨k1 + 1,Jza hp1 hz (Vcd za)⟩
 have hn1:=Jva hp1 za;refine K4 (Km (K2 (J8 (Jb (Jl (Jl ?_))))));have hze:Yt s=0:=by rw [Yt,hn1];rfl
 apply qay∘Xaz;refine Jk [(75,.slice _ _ _),(76,.int _ _),(77,.int _ _)] zh fun tq2=>?_;refine q_s ([2,12]++rg 77 13) (fun g:FS (Voe) (s.persons.l)=>[(77,.int .i64 ((g.1:Nat):Int))]) (fun g=>(s.persons.l).length - g.1) ⟨0,Kea _ _⟩ ?_;rintro ⟨k2,hk2,hp2⟩ junk;try dsimp only
 apply (Xan);refine q_c ?_ ?_<;>intro hc7;·
  obtain ⟨p,hp⟩:=Kh (l:=s.persons.l) (k:=k2) za;apply (qbb);refine Jx zKa rfl ?_;refine Jx (by first | exact Kz (row:=[_]) tb rfl rfl rfl zx zg zb zb | exact Jo (row:=[_]) tb rfl rfl rfl zf zb zb) rfl ?_;apply (qaq);intro b12;apply Xa1∘Xbn;apply Kf (G:=[_,_,_]) (j:=3) (cj:=84) rfl rfl zb rfl zfb rfl;·exact zad
  intro junk4;apply (qaf);refine q_c ?_ ?_<;>intro hc8;·apply (Xb7);refine q_i L R ?_;(have e:Jca s=19:=by rw [Jca,Zc (f:=Voe) hp2 hp (show Voe p=some 19 from if_pos hc8)];rfl);exact Vtf
  apply (Xa3);exact q_k ⟨k2 + 1,Jza hp2 hp (show Voe p=none from if_neg za)⟩
 have hn2:=Jva hp2 za;apply (Xcx);refine q_i L R ?_;have e:Jca s=0:=by rw [Jca,hn2];rfl
 exact Vtf
def Vsc (s:XSite) (m:Arr XMeas) (n t:Int) (L:LB) (R:LS) (hs:InR (Y4c s.sensors) R) (hm:InR (Vsa m) R) (hok:∀x∈m.l,Kza x) (ht:0≤t∧t≤2147483648):
 Tri Tryz.prog 103 [s.val,m.val,.int .i64 n,.int .i64 t].toArray L R (fun v M U=>v=(Zk s.sensors.l m.l n t).val∧L=M∧R=U):=by
 refine Je 42 Tryz.call103 Tryz.func103 rfl rfl rfl ?_;apply (Xag);intro b4;apply (qaq);intro b8;apply qaw∘qaa∘Xab;refine q_l rfl (Jya n (s.sensors.l.length:Int) _ _) ?_;apply (Xcv);apply Kf (G:=[_,_,_,_]) (j:=6) (cj:=15) rfl rfl zb rfl zfb rfl;·intro hg7;replace hg7:=qb hg7;exact (qaa∘Xak) zhd
 intro junk7;apply (qah);apply Kf (G:=[_,_,_,_,_,_,_]) (j:=12) (cj:=21) rfl rfl zb rfl zfb rfl;·
  intro hg13;replace hg13:=qb hg13;have hmg:=Ju (l:=m.l) (k:=n.toNat) default (by (try simp at hg13);omega);apply (Xas);have hnn:0≤n∧n < m.l.length:=by (try simp at hg13);omega
  refine Jx zZa rfl ?_;exact (Xb3∘qaa) zfd
 intro junk13;apply (qaf);refine q_c ?_ ?_<;>intro hc0;·apply (qae);refine q_l rfl (Ua _ _) ?_;apply (Xdk);refine q_r L R zFc ?_;exact ⟨by rw [Zk,if_neg za],rfl,rfl⟩
 have hmg:=Ju (l:=m.l) (k:=n.toNat) default za;have hsg:=Ju (l:=s.sensors.l) (k:=n.toNat) default za;have hmo:=hok _ (yi hmg);apply (qcl);refine J6 tb [] [0,1,2,3,4,5,6,7,8,9,10] [11] ([Blk.mk b8 _ _,Blk.mk b4 _ _]) _ Kr zc zi (by (repeat (first | apply List.Sublist.cons (a:=Blk.mk b8 _ _) | apply List.Sublist.cons_cons));exact yu _) ?_;apply Xce∘Yxf;refine Kn zba rfl rfl rfl rfl ?_;apply Xdb∘Yxf;refine Kn zva rfl rfl rfl rfl ?_;apply (qbf);refine Kp rfl (Zle _ _ t _ _ hmo ht) rfl rfl ?_;rintro v M U ⟨rfl,rfl,rfl⟩;refine ⟨zi,zq,?_⟩;apply (Xdc);refine J3 (Jb (Up ?_));refine q_r L R zFc ?_;exact ⟨by rw [Zk,if_pos za],rfl,rfl⟩
def Ked (x:XSpan) (L:LB) (R:LS):
 Tri Tryz.prog 231 [x.val].toArray L R (fun v M U=>v=.int .i64 (Kxa x)∧L=M∧R=U):=by
 refine Je 27 Tryz.call231 Tryz.func231 rfl rfl rfl ?_;apply (Xag);intro b1;apply (qad);refine J5 (Jb (Jl (Kb (Jl (Jf ?_)))));apply Xaa∘Xa5∘Xap;refine q_c ?_ ?_<;>intro hc0;·apply (Xbc);refine q_i L R ?_;exact yc
 apply Xcb∘Xcq;apply Vp (G:=[_,_,_]) (j:=3) (cj:=13) rfl rfl zb rfl zfb rfl;·exact zpd
 intro junk4;apply (Xap);refine q_c ?_ ?_<;>intro hc1;·apply (Xbc);refine q_i L R ?_;exact yc
 apply qae∘Xa5∘qah;apply Kf (G:=[_,_,_]) (j:=3) (cj:=22) rfl rfl zb rfl zfb rfl;·intro hg4;replace hg4:=qb hg4;exact znd
 intro junk4;apply (Xap);refine q_c ?_ ?_<;>intro hc2;·apply (Xbc);refine q_i L R ?_;exact yc
 refine J1 (Jd (Jb (Jl (Jf ?_))));apply (Xai);refine q_i L R ?_;exact yc
def V2e (c:XCond) (w:XWatch) (x:XSpan) (L:LB) (R:LS):
 Tri Tryz.prog 229 [c.val,w.val,x.val].toArray L R (fun v M U=>v=.int .i64 (if w.over=false then -1 else if Z5 x c.level.cut=1 then 1 else 0)∧L=M∧R=U):=by
 refine Je 18 Tryz.call229 Tryz.func229 rfl rfl rfl ?_;apply (Xag);intro b3;apply (qax);intro b4;apply (qax);intro b5;apply (qad);refine J5 (Jb (Jl (Kb (Jl (Jf ?_)))));apply Xaa∘qb4∘Xap;refine q_c ?_ ?_<;>intro hc0;·apply (Xbc);refine q_i L R ?_;exact ⟨by rw [if_pos zM],rfl,rfl⟩
 apply qae∘qbe∘Xds;refine q_l rfl (U3b x c.level.cut _ _) ?_;apply (Xay);refine q_c ?_ ?_<;>intro hc1;·apply (Xbc);refine q_i L R ?_;exact ⟨by rw [if_neg zM,if_pos hc1],rfl,rfl⟩
 refine J1 (Jd (Jb (Jl (Jf ?_))));apply (Xai);refine q_i L R ?_;exact ⟨by rw [if_neg zM,if_neg hc1],rfl,rfl⟩
end
section
attribute [local irreducible] CJ LJ DJ Tri YV Gives Uo J0 Kj Un RV J2 OwL.L
section
variable {A B:Prop}
def Yye(h:A→B:=by exact Kn zmc rfl rfl rfl rfl):=h
def Kyf(h:A→B:=by exact Jx (by first | exact Jh tb rfl rfl rfl rfl zx (i:=x.cond.toNat) zk za | exact Jn tb rfl rfl rfl rfl (i:=x.cond.toNat) zk za) rfl):=h
def Ylf(h:A→B:=by exact Jx zLc rfl):=h
def Vqf(h:A→B:=by exact Jx zmc rfl):=h
def Uef(h:A→B:=by exact J6 tb [] [0,1,2,3,4,5,6,7,8,9,10,11,12,13] [14] ((⟨b7,XNode.cells x,172⟩ :: ((⟨.own b13 l.l.length [],vs⟩:OwL Int).L 3 Ji ++ []))) _ Kr zc zi yd):=h
def Y7f(h:A→B:=by exact Kn zKc rfl rfl rfl rfl):=h
def Zof(h:A→B:=by exact Kn (Jv tb ((⟨.own b13 l.l.length [],vs⟩:OwL Int)) _ rfl rfl ((show _=Value.slice _ _ _ from rfl).trans (Uj hvl)) rfl zg (i:=x.right.toNat) zk zu) rfl rfl rfl rfl):=h
def U9f(h:A→B:=by exact Kn zLc rfl rfl rfl rfl):=h
end
def Zg (l:List XNode) (vals:List Int) (k:Nat):List Int:=Ux l vals k ++ List.replicate (l.length - k) 0
def Jxf {l:List XNode} {vals:List Int} {k:Nat} (h:k≤l.length):(Zg l vals k).length=l.length:=by rw [Zg,yj,Ye,yla];omega
def Jpf {l:List XNode} {vals:List Int} {k:Nat} {v:Int} (hk:k < l.length) (h:v=U1a vals (Ux l vals k) (l.getD k default)):(Zg l vals k).set k v=Zg l vals (k + 1):=by have hl:=Ye (l:=l) (vals:=vals) k;rw [Zg,Zg,Ux,← h,show l.length - k=(l.length - (k + 1)) + 1 by omega,ywb,List.set_append_right k v za,hl,yGb,yVb];simp
def Une {l:List XNode} {vals:List Int} {k:Nat} (hk:k < l.length) (h:U1a vals (Ux l vals k) (l.getD k default)=0):Zg l vals k=Zg l vals (k + 1):=by rw [Zg,Zg,Ux,h,show l.length - k=(l.length - (k + 1)) + 1 by omega,ywb];simp
def Kkd {l:List XNode} {vals:List Int} {k j:Nat} (h:j < k):(Zg l vals k)[j]?=some ((Ux l vals k).getD j 0):=by have hl:=Ye (l:=l) (vals:=vals) k;rw [Zg,yx za];exact Ju 0 za
def Yte {l:List XNode} {vals:List Int}:Zg l vals l.length=Ux l vals l.length:=by rw [Zg,yGb];simp
def Y0d {vals v:List Int} {x:XNode} (h:x.kind=1):U1a vals v x=Jbd vals x.cond:=by rw [U1a,if_pos h]
def Kff {vals v:List Int} {x:XNode} (h:x.kind=2):U1a vals v x= -(v.getD x.left.toNat 0):=by rw [U1a,if_neg za,if_pos h]
def Jwf {vals v:List Int} {x:XNode} (h:x.kind=3):U1a vals v x=min (v.getD x.left.toNat 0) (v.getD x.right.toNat 0):=by rw [U1a,if_neg za,if_neg za,if_pos h]
def Jtf {vals v:List Int} {x:XNode} (h1:¬ x.kind=1) (h2:¬ x.kind=2) (h3:¬ x.kind=3):U1a vals v x=max (v.getD x.left.toNat 0) (v.getD x.right.toNat 0):=by rw [U1a,if_neg h1,if_neg h2,if_neg h3]
def Z5b (l:Arr XNode) (vals:Arr Int) (L:LB) (R:LS) (hl:InR (Ywd l) R) (hv:InR (isl vals) R):
 Tri Tryz.prog 160 [l.val,vals.val].toArray L R (fun v M U=>v=.int .i64 (Uwa l.l vals.l)∧L=M∧R=U):=by
 refine Je 102 Tryz.call160 Tryz.func160 rfl rfl rfl ?_;apply Xac∘qaw∘qbm;refine q_l rfl (Vob l _ _ hl) ?_;apply (Xbg);refine q_c ?_ ?_<;>intro hc0;·apply (Xa6);refine q_i L R ?_;exact ⟨by rw [Uwa,if_neg zM],rfl,rfl⟩
 have hr:Koa l.l=true:=by simpa using hc0
 have hln:=(Yoa.1 hr).1;apply qbv∘Xak∘qc7;rintro v M U ⟨b13,rfl,rfl,hR13⟩;replace hR13:=hR13.symm;subst hR13;apply qc4∘qco;refine V0 (Yi (f:=Ji) (x:=0) rfl _) ?_;apply qay∘Xcc;refine Jk [(1,.slice _ _ _),(5,.slice _ _ _),(14,.slice _ _ _),(15,.int _ _),(16,.int _ _)] zh fun tq0=>?_;refine q_p ([6,7]++rg 16 80) ((⟨fun g=>[(16,.int .i64 ((g.1.1:Nat):Int))],fun g=>(⟨.own b13 l.l.length [],g.1.2⟩:OwL Int).L 3 Ji ++ L,fun _=>R,fun g=>l.l.length - g.1.1⟩:Head {g:Nat×List Int // g.1≤l.l.length∧g.2=Zg l.l vals.l g.1})) (⟨(0,List.replicate l.l.length 0),by dsimp only;omega,rfl⟩) ?_;rintro ⟨⟨k,vs⟩,hk,hvs⟩ junk;try dsimp only
 dsimp only at hk hvs;have hvl:vs.length=l.l.length:=by rw [hvs];exact Jxf hk
 have hvk:(⟨.own b13 l.l.length [],vs⟩:OwL Int).ok 1 Ji:=by have:=Yg (f:=Ji) (wd:=1) (b:=b13) (n:=l.l.length) (x:=0) Uy zE;exact OwL.len_ok Uy this (by simp;exact hvl)
 apply (Xan);refine q_c ?_ ?_<;>intro hc1;·
  have hxg:=Ju (l:=l.l) (k:=k) default za;have hno:=Jud hr k za;have hvg:=Ju (l:=vs) (k:=k) 0 za;have hset:=fun (v:Int)=>Jpf (l:=l.l) (vals:=vals.l) (k:=k) (v:=v) za;have hst:=Une (l:=l.l) (vals:=vals.l) (k:=k) za;rw [← hvs] at hset hst;rw [Jec] at hno;obtain ⟨x,hx⟩:∃x,x=l.l.getD k default:=⟨_,rfl⟩;rw [← hx] at hxg hno hset hst;apply (Xbb);refine Jx zD rfl ?_;apply (Xdj);intro b7;apply qad∘Xb2;refine J5 (Jb (Kb (Jl (Jf ?_))));apply (Xay);refine q_c ?_ ?_<;>intro hc2;·
   apply Xcb∘Xak∘Xat;apply Vp (G:=[_,_,_,_,_,_]) (j:=5) (cj:=44) rfl rfl zb rfl zfb rfl;·intro hg6;replace hg6:=qb hg6;have hcg:=Ju (l:=vals.l) (k:=x.cond.toNat) 0 za;exact (Xcl∘Kyf∘qa7) zhd
   intro junk6;apply (qah);apply Vp (G:=[_,_,_,_,_,_]) (j:=13) (cj:=52) rfl rfl zb rfl zfb rfl;·intro hg14;replace hg14:=qb hg14;have hcg:=Ju (l:=vals.l) (k:=x.cond.toNat) 0 za;exact (Xcl∘Kyf∘qa7∘qbx) qai
   intro junk14;apply (qaf);refine q_c ?_ ?_<;>intro hc3;·have hcg:=Ju (l:=vals.l) (k:=x.cond.toNat) 0 za;apply Xcd∘Xcl∘Kyf∘qa7∘Ylf;refine Yc (Js tb ((⟨.own b13 l.l.length [],vs⟩:OwL Int)) (vals.l.getD x.cond.toNat 0) rfl rfl rfl rfl zj zg yf zg ze zb zb) ?_;rintro v M U ⟨rfl,rfl⟩;refine J5 (Jd (Jd (Jb (Jf ?_))));apply (Xae);exact q_k ⟨(k + 1,vs.set k (vals.l.getD x.cond.toNat 0)),by dsimp only;omega,hset _ (by rw [Y0d hc2,Jbd,if_pos za])⟩
   refine J1 (Jd (Jd (Jb (Jf ?_))));apply (Xae);exact q_k ⟨(k + 1,vs),by dsimp only;omega,hst (by rw [Y0d hc2,Jbd,if_neg za])⟩
  apply (Xbk);refine q_c ?_ ?_<;>intro hc4;·(have hlt:x.left.toNat < k:=by omega);have hlg:=Kkd (l:=l.l) (vals:=vals.l) hlt;rw [← hvs] at hlg;have hlr:=Yca (l:=l.l) (vals:=vals.l) k x.left.toNat;apply Xcd∘Xcl;refine Jx zKc rfl ?_;apply Vqf∘qcq∘Ylf;refine Yc (Js tb ((⟨.own b13 l.l.length [],vs⟩:OwL Int)) (-((Ux l.l vals.l k).getD x.left.toNat 0)) rfl rfl rfl rfl zj zg yf zg ze zb zb) ?_;rintro v M U ⟨rfl,rfl⟩;refine J5 (Jd (Jd (Jb (Jf ?_))));apply (Xae);exact q_k ⟨(k + 1,vs.set k (-((Ux l.l vals.l k).getD x.left.toNat 0))),by dsimp only;omega,hset _ (by rw [Kff hc4])⟩
  have hlt:x.left.toNat < k:=by omega
  have hlg:=Kkd (l:=l.l) (vals:=vals.l) hlt;have hrt:x.right.toNat < k:=by omega
  have hrg:=Kkd (l:=l.l) (vals:=vals.l) hrt;rw [← hvs] at hlg hrg;apply (Xbk);refine q_c ?_ ?_<;>intro hc5;·apply Uef∘Xdb∘Xc9∘Y7f∘Yye∘Xc9∘Zof∘Yye;refine Kn (Yhb rfl rfl) rfl rfl rfl rfl ?_;apply U9f∘qba;refine Jab (Js tb ((⟨.own b13 l.l.length [],vs⟩:OwL Int)) (min ((Ux l.l vals.l k).getD x.left.toNat 0) ((Ux l.l vals.l k).getD x.right.toNat 0)) rfl rfl rfl rfl zj zg yf zg ze zb zb) rfl rfl ?_;rintro v M U ⟨rfl,rfl⟩;apply (qa1);refine J3 (Jd (Jd (Jb (Jf ?_))));apply (Xae);exact q_k ⟨(k + 1,vs.set k (min ((Ux l.l vals.l k).getD x.left.toNat 0) ((Ux l.l vals.l k).getD x.right.toNat 0))),by dsimp only;omega,hset _ (by rw [Jwf hc5])⟩
  apply Uef∘Xdb∘Xc9∘Y7f∘Yye∘Xc9∘Zof∘Yye;refine Kn zcc rfl rfl rfl rfl ?_;apply U9f∘qba;refine Jab (Js tb ((⟨.own b13 l.l.length [],vs⟩:OwL Int)) (max ((Ux l.l vals.l k).getD x.left.toNat 0) ((Ux l.l vals.l k).getD x.right.toNat 0)) rfl rfl rfl rfl zj zg yf zg ze zb zb) rfl rfl ?_;rintro v M U ⟨rfl,rfl⟩;apply (qa1);refine J3 (Jd (Jd (Jb (Jf ?_))));apply (Xae);exact q_k ⟨(k + 1,vs.set k (max ((Ux l.l vals.l k).getD x.left.toNat 0) ((Ux l.l vals.l k).getD x.right.toNat 0))),by dsimp only;omega,hset _ (by rw [Jtf hc2 hc4 hc5])⟩
 obtain rfl:k=l.l.length:=by omega
 rw [Yte] at hvs;have hvg:=Ju (l:=vs) (k:=l.l.length - 1) 0 za;have hev:Uwa l.l vals.l=vs.getD (l.l.length - 1) 0:=by rw [Uwa,if_pos hr,hvs]
 apply Xdd∘Xak∘qa9;refine Jx (Jv tb ((⟨.own b13 l.l.length [],vs⟩:OwL Int)) _ rfl rfl ((show _=Value.slice _ _ _ from rfl).trans (Uj hvl)) rfl zg (i:=l.l.length - 1) zk zu) rfl ?_;apply Vqf∘Xai;refine q_i L R ?_;exact ⟨by rw [hev],rfl,rfl⟩
end
section
attribute [local irreducible] CJ LJ DJ Tri YV Gives Uo J0 Kj Un RV J2 OwL.L
def Ybc (x:XSpan):Int:=if Vsd x=1 then x.low else if Vsd x= -1 then -x.high else 0
def Yud (r:XRoad) (fr:Int):Int:=1000 * r.len * r.area * fr
def J6c (r:XRoad) (x:XSpan) (fr sec:Int):Prop:=Yud r fr=0∨0 < Ybc x∧Yud r fr≤Ybc x * sec
instance (r:XRoad) (x:XSpan) (fr sec:Int):Decidable (J6c r x fr sec):=by unfold J6c;infer_instance
def Kif {x:XSpan} (h:Vsd x=1):Ybc x=x.low∧0 < x.low:=by
 refine ⟨by rw [Ybc,if_pos h],?_⟩;rw [Vsd] at h;split at h;·cases h
 split at h;·assumption
 split at h <;> cases h
def K6f {x:XSpan} (h:Vsd x= -1):Ybc x= -x.high∧x.high < 0:=by
 refine ⟨by rw [Ybc,if_neg za,if_pos h],?_⟩;rw [Vsd] at h;split at h;·cases h
 split at h;·cases h
 split at h;·assumption
 ·cases h
def V8f {x:XSpan} (h:Vsd x≠1) (h':Vsd x≠-1):Ybc x=0:=by rw [Ybc,if_neg h,if_neg h']
def Uxe {r:XRoad} {fr:Int} (h1:1≤r.len∧r.len≤100000) (h2:1≤r.area∧r.area≤1000) (h3:0≤fr∧fr≤100):
 (0≤1000 * r.len * r.area∧1000 * r.len * r.area≤100000000000)∧0≤1000 * r.len * r.area * fr∧1000 * r.len * r.area * fr≤10000000000000:=by have a0:0≤1000 * r.len * r.area:=yS za za;have a1:1000 * r.len * r.area≤100000000 * 1000:=yja za za za za;have b0:0≤1000 * r.len * r.area * fr:=yS a0 za;have b1:1000 * r.len * r.area * fr≤100000000000 * 100:=yja za za za za;omega
def Vye {n s l:Int} (hn:1≤n) (hs:0 < s):(n + s - 1).tdiv s≤l↔n≤l * s:=by rw [yZ za];have h:=Int.ediv_lt_iff_lt_mul (a:=n + s - 1) (b:=l + 1) hs;rw [Int.add_mul,Int.one_mul] at h;omega
def Jdd (r:XRoad) (x:XSpan) (fr sec:Int) (L:LB) (R:LS) (h1:1≤r.len∧r.len≤100000) (h2:1≤r.area∧r.area≤1000) (h3:0≤fr∧fr≤100) (h4:0≤sec∧sec≤2147483648):
 Tri Tryz.prog 233 [r.val,x.val,.int .i64 fr,.int .i64 sec].toArray L R (fun v M U=>v=.bool (decide (J6c r x fr sec))∧L=M∧R=U):=by
 have hN:=Uxe h1 h2 h3;refine Je 44 Tryz.call233 Tryz.func233 rfl rfl rfl ?_;apply (Xag);intro b4;apply (qax);intro b5;apply qaz∘Xcr∘qcm∘Xaa∘qcm∘Xc5∘Xaq∘qaa∘Xbf;refine q_c ?_ ?_<;>intro hc0;·apply Xbm∘qbh;refine q_b L R ?_;exact ⟨by rw [decide_eq_true (p:=J6c r x fr sec) (.inl hc0)],rfl,rfl⟩
 have hn1:1≤1000 * r.len * r.area * fr:=by omega
 apply qbo∘qaa∘Xbf;refine q_c ?_ ?_<;>intro hc1;·apply Xbm∘qbh;refine q_b L R ?_;refine ⟨by rw [decide_eq_false (p:=J6c r x fr sec)];rintro (h | ⟨_,h⟩) <;> rw [Yud] at h;omega;rw [hc1,ykc] at h;omega,rfl,rfl⟩
 have hcl:=fun l=>Vye (l:=l) hn1 (show 0 < sec by omega);have hq0:0≤(1000 * r.len * r.area * fr + sec - 1).tdiv sec:=Int.tdiv_nonneg za za;have hq1:(1000 * r.len * r.area * fr + sec - 1).tdiv sec≤100000000000000:=by rw [yZ za];have:=yrb (a:=1000 * r.len * r.area * fr + sec - 1) sec za;omega
 apply Xcy∘Xa0∘qa9∘qaa∘qdd∘Xaq∘qbe;refine q_l rfl (Kdc x _ _) ?_;refine J5 (Jb (Kb (Jl (Jf ?_))));apply (Xay);refine q_c ?_ ?_<;>intro hc2;·apply qae∘Xaj∘qbz∘qaz∘qdb;refine q_b L R ?_;have hd:=Kif hc2;refine ⟨congrArg Value.bool (decide_eq_decide.2 ?_),rfl,rfl⟩;rw [hcl,J6c,Yud,hd.1];omega
 apply (Xbk);refine q_c ?_ ?_<;>intro hc3;·apply qae∘Xaj∘qcq∘qbx∘qaz∘qdb;refine q_b L R ?_;have hd:=K6f hc3;refine ⟨congrArg Value.bool (decide_eq_decide.2 ?_),rfl,rfl⟩;have:=hcl (-x.high);rw [J6c,Yud,hd.1];omega
 refine J1 (Jd (Jb (Jl (Jf ?_))));apply (Xbl);refine q_b L R ?_;have hd:=V8f hc2 hc3;refine ⟨by rw [decide_eq_false (p:=J6c r x fr sec)];rintro (h | ⟨h,_⟩);rw [Yud] at h;omega;omega,rfl,rfl⟩
end
end Go.Proofs.YtchfclmokpbldaaGreat
