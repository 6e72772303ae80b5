/-
  Merged texts. By an AI agent.
-/
import Derived.Test.YtchfclmokpbldaaGreatCert
set_option linter.all false
set_option maxHeartbeats 4000000
set_option maxRecDepth 20000
namespace Go.Proofs.YtchfclmokpbldaaGreat
open Go.Aw Go
section
attribute [local irreducible] CJ LJ DJ Tri YV Gives U7 Kb Kp U8 RV Ke OwL.L
section
variable {A B:Prop}
def Kgf(h:A→B:=by exact J0 zJa rfl):=h
def Upf(h:B:=by exact ⟨[Zga n.pipes,V6a n.at_] ++ S,by rw [hck,Ul hp2 zc (hnb.trans (if_pos zc))];rfl,rfl,rfl⟩):=h
def Yzf(h:A→B:=by exact Kq zP rfl rfl rfl):=h
end
def U2a (b:XBounds) (i:Nat):Option Int:=[b.low.l.getD i 0,b.high.l.getD i 0].findSome? Um
def Uza {a:XAir} (h:Ko a=0):Ui a.mine=0:=by
 unfold Ko at h;split at h;·exact ubv
 ·rename_i h1;omega
def Ujc {b:XBounds} {n:Nat} (h1:b.low.l.length=n) (h2:b.high.l.length=n) (h:(List.range n).findSome? (U2a b)=none):b.low.l.findSome? Um=none∧b.high.l.findSome? Um=none:=by
 rw [yG] at h;have h':∀i:Nat,i < n→Um (b.low.l.getD i 0)=none∧Um (b.high.l.getD i 0)=none:=fun i hi=>by have:=h i (List.mem_range.2 hi);rw [U2a,yG] at this;exact ⟨this _ zq,this _ zq⟩
 constructor;·rw [yG];intro x hx;obtain ⟨i,hi⟩:=List.mem_iff_getElem?.1 hx;have hl:=(List.getElem?_eq_some_iff.1 hi).1;rw [← (show b.low.l.getD i 0=x from getD_some hi)];exact (h' i zc).1
 ·rw [yG];intro x hx;obtain ⟨i,hi⟩:=List.mem_iff_getElem?.1 hx;have hl:=(List.getElem?_eq_some_iff.1 hi).1;rw [← (show b.high.l.getD i 0=x from getD_some hi)];exact (h' i zc).2
def Vgc {b:XBounds} {n k:Nat} (h1:b.low.l.length=n) (h2:b.high.l.length=n) (hk:k < n) {e:Int} (h:U2a b k=some e):(b.low.l.findSome? Um).isSome=true∨(b.high.l.findSome? Um).isSome=true:=by
 cases e1:b.low.l.findSome? Um with
 | some x=>exact .inl rfl
 | none=>
  cases e2:b.high.l.findSome? Um with
  | some x=>exact .inr rfl
  | none=>
   rw [yG] at e1 e2;rw [U2a] at h;have:[b.low.l.getD k 0,b.high.l.getD k 0].findSome? Um=none:=by
    rw [yG];intro x hx;simp only [yT,yP,or_false] at hx;rcases hx with rfl | rfl;·exact e1 _ (yi (Js (l:=b.low.l) (k:=k) 0 zc))
    ·exact e2 _ (yi (Js (l:=b.high.l) (k:=k) 0 zc))
   rw [this] at h;cases h
def V3e (a:XAir) (s:XSetting) (b:XBounds) (A:List Bool) (L:LB) (R:LS) (hm:AirR a R) (hs:SetR s R) (hb:BoundsR b R) (hA:Ko a=0→AiryIs a.mine A):
 Tri Tryz.prog 188 [a.val,s.val,b.val].toArray L R (fun v M U=>∃S:LS,v=.int .i64 (V7 a s b A)∧L=M∧S ++ R=U):=by
 have hmp:=hm.places;have hbl:=hb.low;have hbh:=hb.high;refine Ua Tryz.call188 hbl fun hbln=>?_;refine Ua Tryz.call188 hbh fun hbhn=>?_;refine Ua Tryz.call188 hmp fun hmpn=>?_;refine Jd 124 Tryz.call188 Tryz.func188 rfl rfl rfl ?_;apply (Xag);intro b3;apply (qax);intro b4;apply (qax);intro b5;apply Xau∘qa8;refine q_l rfl (Jka a _ _ hm) ?_;apply (Xbj);refine q_c ?_ ?_<;>intro hc0;·apply (Xcx);refine q_i L R ?_;exact ⟨[],by rw [V7,if_pos hc0],rfl,rfl⟩
 have h0:Ko a=0:=by omega
 have hok:=Ve h0;have hAA:=hA h0;have hmn:=hok.mine.places;apply qbo∘Xbp;refine q_l rfl (Jkb a s _ _ hm hs) ?_;apply (Xbg);refine q_c ?_ ?_<;>intro hc1;·apply (Xa1);refine q_i L R ?_;exact ⟨[],by rw [V7,if_neg hc0,if_pos zN],rfl,rfl⟩
 have hf0:J8a a s=true:=by simpa using hc1
 have hfo:=Zea hf0;have hff:¬ J8a a s=false:=by rw [hf0];decide
 apply qbo∘Xab∘Xcg∘Xb8;apply J3 (G:=[_,_,_,_,_,_,_,_]) (j:=8) (cj:=32) rfl rfl ze rfl ztb rfl;·intro hg9;replace hg9:=qb hg9;exact (Xab∘Xcg) zUd
 intro junk9;apply (qaf);refine q_c ?_ ?_<;>intro hc2;·apply (Xa1);refine q_i L R ?_;exact ⟨[],by rw [V7,if_neg hc0,if_neg hff,if_pos zc],rfl,rfl⟩
 have hln:b.low.l.length=a.mine.places.l.length:=by omega
 have hhn:b.high.l.length=a.mine.places.l.length:=by omega
 apply (Xd8);refine Jh [(3,.pointer _),(4,.pointer _),(5,.pointer _),(44,.int _ _),(45,.int _ _)] zg fun tq0=>?_;refine q_s ([6,8,10]++rg 45 27) (fun g:FSR (U2a b) (b.low.l.length)=>[(45,.int .i64 ((g.1:Nat):Int))]) (fun g=>(b.low.l.length) - g.1) ⟨0,Yh _ _⟩ ?_;rintro ⟨k0,hk0,hp0⟩ junk;try dsimp only
 apply (Xay);refine q_c ?_ ?_<;>intro hc3;·
  have hlg:=Js (l:=b.low.l) (k:=k0) 0 zc;have hhg:=Js (l:=b.high.l) (k:=k0) 0 zc;apply Xbv∘Xdf;refine Kg tb [0,1,2,3,4,5,6,7,8,9,12,10,11] ([Blk.mk b5 _ _]) Kn zf zk ?_;apply Xa8∘Yzf∘qbl∘Xa8∘Yzf∘qbl∘qao;refine V7a zWb rfl rfl rfl ?_;rintro v M U ⟨b58,rfl,rfl,hR58⟩;replace hR58:=hR58.symm;subst hR58;apply (qa1);refine Kq zHb rfl rfl rfl ?_;refine J9 (Ja (Jy ?_));refine Uh ([6,8,10]++rg 45 27) zG [(45,.int _ _),(58,.slice _ _ _),(59,.int _ _),(60,.int _ _)] zg fun tq1=>?_;refine V4 (M:=(⟨.own b58 2 [],[b.low.l.getD k0 0,b.high.l.getD k0 0]⟩:OwL Int).L 3 Jj ++ (⟨b5,b.cells,214⟩ :: ⟨b4,s.cells,80⟩ :: ⟨b3,a.cells,32⟩ :: L)) (by simp only [OwL.L,Ow.L,yQ,List.flatMap_nil,Jj,yla,yA,yv];rfl) ?_;refine q_s ([6,10]++rg 60 11) (fun g:FS (Um) ([b.low.l.getD k0 0,b.high.l.getD k0 0])=>[(60,.int .i64 ((g.1:Nat):Int))]) (fun g=>([b.low.l.getD k0 0,b.high.l.getD k0 0]).length - g.1) ⟨0,Yk _ _⟩ ?_;rintro ⟨k1,hk1,hp1⟩ junk;try dsimp only
  have hk58:(⟨.own b58 2 [],[b.low.l.getD k0 0,b.high.l.getD k0 0]⟩:OwL Int).ok 1 Jj:=⟨rfl,yn _,by simp only [maxLen];omega,rfl⟩;have hl2:[b.low.l.getD k0 0,b.high.l.getD k0 0].length=2:=rfl;apply (Xay);refine q_c ?_ ?_<;>intro hc4;·
   obtain ⟨y,hy⟩:=Ki (l:=[b.low.l.getD k0 0,b.high.l.getD k0 0]) (k:=k1) zc;apply (qbb);refine J0 (Jo tb ((⟨.own b58 2 [],[b.low.l.getD k0 0,b.high.l.getD k0 0]⟩:OwL Int)) _ rfl rfl rfl rfl zi (i:=k1) zo zw) rfl ?_;refine J0 (Kc tb ((⟨.own b58 2 [],[b.low.l.getD k0 0,b.high.l.getD k0 0]⟩:OwL Int)) rfl rfl rfl zm zi yf zi ze) rfl ?_;apply Xa2∘Xas;apply J3 (G:=[_,_]) (j:=2) (cj:=66) rfl rfl ze rfl ztb rfl;·exact zPd
   intro junk3;apply (qaf);refine q_c ?_ ?_<;>intro hc5;·apply (Xac);refine J6 (Ja (Ud (Jv (J1 (K9 (Jv (Jv (J1 (K9 (Jv (J1 ?_)))))))))));refine q_i L R ?_;(have hpb:U2a b k0=some 1:=by rw [U2a];exact Vi hp1 hy (if_pos zc));exact ⟨[],by rw [V7,if_neg hc0,if_neg hff,if_neg zc,if_pos (Vgc rfl zc zc hpb)],rfl,rfl⟩
   apply (Xbk);exact q_k ⟨k1 + 1,Ya hp1 hy (if_neg zc)⟩
  have hn1:=V9 hp1 zc;refine K5 (Kk (K1 (J8 (Jg (Ja (Je ?_))))));apply (Xan);exact q_k ⟨k0 + 1,Va hp0 zc hn1⟩
 have hn0:=V2 hp0 zc;have hrb:=Ujc (b:=b) rfl zc hn0;have hplb:PresOk b.low.l:=Kqa hrb.1;have hphb:PresOk b.high.l:=Kqa hrb.2;have hck:V7 a s b A=((List.range a.mine.places.l.length).findSome? (U4 a s b A)).getD 0:=by rw [V7,if_neg hc0,if_neg hff,if_neg zc,if_neg (by rw [hrb.1,hrb.2];simp)]
 apply qbk∘Xc4;refine Ju rfl (Veb a.mine _ _ hm.mineR hok.mine (Uza h0)) rfl ?_;rintro v M U ⟨p,A2,S,rfl,hpk,hA2,hpl,rfl,rfl⟩;obtain rfl:A=A2:=hAA.unique hA2;have hfx:p.l.length=a.mine.places.l.length:=by rw [hpl,yK];exact hAA.length
 have hm2:AirR a (S ++ R):=⟨hm.places.mono fun r h=>Jb (by simp [h]),hm.roads.mono fun r h=>Jb (by simp [h]),hm.fans.mono fun r h=>Jb (by simp [h]),hm.doors.mono fun r h=>Jb (by simp [h])⟩;have hs2:SetR s (S ++ R):=⟨hs.fans.mono fun r h=>Jb (by simp [h]),hs.doors.mono fun r h=>Jb (by simp [h])⟩;apply qc4∘qam∘Xbp;refine Ju rfl (Ugc a s _ _ hm2 hs2 hok hfo) rfl ?_;rintro v M U ⟨n,rfl,hn,rfl,rfl⟩;have hpp:InR (Zga n.pipes) (Zga n.pipes :: V6a n.at_ :: (S ++ R)):=Jb (.head _);have haa:InR (V6a n.at_) (Zga n.pipes :: V6a n.at_ :: (S ++ R)):=Jb (.tail _ (.head _));have hmp3:InR (psl a.mine.places) (Zga n.pipes :: V6a n.at_ :: (S ++ R)):=hmp.mono fun r h=>Jb (by simp [h]);have hbl3:InR (isl b.low) (Zga n.pipes :: V6a n.at_ :: (S ++ R)):=hbl.mono fun r h=>Jb (by simp [h]);have hbh3:InR (isl b.high) (Zga n.pipes :: V6a n.at_ :: (S ++ R)):=hbh.mono fun r h=>Jb (by simp [h]);apply (qaq);intro b12;apply Xbi∘qab∘Xbh;refine Jh [(5,.pointer _),(11,.slice _ _ _),(12,.pointer _),(80,.slice _ _ _),(81,.int _ _),(82,.int _ _)] zg fun tq2=>?_;refine q_s ([6,13,14]++rg 82 42) (fun g:FSR (U4 a s b A) (a.mine.places.l.length)=>[(82,.int .i64 ((g.1:Nat):Int))]) (fun g=>(a.mine.places.l.length) - g.1) ⟨0,Yh _ _⟩ ?_;rintro ⟨k2,hk2,hp2⟩ junk;try dsimp only
 apply (Xay);refine q_c ?_ ?_<;>intro hc6;·
  have hmg:=Js (l:=a.mine.places.l) (k:=k2) default zc;have hpg:p.l[k2]?=some (!(A.getD k2 false)):=by have:=hAA.length;rw [hpl,yt,Js (l:=A) (k:=k2) false zc];rfl
  have hlg:=Js (l:=b.low.l) (k:=k2) 0 zc;have hhg:=Js (l:=b.high.l) (k:=k2) 0 zc;apply Xbv∘Kgf∘Xei;intro b14;apply qad∘Xcv∘qah;apply J3 (G:=[_,_,_,_]) (j:=2) (cj:=89) rfl rfl ze rfl ztb rfl;·intro hg3;replace hg3:=qb hg3;apply (Xaj);refine J0 (Jo tb (p) _ rfl rfl rfl rfl zi (i:=k2) zo zw) rfl ?_;refine J0 zGb rfl ?_;exact qai
  intro junk3;apply (qaf);refine q_c ?_ ?_<;>intro hc7;·
   (have hnb:U4 a s b A k2=if b.low.l.getD k2 0≠0∨b.high.l.getD k2 0≠0 then some 12 else none:=by rw [U4,if_pos (by simpa [or_comm] using hc7)]);apply qae∘Xaf∘Kgf∘qa7∘Xb8;apply J3 (G:=[_,_,_,_,_,_]) (j:=6) (cj:=101) rfl rfl ze rfl ztb rfl;·intro hg7;replace hg7:=qb hg7;exact (Xaf∘Kgf∘qa7) zUd
   intro junk7;apply (qaf);refine q_c ?_ ?_<;>intro hc8;·exact zze
   apply (Xbk);exact q_k ⟨k2 + 1,Va hp2 zc (hnb.trans (if_neg zc))⟩
  have hnb:U4 a s b A k2=if Juc a s b.high.l (k2:Int) < 0∨0 < Uda a s b.low.l (k2:Int) then some 12 else none:=by rw [U4,if_neg (by simpa [and_comm] using hc7)]
  apply qae∘qbe∘Xaf;refine q_l rfl (Kxc n a s b.high _ _ _ hpp haa hbh3 hn hok hhn hphb zc) ?_;apply (Xas);refine Zi (k:=115) ztb (fun hg7=>?_) (fun hg7=>?_);·replace hg7:=qb hg7;(iterate 6 refine V8a rfl rfl ?_);refine J0 zQ rfl ?_;apply (qaf);refine K0 rfl ?_;exact zze
  replace hg7:=qb hg7;refine U6 zKb rfl rfl ?_;refine U6 zIb rfl rfl ?_;refine U6 zOb rfl rfl ?_;refine U6 (J2 zub) rfl rfl ?_;refine Vha rfl (Y0b n a s b.low _ _ _ hpp haa hbl3 hn hok hln hplb zc) rfl rfl ?_;rintro v M U ⟨rfl,rfl,rfl⟩;refine U6 zKc rfl rfl ?_;refine J0 zQ rfl ?_;apply (qaf);refine q_c ?_ ?_<;>intro hc9;·exact zze
  apply (Xbk);exact q_k ⟨k2 + 1,Va hp2 zc (hnb.trans (if_neg zc))⟩
 have hn2:=V2 hp2 zc;apply (Xca);refine q_i L (Zga n.pipes :: V6a n.at_ :: (S ++ R)) ?_;exact ⟨[Zga n.pipes,V6a n.at_] ++ S,by rw [hck,hn2];rfl,rfl,rfl⟩
end
section
attribute [local irreducible] CJ LJ DJ Tri YV Gives U7 Kb Kp U8 RV Ke OwL.L
def nothingS:XSpan:=⟨-1125899906842624,1125899906842624⟩
def Uo (a:XAir) (s:XSetting) (b:XBounds) (A:List Bool) (k:Nat):XSpan:=
 if (a.mine.roads.l.getD k default).closed=true then ⟨0,0⟩
 else if A.getD (a.mine.roads.l.getD k default).fr.toNat false=true then
  ⟨Uv (Uc a s k) (b.low.l.getD (a.mine.roads.l.getD k default).fr.toNat 0 - b.high.l.getD (a.mine.roads.l.getD k default).to.toNat 0),
   Ub (Uc a s k) (b.high.l.getD (a.mine.roads.l.getD k default).fr.toNat 0 - b.low.l.getD (a.mine.roads.l.getD k default).to.toNat 0)⟩
 else nothingS
def Up (a:XAir) (s:XSetting) (b:XBounds) (A:List Bool):List XSpan:=
 if V7 a s b A=0 then (List.range a.mine.roads.l.length).map (Uo a s b A) else []
def Vz (L:LB) (R:LS):
 Tri Tryz.prog 34 [].toArray L R (fun v M U=>v=nothingS.val∧L=M∧R=U):=by refine Jd 2 Tryz.call34 Tryz.func34 rfl rfl rfl ?_;exact zag
section
variable {A B:Prop}
def K5f(h:A→B:=by exact Y6 zFb rfl):=h
def K8f(h:A→B:=by exact Y6 zwd rfl):=h
def Zvf(h:A→B:=by exact Kz zKb rfl rfl rfl rfl):=h
def Ysf(h:A→B:=by exact Kz zjb rfl rfl rfl rfl):=h
def U7f(h:A→B:=by exact Kz zkb rfl rfl rfl rfl):=h
end
structure CheckOk (a:XAir) (s:XSetting) (b:XBounds):Prop where
 h0:Ko a=0
 hf:J8a a s=true
 hl:b.low.l.length=a.mine.places.l.length
 hh:b.high.l.length=a.mine.places.l.length
 pl:PresOk b.low.l
 ph:PresOk b.high.l
def Yrb {a:XAir} {s:XSetting} {b:XBounds} {A:List Bool} (h:V7 a s b A=0):CheckOk a s b:=by
 unfold V7 at h;split at h;·exact ubv
 rename_i h1;split at h;·cases h
 rename_i h2;split at h;·cases h
 rename_i h3;split at h;·cases h
 rename_i h4;refine ⟨by omega,by simpa using h2,by omega,by omega,Kqa ?_,Kqa ?_⟩;·
  cases e:b.low.l.findSome? Um with
  | none=>rfl
  | some x=>exact absurd (.inl (by rw [e];rfl)) h4
 ·
  cases e:b.high.l.findSome? Um with
  | none=>rfl
  | some x=>exact absurd (.inr (by rw [e];rfl)) h4
def Jad (a:XAir) (s:XSetting) (b:XBounds) (A:List Bool) (L:LB) (R:LS) (hm:AirR a R) (hs:SetR s R) (hb:BoundsR b R) (hA:Ko a=0→AiryIs a.mine A):
 Tri Tryz.prog 210 [a.val,s.val,b.val].toArray L R (fun v M U=>∃p:OwL XSpan,v=p.val∧p.ok 2 XSpan.cells∧p.l=Up a s b A∧p.L 90 XSpan.cells ++ L=M∧R=U):=by
 have hmr:=hm.roads;have hbl:=hb.low;have hbh:=hb.high;refine Jd 84 Tryz.call210 Tryz.func210 rfl rfl rfl ?_;apply (Xag);intro b3;apply (qax);intro b4;apply (qax);intro b5;apply Xbz∘Xbp∘qbe;refine q_l rfl (Kqd a s b A _ _ hm hs hb hA) ?_;apply (Xaw);refine q_c ?_ ?_<;>intro hc0;·apply Xdi∘qbh;refine q_r L R zzd ?_;exact ⟨OwL.nil,rfl,OwL.nil_ok,by rw [Up,if_neg hc0],by rw [Kr,yv],rfl⟩
 have hck:V7 a s b A=0:=by omega
 have hC:=Yrb hck;have hok:=Ve hC.h0;have hfo:=Zea hC.hf;have hAA:=hA hC.h0;have hnr:=hok.mine.roads;have hln:=hC.hl;have hhn:=hC.hh;apply qbv∘Xc4;refine Ju rfl (Uzd a.mine _ _ hm.mineR hok.mine) rfl ?_;rintro v M U ⟨p,rfl,hpk,hA2,rfl,rfl⟩;have hpA:p.l=A:=hA2.unique hAA;have hAl:=hAA.length;apply (Xd3);refine Uca fun c w hst=>⟨_,_,hst.perm yda,?_⟩;apply qay∘Xbz∘Xat;refine Jh [(3,.pointer _),(4,.pointer _),(5,.pointer _),(7,.slice _ _ _),(8,.slice _ _ _),(9,.int _ _)] zg fun tq0=>?_;refine K8 ([8,9,10,11]++rg 20 63) ((⟨fun q=>[(9,.int .i64 ((q.1.1:Nat):Int)),(8,q.1.2.val)],fun q=>q.1.2.L 90 XSpan.cells ++ (p.L 4 blc ++ (⟨b5,b.cells,214⟩ :: ⟨b4,s.cells,80⟩ :: ⟨b3,a.cells,32⟩ :: L)),fun _=>R,fun q=>a.mine.roads.l.length - q.1.1⟩:Head {q:Nat×OwL XSpan // q.1≤a.mine.roads.l.length∧q.2.ok 2 XSpan.cells∧q.2.l=(List.range q.1).map (Uo a s b A)})) (⟨(0,OwL.nil),by dsimp only;omega,OwL.nil_ok,rfl⟩) zg zK zJb ?_;rintro ⟨⟨k,q⟩,w1,w2,w3⟩ junk;try dsimp only
 dsimp only at w1 w2 w3;apply Xap∘qab∘Xa9;refine q_c ?_ ?_<;>intro hc1;·
  have hr:=Js (l:=a.mine.roads.l) (k:=k) default zc;have hro:=hok.mine.road _ _ hr;have hr1:=hro.fr;have hr2:=hro.to;have hql:q.l.length=k:=by rw [w3];simp
  have hpg:p.l[(a.mine.roads.l.getD k default).fr.toNat]?=some (A.getD (a.mine.roads.l.getD k default).fr.toNat false):=by rw [hpA];exact Js _ zc
  have hpl:p.l.length=a.mine.places.l.length:=by rw [hpA];exact hAl
  have g1:=Js (l:=b.low.l) (k:=(a.mine.roads.l.getD k default).fr.toNat) 0 zc;have g2:=Js (l:=b.low.l) (k:=(a.mine.roads.l.getD k default).to.toNat) 0 zc;have g3:=Js (l:=b.high.l) (k:=(a.mine.roads.l.getD k default).fr.toNat) 0 zc;have g4:=Js (l:=b.high.l) (k:=(a.mine.roads.l.getD k default).to.toNat) 0 zc;have e1:=hC.pl.get (a.mine.roads.l.getD k default).fr.toNat;have e2:=hC.pl.get (a.mine.roads.l.getD k default).to.toNat;have e3:=hC.ph.get (a.mine.roads.l.getD k default).fr.toNat;have e4:=hC.ph.get (a.mine.roads.l.getD k default).to.toNat;apply qbb∘Xc3;refine J0 zC rfl ?_;apply (Xeo);intro b10;apply Xbe∘qck∘qaq;intro b11;apply Xdz∘Xbg;refine q_c ?_ ?_<;>intro hc2;·
   apply (qae);refine q_l rfl (Vz _ _) ?_;apply Xbe∘Xc9;refine J0 (Jo tb (p) _ rfl rfl rfl rfl zi (i:=(a.mine.roads.l.getD k default).fr.toNat) zo zw) rfl ?_;refine J0 zGb rfl ?_;apply (qaf);refine q_c ?_ ?_<;>intro hc3;·(have hrf:Uo a s b A k=⟨Uv (Uc a s k) (b.low.l.getD (a.mine.roads.l.getD k default).fr.toNat 0 - b.high.l.getD (a.mine.roads.l.getD k default).to.toNat 0),Ub (Uc a s k) (b.high.l.getD (a.mine.roads.l.getD k default).fr.toNat 0 - b.low.l.getD (a.mine.roads.l.getD k default).to.toNat 0)⟩:=by rw [Uo,if_neg zO,if_pos zra]);refine Kh tb [] [0,1,2,3,4,5,6,7,8,9,10,11,12,13,14,15,17,18,19,20,21,22,23,24,25,26,27,28,29,30,31,32,16,33,34] [35] ([Blk.mk b11 _ _,Blk.mk b10 _ _,Blk.mk b5 _ _,Blk.mk b4 _ _,Blk.mk b3 _ _]) _ Kn zf zk (by (repeat (first | apply List.Sublist.cons (a:=Blk.mk b11 _ _) | apply List.Sublist.cons_cons));exact yu _) ?_;apply qde∘Zvf∘qbf∘Xdv∘Ysf∘qci∘Xdv∘U7f∘qci∘qcc∘qde∘Zvf∘qbf∘Xdv∘Ysf∘qci∘Xdv∘U7f∘qci∘qcc;refine Kv rfl (Zha a s _ _ _ _ hm hs hok hfo zc) rfl rfl ?_;rintro v M U ⟨rfl,rfl,rfl⟩;refine ⟨zk,zu,?_⟩;refine Kv rfl (Vla a s _ _ _ _ hm hs hok hfo zc) rfl rfl ?_;rintro v M U ⟨rfl,rfl,rfl⟩;refine ⟨zk,zu,?_⟩;apply qcw∘Xd4;refine J9 (Ja (Je ?_));exact zMd
   (have hrf:Uo a s b A k=nothingS:=by rw [Uo,if_neg zO,if_neg zra]);refine Jt (Ja (Je ?_));exact zMd
  have hrf:Uo a s b A k=⟨0,0⟩:=by rw [Uo,if_pos zO]
  refine Jt (Ja (Je ?_));exact zMd
 obtain rfl:k=a.mine.roads.l.length:=by omega
 apply qbk∘Xej;refine q_r (q.L 90 XSpan.cells ++ L) R zzd ?_;exact ⟨q,rfl,w2,by rw [Up,if_pos hck];exact w3,rfl,rfl⟩
end
section
structure Accept (a:XAir) (s:XSetting) (b:XBounds) (A:List Bool):Prop where
 ck:CheckOk a s b
 fix:∀i:Nat,i < a.mine.places.l.length→(!(A.getD i false) || (a.mine.places.l.getD i default).surface)=true→b.low.l.getD i 0=0∧b.high.l.getD i 0=0
 net:∀i:Nat,i < a.mine.places.l.length→¬ (!(A.getD i false) || (a.mine.places.l.getD i default).surface)=true→0≤Juc a s b.high.l (i:Int)∧Uda a s b.low.l (i:Int)≤0
def U2b {a:XAir} {s:XSetting} {b:XBounds} {A:List Bool} (h:CheckOk a s b):V7 a s b A=((List.range a.mine.places.l.length).findSome? (U4 a s b A)).getD 0:=by have h1:=h.hl;have h2:=h.hh;rw [V7,if_neg (by rw [h.h0];decide),if_neg (by rw [h.hf];decide),if_neg zc,if_neg (by rw [Jbb h.pl,Jbb h.ph];simp)]
def Usc (a:XAir) (s:XSetting) (b:XBounds) (A:List Bool) (i:Nat):U4 a s b A i=none∨U4 a s b A i=some 12:=by
 unfold U4;split;·
  split;·exact .inr rfl
  ·exact .inl rfl
 ·
  split;·exact .inr rfl
  ·exact .inl rfl
def Yed {a:XAir} {s:XSetting} {b:XBounds} {A:List Bool}:V7 a s b A=0↔Accept a s b A:=by
 have node:∀i,U4 a s b A i=none↔((!(A.getD i false) || (a.mine.places.l.getD i default).surface)=true→b.low.l.getD i 0=0∧b.high.l.getD i 0=0)∧(¬ (!(A.getD i false) || (a.mine.places.l.getD i default).surface)=true→0≤Juc a s b.high.l (i:Int)∧Uda a s b.low.l (i:Int)≤0):=fun i=>by
  unfold U4;by_cases h1:(!(A.getD i false) || (a.mine.places.l.getD i default).surface)=true;·
   rw [if_pos h1];refine ⟨fun h=>⟨fun _=>?_,fun h'=>absurd h1 h'⟩,fun h=>if_neg (by have:=h.1 h1;omega)⟩;split at h;·cases h
   ·omega
  ·
   rw [if_neg h1];refine ⟨fun h=>⟨fun h'=>absurd h' h1,fun _=>?_⟩,fun h=>if_neg (by have:=h.2 h1;omega)⟩;split at h;·cases h
   ·omega
 constructor;·
  intro h;have hC:=Yrb h;rw [U2b hC] at h;have hn:(List.range a.mine.places.l.length).findSome? (U4 a s b A)=none:=by
   cases e:(List.range a.mine.places.l.length).findSome? (U4 a s b A) with
   | none=>rfl
   | some v=>
    obtain ⟨i,_,hi⟩:=yw e;rcases Usc a s b A i with h1 | h1;·rw [h1] at hi;cases hi
    ·rw [h1] at hi;cases hi;rw [e] at h;cases h
  rw [yG] at hn;exact ⟨hC,fun i hi=>((node i).1 (hn i (List.mem_range.2 hi))).1,fun i hi=>((node i).1 (hn i (List.mem_range.2 hi))).2⟩
 ·intro h;rw [U2b h.ck,List.findSome?_eq_none_iff.2 (fun i hi=>(node i).2 ⟨h.fix i (List.mem_range.1 hi),h.net i (List.mem_range.1 hi)⟩)];rfl
end
end Go.Proofs.YtchfclmokpbldaaGreat
