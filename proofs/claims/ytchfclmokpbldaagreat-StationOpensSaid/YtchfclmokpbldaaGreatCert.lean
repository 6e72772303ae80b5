/-
  Merged texts. By an AI agent.
-/
import Derived.Test.YtchfclmokpbldaaGreatReach
set_option linter.all false
set_option maxHeartbeats 4000000
set_option maxRecDepth 20000
namespace Go.Proofs.YtchfclmokpbldaaGreat
open Go.Aw Go
section
attribute [local irreducible] CJ LJ DJ Tri YV Gives U7 Kb Kp U8 RV Ke OwL.L
section
variable {A B:Prop}
def Jwf(h:A→B:=by exact J0 (Jo tb ((⟨o,l⟩:OwL Bool)) _ rfl rfl ((show _=Value.slice _ _ _ from rfl).trans (show Value.slice o.addr A.length o.cap=(⟨o,l⟩:OwL Bool).val by simp only [OwL.val,hll,hAl])) rfl zi (i:=k) zo zw) rfl):=h
def Jag(h:A→B:=by exact V5 (Jp tb ((⟨o,l⟩:OwL Bool)) (_) rfl rfl rfl rfl zm zi yf zi zj ze ze)):=h
end
def AiryIs.length {m:XMine} {A:List Bool} (h:AiryIs m A):A.length=m.places.l.length:=by rw [h.len];simp [Jud]
def Yye {m:XMine} {A l:List Bool} (hA:AiryIs m A) (hl:l.length=m.places.l.length) (h:∀i:Nat,l.getD i false=true↔(i:Int)∈Ura A m.places.l.length):l=A.map (!·):=by
 have hAl:=hA.length;refine yfa fun i=>?_;rcases yk i m.places.l.length with hi | hi;·rw [Js (l := l) (k := i) false zc, yt, Js (l := A) (k := i) false zc];have h1:=h i;rw [K9b] at h1;have h2:l.getD i false=true↔¬ A.getD i false=true:=h1.trans ⟨fun ⟨j,e,_,h3⟩=>by rw [show i=j from by omega];exact h3,fun h3=>⟨i,rfl,hi,h3⟩⟩;simp only [yFa,yEa];cases ha:A.getD i false <;> cases hb:l.getD i false <;> simp_all
 ·rw [yq zc,yq zH]
def Veb (m:XMine) (L:LB) (R:LS) (hm:MineR m R) (hok:MineOk m) (hv:Ui m=0):
 Tri Tryz.prog 189 [m.val].toArray L R (fun w M U=>∃(p:OwL Bool) (A:List Bool) (S:LS),w=p.val∧p.ok 1 blc∧AiryIs m A∧p.l=A.map (!·)∧p.L 4 blc ++ L=M∧S ++ R=U):=by
 have hmp:=hm.places;have hnp:=hok.places;refine Jd 22 Tryz.call189 Tryz.func189 rfl rfl rfl ?_;apply (Xag);intro b1;apply qc4∘qam∘Xab∘qc7;rintro v M U ⟨b9,rfl,rfl,hR9⟩;replace hR9:=hR9.symm;subst hR9;apply (Xd1);refine V4 zgc ?_;apply qay∘qbe;refine Ju rfl (Zjd m _ _ hm hok hv) rfl ?_;rintro v M U ⟨p,A,S,rfl,hpk,hA,hpl,rfl,rfl⟩;have hpn:=Vqa A m.places.l.length;rw [← hpl] at hpn;apply qag∘Xa0;refine Jh [(3,.slice _ _ _),(11,.slice _ _ _),(12,.int _ _),(13,.int _ _)] zg fun tq0=>?_;refine q_p ([5]++rg 13 8) ((⟨fun q=>[(13,.int .i64 ((q.1.1:Nat):Int))],fun q=>p.L 3 Jj ++ ((⟨.own b9 m.places.l.length [],q.1.2⟩:OwL Bool).L 4 blc ++ (⟨b1,m.cells,28⟩ :: L)),fun _=>S ++ R,fun q=>p.l.length - q.1.1⟩:Head {q:Nat×List Bool // q.1≤p.l.length∧q.2.length=m.places.l.length∧∀i:Nat,q.2.getD i false=true↔∃j:Nat,j < q.1∧p.l[j]?=some (i:Int)})) (⟨(0,List.replicate m.places.l.length false),by dsimp only;omega,by simp,fun i=>⟨fun h=>(by simp [yh,yL] at h;split at h <;> simp at h),fun ⟨j,hj,_⟩=>zc⟩⟩) ?_;rintro ⟨⟨k,l⟩,q1,hll,q3⟩ junk;try dsimp only
 dsimp only at q1 hll q3;have hkf:(⟨.own b9 m.places.l.length [],l⟩:OwL Bool).ok 1 blc:=by have:=Yj (f:=blc) (wd:=1) (b:=b9) (n:=m.places.l.length) (x:=false) V1 zF;exact OwL.len_ok V1 this zua
 apply (Xay);refine q_c ?_ ?_<;>intro hc0;·
  have hg:=Js (l:=p.l) (k:=k) 0 zc;have hmem:=yi hg;rw [hpl] at hmem;obtain ⟨u,hve,hvl,hvA⟩:=K9b.1 hmem;rw [← hpl] at hve;rw [hve] at hg;have hlg:=Js (l:=l) (k:=u) false zc;apply (qbb);refine J0 (Jo tb (p) _ rfl rfl rfl rfl zi (i:=k) zo zw) rfl ?_;refine J0 zGb rfl ?_;apply (qad);refine J6 (Ja (Je ?_));apply (Xaj);refine J0 (Jo tb ((⟨.own b9 m.places.l.length [],l⟩:OwL Bool)) _ rfl rfl ((show _=Value.slice _ _ _ from rfl).trans (Uq hll)) rfl zi (i:=u) zo zw) rfl ?_;refine V5 (Jp tb ((⟨.own b9 m.places.l.length [],l⟩:OwL Bool)) (true) rfl rfl rfl rfl zm zi yf zi zj ze ze) ?_;rintro v M U ⟨rfl,rfl⟩;apply (Xb1);exact Ka ⟨(k + 1,l.set u true),by dsimp only;omega,by simp;exact hll,fun i=>by
  dsimp only;rw [Yua zc];split;·rename_i e;exact ⟨fun _=>⟨k,by omega,by rw [e];exact hg⟩,fun _=>rfl⟩
  ·
   rename_i e;refine (q3 i).trans ⟨fun ⟨j,h1,h2⟩=>⟨j,by omega,h2⟩,fun ⟨j,h1,h2⟩=>?_⟩;rcases yk j k with h4 | h4;·exact ⟨j,h4,h2⟩
   ·(obtain rfl : j = k := by omega);rw [hg] at h2;exact absurd (by have:=yH h2;omega) e⟩ zp zg zk zJb zt
 obtain rfl:k=p.l.length:=by omega
 have hlm:=Yye hA hll (fun i=>by rw [q3 i,← hpl,List.mem_iff_getElem?];exact ⟨fun ⟨j,_,h⟩=>⟨j,h⟩,fun ⟨j,h⟩=>⟨j,(List.getElem?_eq_some_iff.1 h).1,h⟩⟩);apply qbk∘Xej;refine q_r ((⟨.own b9 m.places.l.length [],l⟩:OwL Bool).L 4 blc ++ L) (S ++ R) zzd ?_;exact ⟨(⟨.own b9 m.places.l.length [],l⟩:OwL Bool),A,S,Uq hll,hkf,hA,hlm,rfl,rfl⟩
def Uje (m:XMine) (A:List Bool):List Bool:=(List.range m.places.l.length).map fun i=>!(A.getD i false) || (m.places.l.getD i default).surface
def Vnb {m:XMine} {A:List Bool} {i:Nat} (h:i < m.places.l.length):(Uje m A)[i]?=some (!(A.getD i false) || (m.places.l.getD i default).surface):=by rw [Uje,yt,yZ h];rfl
def Yjb (m:XMine) (L:LB) (R:LS) (hm:MineR m R) (hok:MineOk m):
 Tri Tryz.prog 286 [m.val].toArray L R (fun w M U=>∃(p:OwL Bool) (A:List Bool),w=p.val∧p.ok 1 blc∧AiryIs m A∧p.l=Uje m A∧L ++ p.L 4 blc=M∧R=U):=by
 have hmp:=hm.places;have hnp:=hok.places;refine Jd 30 Tryz.call286 Tryz.func286 rfl rfl rfl ?_;apply (Xag);intro b1;apply qc4∘qam∘qbe;refine Ju rfl (Uzd m _ _ hm hok) rfl ?_;rintro v M U ⟨p,rfl,hp,hA,rfl,rfl⟩;simp only [yp,yA,yv];have hAl:=hA.length;obtain ⟨o,A⟩:=p;dsimp only at hA hAl;apply Xbz∘Xat;refine Jh [(1,.pointer _),(3,.slice _ _ _),(4,.int _ _)] zg fun tq0=>?_;refine q_p ([4]++rg 7 22) ((⟨fun q=>[(4,.int .i64 ((q.1.1:Nat):Int))],fun q=>⟨b1,m.cells,28⟩ :: (L ++ (⟨o,q.1.2⟩:OwL Bool).L 4 blc),fun _=>R,fun q=>m.places.l.length - q.1.1⟩:Head {q:Nat×List Bool // q.1≤m.places.l.length∧q.2.length=m.places.l.length∧(⟨o,q.2⟩:OwL Bool).ok 1 blc∧∀i:Nat,q.2[i]?=if i < q.1 then (Uje m A)[i]? else A[i]?})) (⟨(0,A),by dsimp only;omega,hAl,hp,fun i=>by rw [if_neg zt]⟩) ?_;rintro ⟨⟨k,l⟩,q1,hll,hk,q3⟩ junk;try dsimp only
 dsimp only at q1 hll hk q3;apply (Xcr);refine q_c ?_ ?_<;>intro hc0;·
  have hpg:=Js (l:=m.places.l) (k:=k) default zc;have hAg:=Js (l:=A) (k:=k) false zc;have hlg:l[k]?=some (A.getD k false):=by rw [q3 k,if_neg zc];exact hAg
  have hfk:=Vnb (m:=m) (A:=A) (i:=k) zc;refine Jt (Ja (Ji (Jy (Je ?_))));apply Xaj∘Xaj∘Jwf;refine J0 (Kc tb ((⟨o,l⟩:OwL Bool)) rfl rfl rfl zm zi yf zi ze) rfl ?_;apply (Xdd);refine Zi (k:=20) ztb (fun hg8=>?_) (fun hg8=>?_);·replace hg8:=qb hg8;(iterate 6 refine V8a rfl rfl ?_);exact uaj
  replace hg8:=qb hg8;refine U6 zIb rfl rfl ?_;refine U6 zOb rfl rfl ?_;refine U6 (J2 zub) rfl rfl ?_;refine U6 zC rfl rfl ?_;refine U6 zMc rfl rfl ?_;refine U6 zba rfl rfl ?_;exact uaj
 obtain rfl:k=m.places.l.length:=by omega
 have hlf:l=Uje m A:=by
  refine yfa fun i=>?_;rw [q3 i];split;·rfl
  ·rw [yq zc,yq (by simp [Uje];omega)]
 apply qbk∘Xej;refine q_r (L ++ (⟨o,l⟩:OwL Bool).L 4 blc) R zzd ?_;exact ⟨⟨o,l⟩,A,(show Value.slice o.addr A.length o.cap=(⟨o,l⟩:OwL Bool).val by simp only [OwL.val,hll,hAl]),hk,hA,hlf,rfl,rfl⟩
end
section
attribute [local irreducible] CJ LJ DJ Tri YV Gives U7 Kb Kp U8 RV Ke OwL.L
section
variable {A B:Prop}
def V2e(h:A→B:=by exact J0 zP rfl):=h
def V6e(h:A→B:=by exact J0 zQ rfl):=h
def Kvf(h:B:=by exact ⟨by rw [hck,Ul hp0 zc (hnb.trans (if_pos zc))];rfl,rfl,rfl⟩):=h
def J9g(h:B:=by exact ⟨by rw [V7,if_neg hc0,if_neg hff,if_neg zc,if_pos (by simp_all [Option.isSome_iff_ne_none])],rfl,rfl⟩):=h
end
structure XBounds where
 low:Arr Int
 high:Arr Int
def XBounds.cells (s:XBounds):List Value:=[s.low.val,s.high.val]
abbrev XBounds.val (s:XBounds):Value:=.agg #[s.low.val,s.high.val]
structure BoundsR (s:XBounds) (R:LS):Prop where
 low:InR (isl s.low) R
 high:InR (isl s.high) R
def U4 (a:XAir) (s:XSetting) (b:XBounds) (A:List Bool) (i:Nat):Option Int:=
 if (!(A.getD i false) || (a.mine.places.l.getD i default).surface)=true then (if b.low.l.getD i 0≠0∨b.high.l.getD i 0≠0 then some 12 else none)
 else (if Juc a s b.high.l (i:Int) < 0∨0 < Uda a s b.low.l (i:Int) then some 12 else none)
def V7 (a:XAir) (s:XSetting) (b:XBounds) (A:List Bool):Int:=
 if Ko a≠0 then Ko a
 else if J8a a s=false then 21
 else if b.low.l.length≠a.mine.places.l.length∨b.high.l.length≠a.mine.places.l.length then 11
 else if (b.low.l.findSome? Um).isSome=true∨(b.high.l.findSome? Um).isSome=true then 1
 else ((List.range a.mine.places.l.length).findSome? (U4 a s b A)).getD 0
def Jfb (m:XMine) (A:List Bool):(Uje m A).length=m.places.l.length:=by simp [Uje]
def Kwb (x:Arr Int) (L:LB) (R:LS) (hx:InR (isl x) R):
 Tri Tryz.prog 285 [x.val].toArray L R (fun v M U=>v=.bool (x.l.findSome? Um).isNone∧L=M∧R=U):=by
 refine Ua Tryz.call285 hx fun hxn=>?_;refine Jd 22 Tryz.call285 Tryz.func285 rfl rfl rfl ?_;apply Xew∘Xat;refine Jh [(0,.slice _ _ _),(3,.int _ _)] zg fun tq0=>?_;refine q_s (rg 2 20) (fun g:FS (Um) (x.l)=>[(3,.int .i64 ((g.1:Nat):Int))]) (fun g=>(x.l).length - g.1) ⟨0,Yk _ _⟩ ?_;rintro ⟨k0,hk0,hp0⟩ junk;try dsimp only
 apply (Xcr);refine q_c ?_ ?_<;>intro hc0;·
  obtain ⟨y,hy⟩:=Ki (l:=x.l) (k:=k0) zc;apply qbb∘Xaj∘V2e∘qa7∘Xas;apply J3 (G:=[_,_,_,_,_]) (j:=5) (cj:=15) rfl rfl ze rfl ztb rfl;·intro hg6;replace hg6:=qb hg6;exact (Xaj∘V2e∘qa7) zpf
  intro junk6;apply (qaf);refine q_c ?_ ?_<;>intro hc1;·apply (Xci);refine q_b L R ?_;exact ⟨by rw [Vi hp0 hy (if_pos zc)];rfl,rfl,rfl⟩
  apply (Xa4);exact q_k ⟨k0 + 1,Ya hp0 hy (if_neg zc)⟩
 have hn0:=V9 hp0 zc;apply (Xde);refine q_b L R ?_;exact ⟨by rw [hn0];rfl,rfl,rfl⟩
def Kqd (a:XAir) (s:XSetting) (b:XBounds) (A:List Bool) (L:LB) (R:LS) (hm:AirR a R) (hs:SetR s R) (hb:BoundsR b R) (hA:Ko a=0→AiryIs a.mine A):
 Tri Tryz.prog 255 [a.val,s.val,b.val].toArray L R (fun v M U=>v=.int .i64 (V7 a s b A)∧L=M∧R=U):=by
 have hmp:=hm.places;have hbl:=hb.low;have hbh:=hb.high;refine Ua Tryz.call255 hbl fun hbln=>?_;refine Ua Tryz.call255 hbh fun hbhn=>?_;refine Ua Tryz.call255 hmp fun hmpn=>?_;refine Jd 88 Tryz.call255 Tryz.func255 rfl rfl rfl ?_;apply (Xag);intro b3;apply (qax);intro b4;apply (qax);intro b5;apply Xau∘qa8;refine q_l rfl (Z2 a _ _ hm) ?_;apply (Xbj);refine q_c ?_ ?_<;>intro hc0;·apply (Xcx);refine q_i L R ?_;exact ⟨by rw [V7,if_pos hc0],rfl,rfl⟩
 have h0:Ko a=0:=by omega
 have hok:=Ve h0;have hAA:=hA h0;apply qbo∘Xbp;refine q_l rfl (Uha a s _ _ hm hs) ?_;apply (Xbg);refine q_c ?_ ?_<;>intro hc1;·apply (Xa1);refine q_i L R ?_;exact ⟨by rw [V7,if_neg hc0,if_pos (by simpa [Yka,h0] using hc1)],rfl,rfl⟩
 have hf0:J8a a s=true:=by simpa [Yka,h0] using hc1
 have hfo:=Zea hf0;have hff:¬ J8a a s=false:=by rw [hf0];decide
 apply qbv∘Xcg∘Xau∘Xab∘qaa∘Xb8;apply J3 (G:=[_,_,_,_,_]) (j:=5) (cj:=29) rfl rfl ze rfl ztb rfl;·intro hg6;replace hg6:=qb hg6;exact (Xab∘qaa) zUd
 intro junk6;apply (qaf);refine q_c ?_ ?_<;>intro hc2;·apply (Xa1);refine q_i L R ?_;exact ⟨by rw [V7,if_neg hc0,if_neg hff,if_pos zc],rfl,rfl⟩
 have hln:b.low.l.length=a.mine.places.l.length:=by omega
 have hhn:b.high.l.length=a.mine.places.l.length:=by omega
 apply (Xch);refine q_l rfl (Kwb b.low _ _ hbl) ?_;apply (Xdd);refine Zi (k:=40) ztb (fun hg5=>?_) (fun hg5=>?_);·
  replace hg5:=qb hg5;iterate 4 refine V8a rfl rfl ?_
  apply V6e∘qaf;refine K0 rfl ?_;apply (Xa1);refine q_i L R ?_;exact J9g
 replace hg5:=qb hg5;refine U6 zIb rfl rfl ?_;refine U6 zOb rfl rfl ?_;refine Vha rfl (Kwb b.high _ _ hbh) rfl rfl ?_;rintro v M U ⟨rfl,rfl,rfl⟩;refine U6 (Uva rfl) rfl rfl ?_;apply V6e∘qaf;refine q_c ?_ ?_<;>intro hc3;·apply (Xa1);refine q_i L R ?_;exact J9g
 have hr:¬ (b.low.l.findSome? Um).isSome=true∧¬ (b.high.l.findSome? Um).isSome=true:=by simp_all
 apply qbv∘Xc4;refine Ju rfl zad rfl ?_;rintro v M U ⟨p,A2,rfl,hpk,hA2,hpl,rfl,rfl⟩;obtain rfl:A=A2:=hAA.unique hA2;have hfx:p.l.length=a.mine.places.l.length:=by rw [hpl];exact Jfb a.mine A
 have hplb:PresOk b.low.l:=Kqa (by simpa using hr.1);have hphb:PresOk b.high.l:=Kqa (by simpa using hr.2);have hck:V7 a s b A=((List.range a.mine.places.l.length).findSome? (U4 a s b A)).getD 0:=by rw [V7,if_neg hc0,if_neg hff,if_neg zc,if_neg (fun h=>h.elim hr.1 hr.2)]
 apply (Xd1);refine Uca fun c w hst=>⟨_,_,hst.perm yda,?_⟩;apply (Xe2);refine Jh [(3,.pointer _),(4,.pointer _),(5,.pointer _),(8,.int _ _),(9,.slice _ _ _),(10,.int _ _)] zg fun tq0=>?_;refine q_s ([6,10]++rg 49 39) (fun g:FSR (U4 a s b A) (a.mine.places.l.length)=>[(10,.int .i64 ((g.1:Nat):Int))]) (fun g=>(a.mine.places.l.length) - g.1) ⟨0,Yh _ _⟩ ?_;rintro ⟨k0,hk0,hp0⟩ junk;try dsimp only
 apply (Xea);refine q_c ?_ ?_<;>intro hc4;·
  have hpg:p.l[k0]?=some (!(A.getD k0 false) || (a.mine.places.l.getD k0 default).surface):=by rw [hpl];exact Vnb zc
  have hlg:=Js (l:=b.low.l) (k:=k0) 0 zc;have hhg:=Js (l:=b.high.l) (k:=k0) 0 zc;refine Jt (Ja (Ji (Jy (Ji (Ji (Je ?_))))));apply (Xaj);refine J0 (Jo tb (p) _ rfl rfl rfl rfl zi (i:=k0) zo zw) rfl ?_;refine J0 zGb rfl ?_;apply (qaf);refine q_c ?_ ?_<;>intro hc5;·
   (have hnb:U4 a s b A k0=if b.low.l.getD k0 0≠0∨b.high.l.getD k0 0≠0 then some 12 else none:=by rw [U4,if_pos zqa]);apply qbi∘Xaf∘V2e∘qa7∘Xb8;apply J3 (G:=[_,_,_,_,_,_]) (j:=6) (cj:=64) rfl rfl ze rfl ztb rfl;·intro hg7;replace hg7:=qb hg7;exact (Xaf∘V2e∘qa7) zUd
   intro junk7;apply (qaf);refine q_c ?_ ?_<;>intro hc6;·apply (Xac);refine J6 (Ja (Ud (J1 (J1 (Jv (J1 (K9 (Jv (J1 ?_)))))))));refine q_i L R ?_;exact Kvf
   refine Jt (Ja (K5 (Kk (J8 (Ja (Je ?_))))));apply (Xak);exact q_k ⟨k0 + 1,Va hp0 zc (hnb.trans (if_neg zc))⟩
  have hnb:U4 a s b A k0=if Juc a s b.high.l (k0:Int) < 0∨0 < Uda a s b.low.l (k0:Int) then some 12 else none:=by rw [U4,if_neg zqa]
  apply qbv∘Xbp∘Xaf;refine q_l rfl (J1c a s b.high _ _ _ hm hs hbh hok hfo hhn hphb) ?_;apply (Xas);refine Zi (k:=79) ztb (fun hg8=>?_) (fun hg8=>?_);·replace hg8:=qb hg8;(iterate 7 refine V8a rfl rfl ?_);apply V6e∘qaf;refine K0 rfl ?_;apply (Xbr);refine q_i L R ?_;exact Kvf
  replace hg8:=qb hg8;refine U6 zuc rfl rfl ?_;refine U6 zKb rfl rfl ?_;refine U6 zIb rfl rfl ?_;refine U6 zOb rfl rfl ?_;refine U6 (J2 zub) rfl rfl ?_;refine Vha rfl (Y5b a s b.low _ _ _ hm hs hbl hok hfo hln hplb) rfl rfl ?_;rintro v M U ⟨rfl,rfl,rfl⟩;refine U6 zKc rfl rfl ?_;apply V6e∘qaf;refine q_c ?_ ?_<;>intro hc7;·apply (Xbr);refine q_i L R ?_;exact Kvf
  apply (Xa4);exact q_k ⟨k0 + 1,Va hp0 zc (hnb.trans (if_neg zc))⟩
 exact zyf
end
end Go.Proofs.YtchfclmokpbldaaGreat
