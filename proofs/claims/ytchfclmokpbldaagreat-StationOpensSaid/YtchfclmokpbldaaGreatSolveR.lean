/-
  Merged texts. By an AI agent.
-/
import Derived.Test.YtchfclmokpbldaaGreatComp
import Derived.Test.YtchfclmokpbldaaGreatNets
set_option linter.all false
set_option maxHeartbeats 4000000
set_option maxRecDepth 20000
namespace Go.Proofs.YtchfclmokpbldaaGreat
open Go.Aw Go
section
def Tri.turn {P : Program} {f : FuncId} {args : Array Value} {L : LB} {R : LS} {Post Post' : Zc} (h : Tri P f args L R Post)
 (k:∀v M U,Post v M U→∃L'' R'',M.Perm L''∧(∀r∈R'',InR r U)∧Post' v L'' R''):Tri P f args L R Post':=
 ⟨h.1,fun w G hh=>(h.2 w G hh).mono fun e w' ⟨v,M,U,he,hp,hst⟩=>by
  obtain ⟨L'',R'',h1,h2,h3⟩:=k v M U hp
  exact ⟨v,L'',R'',he,h3,(hst.perm h1).weak ye h2⟩⟩
def Jsc (g:Int→Bool) (start:Int) (up:Bool):Option Int:=
 ((List.range ((Job up start).toNat + 1)).find? fun (m:Nat)=>g (start + sgn up * (m:Int))).map fun (m:Nat)=>start + sgn up * (m:Int)
def Y8d {g:Int→Bool} {start:Int} {up:Bool} {v:Int} (h:First g start up v true):Jsc g start up=some v:=by
 obtain ⟨m,m0,m1,mv,mg,mj⟩:=h.yes rfl;have e:(List.range ((Job up start).toNat + 1)).find? (fun (m:Nat)=>g (start + sgn up * (m:Int)))=some m.toNat:=by
  rw [ynb];refine ⟨?_,List.mem_range.2 zc,fun j hj=>?_⟩;·rw [yja m0,← mv];exact mg
  ·rw [mj j zc zc];rfl
 rw [Jsc,e,yFa,yja m0,mv]
def Y2d {g:Int→Bool} {start:Int} {up:Bool} {v:Int} (h0:0≤Job up start) (h:First g start up v false):Jsc g start up=none:=by
 obtain ⟨_,hj⟩:=h.no rfl;have e:(List.range ((Job up start).toNat + 1)).find? (fun (m:Nat)=>g (start + sgn up * (m:Int)))=none:=by rw [List.find?_range_eq_none];intro i hi;rw [hj i zc zc];rfl
 rw [Jsc,e];rfl
def J3b {g:Int→Bool} {start:Int} {up:Bool} {v:Int} (h0:0≤Job up start) (h:Jsc g start up=some v):First g start up v true:=by
 unfold Jsc at h;obtain ⟨m,hm,rfl⟩:=Option.map_eq_some_iff.1 h;rw [ynb] at hm;obtain ⟨h1,h2,h3⟩:=hm;have h2':=List.mem_range.1 h2;refine ⟨fun _=>⟨m,by omega,by omega,rfl,h1,fun j j0 j1=>?_⟩,fun h=>by cases h⟩;have:=h3 j.toNat zc;rw [yja j0] at this;cases e:g (start + sgn up * j) with
 | false=>rfl
 | true=>rw [e] at this;cases this
def Y2a {g:Int→Bool} {start:Int} {up:Bool} {v:Int} {ok:Bool} (h0:0≤Job up start) (h:First g start up v ok):v=(Jsc g start up).getD 0∧ok=(Jsc g start up).isSome:=by
 cases ok with
 | true=>rw [Y8d h];exact ⟨rfl,rfl⟩
 | false=>rw [Y2d h0 h];exact ⟨(h.no rfl).1,rfl⟩
attribute [irreducible] Jsc
def Vuc (a:XAir) (s:XSetting) (up:Bool) (l:List Int) (v:Int):Int→Bool:=if up=true then Jid a s l v else Zqa a s l v
def Z4 (a:XAir) (s:XSetting) (up:Bool) (l:List Int) (k:Nat):Option Int:=Jsc (Vuc a s up l k) (l.getD k 0) up
abbrev K2b (a:XAir) (A:List Bool) (k:Nat):Bool:=!(A.getD k false) || (a.mine.places.l.getD k default).surface
def Vk (a : XAir) (s : XSetting) (A : List Bool) (up : Bool) (l : List Int) : Nat → Option (List Int)
 | 0=>some l
 | k + 1=>(Vk a s A up l k).bind fun m=>if K2b a A k=true then some m else (Z4 a s up m k).map fun v=>m.set k v
def Vj (a : XAir) (s : XSetting) (A : List Bool) (up : Bool) : Nat → List Int → Option (List Int)
 | 0,_=>none
 | n + 1,l=>match Vk a s A up l a.mine.places.l.length with
  | none=>none
  | some m=>if m=l then some m else Vj a s A up n m
def V3 (a:XAir) (ps:List Int) (A:List Bool) (i:Nat):Option Int:=if K2b a A i=true∧ps.getD i 0≠0 then some 12 else none
def Us (a:XAir) (s:XSetting) (ps:List Int) (A:List Bool):Int:=
 if Ko a≠0 then Ko a else if J8a a s=false then 21 else if ps.length≠a.mine.places.l.length then 11
 else if (ps.findSome? Um).isSome=true then 1 else ((List.range a.mine.places.l.length).findSome? (V3 a ps A)).getD 0
def Kx (a:XAir) (s:XSetting) (A:List Bool) (up:Bool) (ps:List Int):Int×List Int:=
 if Us a s ps A≠0 then (Us a s ps A,[]) else match Vj a s A up 200 ps with
  | none=>(2,[])
  | some l=>(0,l)
def Vp (a:XAir) (s:XSetting) (A:List Bool):Int×List Int×List Int:=
 let p:=Kx a s A false (List.replicate a.mine.places.l.length 0)
 if p.1≠0 then (p.1,[],[]) else
  let q:=Kx a s A true p.2
  if q.1≠0 then (q.1,[],[]) else
   let r:=Kx a s A false q.2
   if r.1≠0 then (r.1,[],[]) else (0,r.2,q.2)
structure StartOk (a:XAir) (s:XSetting) (ps:List Int) (A:List Bool):Prop where
 h0:Ko a=0
 hf:J8a a s=true
 hl:ps.length=a.mine.places.l.length
 hp:PresOk ps
 fix:∀i:Nat,i < a.mine.places.l.length→K2b a A i=true→ps.getD i 0=0
def K5a {a:XAir} {s:XSetting} {ps:List Int} {A:List Bool}:Us a s ps A=0↔StartOk a s ps A:=by
 constructor;·
  intro h;unfold Us at h;split at h;·exact ubv
  rename_i h1;split at h;·cases h
  rename_i h2;split at h;·cases h
  rename_i h3;split at h;·cases h
  rename_i h4;refine ⟨by omega,by simpa using h2,by omega,Kqa (by simpa using h4),fun i hi hf=>?_⟩;have hn:(List.range a.mine.places.l.length).findSome? (V3 a ps A)=none:=by
   cases e:(List.range a.mine.places.l.length).findSome? (V3 a ps A) with
   | none=>rfl
   | some v=>
    obtain ⟨j,_,hj⟩:=yw e;unfold V3 at hj;split at hj;·cases hj;rw [e] at h;cases h
    ·cases hj
  rw [yG] at hn;have:=hn i (List.mem_range.2 hi);unfold V3 at this;split at this;·cases this
  ·rename_i h5;exact Decidable.not_not.1 fun h6=>h5 ⟨hf,h6⟩
 ·intro h;rw [Us,if_neg (by rw [h.h0];decide),if_neg (by rw [h.hf];decide),if_neg (by rw [h.hl];simp),if_neg (by rw [Jbb h.hp];simp),List.findSome?_eq_none_iff.2 (fun i hi=>show V3 a ps A i=none from if_neg (fun h'=>h'.2 (h.fix i (List.mem_range.1 hi) h'.1)))];rfl
def Jkd {a:XAir} {s:XSetting} {up:Bool} {l:List Int} {k:Nat} {v:Int} (h:PresOk l) (hv:Z4 a s up l k=some v):-70368744177664≤v∧v≤70368744177664:=by obtain ⟨m,m0,m1,mv,_,_⟩:=(J3b (Yob (h.get k)).1 hv).yes rfl;rw [mv];exact V0d (h.get k) ⟨m0,m1⟩
structure Swept (a:XAir) (s:XSetting) (A:List Bool) (up:Bool) (l:List Int) (k:Nat) (m:List Int):Prop where
 to:Vk a s A up l k=some m
 len:m.length=l.length
 pres:PresOk m
 rest:∀j:Nat,k≤j→m[j]?=l[j]?
def Swept.zero {a:XAir} {s:XSetting} {A:List Bool} {up:Bool} {l:List Int} (h:PresOk l):Swept a s A up l 0 l:=⟨rfl,rfl,h,fun _ _=>rfl⟩
def Swept.skip {a:XAir} {s:XSetting} {A:List Bool} {up:Bool} {l m:List Int} {k:Nat} (h:Swept a s A up l k m) (hf:K2b a A k=true):Swept a s A up l (k + 1) m:=
 ⟨by rw [Vk,h.to,yUa,if_pos hf],h.len,h.pres,fun j hj=>h.rest j zc⟩
def Swept.fail {a:XAir} {s:XSetting} {A:List Bool} {up:Bool} {l m:List Int} {k:Nat} (h:Swept a s A up l k m) (hf:¬ K2b a A k=true) (hn:Z4 a s up m k=none):∀n,k + 1≤n→Vk a s A up l n=none:=by
 intro n hn2;induction n with
 | zero=>omega
 | succ n ih=>
  rcases yk k n with h1 | h1;·rw [Vk,ih zc];rfl
  ·(obtain rfl : n = k := by omega);rw [Vk,h.to,yUa,if_neg hf,hn];rfl
def Swept.next {a:XAir} {s:XSetting} {A:List Bool} {up:Bool} {l m:List Int} {k:Nat} (h:Swept a s A up l k m) (hf:¬ K2b a A k=true) {v:Int} (hv:Z4 a s up m k=some v):Swept a s A up l (k + 1) (m.set k v):=
 ⟨by rw [Vk,h.to,yUa,if_neg hf,hv];rfl,by rw [yN];exact h.len,h.pres.set _ (Jkd h.pres hv),fun j hj=>by rw [yW zc];exact h.rest j zc⟩
def Swept.flag {a:XAir} {s:XSetting} {A:List Bool} {up:Bool} {l m:List Int} {k:Nat} (h:Swept a s A up l k m) (hk:k < l.length) (v:Int):decide (m.set k v≠l)=(decide (m≠l) || decide (v≠m.getD k 0)):=by
 have hlen:=h.len;have hg:=Js (l:=m) (k:=k) 0 zc;by_cases h1:v=m.getD k 0;·rw [h1,Kxa];simp
 ·
  have h2:m.set k v≠l:=fun e=>by have h3:=h.rest k (yn _);rw [← e,yB zc,hg] at h3;exact h1 (yH h3).symm
  rw [decide_eq_true h2,decide_eq_true h1,ycc]
def Zkb {a:XAir} {s:XSetting} {A:List Bool} {up:Bool} {n:Nat} {l m:List Int} (hs:Vk a s A up l a.mine.places.l.length=some m) (hne:m≠l):Vj a s A up (n + 1) l=Vj a s A up n m:=by rw [Vj,hs];exact if_neg hne
def Vub {a:XAir} {s:XSetting} {A:List Bool} {up:Bool} {n:Nat} {l:List Int} (hs:Vk a s A up l a.mine.places.l.length=some l):Vj a s A up (n + 1) l=some l:=by rw [Vj,hs];exact if_pos rfl
def Jyb {a:XAir} {s:XSetting} {A:List Bool} {up:Bool} {n:Nat} {l:List Int} (hs:Vk a s A up l a.mine.places.l.length=none):Vj a s A up (n + 1) l=none:=by rw [Vj,hs]
def Jea {a : XAir} {s : XSetting} {A : List Bool} {up : Bool} {l : List Int} (hl : PresOk l) : ∀ {k : Nat} {m : List Int}, Vk a s A up l k = some m → Swept a s A up l k m
 | 0,m,h=>by cases h;exact .zero hl
 | k + 1,m,h=>by
  have h':=h
  rw [Vk,yAa] at h'
  obtain ⟨m1,h1,h2⟩:=h'
  have ih:=Jea hl h1
  split at h2
  ·rename_i hf
   cases h2
   exact ih.skip hf
  ·rename_i hf
   obtain ⟨v,hv,rfl⟩:=Option.map_eq_some_iff.1 h2
   exact ih.next hf hv
def V9a {a : XAir} {s : XSetting} {A : List Bool} {up : Bool} : ∀ {n : Nat} {l m : List Int}, PresOk l → Vj a s A up n l = some m → m.length = l.length ∧ PresOk m ∧ Vk a s A up m a.mine.places.l.length = some m
 | 0,l,m,_,h=>by cases h
 | n + 1,l,m,hl,h=>by
  rw [Vj] at h
  split at h
  ·cases h
  ·rename_i m1 h1
   have hs:=Jea hl h1
   split at h
   ·rename_i e
    cases h
    subst e
    exact ⟨rfl,hl,h1⟩
   ·obtain ⟨k1, k2, k3⟩ := V9a hs.pres h
    exact ⟨k1.trans hs.len,k2,k3⟩
def Ywb {a:XAir} {s:XSetting} {A:List Bool} {up:Bool} {ps:List Int} (h:(Kx a s A up ps).1=0):StartOk a s ps A∧Vj a s A up 200 ps=some (Kx a s A up ps).2:=by
 unfold Kx at h ⊢;split at h;·exact ubv
 ·
  rename_i h1;rw [if_neg h1];refine ⟨K5a.1 zc,?_⟩;split at h;·cases h
  ·rename_i l e;rw [e]
end
section
attribute [local irreducible] CJ LJ DJ Tri YV Gives U7 Kb Kp U8 RV Ke OwL.L
section
variable {A B:Prop}
def V7e(h:A→B:=by exact J0 (Jo tb ((⟨o26,m⟩:OwL Int)) _ rfl rfl ((show _=Value.slice _ _ _ from rfl).trans zma) rfl zi (i:=i) zo zw) rfl):=h
def Jqf(h:B:=by exact ⟨OwL.nil,by rw [hrn];rfl,OwL.nil_ok,by rw [hrn],by rw [Kr,yv],rfl⟩):=h
def U5f(h:A→B:=by exact J0 zGb rfl):=h
def Ykf(h:A→B:=by exact J0 (Kc tb ((⟨o26,m⟩:OwL Int)) rfl rfl rfl zm zi yf zi ze) rfl):=h
def Z9f(h:A→B:=by exact V5 (Jp tb ((⟨o26,m⟩:OwL Int)) (u) rfl rfl rfl rfl zm zi yf zi zj ze ze)):=h
def Y3f(h:B:=by exact Ka ⟨(i + 1,m.set i u),by dsimp only;omega,q2.next hfi hv,OwL.len_ok Uw q3 zq⟩ zp ⟨rfl,by dsimp only;rw [hfl];rfl,trivial⟩ zk zJb zt):=h
end
def Jnc (a:XAir) (s:XSetting) (ps:Arr Int) (A:List Bool) (L:LB) (R:LS) (hm:AirR a R) (hs:SetR s R) (hps:InR (isl ps) R) (hA:Ko a=0→AiryIs a.mine A):
 Tri Tryz.prog 295 [a.val,s.val,ps.val].toArray L R (fun v M U=>v=.int .i64 (Us a s ps.l A)∧L=M∧R=U):=by
 have hmp:=hm.places;refine Ua Tryz.call295 hps fun hpn=>?_;refine Ua Tryz.call295 hmp fun hmpn=>?_;refine Jd 49 Tryz.call295 Tryz.func295 rfl rfl rfl ?_;apply (Xag);intro b3;apply (qax);intro b4;apply Xau∘qa8;refine q_l rfl (Z2 a _ _ hm) ?_;apply (Xbj);refine q_c ?_ ?_<;>intro hc0;·apply (Xcx);refine q_i L R ?_;exact ⟨by rw [Us,if_pos hc0],rfl,rfl⟩
 have h0:Ko a=0:=by omega
 have hok:=Ve h0;have hAA:=hA h0;apply qbo∘Xbp;refine q_l rfl (Uha a s _ _ hm hs) ?_;apply (Xbg);refine q_c ?_ ?_<;>intro hc1;·apply (Xa1);refine q_i L R ?_;exact ⟨by rw [Us,if_neg hc0,if_pos (by simpa [Yka,h0] using hc1)],rfl,rfl⟩
 have hf0:J8a a s=true:=by simpa [Yka,h0] using hc1
 have hff:¬ J8a a s=false:=by rw [hf0];decide
 apply qbo∘Xaq∘Xcg∘Xaw;refine q_c ?_ ?_<;>intro hc2;·apply (Xa1);refine q_i L R ?_;exact ⟨by rw [Us,if_neg hc0,if_neg hff,if_pos zc],rfl,rfl⟩
 have hln:ps.l.length=a.mine.places.l.length:=by omega
 apply qbo∘qbm;refine q_l rfl (Kwb ps _ _ hps) ?_;apply (Xbg);refine q_c ?_ ?_<;>intro hc3;·apply (Xa1);refine q_i L R ?_;exact ⟨by rw [Us,if_neg hc0,if_neg hff,if_neg zc,if_pos (by simp_all [Option.isSome_iff_ne_none])],rfl,rfl⟩
 have hr:¬ (ps.l.findSome? Um).isSome=true:=by simp_all
 apply qbv∘Xc4;refine Ju rfl zad rfl ?_;rintro v M U ⟨p,A2,rfl,hpk,hA2,hpl,rfl,rfl⟩;obtain rfl:A=A2:=hAA.unique hA2;have hfx:p.l.length=a.mine.places.l.length:=by rw [hpl];exact Jfb a.mine A
 have hck:Us a s ps.l A=((List.range ps.l.length).findSome? (V3 a ps.l A)).getD 0:=by rw [Us,if_neg hc0,if_neg hff,if_neg zc,if_neg hr,hln]
 apply (Xd1);refine Uca fun c w hst=>⟨_,_,hst.perm yda,?_⟩;apply (Xe2);refine Jh [(2,.slice _ _ _),(8,.slice _ _ _),(9,.int _ _)] zg fun tq0=>?_;refine q_s ([6,9]++rg 32 17) (fun g:FSR (V3 a ps.l A) (ps.l.length)=>[(9,.int .i64 ((g.1:Nat):Int))]) (fun g=>(ps.l.length) - g.1) ⟨0,Yh _ _⟩ ?_;rintro ⟨k0,hk0,hp0⟩ junk;try dsimp only
 apply (Xcr);refine q_c ?_ ?_<;>intro hc4;·
  have hpg:p.l[k0]?=some (K2b a A k0):=by rw [hpl];exact Vnb zc
  have hsg:=Js (l:=ps.l) (k:=k0) 0 zc;apply qbb∘Xaj;refine J0 (Jo tb (p) _ rfl rfl rfl rfl zi (i:=k0) zo zw) rfl ?_;apply U5f∘qah;apply Ue (G:=[_,_,_,_,_]) (j:=4) (cj:=42) rfl rfl ze rfl ztb rfl;·intro hg5;replace hg5:=qb hg5;apply (Xaj);refine J0 zP rfl ?_;exact (qa7) zUd
  intro junk5;apply (qaf);refine q_c ?_ ?_<;>intro hc5;·have hnb:V3 a ps.l A k0=some 12:=if_pos zqa;apply (Xbr);refine q_i L R ?_;exact ⟨by rw [hck,Ul hp0 zc hnb];rfl,rfl,rfl⟩
  have hnb:V3 a ps.l A k0=none:=if_neg (fun ⟨h1,h2⟩=>by
  rcases hc5 with ⟨h3,h4⟩ | h3;·rw [K2b,h3,h4] at h1;cases h1
  ·exact h3 h2)
  apply (Xa4);exact q_k ⟨k0 + 1,Va hp0 zc (hnb)⟩
 exact zyf
abbrev Jme (x:Option Int):Value:=.tuple #[.int .i64 (x.getD 0),.bool x.isSome]
def Vfc {ps:List Int} (h:PresOk ps) (up:Bool) (k:Nat):0≤Job up (ps.getD k 0):=(Yob (h.get k)).1
def upL {a:XAir} {s:XSetting} {o:Ow} {l:List Int} {k:Nat} {A:LB} {R:LS} {vl:Value} (hvl:vl=(⟨o,l⟩:OwL Int).val) (h:HypsR a s l k R) (hin:InB ((⟨o,l⟩:OwL Int).L 3 Jj) A) (hok:(⟨o,l⟩:OwL Int).ok 1 Jj):
 Tri Tryz.prog 296 [a.val,s.val,vl,.int .i64 (k:Int)].toArray A R (fun w M U=>w=Jme (Z4 a s true l k)∧A=M∧R=U):=by subst hvl;refine Tri.lend1 hin hok ((Y7f a s (⟨o,l⟩:OwL Int).arr k [] _ ⟨Vs h.air fun r hr=>Jb (.tail _ hr),Y3 h.set fun r hr=>Jb (.tail _ hr),h.ok,h.fit,h.len,h.pres,h.v⟩ zRb).mono ?_);exact zZf
def Kyg {a:XAir} {s:XSetting} {o:Ow} {l:List Int} {k:Nat} {A:LB} {R:LS} {vl:Value} (hvl:vl=(⟨o,l⟩:OwL Int).val) (h:HypsR a s l k R) (hin:InB ((⟨o,l⟩:OwL Int).L 3 Jj) A) (hok:(⟨o,l⟩:OwL Int).ok 1 Jj):
 Tri Tryz.prog 297 [a.val,s.val,vl,.int .i64 (k:Int)].toArray A R (fun w M U=>w=Jme (Z4 a s false l k)∧A=M∧R=U):=by subst hvl;refine Tri.lend1 hin hok ((Uwe a s (⟨o,l⟩:OwL Int).arr k [] _ ⟨Vs h.air fun r hr=>Jb (.tail _ hr),Y3 h.set fun r hr=>Jb (.tail _ hr),h.ok,h.fit,h.len,h.pres,h.v⟩ zRb).mono ?_);exact zYf
def Zwa (a:XAir) (s:XSetting) (ps:Arr Int) (up:Bool) (A:List Bool) (L:LB) (R:LS) (hm:AirR a R) (hs:SetR s R) (hps:InR (isl ps) R) (hA:Ko a=0→AiryIs a.mine A):
 Tri Tryz.prog 284 [a.val,s.val,ps.val,.bool up].toArray L R (fun w M U=>∃p:OwL Int,w=.tuple #[p.val,.int .i64 (Kx a s A up ps.l).1]∧p.ok 1 Jj∧p.l=(Kx a s A up ps.l).2∧p.L 3 Jj ++ L=M∧R=U):=by
 have hmp:=hm.places;refine Jd 79 Tryz.call284 Tryz.func284 rfl rfl rfl ?_;apply (Xag);intro b4;apply (qax);intro b5;apply qc4∘Xau∘Xes;refine q_l rfl (Jnc a s ps A _ _ hm hs hps hA) ?_;apply (Xbj);refine q_c ?_ ?_<;>intro hc0;·apply Xbn∘qc4∘Xav;refine q_r L R zyd ?_;exact ⟨OwL.nil,by rw [Kx,if_pos hc0];rfl,OwL.nil_ok,by rw [Kx,if_pos hc0],by rw [Kr,yv],rfl⟩
 have hso:=K5a.1 (show Us a s ps.l A=0 by omega);have hok:=Ve hso.h0;have hfo:=Zea hso.hf;have hAA:=hA hso.h0;have hln:=hso.hl;have hnp:=hok.mine.places;have hrx:Kx a s A up ps.l=match Vj a s A up 200 ps.l with
  | none=>(2,[])
  | some l=>(0,l):=by rw [Kx,if_neg hc0] <;> rfl
 apply (Xdx);refine Y6 zZc rfl ?_;rintro v M U ⟨o26,rfl,hok26,rfl,rfl⟩;apply qc4∘qam∘Xc4;refine Ju rfl zad rfl ?_;rintro v M U ⟨p,A2,rfl,hpk,hA2,hpl,rfl,rfl⟩;obtain rfl:A=A2:=hAA.unique hA2;have hfx:p.l.length=a.mine.places.l.length:=by rw [hpl];exact Jfb a.mine A
 apply (Xd1);refine Uca fun c w hst=>⟨_,_,hst.perm yda,?_⟩;apply (Xe2);refine Jh [(3,.bool _),(4,.pointer _),(5,.pointer _),(11,.slice _ _ _),(12,.slice _ _ _),(13,.int _ _)] zg fun tq0=>?_;refine q_p ([8,9,13,14,15,16,17]++rg 30 49) ((⟨fun q=>[(13,.int .i64 ((q.1.1:Nat):Int))],fun q=>p.L 4 blc ++ ((⟨o26,q.1.2⟩:OwL Int).L 3 Jj ++ (⟨b5,s.cells,80⟩ :: ⟨b4,a.cells,32⟩ :: L)),fun _=>R,fun q=>200 - q.1.1⟩:Head {q:Nat×List Int // q.1≤200∧Vj a s A up 200 ps.l=Vj a s A up (200 - q.1) q.2∧q.2.length=ps.l.length∧PresOk q.2∧(⟨o26,q.2⟩:OwL Int).ok 1 Jj})) (⟨(0,ps.l),by dsimp only;omega,rfl,rfl,hso.hp,hok26⟩) ?_;rintro ⟨⟨n,l⟩,w1,w2,w3,w4,w5⟩ junk;try dsimp only
 dsimp only at w1 w2 w3 w4 w5;apply Xap∘Xao;refine q_c ?_ ?_<;>intro hc1;·
  have e200:200 - n=(200 - (n + 1)) + 1:=by omega
  rw [e200] at w2;apply qbb∘Xdm∘Xat;refine Uh ([8,9,13,14,15,16,17]++rg 30 49) zG [(13,.int _ _),(14,.bool _),(15,.int _ _)] zg fun tq1=>?_;refine K8 ([8,9,14,15,16,17]++rg 34 42) ((⟨fun q=>[(15,.int .i64 ((q.1.1:Nat):Int)),(14,.bool (decide (q.1.2≠l)))],fun q=>p.L 4 blc ++ ((⟨o26,q.1.2⟩:OwL Int).L 3 Jj ++ (⟨b5,s.cells,80⟩ :: ⟨b4,a.cells,32⟩ :: L)),fun _=>R,fun q=>ps.l.length - q.1.1⟩:Head {q:Nat×List Int // q.1≤ps.l.length∧Swept a s A up l q.1 q.2∧(⟨o26,q.2⟩:OwL Int).ok 1 Jj})) (⟨(0,l),by dsimp only;omega,.zero w4,w5⟩) ⟨rfl,by simp;rfl,trivial⟩ zk zJb ?_;rintro ⟨⟨i,m⟩,q1,q2,q3⟩ junk;try dsimp only
  dsimp only at q1 q2 q3;have hml:=q2.len;apply (Xcr);refine q_c ?_ ?_<;>intro hc2;·
   obtain ⟨fb,hfb⟩:∃fb,fb=K2b a A i:=⟨_,rfl⟩;(have hpg:p.l[i]?=some fb:=by rw [hpl,hfb];exact Vnb zc);have hmg:=Js (l:=m) (k:=i) 0 zc;refine Jt (Ja (Ji (Jy (Ji (Ji (Je ?_))))));apply (Xaj);refine J0 (Jo tb (p) _ rfl rfl rfl rfl zi (i:=i) zo zw) rfl ?_;apply U5f∘qaf;refine q_c ?_ ?_<;>intro hc3;·have hfi:K2b a A i=true:=hfb ▸ hc3;refine K5 (Kk (J8 (Ja (Je ?_))));apply (Xak);exact q_k ⟨(i + 1,m),by dsimp only;omega,q2.skip hfi,q3⟩
   (have hfi:¬ K2b a A i=true:=by rw [← hfb,hc3];decide);have hH:HypsR a s m i R:=⟨hm,hs,hok,hfo,by omega,q2.pres,by omega⟩;apply qbv∘Xb2∘qaw∘qah∘qaf;refine q_c ?_ ?_<;>intro hc4;·have hup:up=true:=hc4;apply qay∘Xbp∘Xaj;refine q_l rfl (upL (o:=o26) (l:=m) ((show _=Value.slice _ _ _ from rfl).trans zma) hH zE q3) ?_;exact uat
   (have hup:up=false:=by simpa using hc4);apply qay∘Xbp∘Xaj;refine q_l rfl (Kyg (o:=o26) (l:=m) ((show _=Value.slice _ _ _ from rfl).trans zma) hH zE q3) ?_;exact uat
  obtain rfl:i=ps.l.length:=by omega
  have hsw:=q2.to;rw [hln] at hsw;apply qbk∘Xec;refine q_c ?_ ?_<;>intro hc6;·(have hme:m=l:=by simpa using hc6);(have hrn:Kx a s A up ps.l=(0,m):=by rw [hrx,w2,hme,Vub (by rw [← hme] at hsw ⊢;exact hsw)]);apply qae∘Xc5∘Xet;refine q_r ((⟨o26,m⟩:OwL Int).L 3 Jj ++ L) R zyd ?_;exact ⟨⟨o26,m⟩,by rw [hrn];simp only [OwL.val,hml,w3],q3,by rw [hrn],rfl,rfl⟩
  have hme:m≠l:=by simpa using hc6
  apply (Xa4);exact q_k ⟨(n + 1,m),by dsimp only;omega,w2.trans (Zkb hsw hme),hml.trans w3,q2.pres,q3⟩
 obtain rfl:n=200:=by omega
 have hrn:Kx a s A up ps.l=(2,[]):=by rw [hrx,w2];rfl
 apply qbk∘qc4∘Xam;refine q_r L R zyd ?_;exact Jqf
def U6c (a:XAir) (s:XSetting) (ps:Arr Int) (A:List Bool) (L:LB) (R:LS) (hm:AirR a R) (hs:SetR s R) (hps:InR (isl ps) R) (hA:Ko a=0→AiryIs a.mine A):
 Tri Tryz.prog 254 [a.val,s.val,ps.val].toArray L R (fun w M U=>∃p:OwL Int,w=.tuple #[p.val,.int .i64 (Kx a s A true ps.l).1]∧p.ok 1 Jj∧p.l=(Kx a s A true ps.l).2∧p.L 3 Jj ++ L=M∧R=U):=by refine Jd 14 Tryz.call254 Tryz.func254 rfl rfl rfl ?_;apply (Xag);intro b3;apply (qax);intro b4;apply qc4∘Xar∘Xes;refine Ju rfl (Zwa a s ps true A _ _ hm hs hps hA) rfl ?_;exact zIe
def Ufc (a:XAir) (s:XSetting) (ps:Arr Int) (A:List Bool) (L:LB) (R:LS) (hm:AirR a R) (hs:SetR s R) (hps:InR (isl ps) R) (hA:Ko a=0→AiryIs a.mine A):
 Tri Tryz.prog 253 [a.val,s.val,ps.val].toArray L R (fun w M U=>∃p:OwL Int,w=.tuple #[p.val,.int .i64 (Kx a s A false ps.l).1]∧p.ok 1 Jj∧p.l=(Kx a s A false ps.l).2∧p.L 3 Jj ++ L=M∧R=U):=by refine Jd 14 Tryz.call253 Tryz.func253 rfl rfl rfl ?_;apply (Xag);intro b3;apply (qax);intro b4;apply qc4∘Xar∘Xes;refine Ju rfl (Zwa a s ps false A _ _ hm hs hps hA) rfl ?_;exact zIe
end
section
attribute [local irreducible] CJ LJ DJ Tri YV Gives U7 Kb Kp U8 RV Ke OwL.L
section
variable {A B:Prop}
def J1f(h:B:=by exact ⟨OwL.nil,OwL.nil,by rw [hsv];rfl,OwL.nil_ok,OwL.nil_ok,by rw [hsv],by rw [hsv],by rw [Kr,yv,yv],rfl⟩):=h
end
def Vcd {α:Type} {f:α→List Value} {z:List Value} {b n:Nat} {T:TypeId} {x:α} {A:LB} (hz:z=f x):InB ((⟨.own b n [],List.replicate n x⟩:OwL α).L T f) (⟨b,K0c z n,T⟩ :: A):=by rw [Yo hz A];exact Ur
def Vcf {a:XAir} {s:XSetting} {q:OwL Int} {A:List Bool} {L:LB} {R:LS} {vl:Value} (hvl:vl=q.val) (hm:AirR a R) (hs:SetR s R) (hA:Ko a=0→AiryIs a.mine A) (hin:InB (q.L 3 Jj) L) (hok:q.ok 1 Jj):
 Tri Tryz.prog 253 [a.val,s.val,vl].toArray L R (fun w M U=>∃p:OwL Int,w=.tuple #[p.val,.int .i64 (Kx a s A false q.l).1]∧p.ok 1 Jj∧p.l=(Kx a s A false q.l).2∧p.L 3 Jj ++ L=M∧R=U):=by subst hvl;have h2:=Tri.lend (S:=[isl q.arr]) (Post:=fun v M=>∃p:OwL Int,v=.tuple #[p.val,.int .i64 (Kx a s A false q.l).1]∧p.ok 1 Jj∧p.l=(Kx a s A false q.l).2∧p.L 3 Jj ++ []=M) (Spl.rest (L:=L)) (fun w G hh s hs=>by rw [List.mem_singleton.1 hs];exact Y2 hh hin hok yf zj yg) ((Ufc a s q.arr A [] _ (Vs hm fun r h=>Jb (.tail _ h)) (Y3 hs fun r h=>Jb (.tail _ h)) zRb hA).mono fun v M U ⟨p,a1,a2,a3,a4,a5⟩=>⟨⟨p,a1,a2,a3,a4⟩,a5⟩);exact zwe
def Jdc (a:XAir) (s:XSetting) (A:List Bool) (L:LB) (R:LS) (hm:AirR a R) (hs:SetR s R) (hA:Ko a=0→AiryIs a.mine A) (hnp:a.mine.places.l.length≤64):
 Tri Tryz.prog 209 [a.val,s.val].toArray L R (fun w M U=>∃lo hi:OwL Int,w=.tuple #[.agg #[lo.val,hi.val],.int .i64 (Vp a s A).1]∧lo.ok 1 Jj∧hi.ok 1 Jj∧lo.l=(Vp a s A).2.1∧hi.l=(Vp a s A).2.2∧lo.L 3 Jj ++ (hi.L 3 Jj ++ L)=M∧R=U):=by
 have hmp:=hm.places;have hzok:∀b,(⟨.own b a.mine.places.l.length [],List.replicate a.mine.places.l.length 0⟩:OwL Int).ok 1 Jj:=fun b=>Yj yf zF;refine Jd 50 Tryz.call209 Tryz.func209 rfl rfl rfl ?_;apply (Xag);intro b2;apply (qax);intro b3;apply (qaq);intro b4;apply (Xdf);refine Kg tb [0,1,2,3,4,5,6,7,8,9,10,11,12] ([Blk.mk b3 _ _,Blk.mk b2 _ _]) Kn zf zk ?_;apply qbc∘qbd∘Xdy;refine Kq zHb rfl rfl rfl ?_;refine V7a zoc rfl rfl rfl ?_;rintro v M U ⟨b17,rfl,rfl,hR17⟩;replace hR17:=hR17.symm;subst hR17;apply (qa1);refine Vn rfl (Vcf (q:=⟨.own b17 a.mine.places.l.length [],List.replicate a.mine.places.l.length 0⟩) (Jjd (α:=Int)).symm hm hs hA (Vcd (f:=Jj) (x:=0) rfl) (hzok b17)) rfl rfl ?_;rintro v M U ⟨p,rfl,hpk,hpl,rfl,rfl⟩;refine ⟨zk,zu,?_⟩;replace hpl:p.l=(Kx a s A false (List.replicate a.mine.places.l.length 0)).2:=hpl;refine Kq zcc rfl rfl rfl ?_;refine Kq zkc rfl rfl rfl ?_;refine Kq zkc rfl rfl rfl ?_;refine Kq (Ux zvb) rfl rfl rfl ?_;apply (qcg);refine J9 (Ja (Ji (Ji ?_)));refine Yq (A:=[]) (wd:=1) [] yf zj hpk yg ?_;refine V4 zla ?_;have hm1:AirR a (isl p.arr :: R):=Vs hm fun r h=>Jb (.tail _ h);have hs1:SetR s (isl p.arr :: R):=Y3 hs fun r h=>Jb (.tail _ h);obtain ⟨x,hx⟩:∃x,x=Kx a s A false (List.replicate a.mine.places.l.length 0):=⟨_,rfl⟩;rw [← hx] at hpl ⊢;apply Xb0∘Xaw;refine q_c ?_ ?_<;>intro hc0;·
  apply Xe4∘Xc6;refine Ku (M:=L) (U:=R) zFd ?hp ?hL ?hR;case hp=>(have hsv:Vp a s A=(x.1,[],[]):=by rw [Vp];dsimp only;rw [← hx,if_pos hc0]);exact J1f
  case hL=>exact zk
  case hR=>exact fun r h=>Jb (by simp [h])
 apply qbv∘Xes;refine Ju rfl (U6c a s p.arr A _ _ hm1 hs1 zRb hA) rfl ?_;rintro v M U ⟨q,rfl,hqk,hql,rfl,rfl⟩;replace hql:q.l=(Kx a s A true p.l).2:=hql;obtain ⟨y,hy⟩:∃y,y=Kx a s A true p.l:=⟨_,rfl⟩;rw [← hy] at hql ⊢;have hxy:y=Kx a s A true x.2:=by rw [hy,hpl]
 refine J0 zcc rfl ?_;apply Xe3∘Xau∘qaa∘Xaw;refine q_c ?_ ?_<;>intro hc1;·
  apply Xe4∘Xc6;refine Ku (M:=L) (U:=R) zFd ?hp ?hL ?hR;case hp=>(have hsv:Vp a s A=(y.1,[],[]):=by rw [Vp];dsimp only;rw [← hx,if_neg hc0,← hxy,if_pos hc1]);exact J1f
  case hL=>exact zk
  case hR=>exact fun r h=>Jb (by simp [h])
 apply qbv∘Xes;refine Ju rfl (Vcf (q:=q) rfl hm1 hs1 hA zE hqk) rfl ?_;rintro v M U ⟨u,rfl,huk,hul,rfl,rfl⟩;obtain ⟨z,hz⟩:∃z,z=Kx a s A false q.l:=⟨_,rfl⟩;rw [← hz] at hul ⊢;have hyz:z=Kx a s A false y.2:=by rw [hz,hql]
 refine J0 zcc rfl ?_;apply Xe3∘Xau∘qaa∘Xaw;refine q_c ?_ ?_<;>intro hc2;·
  apply Xe4∘Xc6;refine Ku (M:=L) (U:=R) zFd ?hp ?hL ?hR;case hp=>(have hsv:Vp a s A=(z.1,[],[]):=by rw [Vp];dsimp only;rw [← hx,if_neg hc0,← hxy,if_neg hc1,← hyz,if_pos hc2]);exact J1f
  case hL=>exact zk
  case hR=>exact fun r h=>Jb (by simp [h])
 apply Xdx∘qbm;refine J0 zMb rfl ?_;apply (Xc7);refine Ku (M:=u.L 3 Jj ++ (q.L 3 Jj ++ L)) (U:=R) zFd ?hp ?hL ?hR;case hp=>exact zqe
 case hL=>exact zk
 case hR=>exact fun r h=>Jb (by simp [h])
end
end Go.Proofs.YtchfclmokpbldaaGreat
