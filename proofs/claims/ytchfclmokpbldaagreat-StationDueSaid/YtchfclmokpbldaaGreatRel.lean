/-
  Merged texts. By an AI agent.
-/
import Derived.Test.YtchfclmokpbldaaGreatCflowR
import Derived.Test.YtchfclmokpbldaaGreatNets
set_option linter.all false
set_option maxHeartbeats 4000000
set_option maxRecDepth 20000
namespace Go.Proofs.YtchfclmokpbldaaGreat
open Go.Aw Go
section
structure Accept (a:XAir) (s:XSetting) (b:XBounds) (A:List Bool):Prop where
 ck:CheckOk a s b
 fix:∀i:Nat,i < a.mine.places.l.length→(!(A.getD i false) || (a.mine.places.l.getD i default).surface)=true→b.low.l.getD i 0=0∧b.high.l.getD i 0=0
 net:∀i:Nat,i < a.mine.places.l.length→¬ (!(A.getD i false) || (a.mine.places.l.getD i default).surface)=true→0≤Ybc a s b.high.l (i:Int)∧Yja a s b.low.l (i:Int)≤0
def Vab {a:XAir} {s:XSetting} {b:XBounds} {A:List Bool} (h:CheckOk a s b):Zh a s b A=((List.range a.mine.places.l.length).findSome? (Vk a s b A)).getD 0:=by have h1:=h.hl;have h2:=h.hh;rw [Zh,if_neg (by rw [h.h0];decide),if_neg (by rw [h.hf];decide),if_neg za,if_neg (by rw [Jib h.pl,Jib h.ph];simp)]
def Vpc (a:XAir) (s:XSetting) (b:XBounds) (A:List Bool) (i:Nat):Vk a s b A i=none∨Vk a s b A i=some 12:=by
 unfold Vk;split;·
  split;·exact .inr rfl
  ·exact .inl rfl
 ·
  split;·exact .inr rfl
  ·exact .inl rfl
def J0e {a:XAir} {s:XSetting} {b:XBounds} {A:List Bool}:Zh a s b A=0↔Accept a s b A:=by
 have node:∀i,Vk a s b A i=none↔((!(A.getD i false) || (a.mine.places.l.getD i default).surface)=true→b.low.l.getD i 0=0∧b.high.l.getD i 0=0)∧(¬ (!(A.getD i false) || (a.mine.places.l.getD i default).surface)=true→0≤Ybc a s b.high.l (i:Int)∧Yja a s b.low.l (i:Int)≤0):=fun i=>by
  unfold Vk;by_cases h1:(!(A.getD i false) || (a.mine.places.l.getD i default).surface)=true;·
   rw [if_pos h1];refine ⟨fun h=>⟨fun _=>?_,fun h'=>absurd h1 h'⟩,fun h=>if_neg (by have:=h.1 h1;omega)⟩;split at h;·cases h
   ·omega
  ·
   rw [if_neg h1];refine ⟨fun h=>⟨fun h'=>absurd h' h1,fun _=>?_⟩,fun h=>if_neg (by have:=h.2 h1;omega)⟩;split at h;·cases h
   ·omega
 constructor;·
  intro h;have hC:=Zrc h;rw [Vab hC] at h;have hn:(List.range a.mine.places.l.length).findSome? (Vk a s b A)=none:=by
   cases e:(List.range a.mine.places.l.length).findSome? (Vk a s b A) with
   | none=>rfl
   | some v=>
    obtain ⟨i,_,hi⟩:=yz e;rcases Vpc a s b A i with h1 | h1;·rw [h1] at hi;cases hi
    ·rw [h1] at hi;cases hi;rw [e] at h;cases h
  rw [yI] at hn;exact ⟨hC,fun i hi=>((node i).1 (hn i (List.mem_range.2 hi))).1,fun i hi=>((node i).1 (hn i (List.mem_range.2 hi))).2⟩
 ·intro h;rw [Vab h.ck,List.findSome?_eq_none_iff.2 (fun i hi=>(node i).2 ⟨h.fix i (List.mem_range.1 hi),h.net i (List.mem_range.1 hi)⟩)];rfl
end
section
def Tri.turn {P : Program} {f : FuncId} {args : Array Value} {L : LB} {R : LS} {Post Post' : Y3} (h : Tri P f args L R Post)
 (k:∀v M U,Post v M U→∃L'' R'',M.Perm L''∧(∀r∈R'',InR r U)∧Post' v L'' R''):Tri P f args L R Post':=
 ⟨h.1,fun w G hh=>(h.2 w G hh).mono fun e w' ⟨v,M,U,he,hp,hst⟩=>by
  obtain ⟨L'',R'',h1,h2,h3⟩:=k v M U hp
  exact ⟨v,L'',R'',he,h3,(hst.perm h1).weak ye h2⟩⟩
def Jic (g:Int→Bool) (start:Int) (up:Bool):Option Int:=
 ((List.range ((Kab up start).toNat + 1)).find? fun (m:Nat)=>g (start + sgn up * (m:Int))).map fun (m:Nat)=>start + sgn up * (m:Int)
def J1e {g:Int→Bool} {start:Int} {up:Bool} {v:Int} (h:First g start up v true):Jic g start up=some v:=by
 obtain ⟨m,m0,m1,mv,mg,mj⟩:=h.yes rfl;have e:(List.range ((Kab up start).toNat + 1)).find? (fun (m:Nat)=>g (start + sgn up * (m:Int)))=some m.toNat:=by
  rw [yXa];refine ⟨?_,List.mem_range.2 za,fun j hj=>?_⟩;·rw [ypa m0,← mv];exact mg
  ·rw [mj j za za];rfl
 rw [Jic,e,yOa,ypa m0,mv]
def Jee {g:Int→Bool} {start:Int} {up:Bool} {v:Int} (h0:0≤Kab up start) (h:First g start up v false):Jic g start up=none:=by
 obtain ⟨_,hj⟩:=h.no rfl;have e:(List.range ((Kab up start).toNat + 1)).find? (fun (m:Nat)=>g (start + sgn up * (m:Int)))=none:=by rw [List.find?_range_eq_none];intro i hi;rw [hj i za za];rfl
 rw [Jic,e];rfl
def Jcb {g:Int→Bool} {start:Int} {up:Bool} {v:Int} (h0:0≤Kab up start) (h:Jic g start up=some v):First g start up v true:=by
 unfold Jic at h;obtain ⟨m,hm,rfl⟩:=Option.map_eq_some_iff.1 h;rw [yXa] at hm;obtain ⟨h1,h2,h3⟩:=hm;have h2':=List.mem_range.1 h2;refine ⟨fun _=>⟨m,by omega,by omega,rfl,h1,fun j j0 j1=>?_⟩,fun h=>by cases h⟩;have:=h3 j.toNat za;rw [ypa j0] at this;cases e:g (start + sgn up * j) with
 | false=>rfl
 | true=>rw [e] at this;cases this
def Kqc {g:Int→Bool} {start:Int} {up:Bool} {v:Int} {ok:Bool} (h0:0≤Kab up start) (h:First g start up v ok):v=(Jic g start up).getD 0∧ok=(Jic g start up).isSome:=by
 cases ok with
 | true=>rw [J1e h];exact ⟨rfl,rfl⟩
 | false=>rw [Jee h0 h];exact ⟨(h.no rfl).1,rfl⟩
attribute [irreducible] Jic
def Vkc (a:XAir) (s:XSetting) (up:Bool) (l:List Int) (v:Int):Int→Bool:=if up=true then Ykf a s l v else Kdd a s l v
def K9a (a:XAir) (s:XSetting) (up:Bool) (l:List Int) (k:Nat):Option Int:=Jic (Vkc a s up l k) (l.getD k 0) up
abbrev Jdc (a:XAir) (A:List Bool) (k:Nat):Bool:=!(A.getD k false) || (a.mine.places.l.getD k default).surface
def U3 (a : XAir) (s : XSetting) (A : List Bool) (up : Bool) (l : List Int) : Nat → Option (List Int)
 | 0=>some l
 | k + 1=>(U3 a s A up l k).bind fun m=>if Jdc a A k=true then some m else (K9a a s up m k).map fun v=>m.set k v
def Vl (a : XAir) (s : XSetting) (A : List Bool) (up : Bool) : Nat → List Int → Option (List Int)
 | 0,_=>none
 | n + 1,l=>match U3 a s A up l a.mine.places.l.length with
  | none=>none
  | some m=>if m=l then some m else Vl a s A up n m
def Yz (a:XAir) (ps:List Int) (A:List Bool) (i:Nat):Option Int:=if Jdc a A i=true∧ps.getD i 0≠0 then some 12 else none
def Vu (a:XAir) (s:XSetting) (ps:List Int) (A:List Bool):Int:=
 if Kz a≠0 then Kz a else if Vba a s=false then 21 else if ps.length≠a.mine.places.l.length then 11
 else if (ps.findSome? Un).isSome=true then 1 else ((List.range a.mine.places.l.length).findSome? (Yz a ps A)).getD 0
def Ud (a:XAir) (s:XSetting) (A:List Bool) (up:Bool) (ps:List Int):Int×List Int:=
 if Vu a s ps A≠0 then (Vu a s ps A,[]) else match Vl a s A up 200 ps with
  | none=>(2,[])
  | some l=>(0,l)
def Y2 (a:XAir) (s:XSetting) (A:List Bool):Int×List Int×List Int:=
 let p:=Ud a s A false (List.replicate a.mine.places.l.length 0)
 if p.1≠0 then (p.1,[],[]) else
  let q:=Ud a s A true p.2
  if q.1≠0 then (q.1,[],[]) else
   let r:=Ud a s A false q.2
   if r.1≠0 then (r.1,[],[]) else (0,r.2,q.2)
structure StartOk (a:XAir) (s:XSetting) (ps:List Int) (A:List Bool):Prop where
 h0:Kz a=0
 hf:Vba a s=true
 hl:ps.length=a.mine.places.l.length
 hp:PresOk ps
 fix:∀i:Nat,i < a.mine.places.l.length→Jdc a A i=true→ps.getD i 0=0
def Yra {a:XAir} {s:XSetting} {ps:List Int} {A:List Bool}:Vu a s ps A=0↔StartOk a s ps A:=by
 constructor;·
  intro h;unfold Vu at h;split at h;·exact ube
  rename_i h1;split at h;·cases h
  rename_i h2;split at h;·cases h
  rename_i h3;split at h;·cases h
  rename_i h4;refine ⟨by omega,by simpa using h2,by omega,Yza (by simpa using h4),fun i hi hf=>?_⟩;have hn:(List.range a.mine.places.l.length).findSome? (Yz a ps A)=none:=by
   cases e:(List.range a.mine.places.l.length).findSome? (Yz a ps A) with
   | none=>rfl
   | some v=>
    obtain ⟨j,_,hj⟩:=yz e;unfold Yz at hj;split at hj;·cases hj;rw [e] at h;cases h
    ·cases hj
  rw [yI] at hn;have:=hn i (List.mem_range.2 hi);unfold Yz at this;split at this;·cases this
  ·rename_i h5;exact Decidable.not_not.1 fun h6=>h5 ⟨hf,h6⟩
 ·intro h;rw [Vu,if_neg (by rw [h.h0];decide),if_neg (by rw [h.hf];decide),if_neg (by rw [h.hl];simp),if_neg (by rw [Jib h.hp];simp),List.findSome?_eq_none_iff.2 (fun i hi=>show Yz a ps A i=none from if_neg (fun h'=>h'.2 (h.fix i (List.mem_range.1 hi) h'.1)))];rfl
def Uhd {a:XAir} {s:XSetting} {up:Bool} {l:List Int} {k:Nat} {v:Int} (h:PresOk l) (hv:K9a a s up l k=some v):-70368744177664≤v∧v≤70368744177664:=by obtain ⟨m,m0,m1,mv,_,_⟩:=(Jcb (Ytb (h.get k)).1 hv).yes rfl;rw [mv];exact Vzd (h.get k) ⟨m0,m1⟩
structure Swept (a:XAir) (s:XSetting) (A:List Bool) (up:Bool) (l:List Int) (k:Nat) (m:List Int):Prop where
 to:U3 a s A up l k=some m
 len:m.length=l.length
 pres:PresOk m
 rest:∀j:Nat,k≤j→m[j]?=l[j]?
def Swept.zero {a:XAir} {s:XSetting} {A:List Bool} {up:Bool} {l:List Int} (h:PresOk l):Swept a s A up l 0 l:=⟨rfl,rfl,h,fun _ _=>rfl⟩
def Swept.skip {a:XAir} {s:XSetting} {A:List Bool} {up:Bool} {l m:List Int} {k:Nat} (h:Swept a s A up l k m) (hf:Jdc a A k=true):Swept a s A up l (k + 1) m:=
 ⟨by rw [U3,h.to,ydb,if_pos hf],h.len,h.pres,fun j hj=>h.rest j za⟩
def Swept.fail {a:XAir} {s:XSetting} {A:List Bool} {up:Bool} {l m:List Int} {k:Nat} (h:Swept a s A up l k m) (hf:¬ Jdc a A k=true) (hn:K9a a s up m k=none):∀n,k + 1≤n→U3 a s A up l n=none:=by
 intro n hn2;induction n with
 | zero=>omega
 | succ n ih=>
  rcases yl k n with h1 | h1;·rw [U3,ih za];rfl
  ·(obtain rfl : n = k := by omega);rw [U3,h.to,ydb,if_neg hf,hn];rfl
def Swept.next {a:XAir} {s:XSetting} {A:List Bool} {up:Bool} {l m:List Int} {k:Nat} (h:Swept a s A up l k m) (hf:¬ Jdc a A k=true) {v:Int} (hv:K9a a s up m k=some v):Swept a s A up l (k + 1) (m.set k v):=
 ⟨by rw [U3,h.to,ydb,if_neg hf,hv];rfl,by rw [yE];exact h.len,h.pres.set _ (Uhd h.pres hv),fun j hj=>by rw [yda za];exact h.rest j za⟩
def Swept.flag {a:XAir} {s:XSetting} {A:List Bool} {up:Bool} {l m:List Int} {k:Nat} (h:Swept a s A up l k m) (hk:k < l.length) (v:Int):decide (m.set k v≠l)=(decide (m≠l) || decide (v≠m.getD k 0)):=by
 have hlen:=h.len;have hg:=Ju (l:=m) (k:=k) 0 za;by_cases h1:v=m.getD k 0;·rw [h1,Zea];simp
 ·
  have h2:m.set k v≠l:=fun e=>by have h3:=h.rest k (ym _);rw [← e,yN za,hg] at h3;exact h1 (yL h3).symm
  rw [decide_eq_true h2,decide_eq_true h1,ybc]
def Uld {a:XAir} {s:XSetting} {A:List Bool} {up:Bool} {n:Nat} {l m:List Int} (hs:U3 a s A up l a.mine.places.l.length=some m) (hne:m≠l):Vl a s A up (n + 1) l=Vl a s A up n m:=by rw [Vl,hs];exact if_neg hne
def J5d {a:XAir} {s:XSetting} {A:List Bool} {up:Bool} {n:Nat} {l:List Int} (hs:U3 a s A up l a.mine.places.l.length=some l):Vl a s A up (n + 1) l=some l:=by rw [Vl,hs];exact if_pos rfl
def Vad {a:XAir} {s:XSetting} {A:List Bool} {up:Bool} {n:Nat} {l:List Int} (hs:U3 a s A up l a.mine.places.l.length=none):Vl a s A up (n + 1) l=none:=by rw [Vl,hs]
def Jpa {a : XAir} {s : XSetting} {A : List Bool} {up : Bool} {l : List Int} (hl : PresOk l) : ∀ {k : Nat} {m : List Int}, U3 a s A up l k = some m → Swept a s A up l k m
 | 0,m,h=>by cases h;exact .zero hl
 | k + 1,m,h=>by
  have h':=h
  rw [U3,yKa] at h'
  obtain ⟨m1,h1,h2⟩:=h'
  have ih:=Jpa hl h1
  split at h2
  ·rename_i hf
   cases h2
   exact ih.skip hf
  ·rename_i hf
   obtain ⟨v,hv,rfl⟩:=Option.map_eq_some_iff.1 h2
   exact ih.next hf hv
def Yqa {a : XAir} {s : XSetting} {A : List Bool} {up : Bool} : ∀ {n : Nat} {l m : List Int}, PresOk l → Vl a s A up n l = some m → m.length = l.length ∧ PresOk m ∧ U3 a s A up m a.mine.places.l.length = some m
 | 0,l,m,_,h=>by cases h
 | n + 1,l,m,hl,h=>by
  rw [Vl] at h
  split at h
  ·cases h
  ·rename_i m1 h1
   have hs:=Jpa hl h1
   split at h
   ·rename_i e
    cases h
    subst e
    exact ⟨rfl,hl,h1⟩
   ·obtain ⟨k1, k2, k3⟩ := Yqa hs.pres h
    exact ⟨k1.trans hs.len,k2,k3⟩
def Zeb {a:XAir} {s:XSetting} {A:List Bool} {up:Bool} {ps:List Int} (h:(Ud a s A up ps).1=0):StartOk a s ps A∧Vl a s A up 200 ps=some (Ud a s A up ps).2:=by
 unfold Ud at h ⊢;split at h;·exact ube
 ·
  rename_i h1;rw [if_neg h1];refine ⟨Yra.1 za,?_⟩;split at h;·cases h
  ·rename_i l e;rw [e]
end
section
attribute [local irreducible] CJ LJ DJ Tri YV Gives Ur J3 Ko Uq RV J5 OwL.L
abbrev Uof (x:Option Int):Value:=.tuple #[.int .i64 (x.getD 0),.bool x.isSome]
def Vve {ps:List Int} (h:PresOk ps) (up:Bool) (k:Nat):0≤Kab up (ps.getD k 0):=(Ytb (h.get k)).1
def Yve {α:Type} {f:α→List Value} {z:List Value} {b n:Nat} {T:TypeId} {x:α} {A:LB} (hz:z=f x):InB ((⟨.own b n [],List.replicate n x⟩:OwL α).L T f) (⟨b,J5c z n,T⟩ :: A):=by rw [Yt hz A];exact V7
section
variable {A B:Prop}
def U2g(h:A→B:=by exact Jx zPa rfl):=h
def K7g(h:A→B:=by exact Jx zKb rfl):=h
def Zzf(h:B:=by exact ⟨OwL.nil,Zca n.pipes :: Yla n.at_ :: (S ++ S0),by rw [hrn];rfl,OwL.nil_ok,by rw [hrn],by rw [Kj,yx],by rw [hR4];simp⟩):=h
def Z3f(h:A→B:=by exact Jx (Jw tb ((⟨o34,m⟩:OwL Int)) _ rfl rfl ((show _=Value.slice _ _ _ from rfl).trans (by simp only [OwL.val,hml,w3])) rfl zi (i:=i) zk zw) rfl):=h
end
def Jzd (a:XAir) (s:XSetting) (ps:Arr Int) (A:List Bool) (L:LB) (R:LS) (hm:AirR a R) (hs:SetR s R) (hps:InR (isl ps) R) (hA:Kz a=0→AiryIs a.mine A):
 Tri Tryz.prog 277 [a.val,s.val,ps.val].toArray L R (fun v M U=>∃S:LS,v=.int .i64 (Vu a s ps.l A)∧L=M∧S ++ R=U):=by
 have hmp:=hm.places;refine Vb Tryz.call277 hps fun hpn=>?_;refine Vb Tryz.call277 hmp fun hmpn=>?_;refine Jd 70 Tryz.call277 Tryz.func277 rfl rfl rfl ?_;apply (Xaf);intro b3;apply (qax);intro b4;apply Xar∘qa8;refine q_l rfl (Jfa a _ _ hm) ?_;apply (Xbm);refine q_c ?_ ?_<;>intro hc0;·apply (Xd4);refine q_i L R ?_;exact ⟨[],by rw [Vu,if_pos hc0],rfl,rfl⟩
 have h0:Kz a=0:=by omega
 have hok:=Zd h0;have hAA:=hA h0;have hmn:=hok.mine.places;apply qbo∘Xcu;refine q_l rfl (Jnb a s _ _ hm hs) ?_;apply (Xbr);refine q_c ?_ ?_<;>intro hc1;·apply (Xbc);refine q_i L R ?_;exact ⟨[],by rw [Vu,if_neg hc0,if_pos zL],rfl,rfl⟩
 have hf0:Vba a s=true:=by simpa using hc1
 have hff:¬ Vba a s=false:=by rw [hf0];decide
 apply qbo∘Xao∘Xce∘Xat;refine q_c ?_ ?_<;>intro hc2;·apply (Xbc);refine q_i L R ?_;exact ⟨[],by rw [Vu,if_neg hc0,if_neg hff,if_pos za],rfl,rfl⟩
 have hln:ps.l.length=a.mine.places.l.length:=by omega
 apply qbo∘Xb7;refine Jl [(2,.slice _ _ _),(3,.pointer _),(29,.slice _ _ _),(30,.int _ _),(31,.int _ _)] zh fun tq0=>?_;refine q_s ([6,9]++rg 31 11) (fun g:FS (Un) (ps.l)=>[(31,.int .i64 ((g.1:Nat):Int))]) (fun g=>(ps.l).length - g.1) ⟨0,K8a _ _⟩ ?_;rintro ⟨k0,hk0,hp0⟩ junk;try dsimp only
 apply (Xan);refine q_c ?_ ?_<;>intro hc3;·
  obtain ⟨y,hy⟩:=Kn (l:=ps.l) (k:=k0) za;apply (qbb);refine Jx zea rfl ?_;apply qa7∘Xav∘Xaw;apply Kf (G:=[_,_]) (j:=2) (cj:=37) rfl rfl zb rfl zmb rfl;·exact zyd
  intro junk3;apply (qaf);refine q_c ?_ ?_<;>intro hc4;·apply (Xcf);refine q_i L R ?_;have hpb:=Zs hp0 hy (show Un y=some 1 from if_pos za);exact ⟨[],by rw [Vu,if_neg hc0,if_neg hff,if_neg za,if_pos (by rw [hpb];rfl)],rfl,rfl⟩
  apply (Xa0);exact q_k ⟨k0 + 1,Kma hp0 hy (if_neg za)⟩
 have hn0:=Kla hp0 za;apply qbk∘Xea;refine Jm rfl (V0b a.mine _ _ hm.mineR hok.mine (Voa h0)) rfl ?_;rintro v M U ⟨p,A2,S,rfl,hpk,hA2,hpl,rfl,rfl⟩;obtain rfl:A=A2:=hAA.unique hA2;have hfx:p.l.length=a.mine.places.l.length:=by rw [hpl,yG];exact hAA.length
 have hps2:InR (isl ps) (S ++ R):=hps.mono fun r h=>Ja (by simp [h]);have hmp2:InR (psl a.mine.places) (S ++ R):=hmp.mono fun r h=>Ja (by simp [h]);have hck:Vu a s ps.l A=((List.range a.mine.places.l.length).findSome? (Yz a ps.l A)).getD 0:=by rw [Vu,if_neg hc0,if_neg hff,if_neg za,if_neg (by rw [hn0];simp)]
 apply Xb0∘qab∘Xaz;refine Jl [(2,.slice _ _ _),(10,.slice _ _ _),(47,.slice _ _ _),(48,.int _ _),(49,.int _ _)] zh fun tq1=>?_;refine q_s ([6,11,12]++rg 49 21) (fun g:FSR (Yz a ps.l A) (a.mine.places.l.length)=>[(49,.int .i64 ((g.1:Nat):Int))]) (fun g=>(a.mine.places.l.length) - g.1) ⟨0,Kya _ _⟩ ?_;rintro ⟨k1,hk1,hp1⟩ junk;try dsimp only
 apply (Xan);refine q_c ?_ ?_<;>intro hc5;·
  have hmg:=Ju (l:=a.mine.places.l) (k:=k1) default za;have hpg:p.l[k1]?=some (!(A.getD k1 false)):=by have:=hAA.length;rw [hpl,yu,Ju (l:=A) (k:=k1) false za];rfl
  have hsg:=Ju (l:=ps.l) (k:=k1) 0 za;apply Xa9∘U2g∘Xeb;intro b12;apply qad∘Xb9∘qah;apply Kf (G:=[_,_,_,_]) (j:=2) (cj:=56) rfl rfl zb rfl zmb rfl;·intro hg3;replace hg3:=qb hg3;apply (Xas);refine Jx (Jw tb (p) _ rfl rfl rfl rfl zi (i:=k1) zk zw) rfl ?_;exact (K7g) qai
  intro junk3;apply (qah);apply Us (G:=[_,_,_,_,_]) (j:=8) (cj:=62) rfl rfl zb rfl zmb rfl;·intro hg9;replace hg9:=qb hg9;exact (Xas∘U2g∘qa7) zAd
  intro junk9;apply (qaf);refine q_c ?_ ?_<;>intro hc6;·have hnb:Yz a ps.l A k1=some 12:=if_pos ⟨by obtain ⟨h1 | h1,_⟩:=hc6;rw [Jdc,h1,ybc];rw [Jdc,h1];rfl,hc6.2⟩;apply (Xcf);refine q_i L (S ++ R) ?_;exact ⟨S,by rw [hck,Yl hp1 za hnb];rfl,rfl,rfl⟩
  have hnb:Yz a ps.l A k1=none:=if_neg (fun ⟨h1,h2⟩=>by
  rcases hc6 with ⟨h3,h4⟩ | h3;·rw [Jdc,h3,h4] at h1;cases h1
  ·exact h3 h2)
  apply (Xa0);exact q_k ⟨k1 + 1,Zr hp1 za (hnb)⟩
 have hn1:=J9a hp1 za;apply (Xcr);refine q_i L (S ++ R) ?_;exact ⟨S,by rw [hck,hn1];rfl,rfl,rfl⟩
def U5g {n:XNet} {a:XAir} {s:XSetting} {o:Ow} {l:List Int} {k:Nat} {A:LB} {R:LS} {vl:Value} (hvl:vl=(⟨o,l⟩:OwL Int).val) (h:HypsN n a s l k R) (hin:InB ((⟨o,l⟩:OwL Int).L 3 Jk) A) (hok:(⟨o,l⟩:OwL Int).ok 1 Jk):
 Tri Tryz.prog 240 [n.val,vl,.int .i64 (k:Int)].toArray A R (fun w M U=>w=Uof (K9a a s true l k)∧A=M∧R=U):=by subst hvl;refine Tri.lend1 hin hok ((Z2c n a s (⟨o,l⟩:OwL Int).arr k [] _ ⟨h.pp.mono fun r hr=>Ja (.tail _ hr),h.aa.mono fun r hr=>Ja (.tail _ hr),h.is,h.ok,h.len,h.pres,h.v⟩ zEb).mono ?_);rintro v M U ⟨z,ok,rfl,hF,rfl,rfl⟩;obtain ⟨rfl,rfl⟩:=Kqc (Vve h.pres true (Int.toNat k)) hF;exact zFd
def Kte {n:XNet} {a:XAir} {s:XSetting} {o:Ow} {l:List Int} {k:Nat} {A:LB} {R:LS} {vl:Value} (hvl:vl=(⟨o,l⟩:OwL Int).val) (h:HypsN n a s l k R) (hin:InB ((⟨o,l⟩:OwL Int).L 3 Jk) A) (hok:(⟨o,l⟩:OwL Int).ok 1 Jk):
 Tri Tryz.prog 239 [n.val,vl,.int .i64 (k:Int)].toArray A R (fun w M U=>w=Uof (K9a a s false l k)∧A=M∧R=U):=by subst hvl;refine Tri.lend1 hin hok ((Zab n a s (⟨o,l⟩:OwL Int).arr k [] _ ⟨h.pp.mono fun r hr=>Ja (.tail _ hr),h.aa.mono fun r hr=>Ja (.tail _ hr),h.is,h.ok,h.len,h.pres,h.v⟩ zEb).mono ?_);rintro v M U ⟨z,ok,rfl,hF,rfl,rfl⟩;obtain ⟨rfl,rfl⟩:=Kqc (Vve h.pres false (Int.toNat k)) hF;exact zFd
def V3e : Bool → FuncId
 | true=>240
 | false=>239
def Uyf (up:Bool) {n:XNet} {a:XAir} {s:XSetting} {o:Ow} {l:List Int} {k:Nat} {A:LB} {R:LS} {vl:Value} (hvl:vl=(⟨o,l⟩:OwL Int).val) (h:HypsN n a s l k R) (hin:InB ((⟨o,l⟩:OwL Int).L 3 Jk) A) (hok:(⟨o,l⟩:OwL Int).ok 1 Jk):
 Tri Tryz.prog (V3e up) [n.val,vl,.int .i64 (k:Int)].toArray A R (fun w M U=>w=Uof (K9a a s up l k)∧A=M∧R=U):=by
 cases up with
 | true=>exact U5g hvl h hin hok
 | false=>exact Kte hvl h hin hok
def Jwb (a:XAir) (s:XSetting) (ps:Arr Int) (up:Bool) (A:List Bool) (L:LB) (R:LS) (hm:AirR a R) (hs:SetR s R) (hps:InR (isl ps) R) (hA:Kz a=0→AiryIs a.mine A):
 Tri Tryz.prog 238 [a.val,s.val,ps.val,.func (.func (V3e up)) #[] #[]].toArray L R (fun w M U=>∃(p:OwL Int) (S:LS),w=.tuple #[p.val,.int .i64 (Ud a s A up ps.l).1]∧p.ok 1 Jk∧p.l=(Ud a s A up ps.l).2∧p.L 3 Jk ++ L=M∧S ++ R=U):=by
 refine Jd 80 Tryz.call238 Tryz.func238 rfl rfl rfl ?_;apply (Xaf);intro b4;apply (qax);intro b5;apply qc4∘Xar∘Xcu∘qbm;refine Jm rfl (Jzd a s ps A _ _ hm hs hps hA) rfl ?_;rintro v M U ⟨S0,rfl,rfl,rfl⟩;apply (Xbm);refine q_c ?_ ?_<;>intro hc0;·apply Xbq∘qc4∘Xal;refine q_r L (S0 ++ R) zjd ?_;exact ⟨OwL.nil,S0,by rw [Ud,if_pos hc0];rfl,OwL.nil_ok,by rw [Ud,if_pos hc0],by rw [Kj,yx],rfl⟩
 have hso:=Yra.1 (show Vu a s ps.l A=0 by omega);have hok:=Zd hso.h0;have hfo:=Vbc hso.hf;have hAA:=hA hso.h0;have hln:=hso.hl;have hnp:=hok.mine.places;have hrx:Ud a s A up ps.l=match Vl a s A up 200 ps.l with
  | none=>(2,[])
  | some l=>(0,l):=by rw [Ud,if_neg hc0] <;> rfl
 have hR1:∀r∈R,InR r (S0 ++ R):=fun r h=>Ja (by simp [h]);have hm1:=Kea hm hR1;have hs1:=Y5a hs hR1;apply qbv∘Xea;refine Jm rfl (V0b a.mine _ _ hm1.mineR hok.mine (Voa hso.h0)) rfl ?_;rintro v M U ⟨p,A2,S,rfl,hpk,hA2,hpl,rfl,rfl⟩;obtain rfl:A=A2:=hAA.unique hA2;have hfx:p.l.length=a.mine.places.l.length:=by rw [hpl,yG];exact hAA.length
 have hAl:=hAA.length;have hR2:∀r∈S0 ++ R,InR r (S ++ (S0 ++ R)):=fun r h=>Ja (by simp only [yPa] at h ⊢;exact .inr h);apply Xcv∘Xcu;refine Jm rfl (Uuc a s _ _ (Kea hm1 hR2) (Y5a hs1 hR2) hok hfo) rfl ?_;rintro v M U ⟨n,rfl,hn,rfl,rfl⟩;have hR3:∀r∈S ++ (S0 ++ R),InR r (Zca n.pipes :: Yla n.at_ :: (S ++ (S0 ++ R))):=fun r h=>Ja (by simp only [yU];exact .inr (.inr h));have hps3:InR (isl ps) (Zca n.pipes :: Yla n.at_ :: (S ++ (S0 ++ R))):=((hps.mono hR1).mono hR2).mono hR3;have hmp3:InR (psl a.mine.places) (Zca n.pipes :: Yla n.at_ :: (S ++ (S0 ++ R))):=((hm1.places).mono hR2).mono hR3;have hpp:InR (Zca n.pipes) (Zca n.pipes :: Yla n.at_ :: (S ++ (S0 ++ R))):=Ja (.head _);have haa:InR (Yla n.at_) (Zca n.pipes :: Yla n.at_ :: (S ++ (S0 ++ R))):=Ja (.tail _ (.head _));obtain ⟨R4,hR4⟩:∃R4,R4=Zca n.pipes :: Yla n.at_ :: (S ++ (S0 ++ R)):=⟨_,rfl⟩;rw [← hR4] at hps3 hmp3 hpp haa ⊢;apply (qaq);intro b12;apply Xa2∘qbm;refine Yu (Kt (f:=Jk) (xs:=ps) tb rfl rfl rfl ze rfl rfl (hps3) yf za) rfl ?_;rintro v M U ⟨o34,rfl,hok34,rfl,rfl⟩;apply Xb0∘Xa4;refine Jl [(3,_),(4,.pointer _),(11,.slice _ _ _),(12,.pointer _),(13,.slice _ _ _),(14,.int _ _)] zh fun tq0=>?_;refine q_p ([8,9]++rg 14 6++rg 35 45) ((⟨fun q=>[(14,.int .i64 ((q.1.1:Nat):Int))],fun q=>(⟨o34,q.1.2⟩:OwL Int).L 3 Jk ++ (⟨b12,n.cells,221⟩ :: (p.L 4 blc ++ (⟨b5,s.cells,80⟩ :: ⟨b4,a.cells,32⟩ :: L))),fun _=>R4,fun q=>200 - q.1.1⟩:Head {q:Nat×List Int // q.1≤200∧Vl a s A up 200 ps.l=Vl a s A up (200 - q.1) q.2∧q.2.length=ps.l.length∧PresOk q.2∧(⟨o34,q.2⟩:OwL Int).ok 1 Jk})) (⟨(0,ps.l),by dsimp only;omega,rfl,rfl,hso.hp,hok34⟩) ?_;rintro ⟨⟨n1,l⟩,w1,w2,w3,w4,w5⟩ junk;try dsimp only
 dsimp only at w1 w2 w3 w4 w5;apply Xay∘Xa5;refine q_c ?_ ?_<;>intro hc1;·
  have e200:200 - n1=(200 - (n1 + 1)) + 1:=by omega
  rw [e200] at w2;apply qbb∘qaz∘qaw∘qab∘Xaz;refine Vh ([8,9]++rg 14 6++rg 35 45) zJ [(14,.int _ _),(15,.bool _),(41,.slice _ _ _),(42,.int _ _),(43,.int _ _)] zh fun tq1=>?_;refine K9 ([8,9,15,16,17,18,19]++rg 43 34) ((⟨fun q=>[(43,.int .i64 ((q.1.1:Nat):Int)),(15,.bool (decide (q.1.2≠l)))],fun q=>(⟨o34,q.1.2⟩:OwL Int).L 3 Jk ++ (⟨b12,n.cells,221⟩ :: (p.L 4 blc ++ (⟨b5,s.cells,80⟩ :: ⟨b4,a.cells,32⟩ :: L))),fun _=>R4,fun q=>a.mine.places.l.length - q.1.1⟩:Head {q:Nat×List Int // q.1≤a.mine.places.l.length∧Swept a s A up l q.1 q.2∧(⟨o34,q.2⟩:OwL Int).ok 1 Jk})) (⟨(0,l),by dsimp only;omega,.zero w4,w5⟩) ⟨rfl,by simp;rfl,trivial⟩ zg zCb ?_;rintro ⟨⟨i,m⟩,q1,q2,q3⟩ junk;try dsimp only
  dsimp only at q1 q2 q3;have hml:=q2.len;apply (Xan);refine q_c ?_ ?_<;>intro hc2;·
   have hgg:=Ju (l:=a.mine.places.l) (k:=i) default za;obtain ⟨fb,hfb⟩:∃fb,fb=A.getD i false:=⟨_,rfl⟩;(have hpg:p.l[i]?=some (!fb):=by rw [hpl,yu,Ju (l:=A) (k:=i) false za,hfb];rfl);have hmg:=Ju (l:=m) (k:=i) 0 za;apply (Xa9);refine Jx zRa rfl ?_;apply (Xeb);intro b17;apply qad∘Xbg∘Xaa∘qah;apply Kf (G:=[_,_,_,_]) (j:=2) (cj:=50) rfl rfl zb rfl zmb rfl;·intro hg3;replace hg3:=qb hg3;apply (Xas);refine Jx (Jw tb (p) _ rfl rfl rfl rfl zi (i:=i) zk zw) rfl ?_;exact (K7g) qai
   intro junk3;apply (qaf);refine q_c ?_ ?_<;>intro hc3;·(have hfi:Jdc a A i=true:=by rw [Jdc,← hfb];rcases hc3 with h | h;rw [h,ybc];rw [h];rfl);refine K4 (Kp (J8 (Jb (Jg ?_))));apply (Xae);exact q_k ⟨(i + 1,m),by dsimp only;omega,q2.skip hfi,q3⟩
   (have hfi:¬ Jdc a A i=true:=by rw [Jdc,← hfb,hc3.1,hc3.2];decide);have hH:HypsN n a s m i R4:=⟨hpp,haa,hn,hok,by omega,q2.pres,by omega⟩;apply (qbv);refine Jx zXb rfl ?_;apply qbe∘Xas;refine Vqc (J5a rfl rfl (Uyf up (o:=o34) (l:=m) ((show _=Value.slice _ _ _ from rfl).trans (by simp only [OwL.val,hml,w3])) hH zH q3)) rfl rfl ?_;rintro v M U ⟨rfl,rfl,rfl⟩;refine Jx zXb rfl ?_;apply Xbb∘Xbx∘qaw∘qah∘Xbr;refine q_c ?_ ?_<;>intro hc4;·(have hv:K9a a s up m i=none:=by simpa using hc4);(have hrn:Ud a s A up ps.l=(2,[]):=by rw [hrx,w2,Vad (q2.fail hfi hv _ za)]);apply qae∘qc4∘qad;refine J7 (Jb (Ui (Kg (Ke (Kg (Ye (Ke (Kg (Ke (Kg (Ye (Ke (Kg ?_)))))))))))));refine q_r L R4 zjd ?_;exact Zzf
   obtain ⟨u,hv⟩:=Option.isSome_iff_exists.1 hc4;have hfl:=q2.flag (k:=i) za u;apply (qcl);rw [hv];apply Xa7∘Xas∘Z3f;refine Jx (Kd tb ((⟨o34,m⟩:OwL Int)) rfl rfl rfl zj zi yf zi zb) rfl ?_;apply (Xat);refine q_c ?_ ?_<;>intro hc5;·apply Xcl∘qaa∘Z3f;refine V8 (Jt tb ((⟨o34,m⟩:OwL Int)) (u) rfl rfl rfl rfl zj zi yf zi ze zb zb) ?_;rintro v M U ⟨rfl,rfl⟩;apply qaz∘Xbl;exact Ki ⟨(i + 1,m.set i u),by dsimp only;omega,q2.next hfi hv,OwL.len_ok U2 q3 zo⟩ zm ⟨rfl,by dsimp only;rw [hfl,decide_eq_true (show u≠m.getD i 0 from hc5),ybc];rfl,trivial⟩ zg zCb zu
   apply (Xa0);(have hse:m.set i u=m:=by rw [show u=m.getD i 0 by simpa using hc5,Zea]);exact q_k ⟨(i + 1,m),by dsimp only;omega,hse ▸ q2.next hfi hv,q3⟩
  obtain rfl:i=a.mine.places.l.length:=by omega
  have hsw:=q2.to;apply qbk∘qah∘Xbr;refine q_c ?_ ?_<;>intro hc6;·(have hme:m=l:=by simpa using hc6);(have hrn:Ud a s A up ps.l=(0,m):=by rw [hrx,w2,hme,J5d (by rw [← hme] at hsw ⊢;exact hsw)]);apply qae∘qbm∘qc4∘qad∘qbt;refine q_r ((⟨o34,m⟩:OwL Int).L 3 Jk ++ L) R4 zjd ?_;exact ⟨⟨o34,m⟩,Zca n.pipes :: Yla n.at_ :: (S ++ S0),by rw [hrn];simp only [OwL.val,hml,w3],q3,by rw [hrn],rfl,by rw [hR4];simp⟩
  have hme:m≠l:=by simpa using hc6
  apply (Xdh);exact q_k ⟨(n1 + 1,m),by dsimp only;omega,w2.trans (Uld hsw hme),hml.trans w3,q2.pres,q3⟩
 obtain rfl:n1=200:=by omega
 have hrn:Ud a s A up ps.l=(2,[]):=by rw [hrx,w2];rfl
 apply qbk∘qc4∘Xaj;refine q_r L R4 zjd ?_;exact Zzf
def Kfd (a:XAir) (s:XSetting) (ps:Arr Int) (A:List Bool) (L:LB) (R:LS) (hm:AirR a R) (hs:SetR s R) (hps:InR (isl ps) R) (hA:Kz a=0→AiryIs a.mine A):
 Tri Tryz.prog 187 [a.val,s.val,ps.val].toArray L R (fun w M U=>∃(p:OwL Int) (S:LS),w=.tuple #[p.val,.int .i64 (Ud a s A true ps.l).1]∧p.ok 1 Jk∧p.l=(Ud a s A true ps.l).2∧p.L 3 Jk ++ L=M∧S ++ R=U):=by refine Jd 14 Tryz.call187 Tryz.func187 rfl rfl rfl ?_;apply (Xaf);intro b3;apply (qax);intro b4;apply qc4∘Xag∘Xcu∘qbm;refine Jm rfl (Jwb a s ps true A _ _ hm hs hps hA) rfl ?_;exact zPd
def Kqd (a:XAir) (s:XSetting) (ps:Arr Int) (A:List Bool) (L:LB) (R:LS) (hm:AirR a R) (hs:SetR s R) (hps:InR (isl ps) R) (hA:Kz a=0→AiryIs a.mine A):
 Tri Tryz.prog 186 [a.val,s.val,ps.val].toArray L R (fun w M U=>∃(p:OwL Int) (S:LS),w=.tuple #[p.val,.int .i64 (Ud a s A false ps.l).1]∧p.ok 1 Jk∧p.l=(Ud a s A false ps.l).2∧p.L 3 Jk ++ L=M∧S ++ R=U):=by refine Jd 14 Tryz.call186 Tryz.func186 rfl rfl rfl ?_;apply (Xaf);intro b3;apply (qax);intro b4;apply qc4∘Xag∘Xcu∘qbm;refine Jm rfl (Jwb a s ps false A _ _ hm hs hps hA) rfl ?_;exact zPd
end
end Go.Proofs.YtchfclmokpbldaaGreat
