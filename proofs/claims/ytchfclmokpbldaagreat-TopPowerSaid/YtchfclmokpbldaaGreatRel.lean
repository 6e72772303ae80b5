/-
  Merged texts. By an AI agent.
-/
import Derived.Test.YtchfclmokpbldaaGreatCflowR
import Derived.Test.YtchfclmokpbldaaGreatNets
set_option linter.all false
set_option maxHeartbeats 4000000
set_option maxRecDepth 20000
namespace Go.Proofs.YtchfclmokpbldaaGreat
open Go.Aw Go
section
structure Accept (a:XAir) (s:XSetting) (b:XBounds) (A:List Bool):Prop where
 ck:CheckOk a s b
 fix:∀i:Nat,i < a.mine.places.l.length→(!(A.getD i false) || (a.mine.places.l.getD i default).surface)=true→b.low.l.getD i 0=0∧b.high.l.getD i 0=0
 net:∀i:Nat,i < a.mine.places.l.length→¬ (!(A.getD i false) || (a.mine.places.l.getD i default).surface)=true→0≤Vuc a s b.high.l (i:Int)∧Yba a s b.low.l (i:Int)≤0
def U4b {a:XAir} {s:XSetting} {b:XBounds} {A:List Bool} (h:CheckOk a s b):Yz a s b A=((List.range a.mine.places.l.length).findSome? (Vm a s b A)).getD 0:=by have h1:=h.hl;have h2:=h.hh;rw [Yz,if_neg (by rw [h.h0];decide),if_neg (by rw [h.hf];decide),if_neg za,if_neg (by rw [Jib h.pl,Jib h.ph];simp)]
def Usc (a:XAir) (s:XSetting) (b:XBounds) (A:List Bool) (i:Nat):Vm a s b A i=none∨Vm a s b A i=some 12:=by
 unfold Vm;split;·
  split;·exact .inr rfl
  ·exact .inl rfl
 ·
  split;·exact .inr rfl
  ·exact .inl rfl
def Kjc {a:XAir} {s:XSetting} {b:XBounds} {A:List Bool}:Yz a s b A=0↔Accept a s b A:=by
 have node:∀i,Vm a s b A i=none↔((!(A.getD i false) || (a.mine.places.l.getD i default).surface)=true→b.low.l.getD i 0=0∧b.high.l.getD i 0=0)∧(¬ (!(A.getD i false) || (a.mine.places.l.getD i default).surface)=true→0≤Vuc a s b.high.l (i:Int)∧Yba a s b.low.l (i:Int)≤0):=fun i=>by
  unfold Vm;by_cases h1:(!(A.getD i false) || (a.mine.places.l.getD i default).surface)=true;·
   rw [if_pos h1];refine ⟨fun h=>⟨fun _=>?_,fun h'=>absurd h1 h'⟩,fun h=>if_neg (by have:=h.1 h1;omega)⟩;split at h;·cases h
   ·omega
  ·
   rw [if_neg h1];refine ⟨fun h=>⟨fun h'=>absurd h' h1,fun _=>?_⟩,fun h=>if_neg (by have:=h.2 h1;omega)⟩;split at h;·cases h
   ·omega
 constructor;·
  intro h;have hC:=Yzc h;rw [U4b hC] at h;have hn:(List.range a.mine.places.l.length).findSome? (Vm a s b A)=none:=by
   cases e:(List.range a.mine.places.l.length).findSome? (Vm a s b A) with
   | none=>rfl
   | some v=>
    obtain ⟨i,_,hi⟩:=yI e;rcases Usc a s b A i with h1 | h1;·rw [h1] at hi;cases hi
    ·rw [h1] at hi;cases hi;rw [e] at h;cases h
  rw [yF] at hn;exact ⟨hC,fun i hi=>((node i).1 (hn i (List.mem_range.2 hi))).1,fun i hi=>((node i).1 (hn i (List.mem_range.2 hi))).2⟩
 ·intro h;rw [U4b h.ck,List.findSome?_eq_none_iff.2 (fun i hi=>(node i).2 ⟨h.fix i (List.mem_range.1 hi),h.net i (List.mem_range.1 hi)⟩)];rfl
end
section
def Tri.turn {P : Program} {f : FuncId} {args : Array Value} {L : LB} {R : LS} {Post Post' : Yy} (h : Tri P f args L R Post)
 (k:∀v M U,Post v M U→∃L'' R'',M.Perm L''∧(∀r∈R'',InR r U)∧Post' v L'' R''):Tri P f args L R Post':=
 ⟨h.1,fun w G hh=>(h.2 w G hh).mono fun e w' ⟨v,M,U,he,hp,hst⟩=>by
  obtain ⟨L'',R'',h1,h2,h3⟩:=k v M U hp
  exact ⟨v,L'',R'',he,h3,(hst.perm h1).weak ye h2⟩⟩
def Z6b (g:Int→Bool) (start:Int) (up:Bool):Option Int:=
 ((List.range ((Kcb up start).toNat + 1)).find? fun (m:Nat)=>g (start + sgn up * (m:Int))).map fun (m:Nat)=>start + sgn up * (m:Int)
def Z1d {g:Int→Bool} {start:Int} {up:Bool} {v:Int} (h:First g start up v true):Z6b g start up=some v:=by
 obtain ⟨m,m0,m1,mv,mg,mj⟩:=h.yes rfl;have e:(List.range ((Kcb up start).toNat + 1)).find? (fun (m:Nat)=>g (start + sgn up * (m:Int)))=some m.toNat:=by
  rw [yTa];refine ⟨?_,List.mem_range.2 za,fun j hj=>?_⟩;·rw [yka m0,← mv];exact mg
  ·rw [mj j za za];rfl
 rw [Z6b,e,yLa,yka m0,mv]
def Y8d {g:Int→Bool} {start:Int} {up:Bool} {v:Int} (h0:0≤Kcb up start) (h:First g start up v false):Z6b g start up=none:=by
 obtain ⟨_,hj⟩:=h.no rfl;have e:(List.range ((Kcb up start).toNat + 1)).find? (fun (m:Nat)=>g (start + sgn up * (m:Int)))=none:=by rw [List.find?_range_eq_none];intro i hi;rw [hj i za za];rfl
 rw [Z6b,e];rfl
def Z9a {g:Int→Bool} {start:Int} {up:Bool} {v:Int} (h0:0≤Kcb up start) (h:Z6b g start up=some v):First g start up v true:=by
 unfold Z6b at h;obtain ⟨m,hm,rfl⟩:=Option.map_eq_some_iff.1 h;rw [yTa] at hm;obtain ⟨h1,h2,h3⟩:=hm;have h2':=List.mem_range.1 h2;refine ⟨fun _=>⟨m,by omega,by omega,rfl,h1,fun j j0 j1=>?_⟩,fun h=>by cases h⟩;have:=h3 j.toNat za;rw [yka j0] at this;cases e:g (start + sgn up * j) with
 | false=>rfl
 | true=>rw [e] at this;cases this
def J4c {g:Int→Bool} {start:Int} {up:Bool} {v:Int} {ok:Bool} (h0:0≤Kcb up start) (h:First g start up v ok):v=(Z6b g start up).getD 0∧ok=(Z6b g start up).isSome:=by
 cases ok with
 | true=>rw [Z1d h];exact ⟨rfl,rfl⟩
 | false=>rw [Y8d h0 h];exact ⟨(h.no rfl).1,rfl⟩
attribute [irreducible] Z6b
def Uhc (a:XAir) (s:XSetting) (up:Bool) (l:List Int) (v:Int):Int→Bool:=if up=true then Uaf a s l v else Khd a s l v
def Kza (a:XAir) (s:XSetting) (up:Bool) (l:List Int) (k:Nat):Option Int:=Z6b (Uhc a s up l k) (l.getD k 0) up
abbrev Vub (a:XAir) (A:List Bool) (k:Nat):Bool:=!(A.getD k false) || (a.mine.places.l.getD k default).surface
def Uf (a : XAir) (s : XSetting) (A : List Bool) (up : Bool) (l : List Int) : Nat → Option (List Int)
 | 0=>some l
 | k + 1=>(Uf a s A up l k).bind fun m=>if Vub a A k=true then some m else (Kza a s up m k).map fun v=>m.set k v
def Va (a : XAir) (s : XSetting) (A : List Bool) (up : Bool) : Nat → List Int → Option (List Int)
 | 0,_=>none
 | n + 1,l=>match Uf a s A up l a.mine.places.l.length with
  | none=>none
  | some m=>if m=l then some m else Va a s A up n m
def Yq (a:XAir) (ps:List Int) (A:List Bool) (i:Nat):Option Int:=if Vub a A i=true∧ps.getD i 0≠0 then some 12 else none
def Vr (a:XAir) (s:XSetting) (ps:List Int) (A:List Bool):Int:=
 if K1 a≠0 then K1 a else if Yfa a s=false then 21 else if ps.length≠a.mine.places.l.length then 11
 else if (ps.findSome? Vj).isSome=true then 1 else ((List.range a.mine.places.l.length).findSome? (Yq a ps A)).getD 0
def K9 (a:XAir) (s:XSetting) (A:List Bool) (up:Bool) (ps:List Int):Int×List Int:=
 if Vr a s ps A≠0 then (Vr a s ps A,[]) else match Va a s A up 200 ps with
  | none=>(2,[])
  | some l=>(0,l)
def Yf (a:XAir) (s:XSetting) (A:List Bool):Int×List Int×List Int:=
 let p:=K9 a s A false (List.replicate a.mine.places.l.length 0)
 if p.1≠0 then (p.1,[],[]) else
  let q:=K9 a s A true p.2
  if q.1≠0 then (q.1,[],[]) else
   let r:=K9 a s A false q.2
   if r.1≠0 then (r.1,[],[]) else (0,r.2,q.2)
structure StartOk (a:XAir) (s:XSetting) (ps:List Int) (A:List Bool):Prop where
 h0:K1 a=0
 hf:Yfa a s=true
 hl:ps.length=a.mine.places.l.length
 hp:PresOk ps
 fix:∀i:Nat,i < a.mine.places.l.length→Vub a A i=true→ps.getD i 0=0
def Uga {a:XAir} {s:XSetting} {ps:List Int} {A:List Bool}:Vr a s ps A=0↔StartOk a s ps A:=by
 constructor;·
  intro h;unfold Vr at h;split at h;·exact ua9
  rename_i h1;split at h;·cases h
  rename_i h2;split at h;·cases h
  rename_i h3;split at h;·cases h
  rename_i h4;refine ⟨by omega,by simpa using h2,by omega,Yma (by simpa using h4),fun i hi hf=>?_⟩;have hn:(List.range a.mine.places.l.length).findSome? (Yq a ps A)=none:=by
   cases e:(List.range a.mine.places.l.length).findSome? (Yq a ps A) with
   | none=>rfl
   | some v=>
    obtain ⟨j,_,hj⟩:=yI e;unfold Yq at hj;split at hj;·cases hj;rw [e] at h;cases h
    ·cases hj
  rw [yF] at hn;have:=hn i (List.mem_range.2 hi);unfold Yq at this;split at this;·cases this
  ·rename_i h5;exact Decidable.not_not.1 fun h6=>h5 ⟨hf,h6⟩
 ·intro h;rw [Vr,if_neg (by rw [h.h0];decide),if_neg (by rw [h.hf];decide),if_neg (by rw [h.hl];simp),if_neg (by rw [Jib h.hp];simp),List.findSome?_eq_none_iff.2 (fun i hi=>show Yq a ps A i=none from if_neg (fun h'=>h'.2 (h.fix i (List.mem_range.1 hi) h'.1)))];rfl
def Udd {a:XAir} {s:XSetting} {up:Bool} {l:List Int} {k:Nat} {v:Int} (h:PresOk l) (hv:Kza a s up l k=some v):-70368744177664≤v∧v≤70368744177664:=by obtain ⟨m,m0,m1,mv,_,_⟩:=(Z9a (Y4b (h.get k)).1 hv).yes rfl;rw [mv];exact Vjd (h.get k) ⟨m0,m1⟩
structure Swept (a:XAir) (s:XSetting) (A:List Bool) (up:Bool) (l:List Int) (k:Nat) (m:List Int):Prop where
 to:Uf a s A up l k=some m
 len:m.length=l.length
 pres:PresOk m
 rest:∀j:Nat,k≤j→m[j]?=l[j]?
def Swept.zero {a:XAir} {s:XSetting} {A:List Bool} {up:Bool} {l:List Int} (h:PresOk l):Swept a s A up l 0 l:=⟨rfl,rfl,h,fun _ _=>rfl⟩
def Swept.skip {a:XAir} {s:XSetting} {A:List Bool} {up:Bool} {l m:List Int} {k:Nat} (h:Swept a s A up l k m) (hf:Vub a A k=true):Swept a s A up l (k + 1) m:=
 ⟨by rw [Uf,h.to,yFa,if_pos hf],h.len,h.pres,fun j hj=>h.rest j za⟩
def Swept.fail {a:XAir} {s:XSetting} {A:List Bool} {up:Bool} {l m:List Int} {k:Nat} (h:Swept a s A up l k m) (hf:¬ Vub a A k=true) (hn:Kza a s up m k=none):∀n,k + 1≤n→Uf a s A up l n=none:=by
 intro n hn2;induction n with
 | zero=>omega
 | succ n ih=>
  rcases yk k n with h1 | h1;·rw [Uf,ih za];rfl
  ·(obtain rfl : n = k := by omega);rw [Uf,h.to,yFa,if_neg hf,hn];rfl
def Swept.next {a:XAir} {s:XSetting} {A:List Bool} {up:Bool} {l m:List Int} {k:Nat} (h:Swept a s A up l k m) (hf:¬ Vub a A k=true) {v:Int} (hv:Kza a s up m k=some v):Swept a s A up l (k + 1) (m.set k v):=
 ⟨by rw [Uf,h.to,yFa,if_neg hf,hv];rfl,by rw [yy];exact h.len,h.pres.set _ (Udd h.pres hv),fun j hj=>by rw [yda za];exact h.rest j za⟩
def Swept.flag {a:XAir} {s:XSetting} {A:List Bool} {up:Bool} {l m:List Int} {k:Nat} (h:Swept a s A up l k m) (hk:k < l.length) (v:Int):decide (m.set k v≠l)=(decide (m≠l) || decide (v≠m.getD k 0)):=by
 have hlen:=h.len;have hg:=Jw (l:=m) (k:=k) 0 za;by_cases h1:v=m.getD k 0;·rw [h1,Zka];simp
 ·
  have h2:m.set k v≠l:=fun e=>by have h3:=h.rest k (yl _);rw [← e,yH za,hg] at h3;exact h1 (yL h3).symm
  rw [decide_eq_true h2,decide_eq_true h1,yfc]
def Uad {a:XAir} {s:XSetting} {A:List Bool} {up:Bool} {n:Nat} {l m:List Int} (hs:Uf a s A up l a.mine.places.l.length=some m) (hne:m≠l):Va a s A up (n + 1) l=Va a s A up n m:=by rw [Va,hs];exact if_neg hne
def Ypb {a:XAir} {s:XSetting} {A:List Bool} {up:Bool} {n:Nat} {l:List Int} (hs:Uf a s A up l a.mine.places.l.length=some l):Va a s A up (n + 1) l=some l:=by rw [Va,hs];exact if_pos rfl
def Jjd {a:XAir} {s:XSetting} {A:List Bool} {up:Bool} {n:Nat} {l:List Int} (hs:Uf a s A up l a.mine.places.l.length=none):Va a s A up (n + 1) l=none:=by rw [Va,hs]
def Z5 {a : XAir} {s : XSetting} {A : List Bool} {up : Bool} {l : List Int} (hl : PresOk l) : ∀ {k : Nat} {m : List Int}, Uf a s A up l k = some m → Swept a s A up l k m
 | 0,m,h=>by cases h;exact .zero hl
 | k + 1,m,h=>by
  have h':=h
  rw [Uf,yGa] at h'
  obtain ⟨m1,h1,h2⟩:=h'
  have ih:=Z5 hl h1
  split at h2
  ·rename_i hf
   cases h2
   exact ih.skip hf
  ·rename_i hf
   obtain ⟨v,hv,rfl⟩:=Option.map_eq_some_iff.1 h2
   exact ih.next hf hv
def Y7a {a : XAir} {s : XSetting} {A : List Bool} {up : Bool} : ∀ {n : Nat} {l m : List Int}, PresOk l → Va a s A up n l = some m → m.length = l.length ∧ PresOk m ∧ Uf a s A up m a.mine.places.l.length = some m
 | 0,l,m,_,h=>by cases h
 | n + 1,l,m,hl,h=>by
  rw [Va] at h
  split at h
  ·cases h
  ·rename_i m1 h1
   have hs:=Z5 hl h1
   split at h
   ·rename_i e
    cases h
    subst e
    exact ⟨rfl,hl,h1⟩
   ·obtain ⟨k1, k2, k3⟩ := Y7a hs.pres h
    exact ⟨k1.trans hs.len,k2,k3⟩
def Zjb {a:XAir} {s:XSetting} {A:List Bool} {up:Bool} {ps:List Int} (h:(K9 a s A up ps).1=0):StartOk a s ps A∧Va a s A up 200 ps=some (K9 a s A up ps).2:=by
 unfold K9 at h ⊢;split at h;·exact ua9
 ·
  rename_i h1;rw [if_neg h1];refine ⟨Uga.1 za,?_⟩;split at h;·cases h
  ·rename_i l e;rw [e]
end
section
attribute [local irreducible] CJ LJ DJ Tri YV Gives U0 J3 Kj Uz RV J5 OwL.L
abbrev Uxf (x:Option Int):Value:=.tuple #[.int .i64 (x.getD 0),.bool x.isSome]
def Kpe {ps:List Int} (h:PresOk ps) (up:Bool) (k:Nat):0≤Kcb up (ps.getD k 0):=(Y4b (h.get k)).1
def V8e {α:Type} {f:α→List Value} {z:List Value} {b n:Nat} {T:TypeId} {x:α} {A:LB} (hz:z=f x):InB ((⟨.own b n [],List.replicate n x⟩:OwL α).L T f) (⟨b,Vhb z n,T⟩ :: A):=by rw [Y1 hz A];exact Vfa
section
variable {A B:Prop}
def J7g(h:A→B:=by exact Jx zJa rfl):=h
def V8f(h:A→B:=by exact Jx zyb rfl):=h
def Jog(h:B:=by exact ⟨OwL.nil,Zma n.pipes :: Yga n.at_ :: (S ++ S0),by rw [hrn];rfl,OwL.nil_ok,by rw [hrn],by rw [Ki,yv],by rw [hR4];simp⟩):=h
def Z9f(h:A→B:=by exact Jx (Jv tb ((⟨o34,m⟩:OwL Int)) _ rfl rfl ((show _=Value.slice _ _ _ from rfl).trans (by simp only [OwL.val,hml,w3])) rfl zg (i:=i) zk zu) rfl):=h
end
def Zcc (a:XAir) (s:XSetting) (ps:Arr Int) (A:List Bool) (L:LB) (R:LS) (hm:AirR a R) (hs:SetR s R) (hps:InR (isl ps) R) (hA:K1 a=0→AiryIs a.mine A):
 Tri Tryz.prog 277 [a.val,s.val,ps.val].toArray L R (fun v M U=>∃S:LS,v=.int .i64 (Vr a s ps.l A)∧L=M∧S ++ R=U):=by
 have hmp:=hm.places;refine Vo Tryz.call277 hps fun hpn=>?_;refine Vo Tryz.call277 hmp fun hmpn=>?_;refine Jj 70 Tryz.call277 Tryz.func277 rfl rfl rfl ?_;apply (Xaf);intro b3;apply (qax);intro b4;apply Xap∘qa8;refine q_l rfl (Z6 a _ _ hm) ?_;apply (Xba);refine q_c ?_ ?_<;>intro hc0;·apply (Xdl);refine q_i L R ?_;exact ⟨[],by rw [Vr,if_pos hc0],rfl,rfl⟩
 have h0:K1 a=0:=by omega
 have hok:=Zj h0;have hAA:=hA h0;have hmn:=hok.mine.places;apply qbo∘Xcd;refine q_l rfl (Jhb a s _ _ hm hs) ?_;apply (Xbb);refine q_c ?_ ?_<;>intro hc1;·apply (Xa6);refine q_i L R ?_;exact ⟨[],by rw [Vr,if_neg hc0,if_pos zG],rfl,rfl⟩
 have hf0:Yfa a s=true:=by simpa using hc1
 have hff:¬ Yfa a s=false:=by rw [hf0];decide
 apply qbo∘Xaq∘Xb6∘Xao;refine q_c ?_ ?_<;>intro hc2;·apply (Xa6);refine q_i L R ?_;exact ⟨[],by rw [Vr,if_neg hc0,if_neg hff,if_pos za],rfl,rfl⟩
 have hln:ps.l.length=a.mine.places.l.length:=by omega
 apply qbo∘Xbt;refine Jp [(2,.slice _ _ _),(3,.pointer _),(29,.slice _ _ _),(30,.int _ _),(31,.int _ _)] zh fun tq0=>?_;refine q_s ([6,9]++rg 31 11) (fun g:FS (Vj) (ps.l)=>[(31,.int .i64 ((g.1:Nat):Int))]) (fun g=>(ps.l).length - g.1) ⟨0,K1a _ _⟩ ?_;rintro ⟨k0,hk0,hp0⟩ junk;try dsimp only
 apply (Xak);refine q_c ?_ ?_<;>intro hc3;·
  obtain ⟨y,hy⟩:=Ky (l:=ps.l) (k:=k0) za;apply (qbb);refine Jx zaa rfl ?_;apply qa7∘Xau∘Xav;apply J9 (G:=[_,_]) (j:=2) (cj:=37) rfl rfl zb rfl zfb rfl;·exact zgd
  intro junk3;apply (qaf);refine q_c ?_ ?_<;>intro hc4;·apply (Xby);refine q_i L R ?_;have hpb:=Zm hp0 hy (show Vj y=some 1 from if_pos za);exact ⟨[],by rw [Vr,if_neg hc0,if_neg hff,if_neg za,if_pos (by rw [hpb];rfl)],rfl,rfl⟩
  apply (Xax);exact q_k ⟨k0 + 1,Kba hp0 hy (if_neg za)⟩
 have hn0:=Kaa hp0 za;apply qbk∘Xdp;refine Jy rfl (Vvb a.mine _ _ hm.mineR hok.mine (Voa h0)) rfl ?_;rintro v M U ⟨p,A2,S,rfl,hpk,hA2,hpl,rfl,rfl⟩;obtain rfl:A=A2:=hAA.unique hA2;have hfx:p.l.length=a.mine.places.l.length:=by rw [hpl,yz];exact hAA.length
 have hps2:InR (isl ps) (S ++ R):=hps.mono fun r h=>Ja (by simp [h]);have hmp2:InR (psl a.mine.places) (S ++ R):=hmp.mono fun r h=>Ja (by simp [h]);have hck:Vr a s ps.l A=((List.range a.mine.places.l.length).findSome? (Yq a ps.l A)).getD 0:=by rw [Vr,if_neg hc0,if_neg hff,if_neg za,if_neg (by rw [hn0];simp)]
 apply Xb0∘qab∘Xaw;refine Jp [(2,.slice _ _ _),(10,.slice _ _ _),(47,.slice _ _ _),(48,.int _ _),(49,.int _ _)] zh fun tq1=>?_;refine q_s ([6,11,12]++rg 49 21) (fun g:FSR (Yq a ps.l A) (a.mine.places.l.length)=>[(49,.int .i64 ((g.1:Nat):Int))]) (fun g=>(a.mine.places.l.length) - g.1) ⟨0,Kna _ _⟩ ?_;rintro ⟨k1,hk1,hp1⟩ junk;try dsimp only
 apply (Xak);refine q_c ?_ ?_<;>intro hc5;·
  have hmg:=Jw (l:=a.mine.places.l) (k:=k1) default za;have hpg:p.l[k1]?=some (!(A.getD k1 false)):=by have:=hAA.length;rw [hpl,yt,Jw (l:=A) (k:=k1) false za];rfl
  have hsg:=Jw (l:=ps.l) (k:=k1) 0 za;apply Xa0∘J7g∘Xdq;intro b12;apply qad∘Xbx∘qah;apply J9 (G:=[_,_,_,_]) (j:=2) (cj:=56) rfl rfl zb rfl zfb rfl;·intro hg3;replace hg3:=qb hg3;apply (Xat);refine Jx (Jv tb (p) _ rfl rfl rfl rfl zg (i:=k1) zk zu) rfl ?_;exact (V8f) qai
  intro junk3;apply (qah);apply Ui (G:=[_,_,_,_,_]) (j:=8) (cj:=62) rfl rfl zb rfl zfb rfl;·intro hg9;replace hg9:=qb hg9;exact (Xat∘J7g∘qa7) zhd
  intro junk9;apply (qaf);refine q_c ?_ ?_<;>intro hc6;·have hnb:Yq a ps.l A k1=some 12:=if_pos ⟨by obtain ⟨h1 | h1,_⟩:=hc6;rw [Vub,h1,yfc];rw [Vub,h1];rfl,hc6.2⟩;apply (Xby);refine q_i L (S ++ R) ?_;exact ⟨S,by rw [hck,Yb hp1 za hnb];rfl,rfl,rfl⟩
  have hnb:Yq a ps.l A k1=none:=if_neg (fun ⟨h1,h2⟩=>by
  rcases hc6 with ⟨h3,h4⟩ | h3;·rw [Vub,h3,h4] at h1;cases h1
  ·exact h3 h2)
  apply (Xax);exact q_k ⟨k1 + 1,Zk hp1 za (hnb)⟩
 have hn1:=J0a hp1 za;apply (Xca);refine q_i L (S ++ R) ?_;exact ⟨S,by rw [hck,hn1];rfl,rfl,rfl⟩
def Ymf {n:XNet} {a:XAir} {s:XSetting} {o:Ow} {l:List Int} {k:Nat} {A:LB} {R:LS} {vl:Value} (hvl:vl=(⟨o,l⟩:OwL Int).val) (h:HypsN n a s l k R) (hin:InB ((⟨o,l⟩:OwL Int).L 3 Jo) A) (hok:(⟨o,l⟩:OwL Int).ok 1 Jo):
 Tri Tryz.prog 240 [n.val,vl,.int .i64 (k:Int)].toArray A R (fun w M U=>w=Uxf (Kza a s true l k)∧A=M∧R=U):=by subst hvl;refine Tri.lend1 hin hok ((Vyc n a s (⟨o,l⟩:OwL Int).arr k [] _ ⟨h.pp.mono fun r hr=>Ja (.tail _ hr),h.aa.mono fun r hr=>Ja (.tail _ hr),h.is,h.ok,h.len,h.pres,h.v⟩ zsb).mono ?_);rintro v M U ⟨z,ok,rfl,hF,rfl,rfl⟩;obtain ⟨rfl,rfl⟩:=J4c (Kpe h.pres true (Int.toNat k)) hF;exact zrd
def Kne {n:XNet} {a:XAir} {s:XSetting} {o:Ow} {l:List Int} {k:Nat} {A:LB} {R:LS} {vl:Value} (hvl:vl=(⟨o,l⟩:OwL Int).val) (h:HypsN n a s l k R) (hin:InB ((⟨o,l⟩:OwL Int).L 3 Jo) A) (hok:(⟨o,l⟩:OwL Int).ok 1 Jo):
 Tri Tryz.prog 239 [n.val,vl,.int .i64 (k:Int)].toArray A R (fun w M U=>w=Uxf (Kza a s false l k)∧A=M∧R=U):=by subst hvl;refine Tri.lend1 hin hok ((Zwb n a s (⟨o,l⟩:OwL Int).arr k [] _ ⟨h.pp.mono fun r hr=>Ja (.tail _ hr),h.aa.mono fun r hr=>Ja (.tail _ hr),h.is,h.ok,h.len,h.pres,h.v⟩ zsb).mono ?_);rintro v M U ⟨z,ok,rfl,hF,rfl,rfl⟩;obtain ⟨rfl,rfl⟩:=J4c (Kpe h.pres false (Int.toNat k)) hF;exact zrd
def U0e : Bool → FuncId
 | true=>240
 | false=>239
def Kof (up:Bool) {n:XNet} {a:XAir} {s:XSetting} {o:Ow} {l:List Int} {k:Nat} {A:LB} {R:LS} {vl:Value} (hvl:vl=(⟨o,l⟩:OwL Int).val) (h:HypsN n a s l k R) (hin:InB ((⟨o,l⟩:OwL Int).L 3 Jo) A) (hok:(⟨o,l⟩:OwL Int).ok 1 Jo):
 Tri Tryz.prog (U0e up) [n.val,vl,.int .i64 (k:Int)].toArray A R (fun w M U=>w=Uxf (Kza a s up l k)∧A=M∧R=U):=by
 cases up with
 | true=>exact Ymf hvl h hin hok
 | false=>exact Kne hvl h hin hok
def Kqb (a:XAir) (s:XSetting) (ps:Arr Int) (up:Bool) (A:List Bool) (L:LB) (R:LS) (hm:AirR a R) (hs:SetR s R) (hps:InR (isl ps) R) (hA:K1 a=0→AiryIs a.mine A):
 Tri Tryz.prog 238 [a.val,s.val,ps.val,.func (.func (U0e up)) #[] #[]].toArray L R (fun w M U=>∃(p:OwL Int) (S:LS),w=.tuple #[p.val,.int .i64 (K9 a s A up ps.l).1]∧p.ok 1 Jo∧p.l=(K9 a s A up ps.l).2∧p.L 3 Jo ++ L=M∧S ++ R=U):=by
 refine Jj 80 Tryz.call238 Tryz.func238 rfl rfl rfl ?_;apply (Xaf);intro b4;apply (qax);intro b5;apply qc4∘Xap∘Xcd∘qbm;refine Jy rfl (Zcc a s ps A _ _ hm hs hps hA) rfl ?_;rintro v M U ⟨S0,rfl,rfl,rfl⟩;apply (Xba);refine q_c ?_ ?_<;>intro hc0;·apply Xbd∘qc4∘Xai;refine q_r L (S0 ++ R) zRc ?_;exact ⟨OwL.nil,S0,by rw [K9,if_pos hc0];rfl,OwL.nil_ok,by rw [K9,if_pos hc0],by rw [Ki,yv],rfl⟩
 have hso:=Uga.1 (show Vr a s ps.l A=0 by omega);have hok:=Zj hso.h0;have hfo:=Vsb hso.hf;have hAA:=hA hso.h0;have hln:=hso.hl;have hnp:=hok.mine.places;have hrx:K9 a s A up ps.l=match Va a s A up 200 ps.l with
  | none=>(2,[])
  | some l=>(0,l):=by rw [K9,if_neg hc0] <;> rfl
 have hR1:∀r∈R,InR r (S0 ++ R):=fun r h=>Ja (by simp [h]);have hm1:=J2a hm hR1;have hs1:=Yla hs hR1;apply qbv∘Xdp;refine Jy rfl (Vvb a.mine _ _ hm1.mineR hok.mine (Voa hso.h0)) rfl ?_;rintro v M U ⟨p,A2,S,rfl,hpk,hA2,hpl,rfl,rfl⟩;obtain rfl:A=A2:=hAA.unique hA2;have hfx:p.l.length=a.mine.places.l.length:=by rw [hpl,yz];exact hAA.length
 have hAl:=hAA.length;have hR2:∀r∈S0 ++ R,InR r (S ++ (S0 ++ R)):=fun r h=>Ja (by simp only [yUa] at h ⊢;exact .inr h);apply qc4∘qam∘Xcd;refine Jy rfl (Vgc a s _ _ (J2a hm1 hR2) (Yla hs1 hR2) hok hfo) rfl ?_;rintro v M U ⟨n,rfl,hn,rfl,rfl⟩;have hR3:∀r∈S ++ (S0 ++ R),InR r (Zma n.pipes :: Yga n.at_ :: (S ++ (S0 ++ R))):=fun r h=>Ja (by simp only [yaa];exact .inr (.inr h));have hps3:InR (isl ps) (Zma n.pipes :: Yga n.at_ :: (S ++ (S0 ++ R))):=((hps.mono hR1).mono hR2).mono hR3;have hmp3:InR (psl a.mine.places) (Zma n.pipes :: Yga n.at_ :: (S ++ (S0 ++ R))):=((hm1.places).mono hR2).mono hR3;have hpp:InR (Zma n.pipes) (Zma n.pipes :: Yga n.at_ :: (S ++ (S0 ++ R))):=Ja (.head _);have haa:InR (Yga n.at_) (Zma n.pipes :: Yga n.at_ :: (S ++ (S0 ++ R))):=Ja (.tail _ (.head _));obtain ⟨R4,hR4⟩:∃R4,R4=Zma n.pipes :: Yga n.at_ :: (S ++ (S0 ++ R)):=⟨_,rfl⟩;rw [← hR4] at hps3 hmp3 hpp haa ⊢;apply (qaq);intro b12;apply Xay∘qbm;refine Jqa (Kn (f:=Jo) (xs:=ps) tb rfl rfl rfl ze rfl rfl (hps3) yf za) rfl ?_;rintro v M U ⟨o34,rfl,hok34,rfl,rfl⟩;apply Xb0∘Xcc;refine Jp [(3,_),(4,.pointer _),(11,.slice _ _ _),(12,.pointer _),(13,.slice _ _ _),(14,.int _ _)] zh fun tq0=>?_;refine q_p ([8,9]++rg 14 6++rg 35 45) ((⟨fun q=>[(14,.int .i64 ((q.1.1:Nat):Int))],fun q=>(⟨o34,q.1.2⟩:OwL Int).L 3 Jo ++ (⟨b12,n.cells,221⟩ :: (p.L 4 blc ++ (⟨b5,s.cells,80⟩ :: ⟨b4,a.cells,32⟩ :: L))),fun _=>R4,fun q=>200 - q.1.1⟩:Head {q:Nat×List Int // q.1≤200∧Va a s A up 200 ps.l=Va a s A up (200 - q.1) q.2∧q.2.length=ps.l.length∧PresOk q.2∧(⟨o34,q.2⟩:OwL Int).ok 1 Jo})) (⟨(0,ps.l),by dsimp only;omega,rfl,rfl,hso.hp,hok34⟩) ?_;rintro ⟨⟨n1,l⟩,w1,w2,w3,w4,w5⟩ junk;try dsimp only
 dsimp only at w1 w2 w3 w4 w5;apply Xb1∘Xbm;refine q_c ?_ ?_<;>intro hc1;·
  have e200:200 - n1=(200 - (n1 + 1)) + 1:=by omega
  rw [e200] at w2;apply qbb∘qaz∘qaw∘qab∘Xaw;refine Y6 ([8,9]++rg 14 6++rg 35 45) zI [(14,.int _ _),(15,.bool _),(41,.slice _ _ _),(42,.int _ _),(43,.int _ _)] zh fun tq1=>?_;refine Vx ([8,9,15,16,17,18,19]++rg 43 34) ((⟨fun q=>[(43,.int .i64 ((q.1.1:Nat):Int)),(15,.bool (decide (q.1.2≠l)))],fun q=>(⟨o34,q.1.2⟩:OwL Int).L 3 Jo ++ (⟨b12,n.cells,221⟩ :: (p.L 4 blc ++ (⟨b5,s.cells,80⟩ :: ⟨b4,a.cells,32⟩ :: L))),fun _=>R4,fun q=>a.mine.places.l.length - q.1.1⟩:Head {q:Nat×List Int // q.1≤a.mine.places.l.length∧Swept a s A up l q.1 q.2∧(⟨o34,q.2⟩:OwL Int).ok 1 Jo})) (⟨(0,l),by dsimp only;omega,.zero w4,w5⟩) ⟨rfl,by simp;rfl,trivial⟩ zi ztb ?_;rintro ⟨⟨i,m⟩,q1,q2,q3⟩ junk;try dsimp only
  dsimp only at q1 q2 q3;have hml:=q2.len;apply (Xak);refine q_c ?_ ?_<;>intro hc2;·
   have hgg:=Jw (l:=a.mine.places.l) (k:=i) default za;obtain ⟨fb,hfb⟩:∃fb,fb=A.getD i false:=⟨_,rfl⟩;(have hpg:p.l[i]?=some (!fb):=by rw [hpl,yt,Jw (l:=A) (k:=i) false za,hfb];rfl);have hmg:=Jw (l:=m) (k:=i) 0 za;apply (Xa0);refine Jx zva rfl ?_;apply (Xdq);intro b17;apply qad∘Xa8∘Xaa∘qah;apply J9 (G:=[_,_,_,_]) (j:=2) (cj:=50) rfl rfl zb rfl zfb rfl;·intro hg3;replace hg3:=qb hg3;apply (Xat);refine Jx (Jv tb (p) _ rfl rfl rfl rfl zg (i:=i) zk zu) rfl ?_;exact (V8f) qai
   intro junk3;apply (qaf);refine q_c ?_ ?_<;>intro hc3;·(have hfi:Vub a A i=true:=by rw [Vub,← hfb];rcases hc3 with h | h;rw [h,yfc];rw [h];rfl);refine Ug (Kw (Kd (Jc (Jh ?_))));apply (Xae);exact q_k ⟨(i + 1,m),by dsimp only;omega,q2.skip hfi,q3⟩
   (have hfi:¬ Vub a A i=true:=by rw [Vub,← hfb,hc3.1,hc3.2];decide);have hH:HypsN n a s m i R4:=⟨hpp,haa,hn,hok,by omega,q2.pres,by omega⟩;apply (qbv);refine Jx zCb rfl ?_;apply qbe∘Xat;refine K3c (Jra rfl rfl (Kof up (o:=o34) (l:=m) ((show _=Value.slice _ _ _ from rfl).trans (by simp only [OwL.val,hml,w3])) hH zQ q3)) rfl rfl ?_;rintro v M U ⟨rfl,rfl,rfl⟩;refine Jx zCb rfl ?_;apply Xa3∘Xbk∘qaw∘qah∘Xbb;refine q_c ?_ ?_<;>intro hc4;·(have hv:Kza a s up m i=none:=by simpa using hc4);(have hrn:K9 a s A up ps.l=(2,[]):=by rw [hrx,w2,Jjd (q2.fail hfi hv _ za)]);apply Xck∘qad;refine J6 (Jc (U4 (Ke (J8 (Ke (Yg (J8 (Ke (J8 (Ke (Yg (J8 (Ke ?_)))))))))))));refine q_r L R4 zRc ?_;exact Jog
   obtain ⟨u,hv⟩:=Option.isSome_iff_exists.1 hc4;have hfl:=q2.flag (k:=i) za u;apply (qcl);rw [hv];apply Xa1∘Xat∘Z9f;refine Jx (Kc tb ((⟨o34,m⟩:OwL Int)) rfl rfl rfl zj zg yf zg zb) rfl ?_;apply (Xao);refine q_c ?_ ?_<;>intro hc5;·apply Xb3∘qaa∘Z9f;refine Ym (Js tb ((⟨o34,m⟩:OwL Int)) (u) rfl rfl rfl rfl zj zg yf zg ze zb zb) ?_;rintro v M U ⟨rfl,rfl⟩;apply qaz∘Xa7;exact Kr ⟨(i + 1,m.set i u),by dsimp only;omega,q2.next hfi hv,OwL.len_ok Yd q3 zo⟩ zm ⟨rfl,by dsimp only;rw [hfl,decide_eq_true (show u≠m.getD i 0 from hc5),yfc];rfl,trivial⟩ zi ztb zx
   apply (Xax);(have hse:m.set i u=m:=by rw [show u=m.getD i 0 by simpa using hc5,Zka]);exact q_k ⟨(i + 1,m),by dsimp only;omega,hse ▸ q2.next hfi hv,q3⟩
  obtain rfl:i=a.mine.places.l.length:=by omega
  have hsw:=q2.to;apply qbk∘qah∘Xbb;refine q_c ?_ ?_<;>intro hc6;·(have hme:m=l:=by simpa using hc6);(have hrn:K9 a s A up ps.l=(0,m):=by rw [hrx,w2,hme,Ypb (by rw [← hme] at hsw ⊢;exact hsw)]);apply qae∘qbm∘qc4∘qad∘qbt;refine q_r ((⟨o34,m⟩:OwL Int).L 3 Jo ++ L) R4 zRc ?_;exact ⟨⟨o34,m⟩,Zma n.pipes :: Yga n.at_ :: (S ++ S0),by rw [hrn];simp only [OwL.val,hml,w3],q3,by rw [hrn],rfl,by rw [hR4];simp⟩
  have hme:m≠l:=by simpa using hc6
  apply qbj∘Xdf;exact q_k ⟨(n1 + 1,m),by dsimp only;omega,w2.trans (Uad hsw hme),hml.trans w3,q2.pres,q3⟩
 obtain rfl:n1=200:=by omega
 have hrn:K9 a s A up ps.l=(2,[]):=by rw [hrx,w2];rfl
 apply qbk∘qc4∘Xah;refine q_r L R4 zRc ?_;exact Jog
def J4d (a:XAir) (s:XSetting) (ps:Arr Int) (A:List Bool) (L:LB) (R:LS) (hm:AirR a R) (hs:SetR s R) (hps:InR (isl ps) R) (hA:K1 a=0→AiryIs a.mine A):
 Tri Tryz.prog 187 [a.val,s.val,ps.val].toArray L R (fun w M U=>∃(p:OwL Int) (S:LS),w=.tuple #[p.val,.int .i64 (K9 a s A true ps.l).1]∧p.ok 1 Jo∧p.l=(K9 a s A true ps.l).2∧p.L 3 Jo ++ L=M∧S ++ R=U):=by refine Jj 14 Tryz.call187 Tryz.func187 rfl rfl rfl ?_;apply (Xaf);intro b3;apply (qax);intro b4;apply qc4∘Xag∘Xcd∘qbm;refine Jy rfl (Kqb a s ps true A _ _ hm hs hps hA) rfl ?_;exact zvd
def J2d (a:XAir) (s:XSetting) (ps:Arr Int) (A:List Bool) (L:LB) (R:LS) (hm:AirR a R) (hs:SetR s R) (hps:InR (isl ps) R) (hA:K1 a=0→AiryIs a.mine A):
 Tri Tryz.prog 186 [a.val,s.val,ps.val].toArray L R (fun w M U=>∃(p:OwL Int) (S:LS),w=.tuple #[p.val,.int .i64 (K9 a s A false ps.l).1]∧p.ok 1 Jo∧p.l=(K9 a s A false ps.l).2∧p.L 3 Jo ++ L=M∧S ++ R=U):=by refine Jj 14 Tryz.call186 Tryz.func186 rfl rfl rfl ?_;apply (Xaf);intro b3;apply (qax);intro b4;apply qc4∘Xag∘Xcd∘qbm;refine Jy rfl (Kqb a s ps false A _ _ hm hs hps hA) rfl ?_;exact zvd
end
end Go.Proofs.YtchfclmokpbldaaGreat
