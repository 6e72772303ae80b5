/-
  Merged texts. By an AI agent.
-/
import Derived.Test.YtchfclmokpbldaaGreatCflowR
import Derived.Test.YtchfclmokpbldaaGreatNets
set_option linter.all false
set_option maxHeartbeats 4000000
set_option maxRecDepth 20000
namespace Go.Proofs.YtchfclmokpbldaaGreat
open Go.Aw Go
section
structure Accept (a:XAir) (s:XSetting) (b:XBounds) (A:List Bool):Prop where
 ck:CheckOk a s b
 fix:∀i:Nat,i < a.mine.places.l.length→(!(A.getD i false) || (a.mine.places.l.getD i default).surface)=true→b.low.l.getD i 0=0∧b.high.l.getD i 0=0
 net:∀i:Nat,i < a.mine.places.l.length→¬ (!(A.getD i false) || (a.mine.places.l.getD i default).surface)=true→0≤Uic a s b.high.l (i:Int)∧Vua a s b.low.l (i:Int)≤0
def Ueb {a:XAir} {s:XSetting} {b:XBounds} {A:List Bool} (h:CheckOk a s b):Y1 a s b A=((List.range a.mine.places.l.length).findSome? (Vc a s b A)).getD 0:=by have h1:=h.hl;have h2:=h.hh;rw [Y1,if_neg (by rw [h.h0];decide),if_neg (by rw [h.hf];decide),if_neg za,if_neg (by rw [Zga h.pl,Zga h.ph];simp)]
def Kcc (a:XAir) (s:XSetting) (b:XBounds) (A:List Bool) (i:Nat):Vc a s b A i=none∨Vc a s b A i=some 12:=by
 unfold Vc;split;·
  split;·exact .inr rfl
  ·exact .inl rfl
 ·
  split;·exact .inr rfl
  ·exact .inl rfl
def Vmd {a:XAir} {s:XSetting} {b:XBounds} {A:List Bool}:Y1 a s b A=0↔Accept a s b A:=by
 have node:∀i,Vc a s b A i=none↔((!(A.getD i false) || (a.mine.places.l.getD i default).surface)=true→b.low.l.getD i 0=0∧b.high.l.getD i 0=0)∧(¬ (!(A.getD i false) || (a.mine.places.l.getD i default).surface)=true→0≤Uic a s b.high.l (i:Int)∧Vua a s b.low.l (i:Int)≤0):=fun i=>by
  unfold Vc;by_cases h1:(!(A.getD i false) || (a.mine.places.l.getD i default).surface)=true;·
   rw [if_pos h1];refine ⟨fun h=>⟨fun _=>?_,fun h'=>absurd h1 h'⟩,fun h=>if_neg (by have:=h.1 h1;omega)⟩;split at h;·cases h
   ·omega
  ·
   rw [if_neg h1];refine ⟨fun h=>⟨fun h'=>absurd h' h1,fun _=>?_⟩,fun h=>if_neg (by have:=h.2 h1;omega)⟩;split at h;·cases h
   ·omega
 constructor;·
  intro h;have hC:=Ycc h;rw [Ueb hC] at h;have hn:(List.range a.mine.places.l.length).findSome? (Vc a s b A)=none:=by
   cases e:(List.range a.mine.places.l.length).findSome? (Vc a s b A) with
   | none=>rfl
   | some v=>
    obtain ⟨i,_,hi⟩:=yy e;rcases Kcc a s b A i with h1 | h1;·rw [h1] at hi;cases hi
    ·rw [h1] at hi;cases hi;rw [e] at h;cases h
  rw [yE] at hn;exact ⟨hC,fun i hi=>((node i).1 (hn i (List.mem_range.2 hi))).1,fun i hi=>((node i).1 (hn i (List.mem_range.2 hi))).2⟩
 ·intro h;rw [Ueb h.ck,List.findSome?_eq_none_iff.2 (fun i hi=>(node i).2 ⟨h.fix i (List.mem_range.1 hi),h.net i (List.mem_range.1 hi)⟩)];rfl
end
section
def Tri.turn {P : Program} {f : FuncId} {args : Array Value} {L : LB} {R : LS} {Post Post' : Yo} (h : Tri P f args L R Post)
 (k:∀v M U,Post v M U→∃L'' R'',M.Perm L''∧(∀r∈R'',InR r U)∧Post' v L'' R''):Tri P f args L R Post':=
 ⟨h.1,fun w G hh=>(h.2 w G hh).mono fun e w' ⟨v,M,U,he,hp,hst⟩=>by
  obtain ⟨L'',R'',h1,h2,h3⟩:=k v M U hp
  exact ⟨v,L'',R'',he,h3,(hst.perm h1).weak ye h2⟩⟩
def Y5b (g:Int→Bool) (start:Int) (up:Bool):Option Int:=
 ((List.range ((Jlb up start).toNat + 1)).find? fun (m:Nat)=>g (start + sgn up * (m:Int))).map fun (m:Nat)=>start + sgn up * (m:Int)
def Ysd {g:Int→Bool} {start:Int} {up:Bool} {v:Int} (h:First g start up v true):Y5b g start up=some v:=by
 obtain ⟨m,m0,m1,mv,mg,mj⟩:=h.yes rfl;have e:(List.range ((Jlb up start).toNat + 1)).find? (fun (m:Nat)=>g (start + sgn up * (m:Int)))=some m.toNat:=by
  rw [yXa];refine ⟨?_,List.mem_range.2 za,fun j hj=>?_⟩;·rw [yma m0,← mv];exact mg
  ·rw [mj j za za];rfl
 rw [Y5b,e,yNa,yma m0,mv]
def V7d {g:Int→Bool} {start:Int} {up:Bool} {v:Int} (h0:0≤Jlb up start) (h:First g start up v false):Y5b g start up=none:=by
 obtain ⟨_,hj⟩:=h.no rfl;have e:(List.range ((Jlb up start).toNat + 1)).find? (fun (m:Nat)=>g (start + sgn up * (m:Int)))=none:=by rw [List.find?_range_eq_none];intro i hi;rw [hj i za za];rfl
 rw [Y5b,e];rfl
def Zea {g:Int→Bool} {start:Int} {up:Bool} {v:Int} (h0:0≤Jlb up start) (h:Y5b g start up=some v):First g start up v true:=by
 unfold Y5b at h;obtain ⟨m,hm,rfl⟩:=Option.map_eq_some_iff.1 h;rw [yXa] at hm;obtain ⟨h1,h2,h3⟩:=hm;have h2':=List.mem_range.1 h2;refine ⟨fun _=>⟨m,by omega,by omega,rfl,h1,fun j j0 j1=>?_⟩,fun h=>by cases h⟩;have:=h3 j.toNat za;rw [yma j0] at this;cases e:g (start + sgn up * j) with
 | false=>rfl
 | true=>rw [e] at this;cases this
def Z2b {g:Int→Bool} {start:Int} {up:Bool} {v:Int} {ok:Bool} (h0:0≤Jlb up start) (h:First g start up v ok):v=(Y5b g start up).getD 0∧ok=(Y5b g start up).isSome:=by
 cases ok with
 | true=>rw [Ysd h];exact ⟨rfl,rfl⟩
 | false=>rw [V7d h0 h];exact ⟨(h.no rfl).1,rfl⟩
attribute [irreducible] Y5b
def Krc (a:XAir) (s:XSetting) (up:Bool) (l:List Int) (v:Int):Int→Bool:=if up=true then Jsf a s l v else Z2c a s l v
def Kda (a:XAir) (s:XSetting) (up:Bool) (l:List Int) (k:Nat):Option Int:=Y5b (Krc a s up l k) (l.getD k 0) up
abbrev Yyb (a:XAir) (A:List Bool) (k:Nat):Bool:=!(A.getD k false) || (a.mine.places.l.getD k default).surface
def Uw (a : XAir) (s : XSetting) (A : List Bool) (up : Bool) (l : List Int) : Nat → Option (List Int)
 | 0=>some l
 | k + 1=>(Uw a s A up l k).bind fun m=>if Yyb a A k=true then some m else (Kda a s up m k).map fun v=>m.set k v
def Vb (a : XAir) (s : XSetting) (A : List Bool) (up : Bool) : Nat → List Int → Option (List Int)
 | 0,_=>none
 | n + 1,l=>match Uw a s A up l a.mine.places.l.length with
  | none=>none
  | some m=>if m=l then some m else Vb a s A up n m
def Yk (a:XAir) (ps:List Int) (A:List Bool) (i:Nat):Option Int:=if Yyb a A i=true∧ps.getD i 0≠0 then some 12 else none
def Vi (a:XAir) (s:XSetting) (ps:List Int) (A:List Bool):Int:=
 if Kv a≠0 then Kv a else if K6a a s=false then 21 else if ps.length≠a.mine.places.l.length then 11
 else if (ps.findSome? Uk).isSome=true then 1 else ((List.range a.mine.places.l.length).findSome? (Yk a ps A)).getD 0
def K9 (a:XAir) (s:XSetting) (A:List Bool) (up:Bool) (ps:List Int):Int×List Int:=
 if Vi a s ps A≠0 then (Vi a s ps A,[]) else match Vb a s A up 200 ps with
  | none=>(2,[])
  | some l=>(0,l)
def Yq (a:XAir) (s:XSetting) (A:List Bool):Int×List Int×List Int:=
 let p:=K9 a s A false (List.replicate a.mine.places.l.length 0)
 if p.1≠0 then (p.1,[],[]) else
  let q:=K9 a s A true p.2
  if q.1≠0 then (q.1,[],[]) else
   let r:=K9 a s A false q.2
   if r.1≠0 then (r.1,[],[]) else (0,r.2,q.2)
structure StartOk (a:XAir) (s:XSetting) (ps:List Int) (A:List Bool):Prop where
 h0:Kv a=0
 hf:K6a a s=true
 hl:ps.length=a.mine.places.l.length
 hp:PresOk ps
 fix:∀i:Nat,i < a.mine.places.l.length→Yyb a A i=true→ps.getD i 0=0
def Yba {a:XAir} {s:XSetting} {ps:List Int} {A:List Bool}:Vi a s ps A=0↔StartOk a s ps A:=by
 constructor;·
  intro h;unfold Vi at h;split at h;·exact uba
  rename_i h1;split at h;·cases h
  rename_i h2;split at h;·cases h
  rename_i h3;split at h;·cases h
  rename_i h4;refine ⟨by omega,by simpa using h2,by omega,Vwa (by simpa using h4),fun i hi hf=>?_⟩;have hn:(List.range a.mine.places.l.length).findSome? (Yk a ps A)=none:=by
   cases e:(List.range a.mine.places.l.length).findSome? (Yk a ps A) with
   | none=>rfl
   | some v=>
    obtain ⟨j,_,hj⟩:=yy e;unfold Yk at hj;split at hj;·cases hj;rw [e] at h;cases h
    ·cases hj
  rw [yE] at hn;have:=hn i (List.mem_range.2 hi);unfold Yk at this;split at this;·cases this
  ·rename_i h5;exact Decidable.not_not.1 fun h6=>h5 ⟨hf,h6⟩
 ·intro h;rw [Vi,if_neg (by rw [h.h0];decide),if_neg (by rw [h.hf];decide),if_neg (by rw [h.hl];simp),if_neg (by rw [Zga h.hp];simp),List.findSome?_eq_none_iff.2 (fun i hi=>show Yk a ps A i=none from if_neg (fun h'=>h'.2 (h.fix i (List.mem_range.1 hi) h'.1)))];rfl
def Kmd {a:XAir} {s:XSetting} {up:Bool} {l:List Int} {k:Nat} {v:Int} (h:PresOk l) (hv:Kda a s up l k=some v):-70368744177664≤v∧v≤70368744177664:=by obtain ⟨m,m0,m1,mv,_,_⟩:=(Zea (Ycb (h.get k)).1 hv).yes rfl;rw [mv];exact Uyd (h.get k) ⟨m0,m1⟩
structure Swept (a:XAir) (s:XSetting) (A:List Bool) (up:Bool) (l:List Int) (k:Nat) (m:List Int):Prop where
 to:Uw a s A up l k=some m
 len:m.length=l.length
 pres:PresOk m
 rest:∀j:Nat,k≤j→m[j]?=l[j]?
def Swept.zero {a:XAir} {s:XSetting} {A:List Bool} {up:Bool} {l:List Int} (h:PresOk l):Swept a s A up l 0 l:=⟨rfl,rfl,h,fun _ _=>rfl⟩
def Swept.skip {a:XAir} {s:XSetting} {A:List Bool} {up:Bool} {l m:List Int} {k:Nat} (h:Swept a s A up l k m) (hf:Yyb a A k=true):Swept a s A up l (k + 1) m:=
 ⟨by rw [Uw,h.to,ycb,if_pos hf],h.len,h.pres,fun j hj=>h.rest j za⟩
def Swept.fail {a:XAir} {s:XSetting} {A:List Bool} {up:Bool} {l m:List Int} {k:Nat} (h:Swept a s A up l k m) (hf:¬ Yyb a A k=true) (hn:Kda a s up m k=none):∀n,k + 1≤n→Uw a s A up l n=none:=by
 intro n hn2;induction n with
 | zero=>omega
 | succ n ih=>
  rcases yl k n with h1 | h1;·rw [Uw,ih za];rfl
  ·(obtain rfl : n = k := by omega);rw [Uw,h.to,ycb,if_neg hf,hn];rfl
def Swept.next {a:XAir} {s:XSetting} {A:List Bool} {up:Bool} {l m:List Int} {k:Nat} (h:Swept a s A up l k m) (hf:¬ Yyb a A k=true) {v:Int} (hv:Kda a s up m k=some v):Swept a s A up l (k + 1) (m.set k v):=
 ⟨by rw [Uw,h.to,ycb,if_neg hf,hv];rfl,by rw [yP];exact h.len,h.pres.set _ (Kmd h.pres hv),fun j hj=>by rw [yaa za];exact h.rest j za⟩
def Swept.flag {a:XAir} {s:XSetting} {A:List Bool} {up:Bool} {l m:List Int} {k:Nat} (h:Swept a s A up l k m) (hk:k < l.length) (v:Int):decide (m.set k v≠l)=(decide (m≠l) || decide (v≠m.getD k 0)):=by
 have hlen:=h.len;have hg:=Ju (l:=m) (k:=k) 0 za;by_cases h1:v=m.getD k 0;·rw [h1,Yja];simp
 ·
  have h2:m.set k v≠l:=fun e=>by have h3:=h.rest k (yn _);rw [← e,yO za,hg] at h3;exact h1 (yI h3).symm
  rw [decide_eq_true h2,decide_eq_true h1,ylc]
def J2d {a:XAir} {s:XSetting} {A:List Bool} {up:Bool} {n:Nat} {l m:List Int} (hs:Uw a s A up l a.mine.places.l.length=some m) (hne:m≠l):Vb a s A up (n + 1) l=Vb a s A up n m:=by rw [Vb,hs];exact if_neg hne
def J5d {a:XAir} {s:XSetting} {A:List Bool} {up:Bool} {n:Nat} {l:List Int} (hs:Uw a s A up l a.mine.places.l.length=some l):Vb a s A up (n + 1) l=some l:=by rw [Vb,hs];exact if_pos rfl
def Jnd {a:XAir} {s:XSetting} {A:List Bool} {up:Bool} {n:Nat} {l:List Int} (hs:Uw a s A up l a.mine.places.l.length=none):Vb a s A up (n + 1) l=none:=by rw [Vb,hs]
def Zz {a : XAir} {s : XSetting} {A : List Bool} {up : Bool} {l : List Int} (hl : PresOk l) : ∀ {k : Nat} {m : List Int}, Uw a s A up l k = some m → Swept a s A up l k m
 | 0,m,h=>by cases h;exact .zero hl
 | k + 1,m,h=>by
  have h':=h
  rw [Uw,yIa] at h'
  obtain ⟨m1,h1,h2⟩:=h'
  have ih:=Zz hl h1
  split at h2
  ·rename_i hf
   cases h2
   exact ih.skip hf
  ·rename_i hf
   obtain ⟨v,hv,rfl⟩:=Option.map_eq_some_iff.1 h2
   exact ih.next hf hv
def V1a {a : XAir} {s : XSetting} {A : List Bool} {up : Bool} : ∀ {n : Nat} {l m : List Int}, PresOk l → Vb a s A up n l = some m → m.length = l.length ∧ PresOk m ∧ Uw a s A up m a.mine.places.l.length = some m
 | 0,l,m,_,h=>by cases h
 | n + 1,l,m,hl,h=>by
  rw [Vb] at h
  split at h
  ·cases h
  ·rename_i m1 h1
   have hs:=Zz hl h1
   split at h
   ·rename_i e
    cases h
    subst e
    exact ⟨rfl,hl,h1⟩
   ·obtain ⟨k1, k2, k3⟩ := V1a hs.pres h
    exact ⟨k1.trans hs.len,k2,k3⟩
def Yjb {a:XAir} {s:XSetting} {A:List Bool} {up:Bool} {ps:List Int} (h:(K9 a s A up ps).1=0):StartOk a s ps A∧Vb a s A up 200 ps=some (K9 a s A up ps).2:=by
 unfold K9 at h ⊢;split at h;·exact uba
 ·
  rename_i h1;rw [if_neg h1];refine ⟨Yba.1 za,?_⟩;split at h;·cases h
  ·rename_i l e;rw [e]
end
section
attribute [local irreducible] CJ LJ DJ Tri YV Gives Uo J0 Kj Un RV J2 OwL.L
abbrev Jmf (x:Option Int):Value:=.tuple #[.int .i64 (x.getD 0),.bool x.isSome]
def Zkd {ps:List Int} (h:PresOk ps) (up:Bool) (k:Nat):0≤Jlb up (ps.getD k 0):=(Ycb (h.get k)).1
def Vqe {α:Type} {f:α→List Value} {z:List Value} {b n:Nat} {T:TypeId} {x:α} {A:LB} (hz:z=f x):InB ((⟨.own b n [],List.replicate n x⟩:OwL α).L T f) (⟨b,Jnc z n,T⟩ :: A):=by rw [Yi hz A];exact Vq
section
variable {A B:Prop}
def Uwf(h:A→B:=by exact Jx zJa rfl):=h
def Zaf(h:A→B:=by exact Jx zAb rfl):=h
def Ymf(h:B:=by exact ⟨OwL.nil,Yna n.pipes :: Vva n.at_ :: (S ++ S0),by rw [hrn];rfl,OwL.nil_ok,by rw [hrn],by rw [Ku,yw],by rw [hR4];simp⟩):=h
def V4f(h:A→B:=by exact Jx (Jv tb ((⟨o34,m⟩:OwL Int)) _ rfl rfl ((show _=Value.slice _ _ _ from rfl).trans (by simp only [OwL.val,hml,w3])) rfl zg (i:=i) zk zu) rfl):=h
end
def Ytc (a:XAir) (s:XSetting) (ps:Arr Int) (A:List Bool) (L:LB) (R:LS) (hm:AirR a R) (hs:SetR s R) (hps:InR (isl ps) R) (hA:Kv a=0→AiryIs a.mine A):
 Tri Tryz.prog 277 [a.val,s.val,ps.val].toArray L R (fun v M U=>∃S:LS,v=.int .i64 (Vi a s ps.l A)∧L=M∧S ++ R=U):=by
 have hmp:=hm.places;refine Ve Tryz.call277 hps fun hpn=>?_;refine Ve Tryz.call277 hmp fun hmpn=>?_;refine Je 70 Tryz.call277 Tryz.func277 rfl rfl rfl ?_;apply (Xag);intro b3;apply (qax);intro b4;apply Xaq∘qa8;refine q_l rfl (Zt a _ _ hm) ?_;apply (Xbp);refine q_c ?_ ?_<;>intro hc0;·apply (Xdr);refine q_i L R ?_;exact ⟨[],by rw [Vi,if_pos hc0],rfl,rfl⟩
 have h0:Kv a=0:=by omega
 have hok:=Yy h0;have hAA:=hA h0;have hmn:=hok.mine.places;apply qbo∘Xcm;refine q_l rfl (Zta a s _ _ hm hs) ?_;apply (Xbg);refine q_c ?_ ?_<;>intro hc1;·apply (Xa6);refine q_i L R ?_;exact ⟨[],by rw [Vi,if_neg hc0,if_pos zJ],rfl,rfl⟩
 have hf0:K6a a s=true:=by simpa using hc1
 have hff:¬ K6a a s=false:=by rw [hf0];decide
 apply qbo∘Xak∘Xb6∘Xax;refine q_c ?_ ?_<;>intro hc2;·apply (Xa6);refine q_i L R ?_;exact ⟨[],by rw [Vi,if_neg hc0,if_neg hff,if_pos za],rfl,rfl⟩
 have hln:ps.l.length=a.mine.places.l.length:=by omega
 apply qbo∘Xcc;refine Jk [(2,.slice _ _ _),(3,.pointer _),(29,.slice _ _ _),(30,.int _ _),(31,.int _ _)] zh fun tq0=>?_;refine q_s ([6,9]++rg 31 11) (fun g:FS (Uk) (ps.l)=>[(31,.int .i64 ((g.1:Nat):Int))]) (fun g=>(ps.l).length - g.1) ⟨0,Kea _ _⟩ ?_;rintro ⟨k0,hk0,hp0⟩ junk;try dsimp only
 apply (Xan);refine q_c ?_ ?_<;>intro hc3;·
  obtain ⟨y,hy⟩:=Kh (l:=ps.l) (k:=k0) za;apply (qbb);refine Jx zca rfl ?_;apply qa7∘Xau∘Xat;apply Kf (G:=[_,_]) (j:=2) (cj:=37) rfl rfl zb rfl zfb rfl;·exact zdd
  intro junk3;apply (qaf);refine q_c ?_ ?_<;>intro hc4;·apply (Xb7);refine q_i L R ?_;have hpb:=Zc hp0 hy (show Uk y=some 1 from if_pos za);exact ⟨[],by rw [Vi,if_neg hc0,if_neg hff,if_neg za,if_pos (by rw [hpb];rfl)],rfl,rfl⟩
  apply (Xa3);exact q_k ⟨k0 + 1,Jza hp0 hy (if_neg za)⟩
 have hn0:=Jva hp0 za;apply qbk∘Xdv;refine Jq rfl (Uqb a.mine _ _ hm.mineR hok.mine (U5a h0)) rfl ?_;rintro v M U ⟨p,A2,S,rfl,hpk,hA2,hpl,rfl,rfl⟩;obtain rfl:A=A2:=hAA.unique hA2;have hfx:p.l.length=a.mine.places.l.length:=by rw [hpl,yC];exact hAA.length
 have hps2:InR (isl ps) (S ++ R):=hps.mono fun r h=>Ja (by simp [h]);have hmp2:InR (psl a.mine.places) (S ++ R):=hmp.mono fun r h=>Ja (by simp [h]);have hck:Vi a s ps.l A=((List.range a.mine.places.l.length).findSome? (Yk a ps.l A)).getD 0:=by rw [Vi,if_neg hc0,if_neg hff,if_neg za,if_neg (by rw [hn0];simp)]
 apply Xbv∘qab∘Xaz;refine Jk [(2,.slice _ _ _),(10,.slice _ _ _),(47,.slice _ _ _),(48,.int _ _),(49,.int _ _)] zh fun tq1=>?_;refine q_s ([6,11,12]++rg 49 21) (fun g:FSR (Yk a ps.l A) (a.mine.places.l.length)=>[(49,.int .i64 ((g.1:Nat):Int))]) (fun g=>(a.mine.places.l.length) - g.1) ⟨0,J7a _ _⟩ ?_;rintro ⟨k1,hk1,hp1⟩ junk;try dsimp only
 apply (Xan);refine q_c ?_ ?_<;>intro hc5;·
  have hmg:=Ju (l:=a.mine.places.l) (k:=k1) default za;have hpg:p.l[k1]?=some (!(A.getD k1 false)):=by have:=hAA.length;rw [hpl,yt,Ju (l:=A) (k:=k1) false za];rfl
  have hsg:=Ju (l:=ps.l) (k:=k1) 0 za;apply Xbb∘Uwf∘Xdw;intro b12;apply qad∘Xb2∘qah;apply Kf (G:=[_,_,_,_]) (j:=2) (cj:=56) rfl rfl zb rfl zfb rfl;·intro hg3;replace hg3:=qb hg3;apply (Xas);refine Jx (Jv tb (p) _ rfl rfl rfl rfl zg (i:=k1) zk zu) rfl ?_;exact (Zaf) qai
  intro junk3;apply (qah);apply Vp (G:=[_,_,_,_,_]) (j:=8) (cj:=62) rfl rfl zb rfl zfb rfl;·intro hg9;replace hg9:=qb hg9;exact (Xas∘Uwf∘qa7) zfd
  intro junk9;apply (qaf);refine q_c ?_ ?_<;>intro hc6;·have hnb:Yk a ps.l A k1=some 12:=if_pos ⟨by obtain ⟨h1 | h1,_⟩:=hc6;rw [Yyb,h1,ylc];rw [Yyb,h1];rfl,hc6.2⟩;apply (Xb7);refine q_i L (S ++ R) ?_;exact ⟨S,by rw [hck,V9 hp1 za hnb];rfl,rfl,rfl⟩
  have hnb:Yk a ps.l A k1=none:=if_neg (fun ⟨h1,h2⟩=>by
  rcases hc6 with ⟨h3,h4⟩ | h3;·rw [Yyb,h3,h4] at h1;cases h1
  ·exact h3 h2)
  apply (Xa3);exact q_k ⟨k1 + 1,Y8 hp1 za (hnb)⟩
 have hn1:=Jha hp1 za;apply (Xcx);refine q_i L (S ++ R) ?_;exact ⟨S,by rw [hck,hn1];rfl,rfl,rfl⟩
def Zxf {n:XNet} {a:XAir} {s:XSetting} {o:Ow} {l:List Int} {k:Nat} {A:LB} {R:LS} {vl:Value} (hvl:vl=(⟨o,l⟩:OwL Int).val) (h:HypsN n a s l k R) (hin:InB ((⟨o,l⟩:OwL Int).L 3 Ji) A) (hok:(⟨o,l⟩:OwL Int).ok 1 Ji):
 Tri Tryz.prog 240 [n.val,vl,.int .i64 (k:Int)].toArray A R (fun w M U=>w=Jmf (Kda a s true l k)∧A=M∧R=U):=by subst hvl;refine Tri.lend1 hin hok ((U4c n a s (⟨o,l⟩:OwL Int).arr k [] _ ⟨h.pp.mono fun r hr=>Ja (.tail _ hr),h.aa.mono fun r hr=>Ja (.tail _ hr),h.is,h.ok,h.len,h.pres,h.v⟩ zCb).mono ?_);rintro v M U ⟨z,ok,rfl,hF,rfl,rfl⟩;obtain ⟨rfl,rfl⟩:=Z2b (Zkd h.pres true (Int.toNat k)) hF;exact zkd
def Jme {n:XNet} {a:XAir} {s:XSetting} {o:Ow} {l:List Int} {k:Nat} {A:LB} {R:LS} {vl:Value} (hvl:vl=(⟨o,l⟩:OwL Int).val) (h:HypsN n a s l k R) (hin:InB ((⟨o,l⟩:OwL Int).L 3 Ji) A) (hok:(⟨o,l⟩:OwL Int).ok 1 Ji):
 Tri Tryz.prog 239 [n.val,vl,.int .i64 (k:Int)].toArray A R (fun w M U=>w=Jmf (Kda a s false l k)∧A=M∧R=U):=by subst hvl;refine Tri.lend1 hin hok ((Yeb n a s (⟨o,l⟩:OwL Int).arr k [] _ ⟨h.pp.mono fun r hr=>Ja (.tail _ hr),h.aa.mono fun r hr=>Ja (.tail _ hr),h.is,h.ok,h.len,h.pres,h.v⟩ zCb).mono ?_);rintro v M U ⟨z,ok,rfl,hF,rfl,rfl⟩;obtain ⟨rfl,rfl⟩:=Z2b (Zkd h.pres false (Int.toNat k)) hF;exact zkd
def Jle : Bool → FuncId
 | true=>240
 | false=>239
def K9f (up:Bool) {n:XNet} {a:XAir} {s:XSetting} {o:Ow} {l:List Int} {k:Nat} {A:LB} {R:LS} {vl:Value} (hvl:vl=(⟨o,l⟩:OwL Int).val) (h:HypsN n a s l k R) (hin:InB ((⟨o,l⟩:OwL Int).L 3 Ji) A) (hok:(⟨o,l⟩:OwL Int).ok 1 Ji):
 Tri Tryz.prog (Jle up) [n.val,vl,.int .i64 (k:Int)].toArray A R (fun w M U=>w=Jmf (Kda a s up l k)∧A=M∧R=U):=by
 cases up with
 | true=>exact Zxf hvl h hin hok
 | false=>exact Jme hvl h hin hok
def Jcb (a:XAir) (s:XSetting) (ps:Arr Int) (up:Bool) (A:List Bool) (L:LB) (R:LS) (hm:AirR a R) (hs:SetR s R) (hps:InR (isl ps) R) (hA:Kv a=0→AiryIs a.mine A):
 Tri Tryz.prog 238 [a.val,s.val,ps.val,.func (.func (Jle up)) #[] #[]].toArray L R (fun w M U=>∃(p:OwL Int) (S:LS),w=.tuple #[p.val,.int .i64 (K9 a s A up ps.l).1]∧p.ok 1 Ji∧p.l=(K9 a s A up ps.l).2∧p.L 3 Ji ++ L=M∧S ++ R=U):=by
 refine Je 80 Tryz.call238 Tryz.func238 rfl rfl rfl ?_;apply (Xag);intro b4;apply (qax);intro b5;apply qc4∘Xaq∘Xcm∘qbm;refine Jq rfl (Ytc a s ps A _ _ hm hs hps hA) rfl ?_;rintro v M U ⟨S0,rfl,rfl,rfl⟩;apply (Xbp);refine q_c ?_ ?_<;>intro hc0;·apply Xbr∘qc4∘Xav;refine q_r L (S0 ++ R) zQc ?_;exact ⟨OwL.nil,S0,by rw [K9,if_pos hc0];rfl,OwL.nil_ok,by rw [K9,if_pos hc0],by rw [Ku,yw],rfl⟩
 have hso:=Yba.1 (show Vi a s ps.l A=0 by omega);have hok:=Yy hso.h0;have hfo:=K1c hso.hf;have hAA:=hA hso.h0;have hln:=hso.hl;have hnp:=hok.mine.places;have hrx:K9 a s A up ps.l=match Vb a s A up 200 ps.l with
  | none=>(2,[])
  | some l=>(0,l):=by rw [K9,if_neg hc0] <;> rfl
 have hR1:∀r∈R,InR r (S0 ++ R):=fun r h=>Ja (by simp [h]);have hm1:=Jla hm hR1;have hs1:=Yfa hs hR1;apply qbv∘Xdv;refine Jq rfl (Uqb a.mine _ _ hm1.mineR hok.mine (U5a hso.h0)) rfl ?_;rintro v M U ⟨p,A2,S,rfl,hpk,hA2,hpl,rfl,rfl⟩;obtain rfl:A=A2:=hAA.unique hA2;have hfx:p.l.length=a.mine.places.l.length:=by rw [hpl,yC];exact hAA.length
 have hAl:=hAA.length;have hR2:∀r∈S0 ++ R,InR r (S ++ (S0 ++ R)):=fun r h=>Ja (by simp only [yOa] at h ⊢;exact .inr h);apply qc4∘qam∘Xcm;refine Jq rfl (Jwc a s _ _ (Jla hm1 hR2) (Yfa hs1 hR2) hok hfo) rfl ?_;rintro v M U ⟨n,rfl,hn,rfl,rfl⟩;have hR3:∀r∈S ++ (S0 ++ R),InR r (Yna n.pipes :: Vva n.at_ :: (S ++ (S0 ++ R))):=fun r h=>Ja (by simp only [yU];exact .inr (.inr h));have hps3:InR (isl ps) (Yna n.pipes :: Vva n.at_ :: (S ++ (S0 ++ R))):=((hps.mono hR1).mono hR2).mono hR3;have hmp3:InR (psl a.mine.places) (Yna n.pipes :: Vva n.at_ :: (S ++ (S0 ++ R))):=((hm1.places).mono hR2).mono hR3;have hpp:InR (Yna n.pipes) (Yna n.pipes :: Vva n.at_ :: (S ++ (S0 ++ R))):=Ja (.head _);have haa:InR (Vva n.at_) (Yna n.pipes :: Vva n.at_ :: (S ++ (S0 ++ R))):=Ja (.tail _ (.head _));obtain ⟨R4,hR4⟩:∃R4,R4=Yna n.pipes :: Vva n.at_ :: (S ++ (S0 ++ R)):=⟨_,rfl⟩;rw [← hR4] at hps3 hmp3 hpp haa ⊢;apply (qaq);intro b12;apply Xa1∘qbm;refine Yl (Ky (f:=Ji) (xs:=ps) tb rfl rfl rfl ze rfl rfl (hps3) yf za) rfl ?_;rintro v M U ⟨o34,rfl,hok34,rfl,rfl⟩;apply Xbv∘Xa4;refine Jk [(3,_),(4,.pointer _),(11,.slice _ _ _),(12,.pointer _),(13,.slice _ _ _),(14,.int _ _)] zh fun tq0=>?_;refine q_p ([8,9]++rg 14 6++rg 35 45) ((⟨fun q=>[(14,.int .i64 ((q.1.1:Nat):Int))],fun q=>(⟨o34,q.1.2⟩:OwL Int).L 3 Ji ++ (⟨b12,n.cells,221⟩ :: (p.L 4 blc ++ (⟨b5,s.cells,80⟩ :: ⟨b4,a.cells,32⟩ :: L))),fun _=>R4,fun q=>200 - q.1.1⟩:Head {q:Nat×List Int // q.1≤200∧Vb a s A up 200 ps.l=Vb a s A up (200 - q.1) q.2∧q.2.length=ps.l.length∧PresOk q.2∧(⟨o34,q.2⟩:OwL Int).ok 1 Ji})) (⟨(0,ps.l),by dsimp only;omega,rfl,rfl,hso.hp,hok34⟩) ?_;rintro ⟨⟨n1,l⟩,w1,w2,w3,w4,w5⟩ junk;try dsimp only
 dsimp only at w1 w2 w3 w4 w5;apply Xaw∘Xa2;refine q_c ?_ ?_<;>intro hc1;·
  have e200:200 - n1=(200 - (n1 + 1)) + 1:=by omega
  rw [e200] at w2;apply qbb∘qaz∘qaw∘qab∘Xaz;refine Va ([8,9]++rg 14 6++rg 35 45) zI [(14,.int _ _),(15,.bool _),(41,.slice _ _ _),(42,.int _ _),(43,.int _ _)] zh fun tq1=>?_;refine K7 ([8,9,15,16,17,18,19]++rg 43 34) ((⟨fun q=>[(43,.int .i64 ((q.1.1:Nat):Int)),(15,.bool (decide (q.1.2≠l)))],fun q=>(⟨o34,q.1.2⟩:OwL Int).L 3 Ji ++ (⟨b12,n.cells,221⟩ :: (p.L 4 blc ++ (⟨b5,s.cells,80⟩ :: ⟨b4,a.cells,32⟩ :: L))),fun _=>R4,fun q=>a.mine.places.l.length - q.1.1⟩:Head {q:Nat×List Int // q.1≤a.mine.places.l.length∧Swept a s A up l q.1 q.2∧(⟨o34,q.2⟩:OwL Int).ok 1 Ji})) (⟨(0,l),by dsimp only;omega,.zero w4,w5⟩) ⟨rfl,by simp;rfl,trivial⟩ zi zxb ?_;rintro ⟨⟨i,m⟩,q1,q2,q3⟩ junk;try dsimp only
  dsimp only at q1 q2 q3;have hml:=q2.len;apply (Xan);refine q_c ?_ ?_<;>intro hc2;·
   have hgg:=Ju (l:=a.mine.places.l) (k:=i) default za;obtain ⟨fb,hfb⟩:∃fb,fb=A.getD i false:=⟨_,rfl⟩;(have hpg:p.l[i]?=some (!fb):=by rw [hpl,yt,Ju (l:=A) (k:=i) false za,hfb];rfl);have hmg:=Ju (l:=m) (k:=i) 0 za;apply (Xbb);refine Jx zdb rfl ?_;apply (Xdw);intro b17;apply qad∘Xbh∘Xaa∘qah;apply Kf (G:=[_,_,_,_]) (j:=2) (cj:=50) rfl rfl zb rfl zfb rfl;·intro hg3;replace hg3:=qb hg3;apply (Xas);refine Jx (Jv tb (p) _ rfl rfl rfl rfl zg (i:=i) zk zu) rfl ?_;exact (Zaf) qai
   intro junk3;apply (qaf);refine q_c ?_ ?_<;>intro hc3;·(have hfi:Yyb a A i=true:=by rw [Yyb,← hfb];rcases hc3 with h | h;rw [h,ylc];rw [h];rfl);refine K4 (Km (J8 (Jb (Jf ?_))));apply (Xae);exact q_k ⟨(i + 1,m),by dsimp only;omega,q2.skip hfi,q3⟩
   (have hfi:¬ Yyb a A i=true:=by rw [Yyb,← hfb,hc3.1,hc3.2];decide);have hH:HypsN n a s m i R4:=⟨hpp,haa,hn,hok,by omega,q2.pres,by omega⟩;apply (qbv);refine Jx zSb rfl ?_;apply qbe∘Xas;refine Vic (Kja rfl rfl (K9f up (o:=o34) (l:=m) ((show _=Value.slice _ _ _ from rfl).trans (by simp only [OwL.val,hml,w3])) hH zG q3)) rfl rfl ?_;rintro v M U ⟨rfl,rfl,rfl⟩;refine Jx zSb rfl ?_;apply Xbt∘Xbz∘qaw∘qah∘Xbg;refine q_c ?_ ?_<;>intro hc4;·(have hv:Kda a s up m i=none:=by simpa using hc4);(have hrn:K9 a s A up ps.l=(2,[]):=by rw [hrx,w2,Jnd (q2.fail hfi hv _ za)]);apply Xcz∘qad;refine J5 (Jb (Up (Kg (Kc (Kg (Vx (Kc (Kg (Kc (Kg (Vx (Kc (Kg ?_)))))))))))));refine q_r L R4 zQc ?_;exact Ymf
   obtain ⟨u,hv⟩:=Option.isSome_iff_exists.1 hc4;have hfl:=q2.flag (k:=i) za u;apply (qcl);rw [hv];apply Xbi∘Xas∘V4f;refine Jx (Kd tb ((⟨o34,m⟩:OwL Int)) rfl rfl rfl zj zg yf zg zb) rfl ?_;apply (Xax);refine q_c ?_ ?_<;>intro hc5;·apply Xcd∘qaa∘V4f;refine Yc (Js tb ((⟨o34,m⟩:OwL Int)) (u) rfl rfl rfl rfl zj zg yf zg ze zb zb) ?_;rintro v M U ⟨rfl,rfl⟩;apply qaz∘Xbj;exact Kq ⟨(i + 1,m.set i u),by dsimp only;omega,q2.next hfi hv,OwL.len_ok Uy q3 zo⟩ zm ⟨rfl,by dsimp only;rw [hfl,decide_eq_true (show u≠m.getD i 0 from hc5),ylc];rfl,trivial⟩ zi zxb zw
   apply (Xa3);(have hse:m.set i u=m:=by rw [show u=m.getD i 0 by simpa using hc5,Yja]);exact q_k ⟨(i + 1,m),by dsimp only;omega,hse ▸ q2.next hfi hv,q3⟩
  obtain rfl:i=a.mine.places.l.length:=by omega
  have hsw:=q2.to;apply qbk∘qah∘Xbg;refine q_c ?_ ?_<;>intro hc6;·(have hme:m=l:=by simpa using hc6);(have hrn:K9 a s A up ps.l=(0,m):=by rw [hrx,w2,hme,J5d (by rw [← hme] at hsw ⊢;exact hsw)]);apply qae∘qbm∘qc4∘qad∘qbt;refine q_r ((⟨o34,m⟩:OwL Int).L 3 Ji ++ L) R4 zQc ?_;exact ⟨⟨o34,m⟩,Yna n.pipes :: Vva n.at_ :: (S ++ S0),by rw [hrn];simp only [OwL.val,hml,w3],q3,by rw [hrn],rfl,by rw [hR4];simp⟩
  have hme:m≠l:=by simpa using hc6
  apply qbj∘Xbd;exact q_k ⟨(n1 + 1,m),by dsimp only;omega,w2.trans (J2d hsw hme),hml.trans w3,q2.pres,q3⟩
 obtain rfl:n1=200:=by omega
 have hrn:K9 a s A up ps.l=(2,[]):=by rw [hrx,w2];rfl
 apply qbk∘qc4∘Xai;refine q_r L R4 zQc ?_;exact Ymf
def Y8c (a:XAir) (s:XSetting) (ps:Arr Int) (A:List Bool) (L:LB) (R:LS) (hm:AirR a R) (hs:SetR s R) (hps:InR (isl ps) R) (hA:Kv a=0→AiryIs a.mine A):
 Tri Tryz.prog 187 [a.val,s.val,ps.val].toArray L R (fun w M U=>∃(p:OwL Int) (S:LS),w=.tuple #[p.val,.int .i64 (K9 a s A true ps.l).1]∧p.ok 1 Ji∧p.l=(K9 a s A true ps.l).2∧p.L 3 Ji ++ L=M∧S ++ R=U):=by refine Je 14 Tryz.call187 Tryz.func187 rfl rfl rfl ?_;apply (Xag);intro b3;apply (qax);intro b4;apply qc4∘Xah∘Xcm∘qbm;refine Jq rfl (Jcb a s ps true A _ _ hm hs hps hA) rfl ?_;exact zrd
def Jsd (a:XAir) (s:XSetting) (ps:Arr Int) (A:List Bool) (L:LB) (R:LS) (hm:AirR a R) (hs:SetR s R) (hps:InR (isl ps) R) (hA:Kv a=0→AiryIs a.mine A):
 Tri Tryz.prog 186 [a.val,s.val,ps.val].toArray L R (fun w M U=>∃(p:OwL Int) (S:LS),w=.tuple #[p.val,.int .i64 (K9 a s A false ps.l).1]∧p.ok 1 Ji∧p.l=(K9 a s A false ps.l).2∧p.L 3 Ji ++ L=M∧S ++ R=U):=by refine Je 14 Tryz.call186 Tryz.func186 rfl rfl rfl ?_;apply (Xag);intro b3;apply (qax);intro b4;apply qc4∘Xah∘Xcm∘qbm;refine Jq rfl (Jcb a s ps false A _ _ hm hs hps hA) rfl ?_;exact zrd
end
end Go.Proofs.YtchfclmokpbldaaGreat
