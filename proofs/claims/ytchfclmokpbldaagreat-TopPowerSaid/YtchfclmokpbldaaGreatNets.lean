/-
  Nets: NetS, NetW, Find, LeastW, RefUp, Bal, NetP, in one text. By an AI agent; no person has read it.
-/
import Derived.Test.YtchfclmokpbldaaGreatFits
import Derived.Test.YtchfclmokpbldaaGreatDraws
set_option linter.all false
set_option maxHeartbeats 4000000
section
variable {A B:Prop}
def Jcf(h:A→B:=by exact K2 zMc rfl rfl rfl):=h
def Jaf(h:A→B:=by exact Jx zJ rfl):=h
def Z5f(h:A→B:=by exact Jx (by first | exact Jf tb rfl rfl rfl rfl zt (i:=v.toNat) zk za | exact Jl tb rfl rfl rfl rfl (i:=v.toNat) zk za) rfl):=h
def Jgg(h:A→B:=by exact Jx (by first | exact Jf tb rfl rfl rfl rfl zt (i:=e.toNat) zk za | exact Jl tb rfl rfl rfl rfl (i:=e.toNat) zk za) rfl):=h
def Zsf(h:A→B:=by exact K2 (by first | exact Jf tb rfl rfl rfl rfl zt (i:=p.road.fr.toNat) zk za | exact Jl tb rfl rfl rfl rfl (i:=p.road.fr.toNat) zk za) rfl rfl rfl):=h
def Zpf(h:A→B:=by exact K2 (by first | exact Jf tb rfl rfl rfl rfl zt (i:=p.road.to.toNat) zk za | exact Jl tb rfl rfl rfl rfl (i:=p.road.to.toNat) zk za) rfl rfl rfl):=h
def Zmf(h:A→B:=by exact Uu zta rfl rfl):=h
def Zcf(h:A→B:=by exact Uu zfa rfl rfl):=h
def Ybf(h:A→B:=by exact Jx (Jv tb ((⟨o,ps.set u.toNat y⟩:OwL Int)) _ rfl rfl ((show _=Value.slice _ _ _ from rfl).trans Khg) rfl zg (i:=u.toNat) zk zu) rfl):=h
def Jmg(h:A→B:=by exact Ym (Js tb ((⟨o,ps.set u.toNat y⟩:OwL Int)) (x) rfl rfl rfl rfl zj zg yf zg ze zb zb)):=h
def Zjf(h:A→B:=by exact Jqa (Kn (f:=Jo) (xs:=ps) tb rfl rfl rfl ze rfl rfl (hps) yf za) rfl):=h
def Zrf(h:A→B:=by exact Jx (by first | exact Jf tb rfl rfl rfl rfl zt (i:=u.toNat) zk za | exact Jl tb rfl rfl rfl rfl (i:=u.toNat) zk za) rfl):=h
end
section
namespace Go.Proofs.YtchfclmokpbldaaGreat
open Go.Aw Go
def K6a (a:XAir) (ps:List Int) (k:Nat):Int:=ps.getD (a.mine.roads.l.getD k default).fr.toNat 0 - ps.getD (a.mine.roads.l.getD k default).to.toNat 0
def Zoa (F G:(Int→XSpan)→Int→Int) (a:XAir) (s:XSetting) (ps:List Int) (v:Int) (k:Nat):Int:=
 if (a.mine.roads.l.getD k default).closed=true then 0
 else if (a.mine.roads.l.getD k default).fr=v then F (K5 a s k) (K6a a ps k)
 else if (a.mine.roads.l.getD k default).to=v then -(G (K5 a s k) (K6a a ps k)) else 0
def Zjc (F G : (Int → XSpan) → Int → Int) (a : XAir) (s : XSetting) (ps : List Int) (v : Int) : Nat → Int
 | 0=>0
 | k + 1=>Zjc F G a s ps v k + Zoa F G a s ps v k
def Vuc (a:XAir) (s:XSetting) (ps:List Int) (v:Int):Int:=Zjc Vd Uj a s ps v a.mine.roads.l.length
def Yba (a:XAir) (s:XSetting) (ps:List Int) (v:Int):Int:=Zjc Uj Vd a s ps v a.mine.roads.l.length
structure Ends (F:(Int→XSpan)→Int→Int) (a:XAir) (s:XSetting):Prop where
 bnd:∀k:Nat,k < a.mine.roads.l.length→∀p,-1048577≤F (K5 a s k) p∧F (K5 a s k) p≤1048577
def Vwb {a:XAir} {s:XSetting} (ha:AirOk a):Ends Vd a s:=⟨fun k hk p=>by have:=(Zia (s:=s) ha (r:=(k:Int)) za p).bnd;omega⟩
def Kgb {a:XAir} {s:XSetting} (ha:AirOk a):Ends Uj a s:=⟨fun k hk p=>by have:=(Vka (s:=s) ha (r:=(k:Int)) za p).bnd;omega⟩
section
variable {F G:(Int→XSpan)→Int→Int} {a:XAir} {s:XSetting} {ps:List Int} {v:Int}
def Umb (hF:Ends F a s) (hG:Ends G a s) {k:Nat} (hk:k < a.mine.roads.l.length):-1048577≤Zoa F G a s ps v k∧Zoa F G a s ps v k≤1048577:=by
 have h1:=hF.bnd k hk (K6a a ps k);have h2:=hG.bnd k hk (K6a a ps k);unfold Zoa;split;·omega
 ·
  split;·exact h1
  ·split <;> omega
def Umd (hF : Ends F a s) (hG : Ends G a s) : ∀ k : Nat, k ≤ a.mine.roads.l.length → -(1048577 * (k : Int)) ≤ Zjc F G a s ps v k ∧ Zjc F G a s ps v k ≤ 1048577 * (k : Int)
 | 0,_=>by simp [Zjc]
 | k + 1,hk=>by
  have ih:=Umd hF hG k za
  have h:=Umb (ps:=ps) (v:=v) hF hG (k:=k) za
  rw [Zjc]
  omega
def K2c (F G : (Int → XSpan) → Int → Int) (a : XAir) (s : XSetting) (ps : List Int) (v : Int) (n : Nat) : List Int → Int
 | []=>0
 | e :: l=>K2c F G a s ps v n l + Zoa F G a s ps v ((Uy a n).getD e.toNat 0)
def Ytb (n:Nat) (l m:List Int):K2c F G a s ps v n (l ++ m)=K2c F G a s ps v n l + K2c F G a s ps v n m:=by
 induction l with
 | nil=>simp [K2c]
 | cons e l ih=>rw [yp,K2c,K2c,ih];omega
def Vxa (a : XAir) {k : Nat} : ∀ {n : Nat}, k ≤ n → ∃ m, Uy a n = Uy a k ++ m
 | 0,h=>⟨[],by rw [show k=0 by omega];rfl⟩
 | n + 1,h=>by
  rcases yk n k with h' | h'
  ·exact ⟨[],by rw [show k=n + 1 by omega];simp⟩
  ·obtain ⟨m, hm⟩ := Vxa a (k := k) (n := n) h'
   rw [Uy]
   split
   ·exact ⟨m,hm⟩
   ·exact ⟨m ++ [n],by rw [hm,yq]⟩
def V3c (a:XAir) {k n:Nat} (hk:k < n) (hc:¬ (a.mine.roads.l.getD k default).closed=true):(Uy a n).getD (Uy a k).length 0=k:=by obtain ⟨m,hm⟩:=Vxa a (show k + 1≤n from hk);rw [hm,Uy,if_neg hc,yq,yh,yX (yl _)];simp
def Kcd (n : Nat) {v : Nat} : ∀ k, k ≤ n → K2c F G a s ps v n (Jpd a v k) = Zjc F G a s ps v k
 | 0,_=>rfl
 | k + 1,hk=>by
  have ih:=Kcd n (v:=v) k za
  rw [Jpd,Zjc]
  split
  ·rename_i hc
   rw [ih,Zoa,if_pos hc];omega
  ·rename_i hc
   split
   ·rename_i hv
    rw [Ytb,ih,K2c,K2c,yu,V3c a za hc]
    omega
   ·rename_i hv
    rw [ih,Zoa,if_neg hc,if_neg (fun h=>hv (.inl h)),if_neg (fun h=>hv (.inr h))];omega
def Vmb (a : XAir) {v : Nat} : ∀ k, ∀ e ∈ Jpd a v k, ∃ i : Nat, i < k ∧ e = ((Uy a i).length : Int) ∧ ¬ (a.mine.roads.l.getD i default).closed = true ∧ ((a.mine.roads.l.getD i default).fr = (v : Int) ∨ (a.mine.roads.l.getD i default).to = (v : Int))
 | 0,e,h=>by cases h
 | k + 1,e,h=>by
  rw [Jpd] at h
  split at h
  ·obtain ⟨i,h1,h2⟩:=Vmb a k e h;exact ⟨i,by omega,h2⟩
  ·rename_i hc
   split at h
   ·rename_i hv
    rcases List.mem_append.1 h with h | h
    ·obtain ⟨i,h1,h2⟩:=Vmb a k e h;exact ⟨i,by omega,h2⟩
    ·rw [List.mem_singleton.1 h];exact ⟨k,by omega,rfl,hc,hv⟩
   ·obtain ⟨i,h1,h2⟩:=Vmb a k e h;exact ⟨i,by omega,h2⟩
end
structure MonoE (F:(Int→XSpan)→Int→Int) (a:XAir) (s:XSetting):Prop where
 mono:∀k:Nat,k < a.mine.roads.l.length→∀p q:Int,p≤q→F (K5 a s k) p≤F (K5 a s k) q
def Uzd {a:XAir} {s:XSetting} (ha:AirOk a):MonoE Vd a s:=⟨fun k hk p q h=>V6c (s:=s) ha (r:=(k:Int)) za h⟩
def Y4c {a:XAir} {s:XSetting} (ha:AirOk a):MonoE Uj a s:=⟨fun k hk p q h=>Udc (s:=s) ha (r:=(k:Int)) za h⟩
structure Above (ps qs:List Int) (v:Int):Prop where
 own:ps.getD v.toNat 0≤qs.getD v.toNat 0
 rest:∀k:Nat,k≠v.toNat→qs.getD k 0≤ps.getD k 0
def Ydb {F G : (Int → XSpan) → Int → Int} {a : XAir} {s : XSetting} {ps qs : List Int} {v : Int} (ha : AirOk a) (hF : MonoE F a s) (hG : MonoE G a s) (h : Above ps qs v) : ∀ k : Nat, k ≤ a.mine.roads.l.length → Zjc F G a s ps v k ≤ Zjc F G a s qs v k
 | 0,_=>yD _
 | k + 1,hk=>by
  have ih:=Ydb ha hF hG h k za
  have hro:=ha.mine.road k _ ztc
  have h1:=hro.fr
  have h2:=hro.to
  have h3:=hro.ne
  have ho:=h.own
  rw [Zjc,Zjc,Zoa,Zoa]
  split
  ·omega
  ·split
   ·rename_i hf
    have hr:=h.rest (a.mine.roads.l.getD k default).to.toNat za
    have:=hF.mono k za (K6a a ps k) (K6a a qs k) (by rw [K6a,K6a,hf];omega)
    omega
   ·split
    ·rename_i hf ht
     have hr:=h.rest (a.mine.roads.l.getD k default).fr.toNat za
     have:=hG.mono k za (K6a a qs k) (K6a a ps k) (by rw [K6a,K6a,ht];omega)
     omega
    ·omega
def Vfe {a:XAir} {s:XSetting} {ps qs:List Int} {v:Int} (ha:AirOk a) (h:Above ps qs v):Vuc a s ps v≤Vuc a s qs v:=Ydb ha (Uzd ha) (Y4c ha) h _ (yl _)
def Zrd {a:XAir} {s:XSetting} {ps qs:List Int} {v:Int} (ha:AirOk a) (h:Above ps qs v):Yba a s ps v≤Yba a s qs v:=Ydb ha (Y4c ha) (Uzd ha) h _ (yl _)
def U8a {l:List Int} {k i:Nat} {v:Int} (hk:k < l.length):(l.set k v).getD i 0=if i=k then v else l.getD i 0:=by exact uaE
def Yuc {ps:List Int} {v x y:Int} (hv:v.toNat < ps.length) (h:x≤y):Above (ps.set v.toNat x) (ps.set v.toNat y) v:=
 ⟨by rw [U8a hv,U8a hv,if_pos rfl,if_pos rfl];exact h,fun k hk=>by rw [U8a hv,U8a hv,if_neg hk,if_neg hk];exact yD _⟩
def Zka {l:List Int} {k:Nat}:l.set k (l.getD k 0)=l:=by
 rcases yk k l.length with h | h;·have := Jw (l := l) (k := k) 0 h;obtain ⟨_,h2⟩:=List.getElem?_eq_some_iff.1 this;rw [← h2,List.set_getElem_self]
 ·exact List.set_eq_of_length_le h
def PresOk (ps:List Int):Prop:=∀p∈ps,-70368744177664≤p∧p≤70368744177664
def PresOk.get {ps:List Int} (h:PresOk ps) (k:Nat):-70368744177664≤ps.getD k 0∧ps.getD k 0≤70368744177664:=by
 rcases yk k ps.length with h' | h';·exact h _ (yj (Jw (l:=ps) 0 h'))
 ·rw [yh,yr h'];decide
def PresOk.set {ps:List Int} (h:PresOk ps) (k:Nat) {x:Int} (hx:-70368744177664≤x∧x≤70368744177664):PresOk (ps.set k x):=fun p hp=>by
 rcases ykb hp with h1 | h1
 ·exact h p h1
 ·rw [h1];exact hx
end Go.Proofs.YtchfclmokpbldaaGreat
end
section
namespace Go.Proofs.YtchfclmokpbldaaGreat
open Go.Aw Go
set_option maxRecDepth 20000
attribute [local irreducible] CJ LJ DJ Tri YV Gives U0 J3 Kj Uz RV J5 OwL.L
structure Entry (n:XNet) (a:XAir) (s:XSetting) (v:Int) (e:Int) (i:Nat) (p:XPipe):Prop where
 hi:i < a.mine.roads.l.length
 he:0≤e∧e < n.pipes.l.length
 get:n.pipes.l[e.toNat]?=some p
 num:(Uy a a.mine.roads.l.length).getD e.toNat 0=i
 is:PipeIs a s i p
 ok:PipeOk p
 drop:Jdb p=K5 a s i
 closed:¬ (a.mine.roads.l.getD i default).closed=true
 ends:(a.mine.roads.l.getD i default).fr=v∨(a.mine.roads.l.getD i default).to=v
 fr:p.road.fr=(a.mine.roads.l.getD i default).fr
 to:p.road.to=(a.mine.roads.l.getD i default).to
 road:RoadOk a.mine.places.l.length (a.mine.roads.l.getD i default)
def NetIs.entry {n:XNet} {a:XAir} {s:XSetting} (hn:NetIs a s n) (ha:AirOk a) {v:Nat} {e:Int} (he:e∈Jpd a v a.mine.roads.l.length):∃(i:Nat) (p:XPipe),Entry n a s v e i p:=by
 obtain ⟨i,hi,rfl,hc,hv⟩:=Vmb a _ e he;have hget:=V3c a hi hc;have hlt:(Uy a i).length < (Uy a a.mine.roads.l.length).length:=by obtain ⟨m,hm⟩:=Vxa a (show i + 1≤a.mine.roads.l.length from hi);rw [hm,Uy,if_neg hc];simp only [yo,yU];omega
 have hg:(Uy a a.mine.roads.l.length)[(Uy a i).length]?=some i:=by rw [Jw 0 hlt,hget]
 have hnum:=congrArg (fun l=>l[(Uy a i).length]?) hn.nums;simp only [yt,hg,yLa] at hnum;obtain ⟨p,hp,hpn⟩:=Option.map_eq_some_iff.1 hnum;have hpi:=hn.pipe p (yj hp);rw [hpn] at hpi;have hlp:=(List.getElem?_eq_some_iff.1 hp).1;refine ⟨i,p,hi,by omega,by rw [yu];exact hp,by rw [yu];exact hget,hpi,Zfc ha za hpi,funext fun q=>U0d hpi q,hc,hv,?_,?_,ha.mine.road i _ (Jw default hi)⟩;·rw [hpi.road,yu]
 ·rw [hpi.road,yu]
section
variable {F G:(Int→XSpan)→Int→Int} {a:XAir} {s:XSetting} {ps:List Int} {v:Int}
def Z5c {n:Nat} {l:List Int} {k:Nat} {e:Int} (he:l[k]?=some e):K2c F G a s ps v n (l.take (k + 1))=K2c F G a s ps v n (l.take k) + Zoa F G a s ps v ((Uy a n).getD e.toNat 0):=by
 have:l.take (k + 1)=l.take k ++ [e]:=by rw [yfa,he];rfl
 rw [this,Ytb,K2c,K2c];omega
def Ufe {a:XAir} {n:Nat} (hn:1≤n) (i:Nat):(Uy a n).getD i 0 < n:=by
 rcases yk i (Uy a n).length with h | h;·have := yj (Jw (l := Uy a n) 0 h);exact (Zda.1 this).1
 ·rw [yh,yr h];exact hn
def Jqb (hF : Ends F a s) (hG : Ends G a s) (hn : 1 ≤ a.mine.roads.l.length) : ∀ l : List Int, -(1048577 * (l.length : Int)) ≤ K2c F G a s ps v a.mine.roads.l.length l ∧ K2c F G a s ps v a.mine.roads.l.length l ≤ 1048577 * (l.length : Int)
 | []=>by simp [K2c]
 | e :: l=>by
  have ih:=Jqb hF hG hn l
  have h:=Umb (ps:=ps) (v:=v) hF hG (k:=(Uy a a.mine.roads.l.length).getD e.toNat 0) (Ufe hn _)
  rw [K2c,yw]
  omega
end
def InR.arr {x:Arr (Arr Int)} {R:LS} (h:InR (Yga x) R) {i:Nat} {y:Arr Int} (hi:x.l[i]?=some y):InR (isl y) R:=
 h.sub (.deep (List.mem_map.2 ⟨y,yj hi,rfl⟩) .here)
def Jwc (n:XNet) (a:XAir) (s:XSetting) (ps:Arr Int) (v:Int) (L:LB) (R:LS) (hpp:InR (Zma n.pipes) R) (haa:InR (Yga n.at_) R) (hps:InR (isl ps) R) (hn:NetIs a s n) (ha:AirOk a) (hl:ps.l.length=a.mine.places.l.length) (hb:PresOk ps.l) (hv:0≤v∧v < a.mine.places.l.length):
 Tri Tryz.prog 241 [n.val,ps.val,.int .i64 v].toArray L R (fun w M U=>w=.int .i64 (Vuc a s ps.l v)∧L=M∧R=U):=by
 obtain ⟨x,hx⟩:=Ky (l:=n.at_.l) (k:=v.toNat) (by rw [hn.atl];omega);have hxl:=hn.at_ _ _ hx;have hxI:=InR.arr haa hx;have hnr:=ha.mine.roads;have hatl:=hn.atl;have hxn:x.l.length≤a.mine.roads.l.length:=by rw [hxl];exact Kya a _ _
 refine Jj 57 Tryz.call241 Tryz.func241 rfl rfl rfl ?_;apply (Xaf);intro b3;apply Xag∘Xap∘Xam∘Z5f∘qa7∘qag∘Xal;refine Jp [(1,.slice _ _ _),(2,.int _ _),(3,.pointer _),(7,.int _ _),(16,.slice _ _ _),(17,.int _ _),(18,.int _ _)] zh fun tq0=>?_;refine q_s ([7,9,10,11]++rg 18 38) (fun g:{k:Nat // k≤x.l.length}=>[(7,.int .i64 (K2c Vd Uj a s ps.l v a.mine.roads.l.length (x.l.take g.1))),(18,.int .i64 ((g.1:Nat):Int))]) (fun g=>x.l.length - g.1) (⟨0,by omega⟩) ?_;rintro ⟨k,hk⟩ junk;try dsimp only
 apply (Xak);refine q_c ?_ ?_<;>intro hc0;·
  obtain ⟨e,he⟩:=Ky (l:=x.l) (k:=k) za;obtain ⟨i,p,hE⟩:=hn.entry ha (v:=v.toNat) (e:=e) (by rw [← hxl];exact yj he);have hek:=hE.he;have hpg:=hE.get;have hpI:=InR.pipe hpp hpg;have hro:=hE.road;have hr1:=hro.fr;have hr2:=hro.to;have hef:=hE.fr;have het:=hE.to;have hi:=hE.hi;have hsb:=Jqb (ps:=ps.l) (v:=v) (Vwb (s:=s) ha) (Kgb (s:=s) ha) za (x.l.take k);have htl:(x.l.take k).length≤k:=List.length_take_le _ _;have hst:=Z5c (F:=Vd) (G:=Uj) (a:=a) (s:=s) (ps:=ps.l) (v:=v) (n:=a.mine.roads.l.length) he;rw [hE.num] at hst;have hpf:=Jw (l:=ps.l) (k:=p.road.fr.toNat) 0 za;have hpt:=Jw (l:=ps.l) (k:=p.road.to.toNat) 0 za;have hbf:=hb.get p.road.fr.toNat;have hbt:=hb.get p.road.to.toNat;have hdf:K6a a ps.l i=ps.l.getD p.road.fr.toNat 0 - ps.l.getD p.road.to.toNat 0:=by rw [K6a,hef,het]
  have hfl:=(Vwb (s:=s) ha).bnd i hi (K6a a ps.l i);have hfh:=(Kgb (s:=s) ha).bnd i hi (K6a a ps.l i);rw [← hE.drop,hdf] at hfl hfh;rw [Zoa,if_neg hE.closed,hdf,← hE.drop,← hef] at hst;have hends:=hE.ends;rw [← hef,← het] at hends;apply qbb∘qa3∘qa7∘Xag∘Xam∘Jgg∘qdx∘qaq;intro b10;apply (Xc3);refine Kp tb [0,1,2,3,4,5,6,7,8,9,10,11,12,13] _ K3 zc ye ?_;apply Jcf∘Xc4∘Zsf∘qbl∘Jcf∘Xc4∘Zpf∘qbl∘qb7∘qcg;refine Jz (Jc (Jr (Jh ?_)));apply qab∘Xam∘Xcm;refine q_c ?_ ?_<;>intro hc1;·rw [if_pos hc1] at hst;apply Xa1∘qdi∘qaa;refine q_l rfl zic ?_;exact (qar) zqd
  rw [if_neg hc1,if_pos za] at hst;apply Xa1∘qdi∘qaa;refine q_l rfl zjc ?_;exact (qa9) zqd
 obtain rfl:k=x.l.length:=by omega
 apply Xc5∘Xah;refine q_i L R ?_;have e:=Kcd (F:=Vd) (G:=Uj) (a:=a) (s:=s) (ps:=ps.l) (v:=v.toNat) a.mine.roads.l.length a.mine.roads.l.length (yl _);rw [yka hv.1] at e;exact ⟨by rw [Vuc,yab,hxl,e],rfl,rfl⟩
def Zvb (n:XNet) (a:XAir) (s:XSetting) (ps:Arr Int) (v:Int) (L:LB) (R:LS) (hpp:InR (Zma n.pipes) R) (haa:InR (Yga n.at_) R) (hps:InR (isl ps) R) (hn:NetIs a s n) (ha:AirOk a) (hl:ps.l.length=a.mine.places.l.length) (hb:PresOk ps.l) (hv:0≤v∧v < a.mine.places.l.length):
 Tri Tryz.prog 242 [n.val,ps.val,.int .i64 v].toArray L R (fun w M U=>w=.int .i64 (Yba a s ps.l v)∧L=M∧R=U):=by
 obtain ⟨x,hx⟩:=Ky (l:=n.at_.l) (k:=v.toNat) (by rw [hn.atl];omega);have hxl:=hn.at_ _ _ hx;have hxI:=InR.arr haa hx;have hnr:=ha.mine.roads;have hatl:=hn.atl;have hxn:x.l.length≤a.mine.roads.l.length:=by rw [hxl];exact Kya a _ _
 refine Jj 57 Tryz.call242 Tryz.func242 rfl rfl rfl ?_;apply (Xaf);intro b3;apply Xag∘Xap∘Xam∘Z5f∘qa7∘qag∘Xal;refine Jp [(1,.slice _ _ _),(2,.int _ _),(3,.pointer _),(7,.int _ _),(16,.slice _ _ _),(17,.int _ _),(18,.int _ _)] zh fun tq0=>?_;refine q_s ([7,9,10,11]++rg 18 38) (fun g:{k:Nat // k≤x.l.length}=>[(7,.int .i64 (K2c Uj Vd a s ps.l v a.mine.roads.l.length (x.l.take g.1))),(18,.int .i64 ((g.1:Nat):Int))]) (fun g=>x.l.length - g.1) (⟨0,by omega⟩) ?_;rintro ⟨k,hk⟩ junk;try dsimp only
 apply (Xak);refine q_c ?_ ?_<;>intro hc0;·
  obtain ⟨e,he⟩:=Ky (l:=x.l) (k:=k) za;obtain ⟨i,p,hE⟩:=hn.entry ha (v:=v.toNat) (e:=e) (by rw [← hxl];exact yj he);have hek:=hE.he;have hpg:=hE.get;have hpI:=InR.pipe hpp hpg;have hro:=hE.road;have hr1:=hro.fr;have hr2:=hro.to;have hef:=hE.fr;have het:=hE.to;have hi:=hE.hi;have hsb:=Jqb (ps:=ps.l) (v:=v) (Kgb (s:=s) ha) (Vwb (s:=s) ha) za (x.l.take k);have htl:(x.l.take k).length≤k:=List.length_take_le _ _;have hst:=Z5c (F:=Uj) (G:=Vd) (a:=a) (s:=s) (ps:=ps.l) (v:=v) (n:=a.mine.roads.l.length) he;rw [hE.num] at hst;have hpf:=Jw (l:=ps.l) (k:=p.road.fr.toNat) 0 za;have hpt:=Jw (l:=ps.l) (k:=p.road.to.toNat) 0 za;have hbf:=hb.get p.road.fr.toNat;have hbt:=hb.get p.road.to.toNat;have hdf:K6a a ps.l i=ps.l.getD p.road.fr.toNat 0 - ps.l.getD p.road.to.toNat 0:=by rw [K6a,hef,het]
  have hfl:=(Kgb (s:=s) ha).bnd i hi (K6a a ps.l i);have hfh:=(Vwb (s:=s) ha).bnd i hi (K6a a ps.l i);rw [← hE.drop,hdf] at hfl hfh;rw [Zoa,if_neg hE.closed,hdf,← hE.drop,← hef] at hst;have hends:=hE.ends;rw [← hef,← het] at hends;apply qbb∘qa3∘qa7∘Xag∘Xam∘Jgg∘qdx∘qaq;intro b10;apply (Xc3);refine Kp tb [0,1,2,3,4,5,6,7,8,9,10,11,12,13] _ K3 zc ye ?_;apply Jcf∘Xc4∘Zsf∘qbl∘Jcf∘Xc4∘Zpf∘qbl∘qb7∘qcg;refine Jz (Jc (Jr (Jh ?_)));apply qab∘Xam∘Xcm;refine q_c ?_ ?_<;>intro hc1;·rw [if_pos hc1] at hst;apply Xa1∘qdi∘qaa;refine q_l rfl zjc ?_;exact (qar) zqd
  rw [if_neg hc1,if_pos za] at hst;apply Xa1∘qdi∘qaa;refine q_l rfl zic ?_;exact (qa9) zqd
 obtain rfl:k=x.l.length:=by omega
 apply Xc5∘Xah;refine q_i L R ?_;have e:=Kcd (F:=Uj) (G:=Vd) (a:=a) (s:=s) (ps:=ps.l) (v:=v.toNat) a.mine.roads.l.length a.mine.roads.l.length (yl _);rw [yka hv.1] at e;exact ⟨by rw [Yba,yab,hxl,e],rfl,rfl⟩
end Go.Proofs.YtchfclmokpbldaaGreat
end
section
namespace Go.Proofs.YtchfclmokpbldaaGreat
open Go.Aw Go
set_option maxRecDepth 20000
attribute [local irreducible] CJ LJ DJ Tri YV Gives U0 J3 Kj Uz RV J5 OwL.L
abbrev sgn (up:Bool):Int:=if up then 1 else -1
abbrev Kcb (up:Bool) (start:Int):Int:=if up then 70368744177664 - start else start + 70368744177664
structure First (g:Int→Bool) (start:Int) (up:Bool) (v:Int) (ok:Bool):Prop where
 yes:ok=true→∃m,0≤m∧m≤Kcb up start∧v=start + sgn up * m∧g v=true∧∀j,0≤j→j < m→g (start + sgn up * j)=false
 no:ok=false→v=0∧∀j,0≤j→j≤Kcb up start→g (start + sgn up * j)=false
def Stays (g:Int→Bool) (start:Int) (up:Bool):Prop:=∀i j,0≤i→i≤j→j≤Kcb up start→g (start + sgn up * i)=true→g (start + sgn up * j)=true
def Stays.no {g:Int→Bool} {start:Int} {up:Bool} (h:Stays g start up) {i j:Int} (h0:0≤i) (hij:i≤j) (hj:j≤Kcb up start) (hg:g (start + sgn up * j)=false):g (start + sgn up * i)=false:=by
 cases e:g (start + sgn up * i) with
 | false=>rfl
 | true=>rw [h i j h0 hij hj e] at hg;cases hg
def Ukc {up:Bool} {z:Int} (h:0≤z∧z≤281474976710656):-281474976710656≤sgn up * z∧sgn up * z≤281474976710656:=by cases up <;> simp only [sgn] <;> simp <;> omega
def Vjd {up:Bool} {start z:Int} (hs:-70368744177664≤start∧start≤70368744177664) (h:0≤z∧z≤Kcb up start):-70368744177664≤start + sgn up * z∧start + sgn up * z≤70368744177664:=by cases up <;> simp only [sgn,Kcb] at h ⊢ <;> simp at h ⊢ <;> omega
def Y4b {up:Bool} {start:Int} (hs:-70368744177664≤start∧start≤70368744177664):0≤Kcb up start∧Kcb up start≤140737488355328:=by cases up <;> simp [Kcb] <;> omega
def Kpc (f : FuncId) (cap : Array Value) (LL : Int → LB) (g : Int → Bool) (start : Int) (up : Bool) (y : Int) (R : LS) (hs : -70368744177664 ≤ start ∧ start ≤ 70368744177664) (hm : Stays g start up)
 (hc:∀x y,-70368744177664≤x∧x≤70368744177664→Tri Tryz.prog f (.int .i64 x :: cap.toList).toArray (LL y) R (fun v M U=>v=.bool (g x)∧LL x=M∧R=U)):
 Tri Tryz.prog 278 [.int .i64 start,.bool up,.func (.func f) #[] cap].toArray (LL y) R (fun v M U=>∃(z:Int) (ok:Bool) (y':Int),v=.tuple #[.int .i64 z,.bool ok]∧First g start up z ok∧LL y'=M∧R=U):=by
 have hro:=Y4b (up:=up) hs;have h00:start + sgn up * 0=start:=by simp
 refine Jj 80 Tryz.call278 Tryz.func278 rfl rfl rfl ?_;apply Xac∘qaz∘qaw;refine Jx zCb rfl ?_;apply (qaa);refine K3c (Jra rfl rfl (hc start y hs)) rfl rfl ?_;rintro v M U ⟨rfl,rfl,rfl⟩;apply (qaf);refine q_c ?_ ?_<;>intro hc0;·apply Xbd∘Xbk∘qbh;refine q_r (LL start) R zWc ?_;exact ⟨start,true,start,rfl,⟨fun _=>⟨0,by omega,by omega,h00.symm,hc0,fun j h1 h2=>by omega⟩,fun h=>by cases h⟩,rfl,rfl⟩
 apply qbv∘Xb9∘qad∘Xap∘qah∘Xbb;refine Kha [8,9,21,22] ((⟨fun _=>[(8,.int .i64 (sgn up)),(9,.int .i64 (Kcb up start))],fun _=>LL start,fun _=>R,fun _=>0⟩:Head Unit)) ?_ ?_;·
  skip
  refine q_c ?_ ?_<;>intro hc1;·apply Xa1∘qar∘qad∘Xbf;subst hc1;exact q_j ()
  refine Ka ?_;subst hc1;exact q_j ()
 rintro u junk;try dsimp only
 apply Xac∘Xb5;refine Kha ([10,11]++rg 23 16) ((⟨fun g=>[(10,.int .i64 g.1.1),(11,.int .i64 g.1.2.1)],fun g=>LL g.1.2.2,fun _=>R,fun _=>0⟩:Head {q:Int×Int×Int // (0≤q.1∧q.1 < q.2.1∧q.2.1≤281474976710656)∧g (start + sgn up * q.1)=false∧(q.1=0∨q.1 < Kcb up start)∧(q.2.1 < Kcb up start→g (start + sgn up * q.2.1)=true)})) ?_ ?_;·
  refine Km ?_;refine Y6 ([10,11]++rg 23 16) zI [(10,.int _ _),(11,.int _ _)] zh fun tq0=>?_;refine q_p ([10,11]++rg 23 16) ((⟨fun g=>[(10,.int .i64 g.1.1),(11,.int .i64 g.1.2.1)],fun g=>LL g.1.2.2,fun _=>R,fun g=>(Kcb up start + 1 - g.1.1).toNat⟩:Head {q:Int×Int×Int // ((q.1=0∧q.2.1=1)∨(1≤q.1∧q.2.1=q.1 * 2))∧g (start + sgn up * q.1)=false∧(q.1=0∨q.1 < Kcb up start)})) (⟨(0,1,start),.inl ⟨rfl,rfl⟩,by rw [h00];exact hc0,.inl rfl⟩) ?_;rintro ⟨⟨bad,good,y2⟩,hbg,hbf,hbr⟩ junk;try dsimp only
  dsimp only at hbg hbf hbr;have hgm:=Ukc (up:=up) (z:=good) za;apply qbi∘Xbg∘Xav;refine Z2 (k:=26) zfb (fun hg4=>?_) (fun hg4=>?_);·
   replace hg4:=qb hg4;refine Uu zCb rfl rfl ?_;(iterate 3 refine Uu (Jt zgb) rfl rfl ?_);apply Zmf∘Zcf;refine K3c (Jra rfl rfl (hc (start + sgn up * good) y2 (Vjd hs za))) rfl rfl ?_;rintro v M U ⟨rfl,rfl,rfl⟩;refine Uu (V8a rfl) rfl rfl ?_;apply Jaf∘qaf;refine q_c ?_ ?_<;>intro hc2;·refine Ka (Jc (Jr (Km (Jh ?_))));apply qaa∘qad∘qcs∘Xc6∘Xbf;exact q_k ⟨(good,good * 2,start + sgn up * good),by dsimp only;omega,by simpa using hc2,by dsimp only;omega⟩
   exact zud
  replace hg4:=qb hg4;iterate 8 refine V3 rfl rfl ?_
  apply Jaf∘qaf;refine Y7 rfl ?_;exact zud
 rintro ⟨⟨bad,good,y2⟩,hbg,hbf,hbr,hgt⟩ junk;try dsimp only
 dsimp only at hbg hbf hbr hgt;apply qbi∘Xbg∘Xcn;refine Kha ([6,7,11]++rg 42 14) ((⟨fun q=>[(11,.int .i64 q.1.1)],fun q=>LL q.1.2,fun _=>R,fun _=>0⟩:Head {q:Int×Int // bad < q.1∧q.1≤Kcb up start∧g (start + sgn up * q.1)=true})) ?_ ?_;·
  skip
  refine q_c ?_ ?_<;>intro hc3;·
   apply Xbd∘Xb5;have hgm:=Ukc (up:=up) (z:=Kcb up start) za;apply Xa1∘qaa∘qbx∘qah;refine Z2 (k:=46) zfb (fun hg4=>?_) (fun hg4=>?_);·replace hg4:=qb hg4;(iterate 8 refine V3 rfl rfl ?_);apply Jaf∘qaf;refine Ua rfl ?_;exact uav
   replace hg4:=qb hg4;refine Uu zCb rfl rfl ?_;(iterate 3 refine Uu (Jt zgb) rfl rfl ?_);apply Zmf∘Zcf;refine K3c (Jra rfl rfl (hc (start + sgn up * Kcb up start) y2 (Vjd hs za))) rfl rfl ?_;rintro v M U ⟨rfl,rfl,rfl⟩;refine Uu (V8a rfl) rfl rfl ?_;apply Jaf∘qaf;refine q_c ?_ ?_<;>intro hc4;·exact uav
   refine Ka ?_;exact q_j ⟨(Kcb up start,start + sgn up * Kcb up start),by dsimp only;omega,by dsimp only;omega,by simpa using hc4⟩
  refine Ka ?_;exact q_j ⟨(good,y2),by dsimp only;omega,by dsimp only;omega,hgt za⟩
 rintro ⟨⟨good2,y3⟩,h31,h32,h33⟩ junk;try dsimp only
 dsimp only at h31 h32 h33;refine Jr (Km ?_);refine Jp [(0,.int _ _),(2,_),(8,.int _ _),(10,.int _ _),(11,.int _ _)] zh fun tq1=>?_;refine q_p ([10,11,12]++rg 56 19) ((⟨fun q=>[(10,.int .i64 q.1.1),(11,.int .i64 q.1.2.1)],fun q=>LL q.1.2.2,fun _=>R,fun q=>(q.1.2.1 - q.1.1).toNat⟩:Head {q:Int×Int×Int // (0≤q.1∧q.1 < q.2.1∧q.2.1≤Kcb up start)∧g (start + sgn up * q.1)=false∧g (start + sgn up * q.2.1)=true})) (⟨(bad,good2,y3),by dsimp only;omega,hbf,h33⟩) ?_;rintro ⟨⟨lo,hi,y4⟩,q1,q2,q3⟩ junk;try dsimp only
 dsimp only at q1 q2 q3;apply Xb1∘Xad∘Xbm;refine q_c ?_ ?_<;>intro hc5;·
  obtain ⟨mid,hmid⟩:∃mid,mid=lo + (hi - lo).tdiv 2:=⟨_,rfl⟩;have hmb:lo < mid∧mid < hi:=by rw [yR za] at hmid;omega
  have hdv:0≤(hi - lo).tdiv 2∧(hi - lo).tdiv 2≤hi - lo:=by rw [yR za];omega
  refine Ka (Jc (Km (Jr (Jh ?_))));iterate 3 apply (qaa)
  apply qa9∘qdd∘qar∘Xb5;rw [← hmid];have hgm:=Ukc (up:=up) (z:=mid) za;apply (qay);refine Jx zCb rfl ?_;iterate 3 apply (qaa)
  apply qcm∘qar;refine K3c (Jra rfl rfl (hc (start + sgn up * mid) y4 (Vjd hs za))) rfl rfl ?_;rintro v M U ⟨rfl,rfl,rfl⟩;apply (qaf);refine q_c ?_ ?_<;>intro hc6;·apply Xa1∘qad;refine J6 (Jk ?_);exact q_k ⟨(lo,mid,start + sgn up * mid),by dsimp only;omega,q2,hc6⟩
  apply Xa1∘qad;refine J6 (Jk ?_);exact q_k ⟨(mid,hi,start + sgn up * mid),by dsimp only;omega,hc6,q3⟩
 apply (qc3);have hgm:=Ukc (up:=up) (z:=hi) za;apply (qay);iterate 3 apply (qaa)
 apply qcm∘qar∘qad∘Xa2;refine q_r (LL y4) R zWc ?_;exact ⟨start + sgn up * hi,true,y4,rfl,⟨fun _=>⟨hi,by omega,by omega,rfl,q3,fun j h1 h2=>hm.no h1 (show j≤lo by omega) za q2⟩,fun h=>by cases h⟩,rfl,rfl⟩
end Go.Proofs.YtchfclmokpbldaaGreat
end
section
namespace Go.Proofs.YtchfclmokpbldaaGreat
open Go.Aw Go
set_option maxRecDepth 20000
attribute [local irreducible] CJ LJ DJ Tri YV Gives U0 J3 Kj Uz RV J5 OwL.L
def Tri.lend1 {P : Program} {f : FuncId} {args : Array Value} {A : LB} {R : LS} {p : OwL Int} {T : TypeId} {u : Value} (hin : InB (p.L T Jo) A) (hok : p.ok 1 Jo)
 (h:Tri P f args [] (isl p.arr :: R) (fun v M U=>v=u∧[]=M∧isl p.arr :: R=U)):Tri P f args A R (fun v M U=>v=u∧A=M∧R=U):=by have h2:=Tri.lend (S:=[isl p.arr]) (Post:=fun v M=>v=u∧[]=M) (Spl.rest (L:=A)) (fun w G hh s hs=>by rw [List.mem_singleton.1 hs];exact Jtb hh hin hok yf ze yg) (h.mono fun v M U ⟨a1,a2,a3⟩=>⟨⟨a1,a2⟩,a3⟩);exact zKd
def Khg {o:Ow} {l:List Int} {k:Nat} {y:Int}:(⟨o,l⟩:OwL Int).val=(⟨o,l.set k y⟩:OwL Int).val:=OwL.set_val.symm
structure HypsN (n:XNet) (a:XAir) (s:XSetting) (ps:List Int) (v:Int) (R:LS):Prop where
 pp:InR (Zma n.pipes) R
 aa:InR (Yga n.at_) R
 is:NetIs a s n
 ok:AirOk a
 len:ps.length=a.mine.places.l.length
 pres:PresOk ps
 v:0≤v∧v < a.mine.places.l.length
def K7f {n:XNet} {a:XAir} {s:XSetting} {o:Ow} {ps:List Int} {v y:Int} {A:LB} {R:LS} (h:HypsN n a s ps v R) (hy:-70368744177664≤y∧y≤70368744177664) (hin:InB ((⟨o,ps.set v.toNat y⟩:OwL Int).L 3 Jo) A) (hok:(⟨o,ps.set v.toNat y⟩:OwL Int).ok 1 Jo):
 Tri Tryz.prog 241 [n.val,(⟨o,ps⟩:OwL Int).val,.int .i64 v].toArray A R (fun w M U=>w=.int .i64 (Vuc a s (ps.set v.toNat y) v)∧A=M∧R=U):=by rw [Khg (k:=v.toNat) (y:=y)];exact Tri.lend1 hin hok (Jwc n a s (⟨o,ps.set v.toNat y⟩:OwL Int).arr v [] _ (h.pp.mono fun r hr=>Ja (.tail _ hr)) (h.aa.mono fun r hr=>Ja (.tail _ hr)) zsb h.is h.ok (by simp [h.len]) (h.pres.set _ hy) h.v)
def Jpf {n:XNet} {a:XAir} {s:XSetting} {o:Ow} {ps:List Int} {v y:Int} {A:LB} {R:LS} (h:HypsN n a s ps v R) (hy:-70368744177664≤y∧y≤70368744177664) (hin:InB ((⟨o,ps.set v.toNat y⟩:OwL Int).L 3 Jo) A) (hok:(⟨o,ps.set v.toNat y⟩:OwL Int).ok 1 Jo):
 Tri Tryz.prog 242 [n.val,(⟨o,ps⟩:OwL Int).val,.int .i64 v].toArray A R (fun w M U=>w=.int .i64 (Yba a s (ps.set v.toNat y) v)∧A=M∧R=U):=by rw [Khg (k:=v.toNat) (y:=y)];exact Tri.lend1 hin hok (Zvb n a s (⟨o,ps.set v.toNat y⟩:OwL Int).arr v [] _ (h.pp.mono fun r hr=>Ja (.tail _ hr)) (h.aa.mono fun r hr=>Ja (.tail _ hr)) zsb h.is h.ok (by simp [h.len]) (h.pres.set _ hy) h.v)
abbrev Uaf (a:XAir) (s:XSetting) (ps:List Int) (v:Int):Int→Bool:=fun x=>decide (0≤Vuc a s (ps.set v.toNat x) v)
abbrev Khd (a:XAir) (s:XSetting) (ps:List Int) (v:Int):Int→Bool:=fun x=>decide (Yba a s (ps.set v.toNat x) v≤0)
def Yzd {a:XAir} {s:XSetting} {ps:List Int} {v start:Int} (ha:AirOk a) (hv:v.toNat < ps.length):Stays (Uaf a s ps v) start true:=by intro i j h0 hij hj hg;rw [decide_eq_true_eq] at hg ⊢;have:=Vfe (s:=s) ha (Yuc (ps:=ps) hv (show start + sgn true * i≤start + sgn true * j by simp only [sgn];simp;omega));omega
def Uhd {a:XAir} {s:XSetting} {ps:List Int} {v start:Int} (ha:AirOk a) (hv:v.toNat < ps.length):Stays (Khd a s ps v) start false:=by intro i j h0 hij hj hg;rw [decide_eq_true_eq] at hg ⊢;have:=Zrd (s:=s) ha (Yuc (ps:=ps) hv (show start + sgn false * j≤start + sgn false * i by simp only [sgn];simp;omega));omega
abbrev clL (b8 b5 b3:Nat) (n:XNet) (o:Ow) (ps:List Int) (v:Int) (L:LB) (y:Int):LB:=
 ⟨b8,[(⟨o,ps⟩:OwL Int).val],40⟩ :: ((⟨o,ps.set v.toNat y⟩:OwL Int).L 3 Jo ++ (⟨b5,[.int .i64 v],3⟩ :: ⟨b3,n.cells,221⟩ :: L))
def Z5d {b8 b5 b3:Nat} {n:XNet} {a:XAir} {s:XSetting} {o:Ow} {ps:List Int} {u:Int} {L:LB} {R:LS} (h:HypsN n a s ps u R) (hok:(⟨o,ps⟩:OwL Int).ok 1 Jo) (x y:Int) (hx:-70368744177664≤x∧x≤70368744177664):
 Tri Tryz.prog 280 [.int .i64 x,.pointer (some ⟨b8,0,none⟩),.pointer (some ⟨b5,0,none⟩),.pointer (some ⟨b3,0,none⟩)].toArray (clL b8 b5 b3 n o ps u L y) R (fun w M U=>w=.bool (Uaf a s ps u x)∧clL b8 b5 b3 n o ps u L x=M∧R=U):=by have hv:=h.v;have hlen:=h.len;have hok2:∀z,(⟨o,ps.set u.toNat z⟩:OwL Int).ok 1 Jo:=fun z=>OwL.len_ok Yd hok zo;have hoky:=hok2 y;have hget:=Jw (l:=ps.set u.toNat y) (k:=u.toNat) 0 zD;refine Jj 15 Tryz.call280 Tryz.func280 rfl rfl rfl ?_;apply Xbe∘qam∘qac∘qac∘qaa∘Ybf∘Jmg;rintro v M U ⟨rfl,rfl⟩;apply (qa4);refine Vf (by rw [yIa]) ?_;apply qay∘qbe∘qac∘qac;refine q_l rfl (K7f (o:=o) (y:=x) h hx zQ (hok2 x)) ?_;apply qbz∘Xa2;refine q_b (clL b8 b5 b3 n o ps u L x) R ?_;exact zrd
def Vyc (n:XNet) (a:XAir) (s:XSetting) (ps:Arr Int) (u:Int) (L:LB) (R:LS) (h:HypsN n a s ps.l u R) (hps:InR (isl ps) R):
 Tri Tryz.prog 240 [n.val,ps.val,.int .i64 u].toArray L R (fun w M U=>∃(z:Int) (ok:Bool),w=.tuple #[.int .i64 z,.bool ok]∧First (Uaf a s ps.l u) (ps.l.getD u.toNat 0) true z ok∧L=M∧R=U):=by have hv:=h.v;have hlen:=h.len;have hnp:=h.ok.mine.places;have hget:=Jw (l:=ps.l) (k:=u.toNat) 0 za;have hb:=h.pres.get u.toNat;have hst:=Yzd (s:=s) (start:=ps.l.getD u.toNat 0) h.ok (ps:=ps.l) (v:=u) za;refine Jj 19 Tryz.call240 Tryz.func240 rfl rfl rfl ?_;apply (Xaf);intro b3;refine Upd (v:=Value.int _ _) rfl rfl rfl ?_;intro b5;apply Xbk∘Xc7∘Zjf;rintro v M U ⟨o10,rfl,hok10,rfl,rfl⟩;apply (qaq);intro b8;apply qcy∘Xc7∘qac∘Zrf∘qa7;refine Jx (Uic rfl) rfl ?_;refine Kgg zhc ?_;refine Jy rfl (Kpc 280 #[.pointer (some ⟨b8,0,none⟩),.pointer (some ⟨b5,0,none⟩),.pointer (some ⟨b3,0,none⟩)] (clL b8 b5 b3 n o10 ps.l u L) (Uaf a s ps.l u) (ps.l.getD u.toNat 0) true (ps.l.getD u.toNat 0) _ hb hst (fun x y hx=>Z5d h hok10 x y hx)) rfl ?_;exact zCd
def Vkc {b8 b5 b3:Nat} {n:XNet} {a:XAir} {s:XSetting} {o:Ow} {ps:List Int} {u:Int} {L:LB} {R:LS} (h:HypsN n a s ps u R) (hok:(⟨o,ps⟩:OwL Int).ok 1 Jo) (x y:Int) (hx:-70368744177664≤x∧x≤70368744177664):
 Tri Tryz.prog 279 [.int .i64 x,.pointer (some ⟨b8,0,none⟩),.pointer (some ⟨b5,0,none⟩),.pointer (some ⟨b3,0,none⟩)].toArray (clL b8 b5 b3 n o ps u L y) R (fun w M U=>w=.bool (Khd a s ps u x)∧clL b8 b5 b3 n o ps u L x=M∧R=U):=by have hv:=h.v;have hlen:=h.len;have hok2:∀z,(⟨o,ps.set u.toNat z⟩:OwL Int).ok 1 Jo:=fun z=>OwL.len_ok Yd hok zo;have hoky:=hok2 y;have hget:=Jw (l:=ps.set u.toNat y) (k:=u.toNat) 0 zD;refine Jj 15 Tryz.call279 Tryz.func279 rfl rfl rfl ?_;apply Xbe∘qam∘qac∘qac∘qaa∘Ybf∘Jmg;rintro v M U ⟨rfl,rfl⟩;apply (qa4);refine Vf (by rw [yIa]) ?_;apply qay∘qbe∘qac∘qac;refine q_l rfl (Jpf (o:=o) (y:=x) h hx zQ (hok2 x)) ?_;apply qbx∘Xa2;refine q_b (clL b8 b5 b3 n o ps u L x) R ?_;exact zrd
def Zwb (n:XNet) (a:XAir) (s:XSetting) (ps:Arr Int) (u:Int) (L:LB) (R:LS) (h:HypsN n a s ps.l u R) (hps:InR (isl ps) R):
 Tri Tryz.prog 239 [n.val,ps.val,.int .i64 u].toArray L R (fun w M U=>∃(z:Int) (ok:Bool),w=.tuple #[.int .i64 z,.bool ok]∧First (Khd a s ps.l u) (ps.l.getD u.toNat 0) false z ok∧L=M∧R=U):=by have hv:=h.v;have hlen:=h.len;have hnp:=h.ok.mine.places;have hget:=Jw (l:=ps.l) (k:=u.toNat) 0 za;have hb:=h.pres.get u.toNat;have hst:=Uhd (s:=s) (start:=ps.l.getD u.toNat 0) h.ok (ps:=ps.l) (v:=u) za;refine Jj 19 Tryz.call239 Tryz.func239 rfl rfl rfl ?_;apply (Xaf);intro b3;refine Upd (v:=Value.int _ _) rfl rfl rfl ?_;intro b5;apply Xbk∘Xc7∘Zjf;rintro v M U ⟨o10,rfl,hok10,rfl,rfl⟩;apply (qaq);intro b8;apply qcy∘Xc7∘qac∘Zrf∘qa7;refine Jx (Uic rfl) rfl ?_;refine Kgg zhc ?_;refine Jy rfl (Kpc 279 #[.pointer (some ⟨b8,0,none⟩),.pointer (some ⟨b5,0,none⟩),.pointer (some ⟨b3,0,none⟩)] (clL b8 b5 b3 n o10 ps.l u L) (Khd a s ps.l u) (ps.l.getD u.toNat 0) false (ps.l.getD u.toNat 0) _ hb hst (fun x y hx=>Vkc h hok10 x y hx)) rfl ?_;exact zCd
end Go.Proofs.YtchfclmokpbldaaGreat
end
section
namespace Go.Proofs.YtchfclmokpbldaaGreat
open Go.Aw Go
set_option maxRecDepth 20000
attribute [local irreducible] CJ LJ DJ Tri YV Gives U0 J3 Kj Uz RV J5 OwL.L
end Go.Proofs.YtchfclmokpbldaaGreat
end
section
namespace Go.Proofs.YtchfclmokpbldaaGreat
open Go.Aw Go
set_option maxRecDepth 20000
attribute [local irreducible] CJ LJ DJ Tri YV Gives U0 J3 Kj Uz RV J5 OwL.L
def Yma {ps:List Int} (h:ps.findSome? Vj=none):PresOk ps:=fun p hp=>by
 obtain ⟨i,hi⟩:=List.mem_iff_getElem?.1 hp
 exact Zmc h i p hi
def Jib {ps:List Int} (h:PresOk ps):ps.findSome? Vj=none:=List.findSome?_eq_none_iff.2 fun p hp=>by
 have:=h p hp
 exact if_neg za
section
variable {a:XAir} {s:XSetting} {ps:Arr Int} {v:Int}
end
end Go.Proofs.YtchfclmokpbldaaGreat
end
section
namespace Go.Proofs.YtchfclmokpbldaaGreat
open Go.Aw Go
end Go.Proofs.YtchfclmokpbldaaGreat
end
