/-
  Nets: NetS, NetW, Find, LeastW, RefUp, Bal, NetP, in one text. By an AI agent; no person has read it.
-/
import Derived.Test.YtchfclmokpbldaaGreatFits
import Derived.Test.YtchfclmokpbldaaGreatDraws
set_option linter.all false
set_option maxHeartbeats 4000000
section
variable {A B:Prop}
def K8e(h:A→B:=by exact K3 zOc rfl rfl rfl):=h
def V0e(h:A→B:=by exact Jx zN rfl):=h
def Uuf(h:A→B:=by exact Jx (by first | exact Jh tb rfl rfl rfl rfl zx (i:=v.toNat) zk za | exact Jn tb rfl rfl rfl rfl (i:=v.toNat) zk za) rfl):=h
def Vuf(h:A→B:=by exact Jx (by first | exact Jh tb rfl rfl rfl rfl zx (i:=e.toNat) zk za | exact Jn tb rfl rfl rfl rfl (i:=e.toNat) zk za) rfl):=h
def Ugf(h:A→B:=by exact K3 (by first | exact Jh tb rfl rfl rfl rfl zx (i:=p.road.fr.toNat) zk za | exact Jn tb rfl rfl rfl rfl (i:=p.road.fr.toNat) zk za) rfl rfl rfl):=h
def Ysf(h:A→B:=by exact K3 (by first | exact Jh tb rfl rfl rfl rfl zx (i:=p.road.to.toNat) zk za | exact Jn tb rfl rfl rfl rfl (i:=p.road.to.toNat) zk za) rfl rfl rfl):=h
def Ykf(h:A→B:=by exact Vn zEa rfl rfl):=h
def Ztf(h:A→B:=by exact Vn zta rfl rfl):=h
def Ulf(h:A→B:=by exact Jx (Jv tb ((⟨o,ps.set u.toNat y⟩:OwL Int)) _ rfl rfl ((show _=Value.slice _ _ _ from rfl).trans Z6f) rfl zg (i:=u.toNat) zk zu) rfl):=h
def Z1f(h:A→B:=by exact Yc (Js tb ((⟨o,ps.set u.toNat y⟩:OwL Int)) (x) rfl rfl rfl rfl zj zg yf zg ze zb zb)):=h
def U8f(h:A→B:=by exact Yl (Ky (f:=Ji) (xs:=ps) tb rfl rfl rfl ze rfl rfl (hps) yf za) rfl):=h
def Vnf(h:A→B:=by exact Jx (by first | exact Jh tb rfl rfl rfl rfl zx (i:=u.toNat) zk za | exact Jn tb rfl rfl rfl rfl (i:=u.toNat) zk za) rfl):=h
end
section
namespace Go.Proofs.YtchfclmokpbldaaGreat
open Go.Aw Go
def Kta (a:XAir) (ps:List Int) (k:Nat):Int:=ps.getD (a.mine.roads.l.getD k default).fr.toNat 0 - ps.getD (a.mine.roads.l.getD k default).to.toNat 0
def Ysa (F G:(Int→XSpan)→Int→Int) (a:XAir) (s:XSetting) (ps:List Int) (v:Int) (k:Nat):Int:=
 if (a.mine.roads.l.getD k default).closed=true then 0
 else if (a.mine.roads.l.getD k default).fr=v then F (K8 a s k) (Kta a ps k)
 else if (a.mine.roads.l.getD k default).to=v then -(G (K8 a s k) (Kta a ps k)) else 0
def U9c (F G : (Int → XSpan) → Int → Int) (a : XAir) (s : XSetting) (ps : List Int) (v : Int) : Nat → Int
 | 0=>0
 | k + 1=>U9c F G a s ps v k + Ysa F G a s ps v k
def Uic (a:XAir) (s:XSetting) (ps:List Int) (v:Int):Int:=U9c Vs U2 a s ps v a.mine.roads.l.length
def Vua (a:XAir) (s:XSetting) (ps:List Int) (v:Int):Int:=U9c U2 Vs a s ps v a.mine.roads.l.length
structure Ends (F:(Int→XSpan)→Int→Int) (a:XAir) (s:XSetting):Prop where
 bnd:∀k:Nat,k < a.mine.roads.l.length→∀p,-1048577≤F (K8 a s k) p∧F (K8 a s k) p≤1048577
def Upb {a:XAir} {s:XSetting} (ha:AirOk a):Ends Vs a s:=⟨fun k hk p=>by have:=(Klb (s:=s) ha (r:=(k:Int)) za p).bnd;omega⟩
def Jsb {a:XAir} {s:XSetting} (ha:AirOk a):Ends U2 a s:=⟨fun k hk p=>by have:=(Zsa (s:=s) ha (r:=(k:Int)) za p).bnd;omega⟩
section
variable {F G:(Int→XSpan)→Int→Int} {a:XAir} {s:XSetting} {ps:List Int} {v:Int}
def K7b (hF:Ends F a s) (hG:Ends G a s) {k:Nat} (hk:k < a.mine.roads.l.length):-1048577≤Ysa F G a s ps v k∧Ysa F G a s ps v k≤1048577:=by
 have h1:=hF.bnd k hk (Kta a ps k);have h2:=hG.bnd k hk (Kta a ps k);unfold Ysa;split;·omega
 ·
  split;·exact h1
  ·split <;> omega
def J0d (hF : Ends F a s) (hG : Ends G a s) : ∀ k : Nat, k ≤ a.mine.roads.l.length → -(1048577 * (k : Int)) ≤ U9c F G a s ps v k ∧ U9c F G a s ps v k ≤ 1048577 * (k : Int)
 | 0,_=>by simp [U9c]
 | k + 1,hk=>by
  have ih:=J0d hF hG k za
  have h:=K7b (ps:=ps) (v:=v) hF hG (k:=k) za
  rw [U9c]
  omega
def Jbc (F G : (Int → XSpan) → Int → Int) (a : XAir) (s : XSetting) (ps : List Int) (v : Int) (n : Nat) : List Int → Int
 | []=>0
 | e :: l=>Jbc F G a s ps v n l + Ysa F G a s ps v ((Ur a n).getD e.toNat 0)
def U2b (n:Nat) (l m:List Int):Jbc F G a s ps v n (l ++ m)=Jbc F G a s ps v n l + Jbc F G a s ps v n m:=by
 induction l with
 | nil=>simp [Jbc]
 | cons e l ih=>rw [yz,Jbc,Jbc,ih];omega
def Uxa (a : XAir) {k : Nat} : ∀ {n : Nat}, k ≤ n → ∃ m, Ur a n = Ur a k ++ m
 | 0,h=>⟨[],by rw [show k=0 by omega];rfl⟩
 | n + 1,h=>by
  rcases yl n k with h' | h'
  ·exact ⟨[],by rw [show k=n + 1 by omega];simp⟩
  ·obtain ⟨m, hm⟩ := Uxa a (k := k) (n := n) h'
   rw [Ur]
   split
   ·exact ⟨m,hm⟩
   ·exact ⟨m ++ [n],by rw [hm,yo]⟩
def Vpc (a:XAir) {k n:Nat} (hk:k < n) (hc:¬ (a.mine.roads.l.getD k default).closed=true):(Ur a n).getD (Ur a k).length 0=k:=by obtain ⟨m,hm⟩:=Uxa a (show k + 1≤n from hk);rw [hm,Ur,if_neg hc,yo,yh,yD (yn _)];simp
def J6d (n : Nat) {v : Nat} : ∀ k, k ≤ n → Jbc F G a s ps v n (Jyd a v k) = U9c F G a s ps v k
 | 0,_=>rfl
 | k + 1,hk=>by
  have ih:=J6d n (v:=v) k za
  rw [Jyd,U9c]
  split
  ·rename_i hc
   rw [ih,Ysa,if_pos hc];omega
  ·rename_i hc
   split
   ·rename_i hv
    rw [U2b,ih,Jbc,Jbc,yB,Vpc a za hc]
    omega
   ·rename_i hv
    rw [ih,Ysa,if_neg hc,if_neg (fun h=>hv (.inl h)),if_neg (fun h=>hv (.inr h))];omega
def Uvb (a : XAir) {v : Nat} : ∀ k, ∀ e ∈ Jyd a v k, ∃ i : Nat, i < k ∧ e = ((Ur a i).length : Int) ∧ ¬ (a.mine.roads.l.getD i default).closed = true ∧ ((a.mine.roads.l.getD i default).fr = (v : Int) ∨ (a.mine.roads.l.getD i default).to = (v : Int))
 | 0,e,h=>by cases h
 | k + 1,e,h=>by
  rw [Jyd] at h
  split at h
  ·obtain ⟨i,h1,h2⟩:=Uvb a k e h;exact ⟨i,by omega,h2⟩
  ·rename_i hc
   split at h
   ·rename_i hv
    rcases List.mem_append.1 h with h | h
    ·obtain ⟨i,h1,h2⟩:=Uvb a k e h;exact ⟨i,by omega,h2⟩
    ·rw [List.mem_singleton.1 h];exact ⟨k,by omega,rfl,hc,hv⟩
   ·obtain ⟨i,h1,h2⟩:=Uvb a k e h;exact ⟨i,by omega,h2⟩
end
structure MonoE (F:(Int→XSpan)→Int→Int) (a:XAir) (s:XSetting):Prop where
 mono:∀k:Nat,k < a.mine.roads.l.length→∀p q:Int,p≤q→F (K8 a s k) p≤F (K8 a s k) q
def Umd {a:XAir} {s:XSetting} (ha:AirOk a):MonoE Vs a s:=⟨fun k hk p q h=>Vdc (s:=s) ha (r:=(k:Int)) za h⟩
def U1c {a:XAir} {s:XSetting} (ha:AirOk a):MonoE U2 a s:=⟨fun k hk p q h=>Kfc (s:=s) ha (r:=(k:Int)) za h⟩
structure Above (ps qs:List Int) (v:Int):Prop where
 own:ps.getD v.toNat 0≤qs.getD v.toNat 0
 rest:∀k:Nat,k≠v.toNat→qs.getD k 0≤ps.getD k 0
def U7b {F G : (Int → XSpan) → Int → Int} {a : XAir} {s : XSetting} {ps qs : List Int} {v : Int} (ha : AirOk a) (hF : MonoE F a s) (hG : MonoE G a s) (h : Above ps qs v) : ∀ k : Nat, k ≤ a.mine.roads.l.length → U9c F G a s ps v k ≤ U9c F G a s qs v k
 | 0,_=>yG _
 | k + 1,hk=>by
  have ih:=U7b ha hF hG h k za
  have hro:=ha.mine.road k _ zqc
  have h1:=hro.fr
  have h2:=hro.to
  have h3:=hro.ne
  have ho:=h.own
  rw [U9c,U9c,Ysa,Ysa]
  split
  ·omega
  ·split
   ·rename_i hf
    have hr:=h.rest (a.mine.roads.l.getD k default).to.toNat za
    have:=hF.mono k za (Kta a ps k) (Kta a qs k) (by rw [Kta,Kta,hf];omega)
    omega
   ·split
    ·rename_i hf ht
     have hr:=h.rest (a.mine.roads.l.getD k default).fr.toNat za
     have:=hG.mono k za (Kta a qs k) (Kta a ps k) (by rw [Kta,Kta,ht];omega)
     omega
    ·omega
def J8e {a:XAir} {s:XSetting} {ps qs:List Int} {v:Int} (ha:AirOk a) (h:Above ps qs v):Uic a s ps v≤Uic a s qs v:=U7b ha (Umd ha) (U1c ha) h _ (yn _)
def V2d {a:XAir} {s:XSetting} {ps qs:List Int} {v:Int} (ha:AirOk a) (h:Above ps qs v):Vua a s ps v≤Vua a s qs v:=U7b ha (U1c ha) (Umd ha) h _ (yn _)
def Uea {l:List Int} {k i:Nat} {v:Int} (hk:k < l.length):(l.set k v).getD i 0=if i=k then v else l.getD i 0:=by exact uaE
def Vxc {ps:List Int} {v x y:Int} (hv:v.toNat < ps.length) (h:x≤y):Above (ps.set v.toNat x) (ps.set v.toNat y) v:=
 ⟨by rw [Uea hv,Uea hv,if_pos rfl,if_pos rfl];exact h,fun k hk=>by rw [Uea hv,Uea hv,if_neg hk,if_neg hk];exact yG _⟩
def Yja {l:List Int} {k:Nat}:l.set k (l.getD k 0)=l:=by
 rcases yl k l.length with h | h;·have := Ju (l := l) (k := k) 0 h;obtain ⟨_,h2⟩:=List.getElem?_eq_some_iff.1 this;rw [← h2,List.set_getElem_self]
 ·exact List.set_eq_of_length_le h
def PresOk (ps:List Int):Prop:=∀p∈ps,-70368744177664≤p∧p≤70368744177664
def PresOk.get {ps:List Int} (h:PresOk ps) (k:Nat):-70368744177664≤ps.getD k 0∧ps.getD k 0≤70368744177664:=by
 rcases yl k ps.length with h' | h';·exact h _ (yi (Ju (l:=ps) 0 h'))
 ·rw [yh,yr h'];decide
def PresOk.set {ps:List Int} (h:PresOk ps) (k:Nat) {x:Int} (hx:-70368744177664≤x∧x≤70368744177664):PresOk (ps.set k x):=fun p hp=>by
 rcases yqb hp with h1 | h1
 ·exact h p h1
 ·rw [h1];exact hx
end Go.Proofs.YtchfclmokpbldaaGreat
end
section
namespace Go.Proofs.YtchfclmokpbldaaGreat
open Go.Aw Go
set_option maxRecDepth 20000
attribute [local irreducible] CJ LJ DJ Tri YV Gives Uo J0 Kj Un RV J2 OwL.L
structure Entry (n:XNet) (a:XAir) (s:XSetting) (v:Int) (e:Int) (i:Nat) (p:XPipe):Prop where
 hi:i < a.mine.roads.l.length
 he:0≤e∧e < n.pipes.l.length
 get:n.pipes.l[e.toNat]?=some p
 num:(Ur a a.mine.roads.l.length).getD e.toNat 0=i
 is:PipeIs a s i p
 ok:PipeOk p
 drop:Zna p=K8 a s i
 closed:¬ (a.mine.roads.l.getD i default).closed=true
 ends:(a.mine.roads.l.getD i default).fr=v∨(a.mine.roads.l.getD i default).to=v
 fr:p.road.fr=(a.mine.roads.l.getD i default).fr
 to:p.road.to=(a.mine.roads.l.getD i default).to
 road:RoadOk a.mine.places.l.length (a.mine.roads.l.getD i default)
def NetIs.entry {n:XNet} {a:XAir} {s:XSetting} (hn:NetIs a s n) (ha:AirOk a) {v:Nat} {e:Int} (he:e∈Jyd a v a.mine.roads.l.length):∃(i:Nat) (p:XPipe),Entry n a s v e i p:=by
 obtain ⟨i,hi,rfl,hc,hv⟩:=Uvb a _ e he;have hget:=Vpc a hi hc;have hlt:(Ur a i).length < (Ur a a.mine.roads.l.length).length:=by obtain ⟨m,hm⟩:=Uxa a (show i + 1≤a.mine.roads.l.length from hi);rw [hm,Ur,if_neg hc];simp only [yj,ym];omega
 have hg:(Ur a a.mine.roads.l.length)[(Ur a i).length]?=some i:=by rw [Ju 0 hlt,hget]
 have hnum:=congrArg (fun l=>l[(Ur a i).length]?) hn.nums;simp only [yt,hg,yNa] at hnum;obtain ⟨p,hp,hpn⟩:=Option.map_eq_some_iff.1 hnum;have hpi:=hn.pipe p (yi hp);rw [hpn] at hpi;have hlp:=(List.getElem?_eq_some_iff.1 hp).1;refine ⟨i,p,hi,by omega,by rw [yB];exact hp,by rw [yB];exact hget,hpi,Ysc ha za hpi,funext fun q=>Upd hpi q,hc,hv,?_,?_,ha.mine.road i _ (Ju default hi)⟩;·rw [hpi.road,yB]
 ·rw [hpi.road,yB]
section
variable {F G:(Int→XSpan)→Int→Int} {a:XAir} {s:XSetting} {ps:List Int} {v:Int}
def Ujc {n:Nat} {l:List Int} {k:Nat} {e:Int} (he:l[k]?=some e):Jbc F G a s ps v n (l.take (k + 1))=Jbc F G a s ps v n (l.take k) + Ysa F G a s ps v ((Ur a n).getD e.toNat 0):=by
 have:l.take (k + 1)=l.take k ++ [e]:=by rw [yna,he];rfl
 rw [this,U2b,Jbc,Jbc];omega
def Kqe {a:XAir} {n:Nat} (hn:1≤n) (i:Nat):(Ur a n).getD i 0 < n:=by
 rcases yl i (Ur a n).length with h | h;·have := yi (Ju (l := Ur a n) 0 h);exact (Yka.1 this).1
 ·rw [yh,yr h];exact hn
def Z0a (hF : Ends F a s) (hG : Ends G a s) (hn : 1 ≤ a.mine.roads.l.length) : ∀ l : List Int, -(1048577 * (l.length : Int)) ≤ Jbc F G a s ps v a.mine.roads.l.length l ∧ Jbc F G a s ps v a.mine.roads.l.length l ≤ 1048577 * (l.length : Int)
 | []=>by simp [Jbc]
 | e :: l=>by
  have ih:=Z0a hF hG hn l
  have h:=K7b (ps:=ps) (v:=v) hF hG (k:=(Ur a a.mine.roads.l.length).getD e.toNat 0) (Kqe hn _)
  rw [Jbc,yv]
  omega
end
def InR.arr {x:Arr (Arr Int)} {R:LS} (h:InR (Vva x) R) {i:Nat} {y:Arr Int} (hi:x.l[i]?=some y):InR (isl y) R:=
 h.sub (.deep (List.mem_map.2 ⟨y,yi hi,rfl⟩) .here)
def Jfc (n:XNet) (a:XAir) (s:XSetting) (ps:Arr Int) (v:Int) (L:LB) (R:LS) (hpp:InR (Yna n.pipes) R) (haa:InR (Vva n.at_) R) (hps:InR (isl ps) R) (hn:NetIs a s n) (ha:AirOk a) (hl:ps.l.length=a.mine.places.l.length) (hb:PresOk ps.l) (hv:0≤v∧v < a.mine.places.l.length):
 Tri Tryz.prog 241 [n.val,ps.val,.int .i64 v].toArray L R (fun w M U=>w=.int .i64 (Uic a s ps.l v)∧L=M∧R=U):=by
 obtain ⟨x,hx⟩:=Kh (l:=n.at_.l) (k:=v.toNat) (by rw [hn.atl];omega);have hxl:=hn.at_ _ _ hx;have hxI:=InR.arr haa hx;have hnr:=ha.mine.roads;have hatl:=hn.atl;have hxn:x.l.length≤a.mine.roads.l.length:=by rw [hxl];exact Kka a _ _
 refine Je 57 Tryz.call241 Tryz.func241 rfl rfl rfl ?_;apply (Xag);intro b3;apply Xah∘Xaq∘Xaj∘Uuf∘qa7∘qag∘Xao;refine Jk [(1,.slice _ _ _),(2,.int _ _),(3,.pointer _),(7,.int _ _),(16,.slice _ _ _),(17,.int _ _),(18,.int _ _)] zh fun tq0=>?_;refine q_s ([7,9,10,11]++rg 18 38) (fun g:{k:Nat // k≤x.l.length}=>[(7,.int .i64 (Jbc Vs U2 a s ps.l v a.mine.roads.l.length (x.l.take g.1))),(18,.int .i64 ((g.1:Nat):Int))]) (fun g=>x.l.length - g.1) (⟨0,by omega⟩) ?_;rintro ⟨k,hk⟩ junk;try dsimp only
 apply (Xan);refine q_c ?_ ?_<;>intro hc0;·
  obtain ⟨e,he⟩:=Kh (l:=x.l) (k:=k) za;obtain ⟨i,p,hE⟩:=hn.entry ha (v:=v.toNat) (e:=e) (by rw [← hxl];exact yi he);have hek:=hE.he;have hpg:=hE.get;have hpI:=InR.pipe hpp hpg;have hro:=hE.road;have hr1:=hro.fr;have hr2:=hro.to;have hef:=hE.fr;have het:=hE.to;have hi:=hE.hi;have hsb:=Z0a (ps:=ps.l) (v:=v) (Upb (s:=s) ha) (Jsb (s:=s) ha) za (x.l.take k);have htl:(x.l.take k).length≤k:=List.length_take_le _ _;have hst:=Ujc (F:=Vs) (G:=U2) (a:=a) (s:=s) (ps:=ps.l) (v:=v) (n:=a.mine.roads.l.length) he;rw [hE.num] at hst;have hpf:=Ju (l:=ps.l) (k:=p.road.fr.toNat) 0 za;have hpt:=Ju (l:=ps.l) (k:=p.road.to.toNat) 0 za;have hbf:=hb.get p.road.fr.toNat;have hbt:=hb.get p.road.to.toNat;have hdf:Kta a ps.l i=ps.l.getD p.road.fr.toNat 0 - ps.l.getD p.road.to.toNat 0:=by rw [Kta,hef,het]
  have hfl:=(Upb (s:=s) ha).bnd i hi (Kta a ps.l i);have hfh:=(Jsb (s:=s) ha).bnd i hi (Kta a ps.l i);rw [← hE.drop,hdf] at hfl hfh;rw [Ysa,if_neg hE.closed,hdf,← hE.drop,← hef] at hst;have hends:=hE.ends;rw [← hef,← het] at hends;apply qbb∘qa3∘qa7∘Xah∘Xaj∘Vuf∘qdx∘qaq;intro b10;apply (Xdo);refine Kk tb [0,1,2,3,4,5,6,7,8,9,10,11,12,13] _ Kr zc ye ?_;apply K8e∘Xdp∘Ugf∘qbl∘K8e∘Xdp∘Ysf∘qbl∘qb7∘qcg;refine J3 (Jb (Jl (Jf ?_)));apply qab∘Xaj∘Xbf;refine q_c ?_ ?_<;>intro hc1;·rw [if_pos hc1] at hst;apply Xbi∘qdi∘qaa;refine q_l rfl zrc ?_;exact (qar) zmd
  rw [if_neg hc1,if_pos za] at hst;apply Xbi∘qdi∘qaa;refine q_l rfl zsc ?_;exact (qa9) zmd
 obtain rfl:k=x.l.length:=by omega
 apply Xdg∘Xai;refine q_i L R ?_;have e:=J6d (F:=Vs) (G:=U2) (a:=a) (s:=s) (ps:=ps.l) (v:=v.toNat) a.mine.roads.l.length a.mine.roads.l.length (yn _);rw [yma hv.1] at e;exact ⟨by rw [Uic,yhc,hxl,e],rfl,rfl⟩
def Vcb (n:XNet) (a:XAir) (s:XSetting) (ps:Arr Int) (v:Int) (L:LB) (R:LS) (hpp:InR (Yna n.pipes) R) (haa:InR (Vva n.at_) R) (hps:InR (isl ps) R) (hn:NetIs a s n) (ha:AirOk a) (hl:ps.l.length=a.mine.places.l.length) (hb:PresOk ps.l) (hv:0≤v∧v < a.mine.places.l.length):
 Tri Tryz.prog 242 [n.val,ps.val,.int .i64 v].toArray L R (fun w M U=>w=.int .i64 (Vua a s ps.l v)∧L=M∧R=U):=by
 obtain ⟨x,hx⟩:=Kh (l:=n.at_.l) (k:=v.toNat) (by rw [hn.atl];omega);have hxl:=hn.at_ _ _ hx;have hxI:=InR.arr haa hx;have hnr:=ha.mine.roads;have hatl:=hn.atl;have hxn:x.l.length≤a.mine.roads.l.length:=by rw [hxl];exact Kka a _ _
 refine Je 57 Tryz.call242 Tryz.func242 rfl rfl rfl ?_;apply (Xag);intro b3;apply Xah∘Xaq∘Xaj∘Uuf∘qa7∘qag∘Xao;refine Jk [(1,.slice _ _ _),(2,.int _ _),(3,.pointer _),(7,.int _ _),(16,.slice _ _ _),(17,.int _ _),(18,.int _ _)] zh fun tq0=>?_;refine q_s ([7,9,10,11]++rg 18 38) (fun g:{k:Nat // k≤x.l.length}=>[(7,.int .i64 (Jbc U2 Vs a s ps.l v a.mine.roads.l.length (x.l.take g.1))),(18,.int .i64 ((g.1:Nat):Int))]) (fun g=>x.l.length - g.1) (⟨0,by omega⟩) ?_;rintro ⟨k,hk⟩ junk;try dsimp only
 apply (Xan);refine q_c ?_ ?_<;>intro hc0;·
  obtain ⟨e,he⟩:=Kh (l:=x.l) (k:=k) za;obtain ⟨i,p,hE⟩:=hn.entry ha (v:=v.toNat) (e:=e) (by rw [← hxl];exact yi he);have hek:=hE.he;have hpg:=hE.get;have hpI:=InR.pipe hpp hpg;have hro:=hE.road;have hr1:=hro.fr;have hr2:=hro.to;have hef:=hE.fr;have het:=hE.to;have hi:=hE.hi;have hsb:=Z0a (ps:=ps.l) (v:=v) (Jsb (s:=s) ha) (Upb (s:=s) ha) za (x.l.take k);have htl:(x.l.take k).length≤k:=List.length_take_le _ _;have hst:=Ujc (F:=U2) (G:=Vs) (a:=a) (s:=s) (ps:=ps.l) (v:=v) (n:=a.mine.roads.l.length) he;rw [hE.num] at hst;have hpf:=Ju (l:=ps.l) (k:=p.road.fr.toNat) 0 za;have hpt:=Ju (l:=ps.l) (k:=p.road.to.toNat) 0 za;have hbf:=hb.get p.road.fr.toNat;have hbt:=hb.get p.road.to.toNat;have hdf:Kta a ps.l i=ps.l.getD p.road.fr.toNat 0 - ps.l.getD p.road.to.toNat 0:=by rw [Kta,hef,het]
  have hfl:=(Jsb (s:=s) ha).bnd i hi (Kta a ps.l i);have hfh:=(Upb (s:=s) ha).bnd i hi (Kta a ps.l i);rw [← hE.drop,hdf] at hfl hfh;rw [Ysa,if_neg hE.closed,hdf,← hE.drop,← hef] at hst;have hends:=hE.ends;rw [← hef,← het] at hends;apply qbb∘qa3∘qa7∘Xah∘Xaj∘Vuf∘qdx∘qaq;intro b10;apply (Xdo);refine Kk tb [0,1,2,3,4,5,6,7,8,9,10,11,12,13] _ Kr zc ye ?_;apply K8e∘Xdp∘Ugf∘qbl∘K8e∘Xdp∘Ysf∘qbl∘qb7∘qcg;refine J3 (Jb (Jl (Jf ?_)));apply qab∘Xaj∘Xbf;refine q_c ?_ ?_<;>intro hc1;·rw [if_pos hc1] at hst;apply Xbi∘qdi∘qaa;refine q_l rfl zsc ?_;exact (qar) zmd
  rw [if_neg hc1,if_pos za] at hst;apply Xbi∘qdi∘qaa;refine q_l rfl zrc ?_;exact (qa9) zmd
 obtain rfl:k=x.l.length:=by omega
 apply Xdg∘Xai;refine q_i L R ?_;have e:=J6d (F:=U2) (G:=Vs) (a:=a) (s:=s) (ps:=ps.l) (v:=v.toNat) a.mine.roads.l.length a.mine.roads.l.length (yn _);rw [yma hv.1] at e;exact ⟨by rw [Vua,yhc,hxl,e],rfl,rfl⟩
end Go.Proofs.YtchfclmokpbldaaGreat
end
section
namespace Go.Proofs.YtchfclmokpbldaaGreat
open Go.Aw Go
set_option maxRecDepth 20000
attribute [local irreducible] CJ LJ DJ Tri YV Gives Uo J0 Kj Un RV J2 OwL.L
abbrev sgn (up:Bool):Int:=if up then 1 else -1
abbrev Jlb (up:Bool) (start:Int):Int:=if up then 70368744177664 - start else start + 70368744177664
structure First (g:Int→Bool) (start:Int) (up:Bool) (v:Int) (ok:Bool):Prop where
 yes:ok=true→∃m,0≤m∧m≤Jlb up start∧v=start + sgn up * m∧g v=true∧∀j,0≤j→j < m→g (start + sgn up * j)=false
 no:ok=false→v=0∧∀j,0≤j→j≤Jlb up start→g (start + sgn up * j)=false
def Stays (g:Int→Bool) (start:Int) (up:Bool):Prop:=∀i j,0≤i→i≤j→j≤Jlb up start→g (start + sgn up * i)=true→g (start + sgn up * j)=true
def Stays.no {g:Int→Bool} {start:Int} {up:Bool} (h:Stays g start up) {i j:Int} (h0:0≤i) (hij:i≤j) (hj:j≤Jlb up start) (hg:g (start + sgn up * j)=false):g (start + sgn up * i)=false:=by
 cases e:g (start + sgn up * i) with
 | false=>rfl
 | true=>rw [h i j h0 hij hj e] at hg;cases hg
def J8c {up:Bool} {z:Int} (h:0≤z∧z≤281474976710656):-281474976710656≤sgn up * z∧sgn up * z≤281474976710656:=by cases up <;> simp only [sgn] <;> simp <;> omega
def Uyd {up:Bool} {start z:Int} (hs:-70368744177664≤start∧start≤70368744177664) (h:0≤z∧z≤Jlb up start):-70368744177664≤start + sgn up * z∧start + sgn up * z≤70368744177664:=by cases up <;> simp only [sgn,Jlb] at h ⊢ <;> simp at h ⊢ <;> omega
def Ycb {up:Bool} {start:Int} (hs:-70368744177664≤start∧start≤70368744177664):0≤Jlb up start∧Jlb up start≤140737488355328:=by cases up <;> simp [Jlb] <;> omega
def Jdc (f : FuncId) (cap : Array Value) (LL : Int → LB) (g : Int → Bool) (start : Int) (up : Bool) (y : Int) (R : LS) (hs : -70368744177664 ≤ start ∧ start ≤ 70368744177664) (hm : Stays g start up)
 (hc:∀x y,-70368744177664≤x∧x≤70368744177664→Tri Tryz.prog f (.int .i64 x :: cap.toList).toArray (LL y) R (fun v M U=>v=.bool (g x)∧LL x=M∧R=U)):
 Tri Tryz.prog 278 [.int .i64 start,.bool up,.func (.func f) #[] cap].toArray (LL y) R (fun v M U=>∃(z:Int) (ok:Bool) (y':Int),v=.tuple #[.int .i64 z,.bool ok]∧First g start up z ok∧LL y'=M∧R=U):=by
 have hro:=Ycb (up:=up) hs;have h00:start + sgn up * 0=start:=by simp
 refine Je 80 Tryz.call278 Tryz.func278 rfl rfl rfl ?_;apply Xac∘qaz∘qaw;refine Jx zSb rfl ?_;apply (qaa);refine Vic (Kja rfl rfl (hc start y hs)) rfl rfl ?_;rintro v M U ⟨rfl,rfl,rfl⟩;apply (qaf);refine q_c ?_ ?_<;>intro hc0;·apply Xbr∘Xbz∘qbh;refine q_r (LL start) R zXc ?_;exact ⟨start,true,start,rfl,⟨fun _=>⟨0,by omega,by omega,h00.symm,hc0,fun j h1 h2=>by omega⟩,fun h=>by cases h⟩,rfl,rfl⟩
 apply qbv∘Xba∘qad∘Xaq∘qah∘Xbg;refine V8 [8,9,21,22] ((⟨fun _=>[(8,.int .i64 (sgn up)),(9,.int .i64 (Jlb up start))],fun _=>LL start,fun _=>R,fun _=>0⟩:Head Unit)) ?_ ?_;·
  skip
  refine q_c ?_ ?_<;>intro hc1;·apply qay∘Xa0∘qad∘Xar;subst hc1;exact q_j ()
  refine J1 ?_;subst hc1;exact q_j ()
 rintro u junk;try dsimp only
 apply Xac∘Xb4;refine V8 ([10,11]++rg 23 16) ((⟨fun g=>[(10,.int .i64 g.1.1),(11,.int .i64 g.1.2.1)],fun g=>LL g.1.2.2,fun _=>R,fun _=>0⟩:Head {q:Int×Int×Int // (0≤q.1∧q.1 < q.2.1∧q.2.1≤281474976710656)∧g (start + sgn up * q.1)=false∧(q.1=0∨q.1 < Jlb up start)∧(q.2.1 < Jlb up start→g (start + sgn up * q.2.1)=true)})) ?_ ?_;·
  refine Kb ?_;refine Va ([10,11]++rg 23 16) zI [(10,.int _ _),(11,.int _ _)] zh fun tq0=>?_;refine q_p ([10,11]++rg 23 16) ((⟨fun g=>[(10,.int .i64 g.1.1),(11,.int .i64 g.1.2.1)],fun g=>LL g.1.2.2,fun _=>R,fun g=>(Jlb up start + 1 - g.1.1).toNat⟩:Head {q:Int×Int×Int // ((q.1=0∧q.2.1=1)∨(1≤q.1∧q.2.1=q.1 * 2))∧g (start + sgn up * q.1)=false∧(q.1=0∨q.1 < Jlb up start)})) (⟨(0,1,start),.inl ⟨rfl,rfl⟩,by rw [h00];exact hc0,.inl rfl⟩) ?_;rintro ⟨⟨bad,good,y2⟩,hbg,hbf,hbr⟩ junk;try dsimp only
  dsimp only at hbg hbf hbr;have hgm:=J8c (up:=up) (z:=good) za;apply Xaw∘Xb5;refine Zm (k:=26) zfb (fun hg4=>?_) (fun hg4=>?_);·
   replace hg4:=qb hg4;refine Vn zSb rfl rfl ?_;(iterate 3 refine Vn (Jz zgb) rfl rfl ?_);apply Ykf∘Ztf;refine Vic (Kja rfl rfl (hc (start + sgn up * good) y2 (Uyd hs za))) rfl rfl ?_;rintro v M U ⟨rfl,rfl,rfl⟩;refine Vn (Kpb rfl) rfl rfl ?_;apply V0e∘qaf;refine q_c ?_ ?_<;>intro hc2;·refine J1 (Jb (Jl (Kb (Jf ?_))));apply qaa∘qad∘qcs∘Xc5∘Xar;exact q_k ⟨(good,good * 2,start + sgn up * good),by dsimp only;omega,by simpa using hc2,by dsimp only;omega⟩
   exact zqd
  replace hg4:=qb hg4;iterate 8 refine Kwb rfl rfl ?_
  apply V0e∘qaf;refine Zn rfl ?_;exact zqd
 rintro ⟨⟨bad,good,y2⟩,hbg,hbf,hbr,hgt⟩ junk;try dsimp only
 dsimp only at hbg hbf hbr hgt;apply Xaw∘qaa∘Xcj;refine V8 ([6,7,11]++rg 42 14) ((⟨fun q=>[(11,.int .i64 q.1.1)],fun q=>LL q.1.2,fun _=>R,fun _=>0⟩:Head {q:Int×Int // bad < q.1∧q.1≤Jlb up start∧g (start + sgn up * q.1)=true})) ?_ ?_;·
  skip
  refine q_c ?_ ?_<;>intro hc3;·
   apply Xbr∘Xb4;have hgm:=J8c (up:=up) (z:=Jlb up start) za;apply Xbi∘qaa∘qbx∘qah;refine Zm (k:=46) zfb (fun hg4=>?_) (fun hg4=>?_);·replace hg4:=qb hg4;(iterate 8 refine Kwb rfl rfl ?_);apply V0e∘qaf;refine U9 rfl ?_;exact uau
   replace hg4:=qb hg4;refine Vn zSb rfl rfl ?_;(iterate 3 refine Vn (Jz zgb) rfl rfl ?_);apply Ykf∘Ztf;refine Vic (Kja rfl rfl (hc (start + sgn up * Jlb up start) y2 (Uyd hs za))) rfl rfl ?_;rintro v M U ⟨rfl,rfl,rfl⟩;refine Vn (Kpb rfl) rfl rfl ?_;apply V0e∘qaf;refine q_c ?_ ?_<;>intro hc4;·exact uau
   refine J1 ?_;exact q_j ⟨(Jlb up start,start + sgn up * Jlb up start),by dsimp only;omega,by dsimp only;omega,by simpa using hc4⟩
  refine J1 ?_;exact q_j ⟨(good,y2),by dsimp only;omega,by dsimp only;omega,hgt za⟩
 rintro ⟨⟨good2,y3⟩,h31,h32,h33⟩ junk;try dsimp only
 dsimp only at h31 h32 h33;refine Jl (Kb ?_);refine Jk [(0,.int _ _),(2,_),(8,.int _ _),(10,.int _ _),(11,.int _ _)] zh fun tq1=>?_;refine q_p ([10,11,12]++rg 56 19) ((⟨fun q=>[(10,.int .i64 q.1.1),(11,.int .i64 q.1.2.1)],fun q=>LL q.1.2.2,fun _=>R,fun q=>(q.1.2.1 - q.1.1).toNat⟩:Head {q:Int×Int×Int // (0≤q.1∧q.1 < q.2.1∧q.2.1≤Jlb up start)∧g (start + sgn up * q.1)=false∧g (start + sgn up * q.2.1)=true})) (⟨(bad,good2,y3),by dsimp only;omega,hbf,h33⟩) ?_;rintro ⟨⟨lo,hi,y4⟩,q1,q2,q3⟩ junk;try dsimp only
 dsimp only at q1 q2 q3;apply Xaw∘Xad∘Xa2;refine q_c ?_ ?_<;>intro hc5;·
  obtain ⟨mid,hmid⟩:∃mid,mid=lo + (hi - lo).tdiv 2:=⟨_,rfl⟩;have hmb:lo < mid∧mid < hi:=by rw [yZ za] at hmid;omega
  have hdv:0≤(hi - lo).tdiv 2∧(hi - lo).tdiv 2≤hi - lo:=by rw [yZ za];omega
  refine J1 (Jb (Kb (Jl (Jf ?_))));iterate 3 apply (qaa)
  apply qa9∘qdd∘qar∘Xb4;rw [← hmid];have hgm:=J8c (up:=up) (z:=mid) za;apply (qay);refine Jx zSb rfl ?_;iterate 3 apply (qaa)
  apply qcm∘qar;refine Vic (Kja rfl rfl (hc (start + sgn up * mid) y4 (Uyd hs za))) rfl rfl ?_;rintro v M U ⟨rfl,rfl,rfl⟩;apply (qaf);refine q_c ?_ ?_<;>intro hc6;·apply Xbi∘qad;refine J5 (Jd ?_);exact q_k ⟨(lo,mid,start + sgn up * mid),by dsimp only;omega,q2,hc6⟩
  apply Xbi∘qad;refine J5 (Jd ?_);exact q_k ⟨(mid,hi,start + sgn up * mid),by dsimp only;omega,hc6,q3⟩
 apply (qc3);have hgm:=J8c (up:=up) (z:=hi) za;apply (qay);iterate 3 apply (qaa)
 apply qcm∘qar∘qad∘Xbl;refine q_r (LL y4) R zXc ?_;exact ⟨start + sgn up * hi,true,y4,rfl,⟨fun _=>⟨hi,by omega,by omega,rfl,q3,fun j h1 h2=>hm.no h1 (show j≤lo by omega) za q2⟩,fun h=>by cases h⟩,rfl,rfl⟩
end Go.Proofs.YtchfclmokpbldaaGreat
end
section
namespace Go.Proofs.YtchfclmokpbldaaGreat
open Go.Aw Go
set_option maxRecDepth 20000
attribute [local irreducible] CJ LJ DJ Tri YV Gives Uo J0 Kj Un RV J2 OwL.L
def Tri.lend1 {P : Program} {f : FuncId} {args : Array Value} {A : LB} {R : LS} {p : OwL Int} {T : TypeId} {u : Value} (hin : InB (p.L T Ji) A) (hok : p.ok 1 Ji)
 (h:Tri P f args [] (isl p.arr :: R) (fun v M U=>v=u∧[]=M∧isl p.arr :: R=U)):Tri P f args A R (fun v M U=>v=u∧A=M∧R=U):=by have h2:=Tri.lend (S:=[isl p.arr]) (Post:=fun v M=>v=u∧[]=M) (Spl.rest (L:=A)) (fun w G hh s hs=>by rw [List.mem_singleton.1 hs];exact Yu hh hin hok yf ze yg) (h.mono fun v M U ⟨a1,a2,a3⟩=>⟨⟨a1,a2⟩,a3⟩);exact zDd
def Z6f {o:Ow} {l:List Int} {k:Nat} {y:Int}:(⟨o,l⟩:OwL Int).val=(⟨o,l.set k y⟩:OwL Int).val:=OwL.set_val.symm
structure HypsN (n:XNet) (a:XAir) (s:XSetting) (ps:List Int) (v:Int) (R:LS):Prop where
 pp:InR (Yna n.pipes) R
 aa:InR (Vva n.at_) R
 is:NetIs a s n
 ok:AirOk a
 len:ps.length=a.mine.places.l.length
 pres:PresOk ps
 v:0≤v∧v < a.mine.places.l.length
def Jhf {n:XNet} {a:XAir} {s:XSetting} {o:Ow} {ps:List Int} {v y:Int} {A:LB} {R:LS} (h:HypsN n a s ps v R) (hy:-70368744177664≤y∧y≤70368744177664) (hin:InB ((⟨o,ps.set v.toNat y⟩:OwL Int).L 3 Ji) A) (hok:(⟨o,ps.set v.toNat y⟩:OwL Int).ok 1 Ji):
 Tri Tryz.prog 241 [n.val,(⟨o,ps⟩:OwL Int).val,.int .i64 v].toArray A R (fun w M U=>w=.int .i64 (Uic a s (ps.set v.toNat y) v)∧A=M∧R=U):=by rw [Z6f (k:=v.toNat) (y:=y)];exact Tri.lend1 hin hok (Jfc n a s (⟨o,ps.set v.toNat y⟩:OwL Int).arr v [] _ (h.pp.mono fun r hr=>Ja (.tail _ hr)) (h.aa.mono fun r hr=>Ja (.tail _ hr)) zCb h.is h.ok (by simp [h.len]) (h.pres.set _ hy) h.v)
def Yhe {n:XNet} {a:XAir} {s:XSetting} {o:Ow} {ps:List Int} {v y:Int} {A:LB} {R:LS} (h:HypsN n a s ps v R) (hy:-70368744177664≤y∧y≤70368744177664) (hin:InB ((⟨o,ps.set v.toNat y⟩:OwL Int).L 3 Ji) A) (hok:(⟨o,ps.set v.toNat y⟩:OwL Int).ok 1 Ji):
 Tri Tryz.prog 242 [n.val,(⟨o,ps⟩:OwL Int).val,.int .i64 v].toArray A R (fun w M U=>w=.int .i64 (Vua a s (ps.set v.toNat y) v)∧A=M∧R=U):=by rw [Z6f (k:=v.toNat) (y:=y)];exact Tri.lend1 hin hok (Vcb n a s (⟨o,ps.set v.toNat y⟩:OwL Int).arr v [] _ (h.pp.mono fun r hr=>Ja (.tail _ hr)) (h.aa.mono fun r hr=>Ja (.tail _ hr)) zCb h.is h.ok (by simp [h.len]) (h.pres.set _ hy) h.v)
abbrev Jsf (a:XAir) (s:XSetting) (ps:List Int) (v:Int):Int→Bool:=fun x=>decide (0≤Uic a s (ps.set v.toNat x) v)
abbrev Z2c (a:XAir) (s:XSetting) (ps:List Int) (v:Int):Int→Bool:=fun x=>decide (Vua a s (ps.set v.toNat x) v≤0)
def Yod {a:XAir} {s:XSetting} {ps:List Int} {v start:Int} (ha:AirOk a) (hv:v.toNat < ps.length):Stays (Jsf a s ps v) start true:=by intro i j h0 hij hj hg;rw [decide_eq_true_eq] at hg ⊢;have:=J8e (s:=s) ha (Vxc (ps:=ps) hv (show start + sgn true * i≤start + sgn true * j by simp only [sgn];simp;omega));omega
def Zcc {a:XAir} {s:XSetting} {ps:List Int} {v start:Int} (ha:AirOk a) (hv:v.toNat < ps.length):Stays (Z2c a s ps v) start false:=by intro i j h0 hij hj hg;rw [decide_eq_true_eq] at hg ⊢;have:=V2d (s:=s) ha (Vxc (ps:=ps) hv (show start + sgn false * j≤start + sgn false * i by simp only [sgn];simp;omega));omega
abbrev clL (b8 b5 b3:Nat) (n:XNet) (o:Ow) (ps:List Int) (v:Int) (L:LB) (y:Int):LB:=
 ⟨b8,[(⟨o,ps⟩:OwL Int).val],40⟩ :: ((⟨o,ps.set v.toNat y⟩:OwL Int).L 3 Ji ++ (⟨b5,[.int .i64 v],3⟩ :: ⟨b3,n.cells,221⟩ :: L))
def V1d {b8 b5 b3:Nat} {n:XNet} {a:XAir} {s:XSetting} {o:Ow} {ps:List Int} {u:Int} {L:LB} {R:LS} (h:HypsN n a s ps u R) (hok:(⟨o,ps⟩:OwL Int).ok 1 Ji) (x y:Int) (hx:-70368744177664≤x∧x≤70368744177664):
 Tri Tryz.prog 280 [.int .i64 x,.pointer (some ⟨b8,0,none⟩),.pointer (some ⟨b5,0,none⟩),.pointer (some ⟨b3,0,none⟩)].toArray (clL b8 b5 b3 n o ps u L y) R (fun w M U=>w=.bool (Jsf a s ps u x)∧clL b8 b5 b3 n o ps u L x=M∧R=U):=by have hv:=h.v;have hlen:=h.len;have hok2:∀z,(⟨o,ps.set u.toNat z⟩:OwL Int).ok 1 Ji:=fun z=>OwL.len_ok Uy hok zo;have hoky:=hok2 y;have hget:=Ju (l:=ps.set u.toNat y) (k:=u.toNat) 0 zC;refine Je 15 Tryz.call280 Tryz.func280 rfl rfl rfl ?_;apply Xbm∘qam∘qac∘qac∘qaa∘Ulf∘Z1f;rintro v M U ⟨rfl,rfl⟩;apply (qa4);refine V0 (by rw [yJa]) ?_;apply qay∘qbe∘qac∘qac;refine q_l rfl (Jhf (o:=o) (y:=x) h hx zG (hok2 x)) ?_;apply qbz∘Xbl;refine q_b (clL b8 b5 b3 n o ps u L x) R ?_;exact zkd
def U4c (n:XNet) (a:XAir) (s:XSetting) (ps:Arr Int) (u:Int) (L:LB) (R:LS) (h:HypsN n a s ps.l u R) (hps:InR (isl ps) R):
 Tri Tryz.prog 240 [n.val,ps.val,.int .i64 u].toArray L R (fun w M U=>∃(z:Int) (ok:Bool),w=.tuple #[.int .i64 z,.bool ok]∧First (Jsf a s ps.l u) (ps.l.getD u.toNat 0) true z ok∧L=M∧R=U):=by have hv:=h.v;have hlen:=h.len;have hnp:=h.ok.mine.places;have hget:=Ju (l:=ps.l) (k:=u.toNat) 0 za;have hb:=h.pres.get u.toNat;have hst:=Yod (s:=s) (start:=ps.l.getD u.toNat 0) h.ok (ps:=ps.l) (v:=u) za;refine Je 19 Tryz.call240 Tryz.func240 rfl rfl rfl ?_;apply (Xag);intro b3;refine Zhc (v:=Value.int _ _) rfl rfl rfl ?_;intro b5;apply Xbz∘qam∘qbm∘U8f;rintro v M U ⟨o10,rfl,hok10,rfl,rfl⟩;apply (qaq);intro b8;apply qcy∘qam∘qbm∘qac∘Vnf∘qa7;refine Jx (Zpc rfl) rfl ?_;refine Z9f zpc ?_;refine Jq rfl (Jdc 280 #[.pointer (some ⟨b8,0,none⟩),.pointer (some ⟨b5,0,none⟩),.pointer (some ⟨b3,0,none⟩)] (clL b8 b5 b3 n o10 ps.l u L) (Jsf a s ps.l u) (ps.l.getD u.toNat 0) true (ps.l.getD u.toNat 0) _ hb hst (fun x y hx=>V1d h hok10 x y hx)) rfl ?_;exact zvd
def K7c {b8 b5 b3:Nat} {n:XNet} {a:XAir} {s:XSetting} {o:Ow} {ps:List Int} {u:Int} {L:LB} {R:LS} (h:HypsN n a s ps u R) (hok:(⟨o,ps⟩:OwL Int).ok 1 Ji) (x y:Int) (hx:-70368744177664≤x∧x≤70368744177664):
 Tri Tryz.prog 279 [.int .i64 x,.pointer (some ⟨b8,0,none⟩),.pointer (some ⟨b5,0,none⟩),.pointer (some ⟨b3,0,none⟩)].toArray (clL b8 b5 b3 n o ps u L y) R (fun w M U=>w=.bool (Z2c a s ps u x)∧clL b8 b5 b3 n o ps u L x=M∧R=U):=by have hv:=h.v;have hlen:=h.len;have hok2:∀z,(⟨o,ps.set u.toNat z⟩:OwL Int).ok 1 Ji:=fun z=>OwL.len_ok Uy hok zo;have hoky:=hok2 y;have hget:=Ju (l:=ps.set u.toNat y) (k:=u.toNat) 0 zC;refine Je 15 Tryz.call279 Tryz.func279 rfl rfl rfl ?_;apply Xbm∘qam∘qac∘qac∘qaa∘Ulf∘Z1f;rintro v M U ⟨rfl,rfl⟩;apply (qa4);refine V0 (by rw [yJa]) ?_;apply qay∘qbe∘qac∘qac;refine q_l rfl (Yhe (o:=o) (y:=x) h hx zG (hok2 x)) ?_;apply qbx∘Xbl;refine q_b (clL b8 b5 b3 n o ps u L x) R ?_;exact zkd
def Yeb (n:XNet) (a:XAir) (s:XSetting) (ps:Arr Int) (u:Int) (L:LB) (R:LS) (h:HypsN n a s ps.l u R) (hps:InR (isl ps) R):
 Tri Tryz.prog 239 [n.val,ps.val,.int .i64 u].toArray L R (fun w M U=>∃(z:Int) (ok:Bool),w=.tuple #[.int .i64 z,.bool ok]∧First (Z2c a s ps.l u) (ps.l.getD u.toNat 0) false z ok∧L=M∧R=U):=by have hv:=h.v;have hlen:=h.len;have hnp:=h.ok.mine.places;have hget:=Ju (l:=ps.l) (k:=u.toNat) 0 za;have hb:=h.pres.get u.toNat;have hst:=Zcc (s:=s) (start:=ps.l.getD u.toNat 0) h.ok (ps:=ps.l) (v:=u) za;refine Je 19 Tryz.call239 Tryz.func239 rfl rfl rfl ?_;apply (Xag);intro b3;refine Zhc (v:=Value.int _ _) rfl rfl rfl ?_;intro b5;apply Xbz∘qam∘qbm∘U8f;rintro v M U ⟨o10,rfl,hok10,rfl,rfl⟩;apply (qaq);intro b8;apply qcy∘qam∘qbm∘qac∘Vnf∘qa7;refine Jx (Zpc rfl) rfl ?_;refine Z9f zpc ?_;refine Jq rfl (Jdc 279 #[.pointer (some ⟨b8,0,none⟩),.pointer (some ⟨b5,0,none⟩),.pointer (some ⟨b3,0,none⟩)] (clL b8 b5 b3 n o10 ps.l u L) (Z2c a s ps.l u) (ps.l.getD u.toNat 0) false (ps.l.getD u.toNat 0) _ hb hst (fun x y hx=>K7c h hok10 x y hx)) rfl ?_;exact zvd
end Go.Proofs.YtchfclmokpbldaaGreat
end
section
namespace Go.Proofs.YtchfclmokpbldaaGreat
open Go.Aw Go
set_option maxRecDepth 20000
attribute [local irreducible] CJ LJ DJ Tri YV Gives Uo J0 Kj Un RV J2 OwL.L
end Go.Proofs.YtchfclmokpbldaaGreat
end
section
namespace Go.Proofs.YtchfclmokpbldaaGreat
open Go.Aw Go
set_option maxRecDepth 20000
attribute [local irreducible] CJ LJ DJ Tri YV Gives Uo J0 Kj Un RV J2 OwL.L
def Vwa {ps:List Int} (h:ps.findSome? Uk=none):PresOk ps:=fun p hp=>by
 obtain ⟨i,hi⟩:=List.mem_iff_getElem?.1 hp
 exact Yac h i p hi
def Zga {ps:List Int} (h:PresOk ps):ps.findSome? Uk=none:=List.findSome?_eq_none_iff.2 fun p hp=>by
 have:=h p hp
 exact if_neg za
section
variable {a:XAir} {s:XSetting} {ps:Arr Int} {v:Int}
end
end Go.Proofs.YtchfclmokpbldaaGreat
end
section
namespace Go.Proofs.YtchfclmokpbldaaGreat
open Go.Aw Go
end Go.Proofs.YtchfclmokpbldaaGreat
end
