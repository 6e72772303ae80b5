/-
  Nets: NetS, NetW, Find, LeastW, RefUp, Bal, NetP, in one text. By an AI agent; no person has read it.
-/
import Derived.Test.YtchfclmokpbldaaGreatFits
import Derived.Test.YtchfclmokpbldaaGreatDraws
set_option linter.all false
set_option maxHeartbeats 4000000
section
variable {A B:Prop}
def Kpf(h:A→B:=by exact Ks zZc rfl rfl rfl):=h
def Zle(h:A→B:=by exact Jw zN rfl):=h
def Kqg(h:A→B:=by exact Jw (by first | exact Jd tb rfl rfl rfl rfl zu (i:=v.toNat) zk za | exact Jl tb rfl rfl rfl rfl (i:=v.toNat) zk za) rfl):=h
def J1g(h:A→B:=by exact Jw (by first | exact Jd tb rfl rfl rfl rfl zu (i:=e.toNat) zk za | exact Jl tb rfl rfl rfl rfl (i:=e.toNat) zk za) rfl):=h
def Znf(h:A→B:=by exact Ks (by first | exact Jd tb rfl rfl rfl rfl zu (i:=p.road.fr.toNat) zk za | exact Jl tb rfl rfl rfl rfl (i:=p.road.fr.toNat) zk za) rfl rfl rfl):=h
def K5g(h:A→B:=by exact Ks (by first | exact Jd tb rfl rfl rfl rfl zu (i:=p.road.to.toNat) zk za | exact Jl tb rfl rfl rfl rfl (i:=p.road.to.toNat) zk za) rfl rfl rfl):=h
def K8g(h:A→B:=by exact J0a zHa rfl rfl):=h
def Kag(h:A→B:=by exact J0a zva rfl rfl):=h
def Jig(h:A→B:=by exact Jw (Jo tb ((⟨o,ps.set u.toNat y⟩:OwL Int)) _ rfl rfl ((show _=Value.slice _ _ _ from rfl).trans Vjg) rfl zg (i:=u.toNat) zk zp) rfl):=h
def Kzg(h:A→B:=by exact Vk (Jn tb ((⟨o,ps.set u.toNat y⟩:OwL Int)) (x) rfl rfl rfl rfl zj zg yf zg ze zb zb)):=h
def Zdf(h:A→B:=by exact Za (Kt (f:=Jj) (xs:=ps) tb rfl rfl rfl ze rfl rfl (hps) yf za) rfl):=h
def Upg(h:A→B:=by exact Jw (by first | exact Jd tb rfl rfl rfl rfl zu (i:=u.toNat) zk za | exact Jl tb rfl rfl rfl rfl (i:=u.toNat) zk za) rfl):=h
end
section
namespace Go.Proofs.YtchfclmokpbldaaGreat
open Go.Aw Go
def Ur (a:XAir) (ps:List Int) (k:Nat):Int:=ps.getD (a.mine.roads.l.getD k default).fr.toNat 0 - ps.getD (a.mine.roads.l.getD k default).to.toNat 0
def Uaa (F G:(Int→XSpan)→Int→Int) (a:XAir) (s:XSetting) (ps:List Int) (v:Int) (k:Nat):Int:=
 if (a.mine.roads.l.getD k default).closed=true then 0
 else if (a.mine.roads.l.getD k default).fr=v then F (Ky a s k) (Ur a ps k)
 else if (a.mine.roads.l.getD k default).to=v then -(G (Ky a s k) (Ur a ps k)) else 0
def Jfc (F G : (Int → XSpan) → Int → Int) (a : XAir) (s : XSetting) (ps : List Int) (v : Int) : Nat → Int
 | 0=>0
 | k + 1=>Jfc F G a s ps v k + Uaa F G a s ps v k
def Ugc (a:XAir) (s:XSetting) (ps:List Int) (v:Int):Int:=Jfc Ud K3 a s ps v a.mine.roads.l.length
def U1a (a:XAir) (s:XSetting) (ps:List Int) (v:Int):Int:=Jfc K3 Ud a s ps v a.mine.roads.l.length
structure Ends (F:(Int→XSpan)→Int→Int) (a:XAir) (s:XSetting):Prop where
 bnd:∀k:Nat,k < a.mine.roads.l.length→∀p,-1048577≤F (Ky a s k) p∧F (Ky a s k) p≤1048577
def J6b {a:XAir} {s:XSetting} (ha:AirOk a):Ends Ud a s:=⟨fun k hk p=>by have:=(Ksa (s:=s) ha (r:=(k:Int)) za p).bnd;omega⟩
def Zfa {a:XAir} {s:XSetting} (ha:AirOk a):Ends K3 a s:=⟨fun k hk p=>by have:=(Jea (s:=s) ha (r:=(k:Int)) za p).bnd;omega⟩
section
variable {F G:(Int→XSpan)→Int→Int} {a:XAir} {s:XSetting} {ps:List Int} {v:Int}
def Vhb (hF:Ends F a s) (hG:Ends G a s) {k:Nat} (hk:k < a.mine.roads.l.length):-1048577≤Uaa F G a s ps v k∧Uaa F G a s ps v k≤1048577:=by
 have h1:=hF.bnd k hk (Ur a ps k);have h2:=hG.bnd k hk (Ur a ps k);unfold Uaa;split;·omega
 ·
  split;·exact h1
  ·split <;> omega
def Uvd (hF : Ends F a s) (hG : Ends G a s) : ∀ k : Nat, k ≤ a.mine.roads.l.length → -(1048577 * (k : Int)) ≤ Jfc F G a s ps v k ∧ Jfc F G a s ps v k ≤ 1048577 * (k : Int)
 | 0,_=>by simp [Jfc]
 | k + 1,hk=>by
  have ih:=Uvd hF hG k za
  have h:=Vhb (ps:=ps) (v:=v) hF hG (k:=k) za
  rw [Jfc]
  omega
def Kec (F G : (Int → XSpan) → Int → Int) (a : XAir) (s : XSetting) (ps : List Int) (v : Int) (n : Nat) : List Int → Int
 | []=>0
 | e :: l=>Kec F G a s ps v n l + Uaa F G a s ps v ((U6 a n).getD e.toNat 0)
def Yhb (n:Nat) (l m:List Int):Kec F G a s ps v n (l ++ m)=Kec F G a s ps v n l + Kec F G a s ps v n m:=by
 induction l with
 | nil=>simp [Kec]
 | cons e l ih=>rw [yr,Kec,Kec,ih];omega
def Vha (a : XAir) {k : Nat} : ∀ {n : Nat}, k ≤ n → ∃ m, U6 a n = U6 a k ++ m
 | 0,h=>⟨[],by rw [show k=0 by omega];rfl⟩
 | n + 1,h=>by
  rcases yk n k with h' | h'
  ·exact ⟨[],by rw [show k=n + 1 by omega];simp⟩
  ·obtain ⟨m, hm⟩ := Vha a (k := k) (n := n) h'
   rw [U6]
   split
   ·exact ⟨m,hm⟩
   ·exact ⟨m ++ [n],by rw [hm,yn]⟩
def Zoc (a:XAir) {k n:Nat} (hk:k < n) (hc:¬ (a.mine.roads.l.getD k default).closed=true):(U6 a n).getD (U6 a k).length 0=k:=by obtain ⟨m,hm⟩:=Vha a (show k + 1≤n from hk);rw [hm,U6,if_neg hc,yn,yi,yZ (ym _)];simp
def Kmd (n : Nat) {v : Nat} : ∀ k, k ≤ n → Kec F G a s ps v n (U5d a v k) = Jfc F G a s ps v k
 | 0,_=>rfl
 | k + 1,hk=>by
  have ih:=Kmd n (v:=v) k za
  rw [U5d,Jfc]
  split
  ·rename_i hc
   rw [ih,Uaa,if_pos hc];omega
  ·rename_i hc
   split
   ·rename_i hv
    rw [Yhb,ih,Kec,Kec,yw,Zoc a za hc]
    omega
   ·rename_i hv
    rw [ih,Uaa,if_neg hc,if_neg (fun h=>hv (.inl h)),if_neg (fun h=>hv (.inr h))];omega
def Vyb (a : XAir) {v : Nat} : ∀ k, ∀ e ∈ U5d a v k, ∃ i : Nat, i < k ∧ e = ((U6 a i).length : Int) ∧ ¬ (a.mine.roads.l.getD i default).closed = true ∧ ((a.mine.roads.l.getD i default).fr = (v : Int) ∨ (a.mine.roads.l.getD i default).to = (v : Int))
 | 0,e,h=>by cases h
 | k + 1,e,h=>by
  rw [U5d] at h
  split at h
  ·obtain ⟨i,h1,h2⟩:=Vyb a k e h;exact ⟨i,by omega,h2⟩
  ·rename_i hc
   split at h
   ·rename_i hv
    rcases List.mem_append.1 h with h | h
    ·obtain ⟨i,h1,h2⟩:=Vyb a k e h;exact ⟨i,by omega,h2⟩
    ·rw [List.mem_singleton.1 h];exact ⟨k,by omega,rfl,hc,hv⟩
   ·obtain ⟨i,h1,h2⟩:=Vyb a k e h;exact ⟨i,by omega,h2⟩
end
structure MonoE (F:(Int→XSpan)→Int→Int) (a:XAir) (s:XSetting):Prop where
 mono:∀k:Nat,k < a.mine.roads.l.length→∀p q:Int,p≤q→F (Ky a s k) p≤F (Ky a s k) q
def V4d {a:XAir} {s:XSetting} (ha:AirOk a):MonoE Ud a s:=⟨fun k hk p q h=>Ufa (s:=s) ha (r:=(k:Int)) za h⟩
def Z9c {a:XAir} {s:XSetting} (ha:AirOk a):MonoE K3 a s:=⟨fun k hk p q h=>Kpa (s:=s) ha (r:=(k:Int)) za h⟩
structure Above (ps qs:List Int) (v:Int):Prop where
 own:ps.getD v.toNat 0≤qs.getD v.toNat 0
 rest:∀k:Nat,k≠v.toNat→qs.getD k 0≤ps.getD k 0
def Zhb {F G : (Int → XSpan) → Int → Int} {a : XAir} {s : XSetting} {ps qs : List Int} {v : Int} (ha : AirOk a) (hF : MonoE F a s) (hG : MonoE G a s) (h : Above ps qs v) : ∀ k : Nat, k ≤ a.mine.roads.l.length → Jfc F G a s ps v k ≤ Jfc F G a s qs v k
 | 0,_=>yz _
 | k + 1,hk=>by
  have ih:=Zhb ha hF hG h k za
  have hro:=ha.mine.road k _ zoc
  have h1:=hro.fr
  have h2:=hro.to
  have h3:=hro.ne
  have ho:=h.own
  rw [Jfc,Jfc,Uaa,Uaa]
  split
  ·omega
  ·split
   ·rename_i hf
    have hr:=h.rest (a.mine.roads.l.getD k default).to.toNat za
    have:=hF.mono k za (Ur a ps k) (Ur a qs k) (by rw [Ur,Ur,hf];omega)
    omega
   ·split
    ·rename_i hf ht
     have hr:=h.rest (a.mine.roads.l.getD k default).fr.toNat za
     have:=hG.mono k za (Ur a qs k) (Ur a ps k) (by rw [Ur,Ur,ht];omega)
     omega
    ·omega
def Vwe {a:XAir} {s:XSetting} {ps qs:List Int} {v:Int} (ha:AirOk a) (h:Above ps qs v):Ugc a s ps v≤Ugc a s qs v:=Zhb ha (V4d ha) (Z9c ha) h _ (ym _)
def Zvd {a:XAir} {s:XSetting} {ps qs:List Int} {v:Int} (ha:AirOk a) (h:Above ps qs v):U1a a s ps v≤U1a a s qs v:=Zhb ha (Z9c ha) (V4d ha) h _ (ym _)
def Z2 {l:List Int} {k i:Nat} {v:Int} (hk:k < l.length):(l.set k v).getD i 0=if i=k then v else l.getD i 0:=by exact uaK
def Zuc {ps:List Int} {v x y:Int} (hv:v.toNat < ps.length) (h:x≤y):Above (ps.set v.toNat x) (ps.set v.toNat y) v:=
 ⟨by rw [Z2 hv,Z2 hv,if_pos rfl,if_pos rfl];exact h,fun k hk=>by rw [Z2 hv,Z2 hv,if_neg hk,if_neg hk];exact yz _⟩
def Zia {l:List Int} {k:Nat}:l.set k (l.getD k 0)=l:=by
 rcases yk k l.length with h | h;·have := Jp (l := l) (k := k) 0 h;obtain ⟨_,h2⟩:=List.getElem?_eq_some_iff.1 this;rw [← h2,List.set_getElem_self]
 ·exact List.set_eq_of_length_le h
def PresOk (ps:List Int):Prop:=∀p∈ps,-70368744177664≤p∧p≤70368744177664
def PresOk.get {ps:List Int} (h:PresOk ps) (k:Nat):-70368744177664≤ps.getD k 0∧ps.getD k 0≤70368744177664:=by
 rcases yk k ps.length with h' | h';·exact h _ (yh (Jp (l:=ps) 0 h'))
 ·rw [yi,yu h'];decide
def PresOk.set {ps:List Int} (h:PresOk ps) (k:Nat) {x:Int} (hx:-70368744177664≤x∧x≤70368744177664):PresOk (ps.set k x):=fun p hp=>by
 rcases yYa hp with h1 | h1
 ·exact h p h1
 ·rw [h1];exact hx
end Go.Proofs.YtchfclmokpbldaaGreat
end
section
namespace Go.Proofs.YtchfclmokpbldaaGreat
open Go.Aw Go
set_option maxRecDepth 20000
attribute [local irreducible] CJ LJ DJ Tri YV Gives Uq J2 Kj Ut RV J3 OwL.L
structure Entry (n:XNet) (a:XAir) (s:XSetting) (v:Int) (e:Int) (i:Nat) (p:XPipe):Prop where
 hi:i < a.mine.roads.l.length
 he:0≤e∧e < n.pipes.l.length
 get:n.pipes.l[e.toNat]?=some p
 num:(U6 a a.mine.roads.l.length).getD e.toNat 0=i
 is:PipeIs a s i p
 ok:PipeOk p
 drop:Jbb p=Ky a s i
 closed:¬ (a.mine.roads.l.getD i default).closed=true
 ends:(a.mine.roads.l.getD i default).fr=v∨(a.mine.roads.l.getD i default).to=v
 fr:p.road.fr=(a.mine.roads.l.getD i default).fr
 to:p.road.to=(a.mine.roads.l.getD i default).to
 road:RoadOk a.mine.places.l.length (a.mine.roads.l.getD i default)
def NetIs.entry {n:XNet} {a:XAir} {s:XSetting} (hn:NetIs a s n) (ha:AirOk a) {v:Nat} {e:Int} (he:e∈U5d a v a.mine.roads.l.length):∃(i:Nat) (p:XPipe),Entry n a s v e i p:=by
 obtain ⟨i,hi,rfl,hc,hv⟩:=Vyb a _ e he;have hget:=Zoc a hi hc;have hlt:(U6 a i).length < (U6 a a.mine.roads.l.length).length:=by obtain ⟨m,hm⟩:=Vha a (show i + 1≤a.mine.roads.l.length from hi);rw [hm,U6,if_neg hc];simp only [yl,yx];omega
 have hg:(U6 a a.mine.roads.l.length)[(U6 a i).length]?=some i:=by rw [Jp 0 hlt,hget]
 have hnum:=congrArg (fun l=>l[(U6 a i).length]?) hn.nums;simp only [yq,hg,yRa] at hnum;obtain ⟨p,hp,hpn⟩:=Option.map_eq_some_iff.1 hnum;have hpi:=hn.pipe p (yh hp);rw [hpn] at hpi;have hlp:=(List.getElem?_eq_some_iff.1 hp).1;refine ⟨i,p,hi,by omega,by rw [yw];exact hp,by rw [yw];exact hget,hpi,Zmc ha za hpi,funext fun q=>Ysd hpi q,hc,hv,?_,?_,ha.mine.road i _ (Jp default hi)⟩;·rw [hpi.road,yw]
 ·rw [hpi.road,yw]
section
variable {F G:(Int→XSpan)→Int→Int} {a:XAir} {s:XSetting} {ps:List Int} {v:Int}
def Zlc {n:Nat} {l:List Int} {k:Nat} {e:Int} (he:l[k]?=some e):Kec F G a s ps v n (l.take (k + 1))=Kec F G a s ps v n (l.take k) + Uaa F G a s ps v ((U6 a n).getD e.toNat 0):=by
 have:l.take (k + 1)=l.take k ++ [e]:=by rw [yfa,he];rfl
 rw [this,Yhb,Kec,Kec];omega
def Ufe {a:XAir} {n:Nat} (hn:1≤n) (i:Nat):(U6 a n).getD i 0 < n:=by
 rcases yk i (U6 a n).length with h | h;·have := yh (Jp (l := U6 a n) 0 h);exact (Zpa.1 this).1
 ·rw [yi,yu h];exact hn
def Jrb (hF : Ends F a s) (hG : Ends G a s) (hn : 1 ≤ a.mine.roads.l.length) : ∀ l : List Int, -(1048577 * (l.length : Int)) ≤ Kec F G a s ps v a.mine.roads.l.length l ∧ Kec F G a s ps v a.mine.roads.l.length l ≤ 1048577 * (l.length : Int)
 | []=>by simp [Kec]
 | e :: l=>by
  have ih:=Jrb hF hG hn l
  have h:=Vhb (ps:=ps) (v:=v) hF hG (k:=(U6 a a.mine.roads.l.length).getD e.toNat 0) (Ufe hn _)
  rw [Kec,yA]
  omega
end
def InR.arr {x:Arr (Arr Int)} {R:LS} (h:InR (Yma x) R) {i:Nat} {y:Arr Int} (hi:x.l[i]?=some y):InR (isl y) R:=
 h.sub (.deep (List.mem_map.2 ⟨y,yh hi,rfl⟩) .here)
def K8c (n:XNet) (a:XAir) (s:XSetting) (ps:Arr Int) (v:Int) (L:LB) (R:LS) (hpp:InR (Zja n.pipes) R) (haa:InR (Yma n.at_) R) (hps:InR (isl ps) R) (hn:NetIs a s n) (ha:AirOk a) (hl:ps.l.length=a.mine.places.l.length) (hb:PresOk ps.l) (hv:0≤v∧v < a.mine.places.l.length):
 Tri Tryz.prog 241 [n.val,ps.val,.int .i64 v].toArray L R (fun w U J=>w=.int .i64 (Ugc a s ps.l v)∧L=U∧R=J):=by
 obtain ⟨x,hx⟩:=Kn (l:=n.at_.l) (k:=v.toNat) (by rw [hn.atl];omega);have hxl:=hn.at_ _ _ hx;have hxI:=InR.arr haa hx;have hnr:=ha.mine.roads;have hatl:=hn.atl;have hxn:x.l.length≤a.mine.roads.l.length:=by rw [hxl];exact Kta a _ _
 refine Je 57 Tryz.call241 Tryz.func241 rfl rfl rfl ?_;apply (Xaf);intro b3;apply Xag∘Xar∘Xah∘Kqg∘qa7∘Xc1;refine Jm [(1,.slice _ _ _),(2,.int _ _),(3,.pointer _),(7,.int _ _),(16,.slice _ _ _),(17,.int _ _),(18,.int _ _)] zh fun tq0=>?_;refine q_s ([7,9,10,11]++rg 18 38) (fun g:{k:Nat // k≤x.l.length}=>[(7,.int .i64 (Kec Ud K3 a s ps.l v a.mine.roads.l.length (x.l.take g.1))),(18,.int .i64 ((g.1:Nat):Int))]) (fun g=>x.l.length - g.1) (⟨0,by omega⟩) ?_;rintro ⟨k,hk⟩ junk;try dsimp only
 apply (Xaj);refine q_c ?_ ?_<;>intro hc0;·
  obtain ⟨e,he⟩:=Kn (l:=x.l) (k:=k) za;obtain ⟨i,p,hE⟩:=hn.entry ha (v:=v.toNat) (e:=e) (by rw [← hxl];exact yh he);have hek:=hE.he;have hpg:=hE.get;have hpI:=InR.pipe hpp hpg;have hro:=hE.road;have hr1:=hro.fr;have hr2:=hro.to;have hef:=hE.fr;have het:=hE.to;have hi:=hE.hi;have hsb:=Jrb (ps:=ps.l) (v:=v) (J6b (s:=s) ha) (Zfa (s:=s) ha) za (x.l.take k);have htl:(x.l.take k).length≤k:=List.length_take_le _ _;have hst:=Zlc (F:=Ud) (G:=K3) (a:=a) (s:=s) (ps:=ps.l) (v:=v) (n:=a.mine.roads.l.length) he;rw [hE.num] at hst;have hpf:=Jp (l:=ps.l) (k:=p.road.fr.toNat) 0 za;have hpt:=Jp (l:=ps.l) (k:=p.road.to.toNat) 0 za;have hbf:=hb.get p.road.fr.toNat;have hbt:=hb.get p.road.to.toNat;have hdf:Ur a ps.l i=ps.l.getD p.road.fr.toNat 0 - ps.l.getD p.road.to.toNat 0:=by rw [Ur,hef,het]
  have hfl:=(J6b (s:=s) ha).bnd i hi (Ur a ps.l i);have hfh:=(Zfa (s:=s) ha).bnd i hi (Ur a ps.l i);rw [← hE.drop,hdf] at hfl hfh;rw [Uaa,if_neg hE.closed,hdf,← hE.drop,← hef] at hst;have hends:=hE.ends;rw [← hef,← het] at hends;apply qbb∘qa3∘qa7∘Xag∘Xah∘J1g∘qdx∘qaq;intro b10;apply (Xcp);refine Ke tb [0,1,2,3,4,5,6,7,8,9,10,11,12,13] _ Ko zc ye ?_;apply Kpf∘Xdt∘Znf∘qbl∘Kpf∘Xdt∘K5g∘qbl∘qb7∘qcg;refine J1 (Jb (Jq (Jg ?_)));apply qab∘Xah∘Xbu;refine q_c ?_ ?_<;>intro hc1;·rw [if_pos hc1] at hst;apply Xa5∘qdi∘qaa;refine q_l rfl zzc ?_;exact (qar) zGd
  rw [if_neg hc1,if_pos za] at hst;apply Xa5∘qdi∘qaa;refine q_l rfl zAc ?_;exact (qa9) zGd
 obtain rfl:k=x.l.length:=by omega
 apply Xdg∘Xam;refine q_i L R ?_;have e:=Kmd (F:=Ud) (G:=K3) (a:=a) (s:=s) (ps:=ps.l) (v:=v.toNat) a.mine.roads.l.length a.mine.roads.l.length (ym _);rw [yma hv.1] at e;exact ⟨by rw [Ugc,ygb,hxl,e],rfl,rfl⟩
def Yeb (n:XNet) (a:XAir) (s:XSetting) (ps:Arr Int) (v:Int) (L:LB) (R:LS) (hpp:InR (Zja n.pipes) R) (haa:InR (Yma n.at_) R) (hps:InR (isl ps) R) (hn:NetIs a s n) (ha:AirOk a) (hl:ps.l.length=a.mine.places.l.length) (hb:PresOk ps.l) (hv:0≤v∧v < a.mine.places.l.length):
 Tri Tryz.prog 242 [n.val,ps.val,.int .i64 v].toArray L R (fun w U J=>w=.int .i64 (U1a a s ps.l v)∧L=U∧R=J):=by
 obtain ⟨x,hx⟩:=Kn (l:=n.at_.l) (k:=v.toNat) (by rw [hn.atl];omega);have hxl:=hn.at_ _ _ hx;have hxI:=InR.arr haa hx;have hnr:=ha.mine.roads;have hatl:=hn.atl;have hxn:x.l.length≤a.mine.roads.l.length:=by rw [hxl];exact Kta a _ _
 refine Je 57 Tryz.call242 Tryz.func242 rfl rfl rfl ?_;apply (Xaf);intro b3;apply Xag∘Xar∘Xah∘Kqg∘qa7∘Xc1;refine Jm [(1,.slice _ _ _),(2,.int _ _),(3,.pointer _),(7,.int _ _),(16,.slice _ _ _),(17,.int _ _),(18,.int _ _)] zh fun tq0=>?_;refine q_s ([7,9,10,11]++rg 18 38) (fun g:{k:Nat // k≤x.l.length}=>[(7,.int .i64 (Kec K3 Ud a s ps.l v a.mine.roads.l.length (x.l.take g.1))),(18,.int .i64 ((g.1:Nat):Int))]) (fun g=>x.l.length - g.1) (⟨0,by omega⟩) ?_;rintro ⟨k,hk⟩ junk;try dsimp only
 apply (Xaj);refine q_c ?_ ?_<;>intro hc0;·
  obtain ⟨e,he⟩:=Kn (l:=x.l) (k:=k) za;obtain ⟨i,p,hE⟩:=hn.entry ha (v:=v.toNat) (e:=e) (by rw [← hxl];exact yh he);have hek:=hE.he;have hpg:=hE.get;have hpI:=InR.pipe hpp hpg;have hro:=hE.road;have hr1:=hro.fr;have hr2:=hro.to;have hef:=hE.fr;have het:=hE.to;have hi:=hE.hi;have hsb:=Jrb (ps:=ps.l) (v:=v) (Zfa (s:=s) ha) (J6b (s:=s) ha) za (x.l.take k);have htl:(x.l.take k).length≤k:=List.length_take_le _ _;have hst:=Zlc (F:=K3) (G:=Ud) (a:=a) (s:=s) (ps:=ps.l) (v:=v) (n:=a.mine.roads.l.length) he;rw [hE.num] at hst;have hpf:=Jp (l:=ps.l) (k:=p.road.fr.toNat) 0 za;have hpt:=Jp (l:=ps.l) (k:=p.road.to.toNat) 0 za;have hbf:=hb.get p.road.fr.toNat;have hbt:=hb.get p.road.to.toNat;have hdf:Ur a ps.l i=ps.l.getD p.road.fr.toNat 0 - ps.l.getD p.road.to.toNat 0:=by rw [Ur,hef,het]
  have hfl:=(Zfa (s:=s) ha).bnd i hi (Ur a ps.l i);have hfh:=(J6b (s:=s) ha).bnd i hi (Ur a ps.l i);rw [← hE.drop,hdf] at hfl hfh;rw [Uaa,if_neg hE.closed,hdf,← hE.drop,← hef] at hst;have hends:=hE.ends;rw [← hef,← het] at hends;apply qbb∘qa3∘qa7∘Xag∘Xah∘J1g∘qdx∘qaq;intro b10;apply (Xcp);refine Ke tb [0,1,2,3,4,5,6,7,8,9,10,11,12,13] _ Ko zc ye ?_;apply Kpf∘Xdt∘Znf∘qbl∘Kpf∘Xdt∘K5g∘qbl∘qb7∘qcg;refine J1 (Jb (Jq (Jg ?_)));apply qab∘Xah∘Xbu;refine q_c ?_ ?_<;>intro hc1;·rw [if_pos hc1] at hst;apply Xa5∘qdi∘qaa;refine q_l rfl zAc ?_;exact (qar) zGd
  rw [if_neg hc1,if_pos za] at hst;apply Xa5∘qdi∘qaa;refine q_l rfl zzc ?_;exact (qa9) zGd
 obtain rfl:k=x.l.length:=by omega
 apply Xdg∘Xam;refine q_i L R ?_;have e:=Kmd (F:=K3) (G:=Ud) (a:=a) (s:=s) (ps:=ps.l) (v:=v.toNat) a.mine.roads.l.length a.mine.roads.l.length (ym _);rw [yma hv.1] at e;exact ⟨by rw [U1a,ygb,hxl,e],rfl,rfl⟩
end Go.Proofs.YtchfclmokpbldaaGreat
end
section
namespace Go.Proofs.YtchfclmokpbldaaGreat
open Go.Aw Go
set_option maxRecDepth 20000
attribute [local irreducible] CJ LJ DJ Tri YV Gives Uq J2 Kj Ut RV J3 OwL.L
abbrev sgn (up:Bool):Int:=if up then 1 else -1
abbrev Kgb (up:Bool) (start:Int):Int:=if up then 70368744177664 - start else start + 70368744177664
structure First (g:Int→Bool) (start:Int) (up:Bool) (v:Int) (ok:Bool):Prop where
 yes:ok=true→∃m,0≤m∧m≤Kgb up start∧v=start + sgn up * m∧g v=true∧∀j,0≤j→j < m→g (start + sgn up * j)=false
 no:ok=false→v=0∧∀j,0≤j→j≤Kgb up start→g (start + sgn up * j)=false
def Stays (g:Int→Bool) (start:Int) (up:Bool):Prop:=∀i j,0≤i→i≤j→j≤Kgb up start→g (start + sgn up * i)=true→g (start + sgn up * j)=true
def Stays.no {g:Int→Bool} {start:Int} {up:Bool} (h:Stays g start up) {i j:Int} (h0:0≤i) (hij:i≤j) (hj:j≤Kgb up start) (hg:g (start + sgn up * j)=false):g (start + sgn up * i)=false:=by
 cases e:g (start + sgn up * i) with
 | false=>rfl
 | true=>rw [h i j h0 hij hj e] at hg;cases hg
def Vcc {up:Bool} {z:Int} (h:0≤z∧z≤281474976710656):-281474976710656≤sgn up * z∧sgn up * z≤281474976710656:=by cases up <;> simp only [sgn] <;> simp <;> omega
def Ymd {up:Bool} {start z:Int} (hs:-70368744177664≤start∧start≤70368744177664) (h:0≤z∧z≤Kgb up start):-70368744177664≤start + sgn up * z∧start + sgn up * z≤70368744177664:=by cases up <;> simp only [sgn,Kgb] at h ⊢ <;> simp at h ⊢ <;> omega
def Yjb {up:Bool} {start:Int} (hs:-70368744177664≤start∧start≤70368744177664):0≤Kgb up start∧Kgb up start≤140737488355328:=by cases up <;> simp [Kgb] <;> omega
def J8c (f : FuncId) (cap : Array Value) (LL : Int → LB) (g : Int → Bool) (start : Int) (up : Bool) (y : Int) (R : LS) (hs : -70368744177664 ≤ start ∧ start ≤ 70368744177664) (hm : Stays g start up)
 (hc:∀x y,-70368744177664≤x∧x≤70368744177664→Tri Tryz.prog f (.int .i64 x :: cap.toList).toArray (LL y) R (fun v U J=>v=.bool (g x)∧LL x=U∧R=J)):
 Tri Tryz.prog 278 [.int .i64 start,.bool up,.func (.func f) #[] cap].toArray (LL y) R (fun v U J=>∃(z:Int) (ok:Bool) (y':Int),v=.tuple #[.int .i64 z,.bool ok]∧First g start up z ok∧LL y'=U∧R=J):=by
 have hro:=Yjb (up:=up) hs;have h00:start + sgn up * 0=start:=by simp
 refine Je 80 Tryz.call278 Tryz.func278 rfl rfl rfl ?_;apply Xae∘qaz∘qaw;refine Jw zRb rfl ?_;apply (qaa);refine Uic (Jha rfl rfl (hc start y hs)) rfl rfl ?_;rintro v U J ⟨rfl,rfl,rfl⟩;apply (qaf);refine q_c ?_ ?_<;>intro hc0;·apply Xbi∘Xa7∘qbh;refine q_r (LL start) R zgd ?_;exact ⟨start,true,start,rfl,⟨fun _=>⟨0,by omega,by omega,h00.symm,hc0,fun j h1 h2=>by omega⟩,fun h=>by cases h⟩,rfl,rfl⟩
 apply qbv∘Xbz∘qad∘Xar∘qah∘Xbj;refine Vq [8,9,21,22] ((⟨fun _=>[(8,.int .i64 (sgn up)),(9,.int .i64 (Kgb up start))],fun _=>LL start,fun _=>R,fun _=>0⟩:Head Unit)) ?_ ?_;·
  skip
  refine q_c ?_ ?_<;>intro hc1;·apply Xa5∘qar∘qad∘Xax;subst hc1;exact q_j ()
  refine J5 ?_;subst hc1;exact q_j ()
 rintro u junk;try dsimp only
 apply Xae∘Xca;refine Vq ([10,11]++rg 23 16) ((⟨fun g=>[(10,.int .i64 g.1.1),(11,.int .i64 g.1.2.1)],fun g=>LL g.1.2.2,fun _=>R,fun _=>0⟩:Head {q:Int×Int×Int // (0≤q.1∧q.1 < q.2.1∧q.2.1≤281474976710656)∧g (start + sgn up * q.1)=false∧(q.1=0∨q.1 < Kgb up start)∧(q.2.1 < Kgb up start→g (start + sgn up * q.2.1)=true)})) ?_ ?_;·
  refine Ki ?_;refine Vw ([10,11]++rg 23 16) zJ [(10,.int _ _),(11,.int _ _)] zh fun tq0=>?_;refine q_p ([10,11]++rg 23 16) ((⟨fun g=>[(10,.int .i64 g.1.1),(11,.int .i64 g.1.2.1)],fun g=>LL g.1.2.2,fun _=>R,fun g=>(Kgb up start + 1 - g.1.1).toNat⟩:Head {q:Int×Int×Int // ((q.1=0∧q.2.1=1)∨(1≤q.1∧q.2.1=q.1 * 2))∧g (start + sgn up * q.1)=false∧(q.1=0∨q.1 < Kgb up start)})) (⟨(0,1,start),.inl ⟨rfl,rfl⟩,by rw [h00];exact hc0,.inl rfl⟩) ?_;rintro ⟨⟨bad,good,y2⟩,hbg,hbf,hbr⟩ junk;try dsimp only
  dsimp only at hbg hbf hbr;have hgm:=Vcc (up:=up) (z:=good) za;apply Xa6∘Xck;refine Jub (k:=26) zmb (fun hg4=>?_) (fun hg4=>?_);·
   replace hg4:=qb hg4;refine J0a zRb rfl rfl ?_;(iterate 3 refine J0a (Jz znb) rfl rfl ?_);apply K8g∘Kag;refine Uic (Jha rfl rfl (hc (start + sgn up * good) y2 (Ymd hs za))) rfl rfl ?_;rintro v U J ⟨rfl,rfl,rfl⟩;refine J0a (U5a rfl) rfl rfl ?_;apply Zle∘qaf;refine q_c ?_ ?_<;>intro hc2;·refine J5 (Jb (Jq (Ki (Jg ?_))));apply qaa∘qad∘qcs∘Xdh∘Xax;exact q_k ⟨(good,good * 2,start + sgn up * good),by dsimp only;omega,by simpa using hc2,by dsimp only;omega⟩
   exact zKd
  replace hg4:=qb hg4;iterate 8 refine Vjb rfl rfl ?_
  apply Zle∘qaf;refine V4 rfl ?_;exact zKd
 rintro ⟨⟨bad,good,y2⟩,hbg,hbf,hbr,hgt⟩ junk;try dsimp only
 dsimp only at hbg hbf hbr hgt;apply Xa6∘qaa∘Xcu;refine Vq ([6,7,11]++rg 42 14) ((⟨fun q=>[(11,.int .i64 q.1.1)],fun q=>LL q.1.2,fun _=>R,fun _=>0⟩:Head {q:Int×Int // bad < q.1∧q.1≤Kgb up start∧g (start + sgn up * q.1)=true})) ?_ ?_;·
  skip
  refine q_c ?_ ?_<;>intro hc3;·
   apply Xbi∘Xca;have hgm:=Vcc (up:=up) (z:=Kgb up start) za;apply Xa5∘qaa∘qbx∘qah;refine Jub (k:=46) zmb (fun hg4=>?_) (fun hg4=>?_);·replace hg4:=qb hg4;(iterate 8 refine Vjb rfl rfl ?_);apply Zle∘qaf;refine Uh rfl ?_;exact uay
   replace hg4:=qb hg4;refine J0a zRb rfl rfl ?_;(iterate 3 refine J0a (Jz znb) rfl rfl ?_);apply K8g∘Kag;refine Uic (Jha rfl rfl (hc (start + sgn up * Kgb up start) y2 (Ymd hs za))) rfl rfl ?_;rintro v U J ⟨rfl,rfl,rfl⟩;refine J0a (U5a rfl) rfl rfl ?_;apply Zle∘qaf;refine q_c ?_ ?_<;>intro hc4;·exact uay
   refine J5 ?_;exact q_j ⟨(Kgb up start,start + sgn up * Kgb up start),by dsimp only;omega,by dsimp only;omega,by simpa using hc4⟩
  refine J5 ?_;exact q_j ⟨(good,y2),by dsimp only;omega,by dsimp only;omega,hgt za⟩
 rintro ⟨⟨good2,y3⟩,h31,h32,h33⟩ junk;try dsimp only
 dsimp only at h31 h32 h33;refine Jq (Ki ?_);refine Jm [(0,.int _ _),(2,_),(8,.int _ _),(10,.int _ _),(11,.int _ _)] zh fun tq1=>?_;refine q_p ([10,11,12]++rg 56 19) ((⟨fun q=>[(10,.int .i64 q.1.1),(11,.int .i64 q.1.2.1)],fun q=>LL q.1.2.2,fun _=>R,fun q=>(q.1.2.1 - q.1.1).toNat⟩:Head {q:Int×Int×Int // (0≤q.1∧q.1 < q.2.1∧q.2.1≤Kgb up start)∧g (start + sgn up * q.1)=false∧g (start + sgn up * q.2.1)=true})) (⟨(bad,good2,y3),by dsimp only;omega,hbf,h33⟩) ?_;rintro ⟨⟨lo,hi,y4⟩,q1,q2,q3⟩ junk;try dsimp only
 dsimp only at q1 q2 q3;apply Xa6∘Xac∘Xbd;refine q_c ?_ ?_<;>intro hc5;·
  obtain ⟨mid,hmid⟩:∃mid,mid=lo + (hi - lo).tdiv 2:=⟨_,rfl⟩;have hmb:lo < mid∧mid < hi:=by rw [yT za] at hmid;omega
  have hdv:0≤(hi - lo).tdiv 2∧(hi - lo).tdiv 2≤hi - lo:=by rw [yT za];omega
  refine J5 (Jb (Ki (Jq (Jg ?_))));iterate 3 apply (qaa)
  apply qa9∘qdd∘qar∘Xca;rw [← hmid];have hgm:=Vcc (up:=up) (z:=mid) za;apply (qay);refine Jw zRb rfl ?_;iterate 3 apply (qaa)
  apply qcm∘qar;refine Uic (Jha rfl rfl (hc (start + sgn up * mid) y4 (Ymd hs za))) rfl rfl ?_;rintro v U J ⟨rfl,rfl,rfl⟩;apply (qaf);refine q_c ?_ ?_<;>intro hc6;·apply Xa5∘qad;refine J9 (Jh ?_);exact q_k ⟨(lo,mid,start + sgn up * mid),by dsimp only;omega,q2,hc6⟩
  apply Xa5∘qad;refine J9 (Jh ?_);exact q_k ⟨(mid,hi,start + sgn up * mid),by dsimp only;omega,hc6,q3⟩
 apply (qc3);have hgm:=Vcc (up:=up) (z:=hi) za;apply (qay);iterate 3 apply (qaa)
 apply qcm∘qar∘Xa7∘qa0;refine q_r (LL y4) R zgd ?_;exact ⟨start + sgn up * hi,true,y4,rfl,⟨fun _=>⟨hi,by omega,by omega,rfl,q3,fun j h1 h2=>hm.no h1 (show j≤lo by omega) za q2⟩,fun h=>by cases h⟩,rfl,rfl⟩
end Go.Proofs.YtchfclmokpbldaaGreat
end
section
namespace Go.Proofs.YtchfclmokpbldaaGreat
open Go.Aw Go
set_option maxRecDepth 20000
attribute [local irreducible] CJ LJ DJ Tri YV Gives Uq J2 Kj Ut RV J3 OwL.L
def Tri.lend1 {P : Program} {f : FuncId} {args : Array Value} {A : LB} {R : LS} {p : OwL Int} {T : TypeId} {u : Value} (hin : InB (p.L T Jj) A) (hok : p.ok 1 Jj)
 (h:Tri P f args [] (isl p.arr :: R) (fun v U J=>v=u∧[]=U∧isl p.arr :: R=J)):Tri P f args A R (fun v U J=>v=u∧A=U∧R=J):=by have h2:=Tri.lend (S:=[isl p.arr]) (Post:=fun v U=>v=u∧[]=U) (Spl.rest (L:=A)) (fun w G hh s hs=>by rw [List.mem_singleton.1 hs];exact Yw hh hin hok yf ze yg) (h.mono fun v U J ⟨a1,a2,a3⟩=>⟨⟨a1,a2⟩,a3⟩);exact zYd
def Vjg {o:Ow} {l:List Int} {k:Nat} {y:Int}:(⟨o,l⟩:OwL Int).val=(⟨o,l.set k y⟩:OwL Int).val:=OwL.set_val.symm
structure HypsN (n:XNet) (a:XAir) (s:XSetting) (ps:List Int) (v:Int) (R:LS):Prop where
 pp:InR (Zja n.pipes) R
 aa:InR (Yma n.at_) R
 is:NetIs a s n
 ok:AirOk a
 len:ps.length=a.mine.places.l.length
 pres:PresOk ps
 v:0≤v∧v < a.mine.places.l.length
def Uzf {n:XNet} {a:XAir} {s:XSetting} {o:Ow} {ps:List Int} {v y:Int} {A:LB} {R:LS} (h:HypsN n a s ps v R) (hy:-70368744177664≤y∧y≤70368744177664) (hin:InB ((⟨o,ps.set v.toNat y⟩:OwL Int).L 3 Jj) A) (hok:(⟨o,ps.set v.toNat y⟩:OwL Int).ok 1 Jj):
 Tri Tryz.prog 241 [n.val,(⟨o,ps⟩:OwL Int).val,.int .i64 v].toArray A R (fun w U J=>w=.int .i64 (Ugc a s (ps.set v.toNat y) v)∧A=U∧R=J):=by rw [Vjg (k:=v.toNat) (y:=y)];exact Tri.lend1 hin hok (K8c n a s (⟨o,ps.set v.toNat y⟩:OwL Int).arr v [] _ (h.pp.mono fun r hr=>Ja (.tail _ hr)) (h.aa.mono fun r hr=>Ja (.tail _ hr)) zFb h.is h.ok (by simp [h.len]) (h.pres.set _ hy) h.v)
def Jjf {n:XNet} {a:XAir} {s:XSetting} {o:Ow} {ps:List Int} {v y:Int} {A:LB} {R:LS} (h:HypsN n a s ps v R) (hy:-70368744177664≤y∧y≤70368744177664) (hin:InB ((⟨o,ps.set v.toNat y⟩:OwL Int).L 3 Jj) A) (hok:(⟨o,ps.set v.toNat y⟩:OwL Int).ok 1 Jj):
 Tri Tryz.prog 242 [n.val,(⟨o,ps⟩:OwL Int).val,.int .i64 v].toArray A R (fun w U J=>w=.int .i64 (U1a a s (ps.set v.toNat y) v)∧A=U∧R=J):=by rw [Vjg (k:=v.toNat) (y:=y)];exact Tri.lend1 hin hok (Yeb n a s (⟨o,ps.set v.toNat y⟩:OwL Int).arr v [] _ (h.pp.mono fun r hr=>Ja (.tail _ hr)) (h.aa.mono fun r hr=>Ja (.tail _ hr)) zFb h.is h.ok (by simp [h.len]) (h.pres.set _ hy) h.v)
abbrev Yzf (a:XAir) (s:XSetting) (ps:List Int) (v:Int):Int→Bool:=fun x=>decide (0≤Ugc a s (ps.set v.toNat x) v)
abbrev Kqd (a:XAir) (s:XSetting) (ps:List Int) (v:Int):Int→Bool:=fun x=>decide (U1a a s (ps.set v.toNat x) v≤0)
def Jce {a:XAir} {s:XSetting} {ps:List Int} {v start:Int} (ha:AirOk a) (hv:v.toNat < ps.length):Stays (Yzf a s ps v) start true:=by intro i j h0 hij hj hg;rw [decide_eq_true_eq] at hg ⊢;have:=Vwe (s:=s) ha (Zuc (ps:=ps) hv (show start + sgn true * i≤start + sgn true * j by simp only [sgn];simp;omega));omega
def J2d {a:XAir} {s:XSetting} {ps:List Int} {v start:Int} (ha:AirOk a) (hv:v.toNat < ps.length):Stays (Kqd a s ps v) start false:=by intro i j h0 hij hj hg;rw [decide_eq_true_eq] at hg ⊢;have:=Zvd (s:=s) ha (Zuc (ps:=ps) hv (show start + sgn false * j≤start + sgn false * i by simp only [sgn];simp;omega));omega
abbrev clL (b8 b5 b3:Nat) (n:XNet) (o:Ow) (ps:List Int) (v:Int) (L:LB) (y:Int):LB:=
 ⟨b8,[(⟨o,ps⟩:OwL Int).val],40⟩ :: ((⟨o,ps.set v.toNat y⟩:OwL Int).L 3 Jj ++ (⟨b5,[.int .i64 v],3⟩ :: ⟨b3,n.cells,221⟩ :: L))
def Zxd {b8 b5 b3:Nat} {n:XNet} {a:XAir} {s:XSetting} {o:Ow} {ps:List Int} {u:Int} {L:LB} {R:LS} (h:HypsN n a s ps u R) (hok:(⟨o,ps⟩:OwL Int).ok 1 Jj) (x y:Int) (hx:-70368744177664≤x∧x≤70368744177664):
 Tri Tryz.prog 280 [.int .i64 x,.pointer (some ⟨b8,0,none⟩),.pointer (some ⟨b5,0,none⟩),.pointer (some ⟨b3,0,none⟩)].toArray (clL b8 b5 b3 n o ps u L y) R (fun w U J=>w=.bool (Yzf a s ps u x)∧clL b8 b5 b3 n o ps u L x=U∧R=J):=by have hv:=h.v;have hlen:=h.len;have hok2:∀z,(⟨o,ps.set u.toNat z⟩:OwL Int).ok 1 Jj:=fun z=>OwL.len_ok K0 hok zo;have hoky:=hok2 y;have hget:=Jp (l:=ps.set u.toNat y) (k:=u.toNat) 0 zE;refine Je 15 Tryz.call280 Tryz.func280 rfl rfl rfl ?_;apply Xbt∘qam∘qac∘qac∘qaa∘Jig∘Kzg;rintro v U J ⟨rfl,rfl⟩;apply (qa4);refine U2 (by rw [yLa]) ?_;apply qay∘qbe∘qac∘qac;refine q_l rfl (Uzf (o:=o) (y:=x) h hx zG (hok2 x)) ?_;apply qbz∘Xbs;refine q_b (clL b8 b5 b3 n o ps u L x) R ?_;exact zDd
def Yjc (n:XNet) (a:XAir) (s:XSetting) (ps:Arr Int) (u:Int) (L:LB) (R:LS) (h:HypsN n a s ps.l u R) (hps:InR (isl ps) R):
 Tri Tryz.prog 240 [n.val,ps.val,.int .i64 u].toArray L R (fun w U J=>∃(z:Int) (ok:Bool),w=.tuple #[.int .i64 z,.bool ok]∧First (Yzf a s ps.l u) (ps.l.getD u.toNat 0) true z ok∧L=U∧R=J):=by have hv:=h.v;have hlen:=h.len;have hnp:=h.ok.mine.places;have hget:=Jp (l:=ps.l) (k:=u.toNat) 0 za;have hb:=h.pres.get u.toNat;have hst:=Jce (s:=s) (start:=ps.l.getD u.toNat 0) h.ok (ps:=ps.l) (v:=u) za;refine Je 19 Tryz.call240 Tryz.func240 rfl rfl rfl ?_;apply (Xaf);intro b3;refine Uud (v:=Value.int _ _) rfl rfl rfl ?_;intro b5;apply Xa7∘Xdu∘Zdf;rintro v U J ⟨o10,rfl,hok10,rfl,rfl⟩;apply (qaq);intro b8;apply qcy∘Xdu∘qac∘Upg∘qa7;refine Jw (Vdc rfl) rfl ?_;refine Vkg zyc ?_;refine Jv rfl (J8c 280 #[.pointer (some ⟨b8,0,none⟩),.pointer (some ⟨b5,0,none⟩),.pointer (some ⟨b3,0,none⟩)] (clL b8 b5 b3 n o10 ps.l u L) (Yzf a s ps.l u) (ps.l.getD u.toNat 0) true (ps.l.getD u.toNat 0) _ hb hst (fun x y hx=>Zxd h hok10 x y hx)) rfl ?_;exact zTd
def Yac {b8 b5 b3:Nat} {n:XNet} {a:XAir} {s:XSetting} {o:Ow} {ps:List Int} {u:Int} {L:LB} {R:LS} (h:HypsN n a s ps u R) (hok:(⟨o,ps⟩:OwL Int).ok 1 Jj) (x y:Int) (hx:-70368744177664≤x∧x≤70368744177664):
 Tri Tryz.prog 279 [.int .i64 x,.pointer (some ⟨b8,0,none⟩),.pointer (some ⟨b5,0,none⟩),.pointer (some ⟨b3,0,none⟩)].toArray (clL b8 b5 b3 n o ps u L y) R (fun w U J=>w=.bool (Kqd a s ps u x)∧clL b8 b5 b3 n o ps u L x=U∧R=J):=by have hv:=h.v;have hlen:=h.len;have hok2:∀z,(⟨o,ps.set u.toNat z⟩:OwL Int).ok 1 Jj:=fun z=>OwL.len_ok K0 hok zo;have hoky:=hok2 y;have hget:=Jp (l:=ps.set u.toNat y) (k:=u.toNat) 0 zE;refine Je 15 Tryz.call279 Tryz.func279 rfl rfl rfl ?_;apply Xbt∘qam∘qac∘qac∘qaa∘Jig∘Kzg;rintro v U J ⟨rfl,rfl⟩;apply (qa4);refine U2 (by rw [yLa]) ?_;apply qay∘qbe∘qac∘qac;refine q_l rfl (Jjf (o:=o) (y:=x) h hx zG (hok2 x)) ?_;apply qbx∘Xbs;refine q_b (clL b8 b5 b3 n o ps u L x) R ?_;exact zDd
def Z6b (n:XNet) (a:XAir) (s:XSetting) (ps:Arr Int) (u:Int) (L:LB) (R:LS) (h:HypsN n a s ps.l u R) (hps:InR (isl ps) R):
 Tri Tryz.prog 239 [n.val,ps.val,.int .i64 u].toArray L R (fun w U J=>∃(z:Int) (ok:Bool),w=.tuple #[.int .i64 z,.bool ok]∧First (Kqd a s ps.l u) (ps.l.getD u.toNat 0) false z ok∧L=U∧R=J):=by have hv:=h.v;have hlen:=h.len;have hnp:=h.ok.mine.places;have hget:=Jp (l:=ps.l) (k:=u.toNat) 0 za;have hb:=h.pres.get u.toNat;have hst:=J2d (s:=s) (start:=ps.l.getD u.toNat 0) h.ok (ps:=ps.l) (v:=u) za;refine Je 19 Tryz.call239 Tryz.func239 rfl rfl rfl ?_;apply (Xaf);intro b3;refine Uud (v:=Value.int _ _) rfl rfl rfl ?_;intro b5;apply Xa7∘Xdu∘Zdf;rintro v U J ⟨o10,rfl,hok10,rfl,rfl⟩;apply (qaq);intro b8;apply qcy∘Xdu∘qac∘Upg∘qa7;refine Jw (Vdc rfl) rfl ?_;refine Vkg zyc ?_;refine Jv rfl (J8c 279 #[.pointer (some ⟨b8,0,none⟩),.pointer (some ⟨b5,0,none⟩),.pointer (some ⟨b3,0,none⟩)] (clL b8 b5 b3 n o10 ps.l u L) (Kqd a s ps.l u) (ps.l.getD u.toNat 0) false (ps.l.getD u.toNat 0) _ hb hst (fun x y hx=>Yac h hok10 x y hx)) rfl ?_;exact zTd
end Go.Proofs.YtchfclmokpbldaaGreat
end
section
namespace Go.Proofs.YtchfclmokpbldaaGreat
open Go.Aw Go
set_option maxRecDepth 20000
attribute [local irreducible] CJ LJ DJ Tri YV Gives Uq J2 Kj Ut RV J3 OwL.L
end Go.Proofs.YtchfclmokpbldaaGreat
end
section
namespace Go.Proofs.YtchfclmokpbldaaGreat
open Go.Aw Go
set_option maxRecDepth 20000
attribute [local irreducible] CJ LJ DJ Tri YV Gives Uq J2 Kj Ut RV J3 OwL.L
def Yna {ps:List Int} (h:ps.findSome? Uv=none):PresOk ps:=fun p hp=>by
 obtain ⟨i,hi⟩:=List.mem_iff_getElem?.1 hp
 exact Ykc h i p hi
def Jib {ps:List Int} (h:PresOk ps):ps.findSome? Uv=none:=List.findSome?_eq_none_iff.2 fun p hp=>by
 have:=h p hp
 exact if_neg za
section
variable {a:XAir} {s:XSetting} {ps:Arr Int} {v:Int}
end
end Go.Proofs.YtchfclmokpbldaaGreat
end
section
namespace Go.Proofs.YtchfclmokpbldaaGreat
open Go.Aw Go
def J5b (a : XAir) (fl : List Int) (v : Int) : Nat → Int
 | 0=>0
 | k + 1=>J5b a fl v k + (if (a.mine.roads.l.getD k default).fr=v then fl.getD k 0 else if (a.mine.roads.l.getD k default).to=v then -(fl.getD k 0) else 0)
def Jad {a : XAir} {x : XState} (ha : AirOk a) (hl : x.pres.l.length = a.mine.places.l.length) {v : Nat} (hv : v < a.mine.places.l.length) : ∀ k, k ≤ a.mine.roads.l.length → (Yla a x k).getD v 0 = J5b a x.flows.l (v : Int) k
 | 0,_=>by rw [Yla,J5b,yi,yC];split <;> rfl
 | k + 1,hk=>by
  have ih:=Jad ha hl hv k za
  have hln:=Uvb a x k
  have hro:=ha.mine.road k _ zoc
  have h1:=hro.fr
  have h2:=hro.to
  have h3:=hro.ne
  rw [Yla,J5b]
  rw [Z2 zha,Z2 za,Z2 za]
  by_cases hf:(a.mine.roads.l.getD k default).fr=(v:Int)
  ·rw [if_neg za,if_pos za,if_pos hf,show (a.mine.roads.l.getD k default).fr.toNat=v from by omega,ih]
  ·rw [if_neg hf]
   by_cases ht:(a.mine.roads.l.getD k default).to=(v:Int)
   ·rw [if_pos za, if_pos ht, if_neg za, show (a.mine.roads.l.getD k default).to.toNat = v from by omega, ih]
    omega
   ·rw [if_neg za, if_neg za, if_neg ht, ih]
    omega
def FitsF.still {a:XAir} {s:XSetting} {x:XState} (h:FitsF a s x) (ha:AirOk a) {v:Nat} (hv:v < a.mine.places.l.length) (hs:(a.mine.places.l.getD v default).surface=false):J5b a x.flows.l (v:Int) a.mine.roads.l.length=0:=by
 have hp:=h.place v hv;unfold Yb at hp;split at hp;·cases hp
 ·
  rename_i hn;rw [h.flen,Jad ha h.plen hv _ (ym _)] at hn;rcases Int.decEq (J5b a x.flows.l (v:Int) a.mine.roads.l.length) 0 with h0 | h0;·exact absurd (.inr ⟨hs,h0⟩) hn
  ·exact h0
end Go.Proofs.YtchfclmokpbldaaGreat
end
