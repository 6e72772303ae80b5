/-
  Nets: NetS, NetW, Find, LeastW, RefUp, Bal, NetP, in one text. By an AI agent; no person has read it.
-/
import Derived.Test.YtchfclmokpbldaaGreatFits
import Derived.Test.YtchfclmokpbldaaGreatDraws
set_option linter.all false
set_option maxHeartbeats 4000000
section
variable {A B:Prop}
def Zye(h:A→B:=by exact K0 zrd rfl rfl rfl):=h
def Ubf(h:A→B:=by exact Jy zK rfl):=h
def U2g(h:A→B:=by exact Jy (by first | exact Jd tb rfl rfl rfl rfl zu (i:=v.toNat) zk za | exact Jl tb rfl rfl rfl rfl (i:=v.toNat) zk za) rfl):=h
def Jng(h:A→B:=by exact Jy (by first | exact Jd tb rfl rfl rfl rfl zu (i:=e.toNat) zk za | exact Jl tb rfl rfl rfl rfl (i:=e.toNat) zk za) rfl):=h
def Uvg(h:A→B:=by exact K0 zib rfl rfl rfl):=h
def J9g(h:A→B:=by exact K0 zjb rfl rfl rfl):=h
def Jtg(h:A→B:=by exact K8 zHa rfl rfl):=h
def Uhg(h:A→B:=by exact K8 zxa rfl rfl):=h
def Upg(h:A→B:=by exact Jy (Js tb ((⟨o,ps.set u.toNat y⟩:OwL Int)) _ rfl rfl ((show _=Value.slice _ _ _ from rfl).trans V5g) rfl zg (i:=u.toNat) zk zt) rfl):=h
def K3g(h:A→B:=by exact V6 (Ju tb ((⟨o,ps.set u.toNat y⟩:OwL Int)) (x) rfl rfl rfl rfl zj zg yf zg ze zb zb)):=h
def Kfg(h:A→B:=by exact Yv (Kp (f:=Jk) (xs:=ps) tb rfl rfl rfl ze rfl rfl (hps) yf za) rfl):=h
def Khg(h:A→B:=by exact Jy (by first | exact Jd tb rfl rfl rfl rfl zu (i:=u.toNat) zk za | exact Jl tb rfl rfl rfl rfl (i:=u.toNat) zk za) rfl):=h
end
section
namespace Go.Proofs.YtchfclmokpbldaaGreat
open Go.Aw Go
def Ur (a:XAir) (ps:List Int) (k:Nat):Int:=ps.getD (a.mine.roads.l.getD k default).fr.toNat 0 - ps.getD (a.mine.roads.l.getD k default).to.toNat 0
def Upa (F G:(Int→XSpan)→Int→Int) (a:XAir) (s:XSetting) (ps:List Int) (v:Int) (k:Nat):Int:=
 if (a.mine.roads.l.getD k default).closed=true then 0
 else if (a.mine.roads.l.getD k default).fr=v then F (Kz a s k) (Ur a ps k)
 else if (a.mine.roads.l.getD k default).to=v then -(G (Kz a s k) (Ur a ps k)) else 0
def Zkb (F G : (Int → XSpan) → Int → Int) (a : XAir) (s : XSetting) (ps : List Int) (v : Int) : Nat → Int
 | 0=>0
 | k + 1=>Zkb F G a s ps v k + Upa F G a s ps v k
def K1c (a:XAir) (s:XSetting) (ps:List Int) (v:Int):Int:=Zkb Ub K2 a s ps v a.mine.roads.l.length
def U9a (a:XAir) (s:XSetting) (ps:List Int) (v:Int):Int:=Zkb K2 Ub a s ps v a.mine.roads.l.length
structure Ends (F:(Int→XSpan)→Int→Int) (a:XAir) (s:XSetting):Prop where
 bnd:∀k:Nat,k < a.mine.roads.l.length→∀p,-1048577≤F (Kz a s k) p∧F (Kz a s k) p≤1048577
def Ylb {a:XAir} {s:XSetting} (ha:AirOk a):Ends Ub a s:=⟨fun k hk p=>by have:=(K4a (s:=s) ha (r:=(k:Int)) za p).bnd;omega⟩
def K4b {a:XAir} {s:XSetting} (ha:AirOk a):Ends K2 a s:=⟨fun k hk p=>by have:=(Jra (s:=s) ha (r:=(k:Int)) za p).bnd;omega⟩
section
variable {F G:(Int→XSpan)→Int→Int} {a:XAir} {s:XSetting} {ps:List Int} {v:Int}
def Vyb (hF:Ends F a s) (hG:Ends G a s) {k:Nat} (hk:k < a.mine.roads.l.length):-1048577≤Upa F G a s ps v k∧Upa F G a s ps v k≤1048577:=by
 have h1:=hF.bnd k hk (Ur a ps k);have h2:=hG.bnd k hk (Ur a ps k);unfold Upa;split;·omega
 ·
  split;·exact h1
  ·split <;> omega
def Umd (hF : Ends F a s) (hG : Ends G a s) : ∀ k : Nat, k ≤ a.mine.roads.l.length → -(1048577 * (k : Int)) ≤ Zkb F G a s ps v k ∧ Zkb F G a s ps v k ≤ 1048577 * (k : Int)
 | 0,_=>by simp [Zkb]
 | k + 1,hk=>by
  have ih:=Umd hF hG k za
  have h:=Vyb (ps:=ps) (v:=v) hF hG (k:=k) za
  rw [Zkb]
  omega
def K6c (F G : (Int → XSpan) → Int → Int) (a : XAir) (s : XSetting) (ps : List Int) (v : Int) (n : Nat) : List Int → Int
 | []=>0
 | e :: l=>K6c F G a s ps v n l + Upa F G a s ps v ((Va a n).getD e.toNat 0)
def Zpb (n:Nat) (l m:List Int):K6c F G a s ps v n (l ++ m)=K6c F G a s ps v n l + K6c F G a s ps v n m:=by
 induction l with
 | nil=>simp [K6c]
 | cons e l ih=>rw [yq,K6c,K6c,ih];omega
def Vqa (a : XAir) {k : Nat} : ∀ {n : Nat}, k ≤ n → ∃ m, Va a n = Va a k ++ m
 | 0,h=>⟨[],by rw [show k=0 by omega];rfl⟩
 | n + 1,h=>by
  rcases yk n k with h' | h'
  ·exact ⟨[],by rw [show k=n + 1 by omega];simp⟩
  ·obtain ⟨m, hm⟩ := Vqa a (k := k) (n := n) h'
   rw [Va]
   split
   ·exact ⟨m,hm⟩
   ·exact ⟨m ++ [n],by rw [hm,yn]⟩
def Zxc (a:XAir) {k n:Nat} (hk:k < n) (hc:¬ (a.mine.roads.l.getD k default).closed=true):(Va a n).getD (Va a k).length 0=k:=by obtain ⟨m,hm⟩:=Vqa a (show k + 1≤n from hk);rw [hm,Va,if_neg hc,yn,yh,yJ (ym _)];simp
def Vyd (n : Nat) {v : Nat} : ∀ k, k ≤ n → K6c F G a s ps v n (K5d a v k) = Zkb F G a s ps v k
 | 0,_=>rfl
 | k + 1,hk=>by
  have ih:=Vyd n (v:=v) k za
  rw [K5d,Zkb]
  split
  ·rename_i hc
   rw [ih,Upa,if_pos hc];omega
  ·rename_i hc
   split
   ·rename_i hv
    rw [Zpb,ih,K6c,K6c,yy,Zxc a za hc]
    omega
   ·rename_i hv
    rw [ih,Upa,if_neg hc,if_neg (fun h=>hv (.inl h)),if_neg (fun h=>hv (.inr h))];omega
def Ysb (a : XAir) {v : Nat} : ∀ k, ∀ e ∈ K5d a v k, ∃ i : Nat, i < k ∧ e = ((Va a i).length : Int) ∧ ¬ (a.mine.roads.l.getD i default).closed = true ∧ ((a.mine.roads.l.getD i default).fr = (v : Int) ∨ (a.mine.roads.l.getD i default).to = (v : Int))
 | 0,e,h=>by cases h
 | k + 1,e,h=>by
  rw [K5d] at h
  split at h
  ·obtain ⟨i,h1,h2⟩:=Ysb a k e h;exact ⟨i,by omega,h2⟩
  ·rename_i hc
   split at h
   ·rename_i hv
    rcases List.mem_append.1 h with h | h
    ·obtain ⟨i,h1,h2⟩:=Ysb a k e h;exact ⟨i,by omega,h2⟩
    ·rw [List.mem_singleton.1 h];exact ⟨k,by omega,rfl,hc,hv⟩
   ·obtain ⟨i,h1,h2⟩:=Ysb a k e h;exact ⟨i,by omega,h2⟩
end
structure MonoE (F:(Int→XSpan)→Int→Int) (a:XAir) (s:XSetting):Prop where
 mono:∀k:Nat,k < a.mine.roads.l.length→∀p q:Int,p≤q→F (Kz a s k) p≤F (Kz a s k) q
def Zjd {a:XAir} {s:XSetting} (ha:AirOk a):MonoE Ub a s:=⟨fun k hk p q h=>Uta (s:=s) ha (r:=(k:Int)) za h⟩
def Z2c {a:XAir} {s:XSetting} (ha:AirOk a):MonoE K2 a s:=⟨fun k hk p q h=>K2a (s:=s) ha (r:=(k:Int)) za h⟩
structure Above (ps qs:List Int) (v:Int):Prop where
 own:ps.getD v.toNat 0≤qs.getD v.toNat 0
 rest:∀k:Nat,k≠v.toNat→qs.getD k 0≤ps.getD k 0
def Zmb {F G : (Int → XSpan) → Int → Int} {a : XAir} {s : XSetting} {ps qs : List Int} {v : Int} (ha : AirOk a) (hF : MonoE F a s) (hG : MonoE G a s) (h : Above ps qs v) : ∀ k : Nat, k ≤ a.mine.roads.l.length → Zkb F G a s ps v k ≤ Zkb F G a s qs v k
 | 0,_=>yz _
 | k + 1,hk=>by
  have ih:=Zmb ha hF hG h k za
  have hro:=ha.mine.road k _ zDc
  have h1:=hro.fr
  have h2:=hro.to
  have h3:=hro.ne
  have ho:=h.own
  rw [Zkb,Zkb,Upa,Upa]
  split
  ·omega
  ·split
   ·rename_i hf
    have hr:=h.rest (a.mine.roads.l.getD k default).to.toNat za
    have:=hF.mono k za (Ur a ps k) (Ur a qs k) (by rw [Ur,Ur,hf];omega)
    omega
   ·split
    ·rename_i hf ht
     have hr:=h.rest (a.mine.roads.l.getD k default).fr.toNat za
     have:=hG.mono k za (Ur a qs k) (Ur a ps k) (by rw [Ur,Ur,ht];omega)
     omega
    ·omega
def Yse {a:XAir} {s:XSetting} {ps qs:List Int} {v:Int} (ha:AirOk a) (h:Above ps qs v):K1c a s ps v≤K1c a s qs v:=Zmb ha (Zjd ha) (Z2c ha) h _ (ym _)
def Jge {a:XAir} {s:XSetting} {ps qs:List Int} {v:Int} (ha:AirOk a) (h:Above ps qs v):U9a a s ps v≤U9a a s qs v:=Zmb ha (Z2c ha) (Zjd ha) h _ (ym _)
def Z8 {l:List Int} {k i:Nat} {v:Int} (hk:k < l.length):(l.set k v).getD i 0=if i=k then v else l.getD i 0:=by exact uaN
def Y9c {ps:List Int} {v x y:Int} (hv:v.toNat < ps.length) (h:x≤y):Above (ps.set v.toNat x) (ps.set v.toNat y) v:=
 ⟨by rw [Z8 hv,Z8 hv,if_pos rfl,if_pos rfl];exact h,fun k hk=>by rw [Z8 hv,Z8 hv,if_neg hk,if_neg hk];exact yz _⟩
def Zza {l:List Int} {k:Nat}:l.set k (l.getD k 0)=l:=by
 rcases yk k l.length with h | h;·have := Jn (l := l) (k := k) 0 h;obtain ⟨_,h2⟩:=List.getElem?_eq_some_iff.1 this;rw [← h2,List.set_getElem_self]
 ·exact List.set_eq_of_length_le h
def PresOk (ps:List Int):Prop:=∀p∈ps,-70368744177664≤p∧p≤70368744177664
def PresOk.get {ps:List Int} (h:PresOk ps) (k:Nat):-70368744177664≤ps.getD k 0∧ps.getD k 0≤70368744177664:=by
 rcases yk k ps.length with h' | h';·exact h _ (yi (Jn (l:=ps) 0 h'))
 ·rw [yh,yu h'];decide
def PresOk.set {ps:List Int} (h:PresOk ps) (k:Nat) {x:Int} (hx:-70368744177664≤x∧x≤70368744177664):PresOk (ps.set k x):=fun p hp=>by
 rcases List.mem_or_eq_of_mem_set hp with h1 | h1
 ·exact h p h1
 ·rw [h1];exact hx
end Go.Proofs.YtchfclmokpbldaaGreat
end
section
namespace Go.Proofs.YtchfclmokpbldaaGreat
open Go.Aw Go
set_option maxRecDepth 20000
attribute [local irreducible] CJ LJ DJ Tri YV Gives U5 J2 Kn U6 RV J4 OwL.L
structure Entry (n:XNet) (a:XAir) (s:XSetting) (v:Int) (e:Int) (i:Nat) (p:XPipe):Prop where
 hi:i < a.mine.roads.l.length
 he:0≤e∧e < n.pipes.l.length
 get:n.pipes.l[e.toNat]?=some p
 num:(Va a a.mine.roads.l.length).getD e.toNat 0=i
 is:PipeIs a s i p
 ok:PipeOk p
 drop:J2b p=Kz a s i
 closed:¬ (a.mine.roads.l.getD i default).closed=true
 ends:(a.mine.roads.l.getD i default).fr=v∨(a.mine.roads.l.getD i default).to=v
 fr:p.road.fr=(a.mine.roads.l.getD i default).fr
 to:p.road.to=(a.mine.roads.l.getD i default).to
 road:RoadOk a.mine.places.l.length (a.mine.roads.l.getD i default)
def NetIs.entry {n:XNet} {a:XAir} {s:XSetting} (hn:NetIs a s n) (ha:AirOk a) {v:Nat} {e:Int} (he:e∈K5d a v a.mine.roads.l.length):∃(i:Nat) (p:XPipe),Entry n a s v e i p:=by
 obtain ⟨i,hi,rfl,hc,hv⟩:=Ysb a _ e he;have hget:=Zxc a hi hc;have hlt:(Va a i).length < (Va a a.mine.roads.l.length).length:=by obtain ⟨m,hm⟩:=Vqa a (show i + 1≤a.mine.roads.l.length from hi);rw [hm,Va,if_neg hc];simp only [yl,yx];omega
 have hg:(Va a a.mine.roads.l.length)[(Va a i).length]?=some i:=by rw [Jn 0 hlt,hget]
 have hnum:=congrArg (fun l=>l[(Va a i).length]?) hn.nums;simp only [yr,hg,yEa] at hnum;obtain ⟨p,hp,hpn⟩:=Option.map_eq_some_iff.1 hnum;have hpi:=hn.pipe p (yi hp);rw [hpn] at hpi;have hlp:=(List.getElem?_eq_some_iff.1 hp).1;refine ⟨i,p,hi,by omega,by rw [yy];exact hp,by rw [yy];exact hget,hpi,Zjb ha za hpi,funext fun q=>Vpc hpi q,hc,hv,?_,?_,ha.mine.road i _ (Jn default hi)⟩;·rw [hpi.road,yy]
 ·rw [hpi.road,yy]
section
variable {F G:(Int→XSpan)→Int→Int} {a:XAir} {s:XSetting} {ps:List Int} {v:Int}
def Kkd {n:Nat} {l:List Int} {k:Nat} {e:Int} (he:l[k]?=some e):K6c F G a s ps v n (l.take (k + 1))=K6c F G a s ps v n (l.take k) + Upa F G a s ps v ((Va a n).getD e.toNat 0):=by
 have:l.take (k + 1)=l.take k ++ [e]:=by rw [yha,he];rfl
 rw [this,Zpb,K6c,K6c];omega
def Vje {a:XAir} {n:Nat} (hn:1≤n) (i:Nat):(Va a n).getD i 0 < n:=by
 rcases yk i (Va a n).length with h | h;·have := yi (Jn (l := Va a n) 0 h);exact (Zxa.1 this).1
 ·rw [yh,yu h];exact hn
def J6b (hF : Ends F a s) (hG : Ends G a s) (hn : 1 ≤ a.mine.roads.l.length) : ∀ l : List Int, -(1048577 * (l.length : Int)) ≤ K6c F G a s ps v a.mine.roads.l.length l ∧ K6c F G a s ps v a.mine.roads.l.length l ≤ 1048577 * (l.length : Int)
 | []=>by simp [K6c]
 | e :: l=>by
  have ih:=J6b hF hG hn l
  have h:=Vyb (ps:=ps) (v:=v) hF hG (k:=(Va a a.mine.roads.l.length).getD e.toNat 0) (Vje hn _)
  rw [K6c,yA]
  omega
end
def InR.arr {x:Arr (Arr Int)} {R:LS} (h:InR (Yja x) R) {i:Nat} {y:Arr Int} (hi:x.l[i]?=some y):InR (isl y) R:=
 h.sub (.deep (List.mem_map.2 ⟨y,yi hi,rfl⟩) .here)
def Uec (n:XNet) (a:XAir) (s:XSetting) (ps:Arr Int) (v:Int) (L:LB) (R:LS) (hpp:InR (Yxa n.pipes) R) (haa:InR (Yja n.at_) R) (hps:InR (isl ps) R) (hn:NetIs a s n) (ha:AirOk a) (hl:ps.l.length=a.mine.places.l.length) (hb:PresOk ps.l) (hv:0≤v∧v < a.mine.places.l.length):
 Tri Tryz.prog 241 [n.val,ps.val,.int .i64 v].toArray L R (fun w U J=>w=.int .i64 (K1c a s ps.l v)∧L=U∧R=J):=by
 obtain ⟨x,hx⟩:=Kh (l:=n.at_.l) (k:=v.toNat) (by rw [hn.atl];omega);have hxl:=hn.at_ _ _ hx;have hxI:=InR.arr haa hx;have hnr:=ha.mine.roads;have hatl:=hn.atl;have hxn:x.l.length≤a.mine.roads.l.length:=by rw [hxl];exact K5a a _ _
 refine Je 57 Tryz.call241 Tryz.func241 rfl rfl rfl ?_;apply (Xaf);intro b3;apply Xag∘Xar∘Xah∘U2g∘qa7∘Xdg;refine Jm [(1,.slice _ _ _),(2,.int _ _),(3,.pointer _),(7,.int _ _),(16,.slice _ _ _),(17,.int _ _),(18,.int _ _)] zh fun tq0=>?_;refine q_s ([7,9,10,11]++rg 18 38) (fun g:{k:Nat // k≤x.l.length}=>[(7,.int .i64 (K6c Ub K2 a s ps.l v a.mine.roads.l.length (x.l.take g.1))),(18,.int .i64 ((g.1:Nat):Int))]) (fun g=>x.l.length - g.1) (⟨0,by omega⟩) ?_;rintro ⟨k,hk⟩ junk;try dsimp only
 apply (Xam);refine q_c ?_ ?_<;>intro hc0;·
  obtain ⟨e,he⟩:=Kh (l:=x.l) (k:=k) za;obtain ⟨i,p,hE⟩:=hn.entry ha (v:=v.toNat) (e:=e) (by rw [← hxl];exact yi he);have hek:=hE.he;have hpg:=hE.get;have hpI:=InR.pipe hpp hpg;have hro:=hE.road;have hr1:=hro.fr;have hr2:=hro.to;have hef:=hE.fr;have het:=hE.to;have hi:=hE.hi;have hsb:=J6b (ps:=ps.l) (v:=v) (Ylb (s:=s) ha) (K4b (s:=s) ha) za (x.l.take k);have htl:(x.l.take k).length≤k:=List.length_take_le _ _;have hst:=Kkd (F:=Ub) (G:=K2) (a:=a) (s:=s) (ps:=ps.l) (v:=v) (n:=a.mine.roads.l.length) he;rw [hE.num] at hst;have hpf:=Jn (l:=ps.l) (k:=p.road.fr.toNat) 0 za;have hpt:=Jn (l:=ps.l) (k:=p.road.to.toNat) 0 za;have hbf:=hb.get p.road.fr.toNat;have hbt:=hb.get p.road.to.toNat;have hdf:Ur a ps.l i=ps.l.getD p.road.fr.toNat 0 - ps.l.getD p.road.to.toNat 0:=by rw [Ur,hef,het]
  have hfl:=(Ylb (s:=s) ha).bnd i hi (Ur a ps.l i);have hfh:=(K4b (s:=s) ha).bnd i hi (Ur a ps.l i);rw [← hE.drop,hdf] at hfl hfh;rw [Upa,if_neg hE.closed,hdf,← hE.drop,← hef] at hst;have hends:=hE.ends;rw [← hef,← het] at hends;apply qbb∘Xdb∘Xag∘Xah∘Jng∘qdx∘qaq;intro b10;apply (Xct);refine Ki tb [0,1,2,3,4,5,6,7,8,9,10,11,12,13] _ Kq zc ye ?_;apply Zye∘Xdc∘Uvg∘qbl∘Zye∘Xdc∘J9g∘qbl∘qb7∘qcg;refine J1 (Jb (Jq (Jh ?_)));apply qab∘Xah∘Xbu;refine q_c ?_ ?_<;>intro hc1;·rw [if_pos hc1] at hst;apply Xbc∘qdi∘qaa;refine q_l rfl zMc ?_;exact (qar) zfe
  rw [if_neg hc1,if_pos za] at hst;apply Xbc∘qdi∘qaa;refine q_l rfl zNc ?_;exact (qa9) zfe
 obtain rfl:k=x.l.length:=by omega
 apply Xdk∘Xak;refine q_i L R ?_;have e:=Vyd (F:=Ub) (G:=K2) (a:=a) (s:=s) (ps:=ps.l) (v:=v.toNat) a.mine.roads.l.length a.mine.roads.l.length (ym _);rw [yma hv.1] at e;exact ⟨by rw [K1c,yKa,hxl,e],rfl,rfl⟩
def Jec (n:XNet) (a:XAir) (s:XSetting) (ps:Arr Int) (v:Int) (L:LB) (R:LS) (hpp:InR (Yxa n.pipes) R) (haa:InR (Yja n.at_) R) (hps:InR (isl ps) R) (hn:NetIs a s n) (ha:AirOk a) (hl:ps.l.length=a.mine.places.l.length) (hb:PresOk ps.l) (hv:0≤v∧v < a.mine.places.l.length):
 Tri Tryz.prog 242 [n.val,ps.val,.int .i64 v].toArray L R (fun w U J=>w=.int .i64 (U9a a s ps.l v)∧L=U∧R=J):=by
 obtain ⟨x,hx⟩:=Kh (l:=n.at_.l) (k:=v.toNat) (by rw [hn.atl];omega);have hxl:=hn.at_ _ _ hx;have hxI:=InR.arr haa hx;have hnr:=ha.mine.roads;have hatl:=hn.atl;have hxn:x.l.length≤a.mine.roads.l.length:=by rw [hxl];exact K5a a _ _
 refine Je 57 Tryz.call242 Tryz.func242 rfl rfl rfl ?_;apply (Xaf);intro b3;apply Xag∘Xar∘Xah∘U2g∘qa7∘Xdg;refine Jm [(1,.slice _ _ _),(2,.int _ _),(3,.pointer _),(7,.int _ _),(16,.slice _ _ _),(17,.int _ _),(18,.int _ _)] zh fun tq0=>?_;refine q_s ([7,9,10,11]++rg 18 38) (fun g:{k:Nat // k≤x.l.length}=>[(7,.int .i64 (K6c K2 Ub a s ps.l v a.mine.roads.l.length (x.l.take g.1))),(18,.int .i64 ((g.1:Nat):Int))]) (fun g=>x.l.length - g.1) (⟨0,by omega⟩) ?_;rintro ⟨k,hk⟩ junk;try dsimp only
 apply (Xam);refine q_c ?_ ?_<;>intro hc0;·
  obtain ⟨e,he⟩:=Kh (l:=x.l) (k:=k) za;obtain ⟨i,p,hE⟩:=hn.entry ha (v:=v.toNat) (e:=e) (by rw [← hxl];exact yi he);have hek:=hE.he;have hpg:=hE.get;have hpI:=InR.pipe hpp hpg;have hro:=hE.road;have hr1:=hro.fr;have hr2:=hro.to;have hef:=hE.fr;have het:=hE.to;have hi:=hE.hi;have hsb:=J6b (ps:=ps.l) (v:=v) (K4b (s:=s) ha) (Ylb (s:=s) ha) za (x.l.take k);have htl:(x.l.take k).length≤k:=List.length_take_le _ _;have hst:=Kkd (F:=K2) (G:=Ub) (a:=a) (s:=s) (ps:=ps.l) (v:=v) (n:=a.mine.roads.l.length) he;rw [hE.num] at hst;have hpf:=Jn (l:=ps.l) (k:=p.road.fr.toNat) 0 za;have hpt:=Jn (l:=ps.l) (k:=p.road.to.toNat) 0 za;have hbf:=hb.get p.road.fr.toNat;have hbt:=hb.get p.road.to.toNat;have hdf:Ur a ps.l i=ps.l.getD p.road.fr.toNat 0 - ps.l.getD p.road.to.toNat 0:=by rw [Ur,hef,het]
  have hfl:=(K4b (s:=s) ha).bnd i hi (Ur a ps.l i);have hfh:=(Ylb (s:=s) ha).bnd i hi (Ur a ps.l i);rw [← hE.drop,hdf] at hfl hfh;rw [Upa,if_neg hE.closed,hdf,← hE.drop,← hef] at hst;have hends:=hE.ends;rw [← hef,← het] at hends;apply qbb∘Xdb∘Xag∘Xah∘Jng∘qdx∘qaq;intro b10;apply (Xct);refine Ki tb [0,1,2,3,4,5,6,7,8,9,10,11,12,13] _ Kq zc ye ?_;apply Zye∘Xdc∘Uvg∘qbl∘Zye∘Xdc∘J9g∘qbl∘qb7∘qcg;refine J1 (Jb (Jq (Jh ?_)));apply qab∘Xah∘Xbu;refine q_c ?_ ?_<;>intro hc1;·rw [if_pos hc1] at hst;apply Xbc∘qdi∘qaa;refine q_l rfl zNc ?_;exact (qar) zfe
  rw [if_neg hc1,if_pos za] at hst;apply Xbc∘qdi∘qaa;refine q_l rfl zMc ?_;exact (qa9) zfe
 obtain rfl:k=x.l.length:=by omega
 apply Xdk∘Xak;refine q_i L R ?_;have e:=Vyd (F:=K2) (G:=Ub) (a:=a) (s:=s) (ps:=ps.l) (v:=v.toNat) a.mine.roads.l.length a.mine.roads.l.length (ym _);rw [yma hv.1] at e;exact ⟨by rw [U9a,yKa,hxl,e],rfl,rfl⟩
end Go.Proofs.YtchfclmokpbldaaGreat
end
section
namespace Go.Proofs.YtchfclmokpbldaaGreat
open Go.Aw Go
set_option maxRecDepth 20000
attribute [local irreducible] CJ LJ DJ Tri YV Gives U5 J2 Kn U6 RV J4 OwL.L
abbrev sgn (up:Bool):Int:=if up then 1 else -1
abbrev K7b (up:Bool) (start:Int):Int:=if up then 70368744177664 - start else start + 70368744177664
structure First (g:Int→Bool) (start:Int) (up:Bool) (v:Int) (ok:Bool):Prop where
 yes:ok=true→∃m,0≤m∧m≤K7b up start∧v=start + sgn up * m∧g v=true∧∀j,0≤j→j < m→g (start + sgn up * j)=false
 no:ok=false→v=0∧∀j,0≤j→j≤K7b up start→g (start + sgn up * j)=false
def Stays (g:Int→Bool) (start:Int) (up:Bool):Prop:=∀i j,0≤i→i≤j→j≤K7b up start→g (start + sgn up * i)=true→g (start + sgn up * j)=true
def Stays.no {g:Int→Bool} {start:Int} {up:Bool} (h:Stays g start up) {i j:Int} (h0:0≤i) (hij:i≤j) (hj:j≤K7b up start) (hg:g (start + sgn up * j)=false):g (start + sgn up * i)=false:=by
 cases e:g (start + sgn up * i) with
 | false=>rfl
 | true=>rw [h i j h0 hij hj e] at hg;cases hg
def Vnc {up:Bool} {z:Int} (h:0≤z∧z≤281474976710656):-281474976710656≤sgn up * z∧sgn up * z≤281474976710656:=by cases up <;> simp only [sgn] <;> simp <;> omega
def Ybd {up:Bool} {start z:Int} (hs:-70368744177664≤start∧start≤70368744177664) (h:0≤z∧z≤K7b up start):-70368744177664≤start + sgn up * z∧start + sgn up * z≤70368744177664:=by cases up <;> simp only [sgn,K7b] at h ⊢ <;> simp at h ⊢ <;> omega
def Y5b {up:Bool} {start:Int} (hs:-70368744177664≤start∧start≤70368744177664):0≤K7b up start∧K7b up start≤140737488355328:=by cases up <;> simp [K7b] <;> omega
def Vac (f : FuncId) (cap : Array Value) (LL : Int → LB) (g : Int → Bool) (start : Int) (up : Bool) (y : Int) (R : LS) (hs : -70368744177664 ≤ start ∧ start ≤ 70368744177664) (hm : Stays g start up)
 (hc:∀x y,-70368744177664≤x∧x≤70368744177664→Tri Tryz.prog f (.int .i64 x :: cap.toList).toArray (LL y) R (fun v U J=>v=.bool (g x)∧LL x=U∧R=J)):
 Tri Tryz.prog 278 [.int .i64 start,.bool up,.func (.func f) #[] cap].toArray (LL y) R (fun v U J=>∃(z:Int) (ok:Bool) (y':Int),v=.tuple #[.int .i64 z,.bool ok]∧First g start up z ok∧LL y'=U∧R=J):=by
 have hro:=Y5b (up:=up) hs;have h00:start + sgn up * 0=start:=by simp
 refine Je 80 Tryz.call278 Tryz.func278 rfl rfl rfl ?_;apply Xae∘Xdv;refine Jy zSb rfl ?_;apply (qaa);refine Vwc (J0a rfl rfl (hc start y hs)) rfl rfl ?_;rintro v U J ⟨rfl,rfl,rfl⟩;apply (qaf);refine q_c ?_ ?_<;>intro hc0;·apply Xbk∘Xb6∘qbh;refine q_r (LL start) R zAd ?_;exact ⟨start,true,start,rfl,⟨fun _=>⟨0,by omega,by omega,h00.symm,hc0,fun j h1 h2=>by omega⟩,fun h=>by cases h⟩,rfl,rfl⟩
 apply qbv∘Xb1∘qad∘Xar∘qah∘Xbl;refine Kaa [8,9,21,22] ((⟨fun _=>[(8,.int .i64 (sgn up)),(9,.int .i64 (K7b up start))],fun _=>LL start,fun _=>R,fun _=>0⟩:Head Unit)) ?_ ?_;·
  skip
  refine q_c ?_ ?_<;>intro hc1;·apply qay∘Xa0∘qad∘Xax;subst hc1;exact q_j ()
  refine J5 ?_;subst hc1;exact q_j ()
 rintro u junk;try dsimp only
 apply Xae∘Xce;refine Kaa ([10,11]++rg 23 16) ((⟨fun g=>[(10,.int .i64 g.1.1),(11,.int .i64 g.1.2.1)],fun g=>LL g.1.2.2,fun _=>R,fun _=>0⟩:Head {q:Int×Int×Int // (0≤q.1∧q.1 < q.2.1∧q.2.1≤281474976710656)∧g (start + sgn up * q.1)=false∧(q.1=0∨q.1 < K7b up start)∧(q.2.1 < K7b up start→g (start + sgn up * q.2.1)=true)})) ?_ ?_;·
  refine Kk ?_;refine Ve ([10,11]++rg 23 16) zJ [(10,.int _ _),(11,.int _ _)] zh fun tq0=>?_;refine q_p ([10,11]++rg 23 16) ((⟨fun g=>[(10,.int .i64 g.1.1),(11,.int .i64 g.1.2.1)],fun g=>LL g.1.2.2,fun _=>R,fun g=>(K7b up start + 1 - g.1.1).toNat⟩:Head {q:Int×Int×Int // ((q.1=0∧q.2.1=1)∨(1≤q.1∧q.2.1=q.1 * 2))∧g (start + sgn up * q.1)=false∧(q.1=0∨q.1 < K7b up start)})) (⟨(0,1,start),.inl ⟨rfl,rfl⟩,by rw [h00];exact hc0,.inl rfl⟩) ?_;rintro ⟨⟨bad,good,y2⟩,hbg,hbf,hbr⟩ junk;try dsimp only
  dsimp only at hbg hbf hbr;have hgm:=Vnc (up:=up) (z:=good) za;apply Xa3∘qaa∘Xav;refine Yl (k:=26) zsb (fun hg4=>?_) (fun hg4=>?_);·
   replace hg4:=qb hg4;refine K8 zSb rfl rfl ?_;(iterate 3 refine K8 zqd rfl rfl ?_);apply Jtg∘Uhg;refine Vwc (J0a rfl rfl (hc (start + sgn up * good) y2 (Ybd hs za))) rfl rfl ?_;rintro v U J ⟨rfl,rfl,rfl⟩;refine K8 (Ywa rfl) rfl rfl ?_;apply Ubf∘qaf;refine q_c ?_ ?_<;>intro hc2;·refine J5 (Jb (Jq (Kk (Jh ?_))));apply qaa∘qad∘qcs∘Xdl∘Xax;exact q_k ⟨(good,good * 2,start + sgn up * good),by dsimp only;omega,by simpa using hc2,by dsimp only;omega⟩
   exact zje
  replace hg4:=qb hg4;iterate 8 refine Jma rfl rfl ?_
  apply Ubf∘qaf;refine Uw rfl ?_;exact zje
 rintro ⟨⟨bad,good,y2⟩,hbg,hbf,hbr,hgt⟩ junk;try dsimp only
 dsimp only at hbg hbf hbr hgt;apply Xa3∘qaa∘Xcv;refine Kaa ([6,7,11]++rg 42 14) ((⟨fun q=>[(11,.int .i64 q.1.1)],fun q=>LL q.1.2,fun _=>R,fun _=>0⟩:Head {q:Int×Int // bad < q.1∧q.1≤K7b up start∧g (start + sgn up * q.1)=true})) ?_ ?_;·
  skip
  refine q_c ?_ ?_<;>intro hc3;·
   apply Xbk∘Xce;have hgm:=Vnc (up:=up) (z:=K7b up start) za;apply Xbc∘qaa∘qbx∘qah;refine Yl (k:=46) zsb (fun hg4=>?_) (fun hg4=>?_);·replace hg4:=qb hg4;(iterate 8 refine Jma rfl rfl ?_);apply Ubf∘qaf;refine Uf rfl ?_;exact uaA
   replace hg4:=qb hg4;refine K8 zSb rfl rfl ?_;(iterate 3 refine K8 zqd rfl rfl ?_);apply Jtg∘Uhg;refine Vwc (J0a rfl rfl (hc (start + sgn up * K7b up start) y2 (Ybd hs za))) rfl rfl ?_;rintro v U J ⟨rfl,rfl,rfl⟩;refine K8 (Ywa rfl) rfl rfl ?_;apply Ubf∘qaf;refine q_c ?_ ?_<;>intro hc4;·exact uaA
   refine J5 ?_;exact q_j ⟨(K7b up start,start + sgn up * K7b up start),by dsimp only;omega,by dsimp only;omega,by simpa using hc4⟩
  refine J5 ?_;exact q_j ⟨(good,y2),by dsimp only;omega,by dsimp only;omega,hgt za⟩
 rintro ⟨⟨good2,y3⟩,h31,h32,h33⟩ junk;try dsimp only
 dsimp only at h31 h32 h33;refine Jq (Kk ?_);refine Jm [(0,.int _ _),(2,_),(8,.int _ _),(10,.int _ _),(11,.int _ _)] zh fun tq1=>?_;refine q_p ([10,11,12]++rg 56 19) ((⟨fun q=>[(10,.int .i64 q.1.1),(11,.int .i64 q.1.2.1)],fun q=>LL q.1.2.2,fun _=>R,fun q=>(q.1.2.1 - q.1.1).toNat⟩:Head {q:Int×Int×Int // (0≤q.1∧q.1 < q.2.1∧q.2.1≤K7b up start)∧g (start + sgn up * q.1)=false∧g (start + sgn up * q.2.1)=true})) (⟨(bad,good2,y3),by dsimp only;omega,hbf,h33⟩) ?_;rintro ⟨⟨lo,hi,y4⟩,q1,q2,q3⟩ junk;try dsimp only
 dsimp only at q1 q2 q3;apply Xa3∘Xac∘Xa5;refine q_c ?_ ?_<;>intro hc5;·
  obtain ⟨mid,hmid⟩:∃mid,mid=lo + (hi - lo).tdiv 2:=⟨_,rfl⟩;have hmb:lo < mid∧mid < hi:=by rw [yda za] at hmid;omega
  have hdv:0≤(hi - lo).tdiv 2∧(hi - lo).tdiv 2≤hi - lo:=by rw [yda za];omega
  refine J5 (Jb (Kk (Jq (Jh ?_))));iterate 3 apply (qaa)
  apply qa9∘qdd∘qar∘Xce;rw [← hmid];have hgm:=Vnc (up:=up) (z:=mid) za;apply (qay);refine Jy zSb rfl ?_;iterate 3 apply (qaa)
  apply qcm∘qar;refine Vwc (J0a rfl rfl (hc (start + sgn up * mid) y4 (Ybd hs za))) rfl rfl ?_;rintro v U J ⟨rfl,rfl,rfl⟩;apply (qaf);refine q_c ?_ ?_<;>intro hc6;·apply Xbc∘qad;refine Kc (Ji ?_);exact q_k ⟨(lo,mid,start + sgn up * mid),by dsimp only;omega,q2,hc6⟩
  apply Xbc∘qad;refine Kc (Ji ?_);exact q_k ⟨(mid,hi,start + sgn up * mid),by dsimp only;omega,hc6,q3⟩
 apply (qc3);have hgm:=Vnc (up:=up) (z:=hi) za;apply (qay);iterate 3 apply (qaa)
 apply qcm∘qar∘qad∘Xbb;refine q_r (LL y4) R zAd ?_;exact ⟨start + sgn up * hi,true,y4,rfl,⟨fun _=>⟨hi,by omega,by omega,rfl,q3,fun j h1 h2=>hm.no h1 (show j≤lo by omega) za q2⟩,fun h=>by cases h⟩,rfl,rfl⟩
end Go.Proofs.YtchfclmokpbldaaGreat
end
section
namespace Go.Proofs.YtchfclmokpbldaaGreat
open Go.Aw Go
set_option maxRecDepth 20000
attribute [local irreducible] CJ LJ DJ Tri YV Gives U5 J2 Kn U6 RV J4 OwL.L
def Tri.lend1 {P : Program} {f : FuncId} {args : Array Value} {A : LB} {R : LS} {p : OwL Int} {T : TypeId} {u : Value} (hin : InB (p.L T Jk) A) (hok : p.ok 1 Jk)
 (h:Tri P f args [] (isl p.arr :: R) (fun v U J=>v=u∧[]=U∧isl p.arr :: R=J)):Tri P f args A R (fun v U J=>v=u∧A=U∧R=J):=by have h2:=Tri.lend (S:=[isl p.arr]) (Post:=fun v U=>v=u∧[]=U) (Spl.rest (L:=A)) (fun w G hh s hs=>by rw [List.mem_singleton.1 hs];exact Ya hh hin hok yf ze yg) (h.mono fun v U J ⟨a1,a2,a3⟩=>⟨⟨a1,a2⟩,a3⟩);exact zxe
def V5g {o:Ow} {l:List Int} {k:Nat} {y:Int}:(⟨o,l⟩:OwL Int).val=(⟨o,l.set k y⟩:OwL Int).val:=OwL.set_val.symm
structure HypsN (n:XNet) (a:XAir) (s:XSetting) (ps:List Int) (v:Int) (R:LS):Prop where
 pp:InR (Yxa n.pipes) R
 aa:InR (Yja n.at_) R
 is:NetIs a s n
 ok:AirOk a
 len:ps.length=a.mine.places.l.length
 pres:PresOk ps
 v:0≤v∧v < a.mine.places.l.length
def V3f {n:XNet} {a:XAir} {s:XSetting} {o:Ow} {ps:List Int} {v y:Int} {A:LB} {R:LS} (h:HypsN n a s ps v R) (hy:-70368744177664≤y∧y≤70368744177664) (hin:InB ((⟨o,ps.set v.toNat y⟩:OwL Int).L 3 Jk) A) (hok:(⟨o,ps.set v.toNat y⟩:OwL Int).ok 1 Jk):
 Tri Tryz.prog 241 [n.val,(⟨o,ps⟩:OwL Int).val,.int .i64 v].toArray A R (fun w U J=>w=.int .i64 (K1c a s (ps.set v.toNat y) v)∧A=U∧R=J):=by rw [V5g (k:=v.toNat) (y:=y)];exact Tri.lend1 hin hok (Uec n a s (⟨o,ps.set v.toNat y⟩:OwL Int).arr v [] _ (h.pp.mono fun r hr=>Ja (.tail _ hr)) (h.aa.mono fun r hr=>Ja (.tail _ hr)) zJb h.is h.ok (by simp [h.len]) (h.pres.set _ hy) h.v)
def Kwf {n:XNet} {a:XAir} {s:XSetting} {o:Ow} {ps:List Int} {v y:Int} {A:LB} {R:LS} (h:HypsN n a s ps v R) (hy:-70368744177664≤y∧y≤70368744177664) (hin:InB ((⟨o,ps.set v.toNat y⟩:OwL Int).L 3 Jk) A) (hok:(⟨o,ps.set v.toNat y⟩:OwL Int).ok 1 Jk):
 Tri Tryz.prog 242 [n.val,(⟨o,ps⟩:OwL Int).val,.int .i64 v].toArray A R (fun w U J=>w=.int .i64 (U9a a s (ps.set v.toNat y) v)∧A=U∧R=J):=by rw [V5g (k:=v.toNat) (y:=y)];exact Tri.lend1 hin hok (Jec n a s (⟨o,ps.set v.toNat y⟩:OwL Int).arr v [] _ (h.pp.mono fun r hr=>Ja (.tail _ hr)) (h.aa.mono fun r hr=>Ja (.tail _ hr)) zJb h.is h.ok (by simp [h.len]) (h.pres.set _ hy) h.v)
abbrev U7f (a:XAir) (s:XSetting) (ps:List Int) (v:Int):Int→Bool:=fun x=>decide (0≤K1c a s (ps.set v.toNat x) v)
abbrev Vpd (a:XAir) (s:XSetting) (ps:List Int) (v:Int):Int→Bool:=fun x=>decide (U9a a s (ps.set v.toNat x) v≤0)
def Kae {a:XAir} {s:XSetting} {ps:List Int} {v start:Int} (ha:AirOk a) (hv:v.toNat < ps.length):Stays (U7f a s ps v) start true:=by intro i j h0 hij hj hg;rw [decide_eq_true_eq] at hg ⊢;have:=Yse (s:=s) ha (Y9c (ps:=ps) hv (show start + sgn true * i≤start + sgn true * j by simp only [sgn];simp;omega));omega
def K7d {a:XAir} {s:XSetting} {ps:List Int} {v start:Int} (ha:AirOk a) (hv:v.toNat < ps.length):Stays (Vpd a s ps v) start false:=by intro i j h0 hij hj hg;rw [decide_eq_true_eq] at hg ⊢;have:=Jge (s:=s) ha (Y9c (ps:=ps) hv (show start + sgn false * j≤start + sgn false * i by simp only [sgn];simp;omega));omega
abbrev clL (b8 b5 b3:Nat) (n:XNet) (o:Ow) (ps:List Int) (v:Int) (L:LB) (y:Int):LB:=
 ⟨b8,[(⟨o,ps⟩:OwL Int).val],40⟩ :: ((⟨o,ps.set v.toNat y⟩:OwL Int).L 3 Jk ++ (⟨b5,[.int .i64 v],3⟩ :: ⟨b3,n.cells,221⟩ :: L))
def J7e {b8 b5 b3:Nat} {n:XNet} {a:XAir} {s:XSetting} {o:Ow} {ps:List Int} {u:Int} {L:LB} {R:LS} (h:HypsN n a s ps u R) (hok:(⟨o,ps⟩:OwL Int).ok 1 Jk) (x y:Int) (hx:-70368744177664≤x∧x≤70368744177664):
 Tri Tryz.prog 280 [.int .i64 x,.pointer (some ⟨b8,0,none⟩),.pointer (some ⟨b5,0,none⟩),.pointer (some ⟨b3,0,none⟩)].toArray (clL b8 b5 b3 n o ps u L y) R (fun w U J=>w=.bool (U7f a s ps u x)∧clL b8 b5 b3 n o ps u L x=U∧R=J):=by have hv:=h.v;have hlen:=h.len;have hok2:∀z,(⟨o,ps.set u.toNat z⟩:OwL Int).ok 1 Jk:=fun z=>OwL.len_ok Vh hok zo;have hoky:=hok2 y;have hget:=Jn (l:=ps.set u.toNat y) (k:=u.toNat) 0 zH;refine Je 15 Tryz.call280 Tryz.func280 rfl rfl rfl ?_;apply Xdz∘qac∘qac∘qaa∘Upg∘K3g;rintro v U J ⟨rfl,rfl⟩;apply (qa4);refine U4 (by rw [yPa]) ?_;apply qay∘qbe∘qac∘qac;refine q_l rfl (V3f (o:=o) (y:=x) h hx zG (hok2 x)) ?_;apply qbz∘Xbb;refine q_b (clL b8 b5 b3 n o ps u L x) R ?_;exact zbe
def Jnd (n:XNet) (a:XAir) (s:XSetting) (ps:Arr Int) (u:Int) (L:LB) (R:LS) (h:HypsN n a s ps.l u R) (hps:InR (isl ps) R):
 Tri Tryz.prog 240 [n.val,ps.val,.int .i64 u].toArray L R (fun w U J=>∃(z:Int) (ok:Bool),w=.tuple #[.int .i64 z,.bool ok]∧First (U7f a s ps.l u) (ps.l.getD u.toNat 0) true z ok∧L=U∧R=J):=by have hv:=h.v;have hlen:=h.len;have hnp:=h.ok.mine.places;have hget:=Jn (l:=ps.l) (k:=u.toNat) 0 za;have hb:=h.pres.get u.toNat;have hst:=Kae (s:=s) (start:=ps.l.getD u.toNat 0) h.ok (ps:=ps.l) (v:=u) za;refine Je 19 Tryz.call240 Tryz.func240 rfl rfl rfl ?_;apply (Xaf);intro b3;refine Utd (v:=Value.int _ _) rfl rfl rfl ?_;intro b5;apply qad∘Xbn∘qbm∘Kfg;rintro v U J ⟨o10,rfl,hok10,rfl,rfl⟩;apply (qaq);intro b8;apply qcy∘qam∘qbm∘qac∘Khg∘qa7;refine Jy (Yuc rfl) rfl ?_;refine Vxg zLc ?_;refine Jw rfl (Vac 280 #[.pointer (some ⟨b8,0,none⟩),.pointer (some ⟨b5,0,none⟩),.pointer (some ⟨b3,0,none⟩)] (clL b8 b5 b3 n o10 ps.l u L) (U7f a s ps.l u) (ps.l.getD u.toNat 0) true (ps.l.getD u.toNat 0) _ hb hst (fun x y hx=>J7e h hok10 x y hx)) rfl ?_;exact zre
def Vjc {b8 b5 b3:Nat} {n:XNet} {a:XAir} {s:XSetting} {o:Ow} {ps:List Int} {u:Int} {L:LB} {R:LS} (h:HypsN n a s ps u R) (hok:(⟨o,ps⟩:OwL Int).ok 1 Jk) (x y:Int) (hx:-70368744177664≤x∧x≤70368744177664):
 Tri Tryz.prog 279 [.int .i64 x,.pointer (some ⟨b8,0,none⟩),.pointer (some ⟨b5,0,none⟩),.pointer (some ⟨b3,0,none⟩)].toArray (clL b8 b5 b3 n o ps u L y) R (fun w U J=>w=.bool (Vpd a s ps u x)∧clL b8 b5 b3 n o ps u L x=U∧R=J):=by have hv:=h.v;have hlen:=h.len;have hok2:∀z,(⟨o,ps.set u.toNat z⟩:OwL Int).ok 1 Jk:=fun z=>OwL.len_ok Vh hok zo;have hoky:=hok2 y;have hget:=Jn (l:=ps.set u.toNat y) (k:=u.toNat) 0 zH;refine Je 15 Tryz.call279 Tryz.func279 rfl rfl rfl ?_;apply Xdz∘qac∘qac∘qaa∘Upg∘K3g;rintro v U J ⟨rfl,rfl⟩;apply (qa4);refine U4 (by rw [yPa]) ?_;apply qay∘qbe∘qac∘qac;refine q_l rfl (Kwf (o:=o) (y:=x) h hx zG (hok2 x)) ?_;apply qbx∘Xbb;refine q_b (clL b8 b5 b3 n o ps u L x) R ?_;exact zbe
def Jfc (n:XNet) (a:XAir) (s:XSetting) (ps:Arr Int) (u:Int) (L:LB) (R:LS) (h:HypsN n a s ps.l u R) (hps:InR (isl ps) R):
 Tri Tryz.prog 239 [n.val,ps.val,.int .i64 u].toArray L R (fun w U J=>∃(z:Int) (ok:Bool),w=.tuple #[.int .i64 z,.bool ok]∧First (Vpd a s ps.l u) (ps.l.getD u.toNat 0) false z ok∧L=U∧R=J):=by have hv:=h.v;have hlen:=h.len;have hnp:=h.ok.mine.places;have hget:=Jn (l:=ps.l) (k:=u.toNat) 0 za;have hb:=h.pres.get u.toNat;have hst:=K7d (s:=s) (start:=ps.l.getD u.toNat 0) h.ok (ps:=ps.l) (v:=u) za;refine Je 19 Tryz.call239 Tryz.func239 rfl rfl rfl ?_;apply (Xaf);intro b3;refine Utd (v:=Value.int _ _) rfl rfl rfl ?_;intro b5;apply qad∘Xbn∘qbm∘Kfg;rintro v U J ⟨o10,rfl,hok10,rfl,rfl⟩;apply (qaq);intro b8;apply qcy∘qam∘qbm∘qac∘Khg∘qa7;refine Jy (Yuc rfl) rfl ?_;refine Vxg zLc ?_;refine Jw rfl (Vac 279 #[.pointer (some ⟨b8,0,none⟩),.pointer (some ⟨b5,0,none⟩),.pointer (some ⟨b3,0,none⟩)] (clL b8 b5 b3 n o10 ps.l u L) (Vpd a s ps.l u) (ps.l.getD u.toNat 0) false (ps.l.getD u.toNat 0) _ hb hst (fun x y hx=>Vjc h hok10 x y hx)) rfl ?_;exact zre
end Go.Proofs.YtchfclmokpbldaaGreat
end
section
namespace Go.Proofs.YtchfclmokpbldaaGreat
open Go.Aw Go
set_option maxRecDepth 20000
attribute [local irreducible] CJ LJ DJ Tri YV Gives U5 J2 Kn U6 RV J4 OwL.L
end Go.Proofs.YtchfclmokpbldaaGreat
end
section
namespace Go.Proofs.YtchfclmokpbldaaGreat
open Go.Aw Go
set_option maxRecDepth 20000
attribute [local irreducible] CJ LJ DJ Tri YV Gives U5 J2 Kn U6 RV J4 OwL.L
def Zra {ps:List Int} (h:ps.findSome? Ul=none):PresOk ps:=fun p hp=>by
 obtain ⟨i,hi⟩:=List.mem_iff_getElem?.1 hp
 exact Vjb h i p hi
def J7b {ps:List Int} (h:PresOk ps):ps.findSome? Ul=none:=List.findSome?_eq_none_iff.2 fun p hp=>by
 have:=h p hp
 exact if_neg za
section
variable {a:XAir} {s:XSetting} {ps:Arr Int} {v:Int}
end
end Go.Proofs.YtchfclmokpbldaaGreat
end
section
namespace Go.Proofs.YtchfclmokpbldaaGreat
open Go.Aw Go
def Kfb (a : XAir) (fl : List Int) (v : Int) : Nat → Int
 | 0=>0
 | k + 1=>Kfb a fl v k + (if (a.mine.roads.l.getD k default).fr=v then fl.getD k 0 else if (a.mine.roads.l.getD k default).to=v then -(fl.getD k 0) else 0)
def Jwd {a : XAir} {x : XState} (ha : AirOk a) (hl : x.pres.l.length = a.mine.places.l.length) {v : Nat} (hv : v < a.mine.places.l.length) : ∀ k, k ≤ a.mine.roads.l.length → (Yw a x k).getD v 0 = Kfb a x.flows.l (v : Int) k
 | 0,_=>by rw [Yw,Kfb,yh,yB];split <;> rfl
 | k + 1,hk=>by
  have ih:=Jwd ha hl hv k za
  have hln:=Uxa a x k
  have hro:=ha.mine.road k _ zDc
  have h1:=hro.fr
  have h2:=hro.to
  have h3:=hro.ne
  rw [Yw,Kfb]
  rw [Z8 zha,Z8 za,Z8 za]
  by_cases hf:(a.mine.roads.l.getD k default).fr=(v:Int)
  ·rw [if_neg za,if_pos za,if_pos hf,show (a.mine.roads.l.getD k default).fr.toNat=v from by omega,ih]
  ·rw [if_neg hf]
   by_cases ht:(a.mine.roads.l.getD k default).to=(v:Int)
   ·rw [if_pos za, if_pos ht, if_neg za, show (a.mine.roads.l.getD k default).to.toNat = v from by omega, ih]
    omega
   ·rw [if_neg za, if_neg za, if_neg ht, ih]
    omega
def FitsF.still {a:XAir} {s:XSetting} {x:XState} (h:FitsF a s x) (ha:AirOk a) {v:Nat} (hv:v < a.mine.places.l.length) (hs:(a.mine.places.l.getD v default).surface=false):Kfb a x.flows.l (v:Int) a.mine.roads.l.length=0:=by
 have hp:=h.place v hv;unfold Uz at hp;split at hp;·cases hp
 ·
  rename_i hn;rw [h.flen,Jwd ha h.plen hv _ (ym _)] at hn;rcases Int.decEq (Kfb a x.flows.l (v:Int) a.mine.roads.l.length) 0 with h0 | h0;·exact absurd (.inr ⟨hs,h0⟩) hn
  ·exact h0
end Go.Proofs.YtchfclmokpbldaaGreat
end
