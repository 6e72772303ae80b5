/-
  Nets: NetS, NetW, Find, LeastW, RefUp, Bal, NetP, in one text. By an AI agent; no person has read it.
-/
import Derived.Test.YtchfclmokpbldaaGreatFits
import Derived.Test.YtchfclmokpbldaaGreatDraws
set_option linter.all false
set_option maxHeartbeats 4000000
section
variable {A B:Prop}
def Kgf(h:A→B:=by exact K0 zdd rfl rfl rfl):=h
def Zue(h:A→B:=by exact Jy zN rfl):=h
def Utg(h:A→B:=by exact Jy (by first | exact Je tb rfl rfl rfl rfl zy (i:=v.toNat) zk za | exact Jn tb rfl rfl rfl rfl (i:=v.toNat) zk za) rfl):=h
def Jfg(h:A→B:=by exact Jy (by first | exact Je tb rfl rfl rfl rfl zy (i:=e.toNat) zk za | exact Jn tb rfl rfl rfl rfl (i:=e.toNat) zk za) rfl):=h
def Jog(h:A→B:=by exact K0 (by first | exact Je tb rfl rfl rfl rfl zy (i:=p.road.fr.toNat) zk za | exact Jn tb rfl rfl rfl rfl (i:=p.road.fr.toNat) zk za) rfl rfl rfl):=h
def Jgg(h:A→B:=by exact K0 (by first | exact Je tb rfl rfl rfl rfl zy (i:=p.road.to.toNat) zk za | exact Jn tb rfl rfl rfl rfl (i:=p.road.to.toNat) zk za) rfl rfl rfl):=h
def Uog(h:A→B:=by exact Zt zEa rfl rfl):=h
def Uqg(h:A→B:=by exact Zt zua rfl rfl):=h
def Jtg(h:A→B:=by exact Jy (Jw tb ((⟨o,ps.set u.toNat y⟩:OwL Int)) _ rfl rfl ((show _=Value.slice _ _ _ from rfl).trans Yeg) rfl zi (i:=u.toNat) zk zw) rfl):=h
def J0g(h:A→B:=by exact Ye (Ju tb ((⟨o,ps.set u.toNat y⟩:OwL Int)) (x) rfl rfl rfl rfl zj zi yf zi ze zb zb)):=h
def Kdg(h:A→B:=by exact Y3 (Ku (f:=Jk) (xs:=ps) tb rfl rfl rfl ze rfl rfl (hps) yf za) rfl):=h
def Kgg(h:A→B:=by exact Jy (by first | exact Je tb rfl rfl rfl rfl zy (i:=u.toNat) zk za | exact Jn tb rfl rfl rfl rfl (i:=u.toNat) zk za) rfl):=h
end
section
namespace Go.Proofs.YtchfclmokpbldaaGreat
open Go.Aw Go
def Uoa (a:XAir) (ps:List Int) (k:Nat):Int:=ps.getD (a.mine.roads.l.getD k default).fr.toNat 0 - ps.getD (a.mine.roads.l.getD k default).to.toNat 0
def Zza (F G:(Int→XSpan)→Int→Int) (a:XAir) (s:XSetting) (ps:List Int) (v:Int) (k:Nat):Int:=
 if (a.mine.roads.l.getD k default).closed=true then 0
 else if (a.mine.roads.l.getD k default).fr=v then F (K3 a s k) (Uoa a ps k)
 else if (a.mine.roads.l.getD k default).to=v then -(G (K3 a s k) (Uoa a ps k)) else 0
def Jkd (F G : (Int → XSpan) → Int → Int) (a : XAir) (s : XSetting) (ps : List Int) (v : Int) : Nat → Int
 | 0=>0
 | k + 1=>Jkd F G a s ps v k + Zza F G a s ps v k
def Ypc (a:XAir) (s:XSetting) (ps:List Int) (v:Int):Int:=Jkd Vm Um a s ps v a.mine.roads.l.length
def Yna (a:XAir) (s:XSetting) (ps:List Int) (v:Int):Int:=Jkd Um Vm a s ps v a.mine.roads.l.length
structure Ends (F:(Int→XSpan)→Int→Int) (a:XAir) (s:XSetting):Prop where
 bnd:∀k:Nat,k < a.mine.roads.l.length→∀p,-1048577≤F (K3 a s k) p∧F (K3 a s k) p≤1048577
def V4b {a:XAir} {s:XSetting} (ha:AirOk a):Ends Vm a s:=⟨fun k hk p=>by have:=(Zna (s:=s) ha (r:=(k:Int)) za p).bnd;omega⟩
def Knb {a:XAir} {s:XSetting} (ha:AirOk a):Ends Um a s:=⟨fun k hk p=>by have:=(V8a (s:=s) ha (r:=(k:Int)) za p).bnd;omega⟩
section
variable {F G:(Int→XSpan)→Int→Int} {a:XAir} {s:XSetting} {ps:List Int} {v:Int}
def U8b (hF:Ends F a s) (hG:Ends G a s) {k:Nat} (hk:k < a.mine.roads.l.length):-1048577≤Zza F G a s ps v k∧Zza F G a s ps v k≤1048577:=by
 have h1:=hF.bnd k hk (Uoa a ps k);have h2:=hG.bnd k hk (Uoa a ps k);unfold Zza;split;·omega
 ·
  split;·exact h1
  ·split <;> omega
def Ubd (hF : Ends F a s) (hG : Ends G a s) : ∀ k : Nat, k ≤ a.mine.roads.l.length → -(1048577 * (k : Int)) ≤ Jkd F G a s ps v k ∧ Jkd F G a s ps v k ≤ 1048577 * (k : Int)
 | 0,_=>by simp [Jkd]
 | k + 1,hk=>by
  have ih:=Ubd hF hG k za
  have h:=U8b (ps:=ps) (v:=v) hF hG (k:=k) za
  rw [Jkd]
  omega
def Klc (F G : (Int → XSpan) → Int → Int) (a : XAir) (s : XSetting) (ps : List Int) (v : Int) (n : Nat) : List Int → Int
 | []=>0
 | e :: l=>Klc F G a s ps v n l + Zza F G a s ps v ((U5 a n).getD e.toNat 0)
def Jac (n:Nat) (l m:List Int):Klc F G a s ps v n (l ++ m)=Klc F G a s ps v n l + Klc F G a s ps v n m:=by
 induction l with
 | nil=>simp [Klc]
 | cons e l ih=>rw [yu,Klc,Klc,ih];omega
def Yea (a : XAir) {k : Nat} : ∀ {n : Nat}, k ≤ n → ∃ m, U5 a n = U5 a k ++ m
 | 0,h=>⟨[],by rw [show k=0 by omega];rfl⟩
 | n + 1,h=>by
  rcases yl n k with h' | h'
  ·exact ⟨[],by rw [show k=n + 1 by omega];simp⟩
  ·obtain ⟨m, hm⟩ := Yea a (k := k) (n := n) h'
   rw [U5]
   split
   ·exact ⟨m,hm⟩
   ·exact ⟨m ++ [n],by rw [hm,yo]⟩
def Ytc (a:XAir) {k n:Nat} (hk:k < n) (hc:¬ (a.mine.roads.l.getD k default).closed=true):(U5 a n).getD (U5 a k).length 0=k:=by obtain ⟨m,hm⟩:=Yea a (show k + 1≤n from hk);rw [hm,U5,if_neg hc,yo,yh,yB (ym _)];simp
def Vzd (n : Nat) {v : Nat} : ∀ k, k ≤ n → Klc F G a s ps v n (Vcd a v k) = Jkd F G a s ps v k
 | 0,_=>rfl
 | k + 1,hk=>by
  have ih:=Vzd n (v:=v) k za
  rw [Vcd,Jkd]
  split
  ·rename_i hc
   rw [ih,Zza,if_pos hc];omega
  ·rename_i hc
   split
   ·rename_i hv
    rw [Jac,ih,Klc,Klc,yD,Ytc a za hc]
    omega
   ·rename_i hv
    rw [ih,Zza,if_neg hc,if_neg (fun h=>hv (.inl h)),if_neg (fun h=>hv (.inr h))];omega
def V9b (a : XAir) {v : Nat} : ∀ k, ∀ e ∈ Vcd a v k, ∃ i : Nat, i < k ∧ e = ((U5 a i).length : Int) ∧ ¬ (a.mine.roads.l.getD i default).closed = true ∧ ((a.mine.roads.l.getD i default).fr = (v : Int) ∨ (a.mine.roads.l.getD i default).to = (v : Int))
 | 0,e,h=>by cases h
 | k + 1,e,h=>by
  rw [Vcd] at h
  split at h
  ·obtain ⟨i,h1,h2⟩:=V9b a k e h;exact ⟨i,by omega,h2⟩
  ·rename_i hc
   split at h
   ·rename_i hv
    rcases List.mem_append.1 h with h | h
    ·obtain ⟨i,h1,h2⟩:=V9b a k e h;exact ⟨i,by omega,h2⟩
    ·rw [List.mem_singleton.1 h];exact ⟨k,by omega,rfl,hc,hv⟩
   ·obtain ⟨i,h1,h2⟩:=V9b a k e h;exact ⟨i,by omega,h2⟩
end
structure MonoE (F:(Int→XSpan)→Int→Int) (a:XAir) (s:XSetting):Prop where
 mono:∀k:Nat,k < a.mine.roads.l.length→∀p q:Int,p≤q→F (K3 a s k) p≤F (K3 a s k) q
def Zld {a:XAir} {s:XSetting} (ha:AirOk a):MonoE Vm a s:=⟨fun k hk p q h=>Zic (s:=s) ha (r:=(k:Int)) za h⟩
def Jmd {a:XAir} {s:XSetting} (ha:AirOk a):MonoE Um a s:=⟨fun k hk p q h=>Vhc (s:=s) ha (r:=(k:Int)) za h⟩
structure Above (ps qs:List Int) (v:Int):Prop where
 own:ps.getD v.toNat 0≤qs.getD v.toNat 0
 rest:∀k:Nat,k≠v.toNat→qs.getD k 0≤ps.getD k 0
def Zbb {F G : (Int → XSpan) → Int → Int} {a : XAir} {s : XSetting} {ps qs : List Int} {v : Int} (ha : AirOk a) (hF : MonoE F a s) (hG : MonoE G a s) (h : Above ps qs v) : ∀ k : Nat, k ≤ a.mine.roads.l.length → Jkd F G a s ps v k ≤ Jkd F G a s qs v k
 | 0,_=>yF _
 | k + 1,hk=>by
  have ih:=Zbb ha hF hG h k za
  have hro:=ha.mine.road k _ zBc
  have h1:=hro.fr
  have h2:=hro.to
  have h3:=hro.ne
  have ho:=h.own
  rw [Jkd,Jkd,Zza,Zza]
  split
  ·omega
  ·split
   ·rename_i hf
    have hr:=h.rest (a.mine.roads.l.getD k default).to.toNat za
    have:=hF.mono k za (Uoa a ps k) (Uoa a qs k) (by rw [Uoa,Uoa,hf];omega)
    omega
   ·split
    ·rename_i hf ht
     have hr:=h.rest (a.mine.roads.l.getD k default).fr.toNat za
     have:=hG.mono k za (Uoa a qs k) (Uoa a ps k) (by rw [Uoa,Uoa,ht];omega)
     omega
    ·omega
def U6e {a:XAir} {s:XSetting} {ps qs:List Int} {v:Int} (ha:AirOk a) (h:Above ps qs v):Ypc a s ps v≤Ypc a s qs v:=Zbb ha (Zld ha) (Jmd ha) h _ (ym _)
def Jbe {a:XAir} {s:XSetting} {ps qs:List Int} {v:Int} (ha:AirOk a) (h:Above ps qs v):Yna a s ps v≤Yna a s qs v:=Zbb ha (Jmd ha) (Zld ha) h _ (ym _)
def U7a {l:List Int} {k i:Nat} {v:Int} (hk:k < l.length):(l.set k v).getD i 0=if i=k then v else l.getD i 0:=by exact uaH
def Jzd {ps:List Int} {v x y:Int} (hv:v.toNat < ps.length) (h:x≤y):Above (ps.set v.toNat x) (ps.set v.toNat y) v:=
 ⟨by rw [U7a hv,U7a hv,if_pos rfl,if_pos rfl];exact h,fun k hk=>by rw [U7a hv,U7a hv,if_neg hk,if_neg hk];exact yF _⟩
def Zma {l:List Int} {k:Nat}:l.set k (l.getD k 0)=l:=by
 rcases yl k l.length with h | h;·have := Jt (l := l) (k := k) 0 h;obtain ⟨_,h2⟩:=List.getElem?_eq_some_iff.1 this;rw [← h2,List.set_getElem_self]
 ·exact List.set_eq_of_length_le h
def PresOk (ps:List Int):Prop:=∀p∈ps,-70368744177664≤p∧p≤70368744177664
def PresOk.get {ps:List Int} (h:PresOk ps) (k:Nat):-70368744177664≤ps.getD k 0∧ps.getD k 0≤70368744177664:=by
 rcases yl k ps.length with h' | h';·exact h _ (yi (Jt (l:=ps) 0 h'))
 ·rw [yh,yt h'];decide
def PresOk.set {ps:List Int} (h:PresOk ps) (k:Nat) {x:Int} (hx:-70368744177664≤x∧x≤70368744177664):PresOk (ps.set k x):=fun p hp=>by
 rcases ytb hp with h1 | h1
 ·exact h p h1
 ·rw [h1];exact hx
end Go.Proofs.YtchfclmokpbldaaGreat
end
section
namespace Go.Proofs.YtchfclmokpbldaaGreat
open Go.Aw Go
set_option maxRecDepth 20000
attribute [local irreducible] CJ LJ DJ Tri YV Gives Uq J2 Km Ur RV J4 OwL.L
structure Entry (n:XNet) (a:XAir) (s:XSetting) (v:Int) (e:Int) (i:Nat) (p:XPipe):Prop where
 hi:i < a.mine.roads.l.length
 he:0≤e∧e < n.pipes.l.length
 get:n.pipes.l[e.toNat]?=some p
 num:(U5 a a.mine.roads.l.length).getD e.toNat 0=i
 is:PipeIs a s i p
 ok:PipeOk p
 drop:Jeb p=K3 a s i
 closed:¬ (a.mine.roads.l.getD i default).closed=true
 ends:(a.mine.roads.l.getD i default).fr=v∨(a.mine.roads.l.getD i default).to=v
 fr:p.road.fr=(a.mine.roads.l.getD i default).fr
 to:p.road.to=(a.mine.roads.l.getD i default).to
 road:RoadOk a.mine.places.l.length (a.mine.roads.l.getD i default)
def NetIs.entry {n:XNet} {a:XAir} {s:XSetting} (hn:NetIs a s n) (ha:AirOk a) {v:Nat} {e:Int} (he:e∈Vcd a v a.mine.roads.l.length):∃(i:Nat) (p:XPipe),Entry n a s v e i p:=by
 obtain ⟨i,hi,rfl,hc,hv⟩:=V9b a _ e he;have hget:=Ytc a hi hc;have hlt:(U5 a i).length < (U5 a a.mine.roads.l.length).length:=by obtain ⟨m,hm⟩:=Yea a (show i + 1≤a.mine.roads.l.length from hi);rw [hm,U5,if_neg hc];simp only [yj,yn];omega
 have hg:(U5 a a.mine.roads.l.length)[(U5 a i).length]?=some i:=by rw [Jt 0 hlt,hget]
 have hnum:=congrArg (fun l=>l[(U5 a i).length]?) hn.nums;simp only [yr,hg,yPa] at hnum;obtain ⟨p,hp,hpn⟩:=Option.map_eq_some_iff.1 hnum;have hpi:=hn.pipe p (yi hp);rw [hpn] at hpi;have hlp:=(List.getElem?_eq_some_iff.1 hp).1;refine ⟨i,p,hi,by omega,by rw [yD];exact hp,by rw [yD];exact hget,hpi,J1d ha za hpi,funext fun q=>Yod hpi q,hc,hv,?_,?_,ha.mine.road i _ (Jt default hi)⟩;·rw [hpi.road,yD]
 ·rw [hpi.road,yD]
section
variable {F G:(Int→XSpan)→Int→Int} {a:XAir} {s:XSetting} {ps:List Int} {v:Int}
def Zvc {n:Nat} {l:List Int} {k:Nat} {e:Int} (he:l[k]?=some e):Klc F G a s ps v n (l.take (k + 1))=Klc F G a s ps v n (l.take k) + Zza F G a s ps v ((U5 a n).getD e.toNat 0):=by
 have:l.take (k + 1)=l.take k ++ [e]:=by rw [yfa,he];rfl
 rw [this,Jac,Klc,Klc];omega
def Une {a:XAir} {n:Nat} (hn:1≤n) (i:Nat):(U5 a n).getD i 0 < n:=by
 rcases yl i (U5 a n).length with h | h;·have := yi (Jt (l := U5 a n) 0 h);exact (Zfa.1 this).1
 ·rw [yh,yt h];exact hn
def Jjb (hF : Ends F a s) (hG : Ends G a s) (hn : 1 ≤ a.mine.roads.l.length) : ∀ l : List Int, -(1048577 * (l.length : Int)) ≤ Klc F G a s ps v a.mine.roads.l.length l ∧ Klc F G a s ps v a.mine.roads.l.length l ≤ 1048577 * (l.length : Int)
 | []=>by simp [Klc]
 | e :: l=>by
  have ih:=Jjb hF hG hn l
  have h:=U8b (ps:=ps) (v:=v) hF hG (k:=(U5 a a.mine.roads.l.length).getD e.toNat 0) (Une hn _)
  rw [Klc,yw]
  omega
end
def InR.arr {x:Arr (Arr Int)} {R:LS} (h:InR (Yoa x) R) {i:Nat} {y:Arr Int} (hi:x.l[i]?=some y):InR (isl y) R:=
 h.sub (.deep (List.mem_map.2 ⟨y,yi hi,rfl⟩) .here)
def Kkc (n:XNet) (a:XAir) (s:XSetting) (ps:Arr Int) (v:Int) (L:LB) (R:LS) (hpp:InR (Zka n.pipes) R) (haa:InR (Yoa n.at_) R) (hps:InR (isl ps) R) (hn:NetIs a s n) (ha:AirOk a) (hl:ps.l.length=a.mine.places.l.length) (hb:PresOk ps.l) (hv:0≤v∧v < a.mine.places.l.length):
 Tri Tryz.prog 241 [n.val,ps.val,.int .i64 v].toArray L R (fun w M U=>w=.int .i64 (Ypc a s ps.l v)∧L=M∧R=U):=by
 obtain ⟨x,hx⟩:=Kn (l:=n.at_.l) (k:=v.toNat) (by rw [hn.atl];omega);have hxl:=hn.at_ _ _ hx;have hxI:=InR.arr haa hx;have hnr:=ha.mine.roads;have hatl:=hn.atl;have hxn:x.l.length≤a.mine.roads.l.length:=by rw [hxl];exact K5a a _ _
 refine Jd 57 Tryz.call241 Tryz.func241 rfl rfl rfl ?_;apply (Xaf);intro b3;apply Xag∘Xap∘Xah∘Utg∘qa7∘qag∘Xao;refine Jl [(1,.slice _ _ _),(2,.int _ _),(3,.pointer _),(7,.int _ _),(16,.slice _ _ _),(17,.int _ _),(18,.int _ _)] zh fun tq0=>?_;refine q_s ([7,9,10,11]++rg 18 38) (fun g:{k:Nat // k≤x.l.length}=>[(7,.int .i64 (Klc Vm Um a s ps.l v a.mine.roads.l.length (x.l.take g.1))),(18,.int .i64 ((g.1:Nat):Int))]) (fun g=>x.l.length - g.1) (⟨0,by omega⟩) ?_;rintro ⟨k,hk⟩ junk;try dsimp only
 apply (Xan);refine q_c ?_ ?_<;>intro hc0;·
  obtain ⟨e,he⟩:=Kn (l:=x.l) (k:=k) za;obtain ⟨i,p,hE⟩:=hn.entry ha (v:=v.toNat) (e:=e) (by rw [← hxl];exact yi he);have hek:=hE.he;have hpg:=hE.get;have hpI:=InR.pipe hpp hpg;have hro:=hE.road;have hr1:=hro.fr;have hr2:=hro.to;have hef:=hE.fr;have het:=hE.to;have hi:=hE.hi;have hsb:=Jjb (ps:=ps.l) (v:=v) (V4b (s:=s) ha) (Knb (s:=s) ha) za (x.l.take k);have htl:(x.l.take k).length≤k:=List.length_take_le _ _;have hst:=Zvc (F:=Vm) (G:=Um) (a:=a) (s:=s) (ps:=ps.l) (v:=v) (n:=a.mine.roads.l.length) he;rw [hE.num] at hst;have hpf:=Jt (l:=ps.l) (k:=p.road.fr.toNat) 0 za;have hpt:=Jt (l:=ps.l) (k:=p.road.to.toNat) 0 za;have hbf:=hb.get p.road.fr.toNat;have hbt:=hb.get p.road.to.toNat;have hdf:Uoa a ps.l i=ps.l.getD p.road.fr.toNat 0 - ps.l.getD p.road.to.toNat 0:=by rw [Uoa,hef,het]
  have hfl:=(V4b (s:=s) ha).bnd i hi (Uoa a ps.l i);have hfh:=(Knb (s:=s) ha).bnd i hi (Uoa a ps.l i);rw [← hE.drop,hdf] at hfl hfh;rw [Zza,if_neg hE.closed,hdf,← hE.drop,← hef] at hst;have hends:=hE.ends;rw [← hef,← het] at hends;apply qbb∘qa3∘qa7∘Xag∘Xah∘Jfg∘qdx∘qaq;intro b10;apply (Xc1);refine Kh tb [0,1,2,3,4,5,6,7,8,9,10,11,12,13] _ Kr zc ye ?_;apply Kgf∘Xd2∘Jog∘qbl∘Kgf∘Xd2∘Jgg∘qbl∘qb7∘qcg;refine J1 (Jb (Jp (Jh ?_)));apply qab∘Xah∘Xbm;refine q_c ?_ ?_<;>intro hc1;·rw [if_pos hc1] at hst;apply Xa9∘qdi∘qaa;refine q_l rfl zCc ?_;exact (qar) zId
  rw [if_neg hc1,if_pos za] at hst;apply Xa9∘qdi∘qaa;refine q_l rfl zDc ?_;exact (qa9) zId
 obtain rfl:k=x.l.length:=by omega
 apply (Xd3);refine q_i L R ?_;have e:=Vzd (F:=Vm) (G:=Um) (a:=a) (s:=s) (ps:=ps.l) (v:=v.toNat) a.mine.roads.l.length a.mine.roads.l.length (ym _);rw [yia hv.1] at e;exact ⟨by rw [Ypc,yeb,hxl,e],rfl,rfl⟩
def Yrb (n:XNet) (a:XAir) (s:XSetting) (ps:Arr Int) (v:Int) (L:LB) (R:LS) (hpp:InR (Zka n.pipes) R) (haa:InR (Yoa n.at_) R) (hps:InR (isl ps) R) (hn:NetIs a s n) (ha:AirOk a) (hl:ps.l.length=a.mine.places.l.length) (hb:PresOk ps.l) (hv:0≤v∧v < a.mine.places.l.length):
 Tri Tryz.prog 242 [n.val,ps.val,.int .i64 v].toArray L R (fun w M U=>w=.int .i64 (Yna a s ps.l v)∧L=M∧R=U):=by
 obtain ⟨x,hx⟩:=Kn (l:=n.at_.l) (k:=v.toNat) (by rw [hn.atl];omega);have hxl:=hn.at_ _ _ hx;have hxI:=InR.arr haa hx;have hnr:=ha.mine.roads;have hatl:=hn.atl;have hxn:x.l.length≤a.mine.roads.l.length:=by rw [hxl];exact K5a a _ _
 refine Jd 57 Tryz.call242 Tryz.func242 rfl rfl rfl ?_;apply (Xaf);intro b3;apply Xag∘Xap∘Xah∘Utg∘qa7∘qag∘Xao;refine Jl [(1,.slice _ _ _),(2,.int _ _),(3,.pointer _),(7,.int _ _),(16,.slice _ _ _),(17,.int _ _),(18,.int _ _)] zh fun tq0=>?_;refine q_s ([7,9,10,11]++rg 18 38) (fun g:{k:Nat // k≤x.l.length}=>[(7,.int .i64 (Klc Um Vm a s ps.l v a.mine.roads.l.length (x.l.take g.1))),(18,.int .i64 ((g.1:Nat):Int))]) (fun g=>x.l.length - g.1) (⟨0,by omega⟩) ?_;rintro ⟨k,hk⟩ junk;try dsimp only
 apply (Xan);refine q_c ?_ ?_<;>intro hc0;·
  obtain ⟨e,he⟩:=Kn (l:=x.l) (k:=k) za;obtain ⟨i,p,hE⟩:=hn.entry ha (v:=v.toNat) (e:=e) (by rw [← hxl];exact yi he);have hek:=hE.he;have hpg:=hE.get;have hpI:=InR.pipe hpp hpg;have hro:=hE.road;have hr1:=hro.fr;have hr2:=hro.to;have hef:=hE.fr;have het:=hE.to;have hi:=hE.hi;have hsb:=Jjb (ps:=ps.l) (v:=v) (Knb (s:=s) ha) (V4b (s:=s) ha) za (x.l.take k);have htl:(x.l.take k).length≤k:=List.length_take_le _ _;have hst:=Zvc (F:=Um) (G:=Vm) (a:=a) (s:=s) (ps:=ps.l) (v:=v) (n:=a.mine.roads.l.length) he;rw [hE.num] at hst;have hpf:=Jt (l:=ps.l) (k:=p.road.fr.toNat) 0 za;have hpt:=Jt (l:=ps.l) (k:=p.road.to.toNat) 0 za;have hbf:=hb.get p.road.fr.toNat;have hbt:=hb.get p.road.to.toNat;have hdf:Uoa a ps.l i=ps.l.getD p.road.fr.toNat 0 - ps.l.getD p.road.to.toNat 0:=by rw [Uoa,hef,het]
  have hfl:=(Knb (s:=s) ha).bnd i hi (Uoa a ps.l i);have hfh:=(V4b (s:=s) ha).bnd i hi (Uoa a ps.l i);rw [← hE.drop,hdf] at hfl hfh;rw [Zza,if_neg hE.closed,hdf,← hE.drop,← hef] at hst;have hends:=hE.ends;rw [← hef,← het] at hends;apply qbb∘qa3∘qa7∘Xag∘Xah∘Jfg∘qdx∘qaq;intro b10;apply (Xc1);refine Kh tb [0,1,2,3,4,5,6,7,8,9,10,11,12,13] _ Kr zc ye ?_;apply Kgf∘Xd2∘Jog∘qbl∘Kgf∘Xd2∘Jgg∘qbl∘qb7∘qcg;refine J1 (Jb (Jp (Jh ?_)));apply qab∘Xah∘Xbm;refine q_c ?_ ?_<;>intro hc1;·rw [if_pos hc1] at hst;apply Xa9∘qdi∘qaa;refine q_l rfl zDc ?_;exact (qar) zId
  rw [if_neg hc1,if_pos za] at hst;apply Xa9∘qdi∘qaa;refine q_l rfl zCc ?_;exact (qa9) zId
 obtain rfl:k=x.l.length:=by omega
 apply (Xd3);refine q_i L R ?_;have e:=Vzd (F:=Um) (G:=Vm) (a:=a) (s:=s) (ps:=ps.l) (v:=v.toNat) a.mine.roads.l.length a.mine.roads.l.length (ym _);rw [yia hv.1] at e;exact ⟨by rw [Yna,yeb,hxl,e],rfl,rfl⟩
end Go.Proofs.YtchfclmokpbldaaGreat
end
section
namespace Go.Proofs.YtchfclmokpbldaaGreat
open Go.Aw Go
set_option maxRecDepth 20000
attribute [local irreducible] CJ LJ DJ Tri YV Gives Uq J2 Km Ur RV J4 OwL.L
abbrev sgn (up:Bool):Int:=if up then 1 else -1
abbrev Kxb (up:Bool) (start:Int):Int:=if up then 70368744177664 - start else start + 70368744177664
structure First (g:Int→Bool) (start:Int) (up:Bool) (v:Int) (ok:Bool):Prop where
 yes:ok=true→∃m,0≤m∧m≤Kxb up start∧v=start + sgn up * m∧g v=true∧∀j,0≤j→j < m→g (start + sgn up * j)=false
 no:ok=false→v=0∧∀j,0≤j→j≤Kxb up start→g (start + sgn up * j)=false
def Stays (g:Int→Bool) (start:Int) (up:Bool):Prop:=∀i j,0≤i→i≤j→j≤Kxb up start→g (start + sgn up * i)=true→g (start + sgn up * j)=true
def Stays.no {g:Int→Bool} {start:Int} {up:Bool} (h:Stays g start up) {i j:Int} (h0:0≤i) (hij:i≤j) (hj:j≤Kxb up start) (hg:g (start + sgn up * j)=false):g (start + sgn up * i)=false:=by
 cases e:g (start + sgn up * i) with
 | false=>rfl
 | true=>rw [h i j h0 hij hj e] at hg;cases hg
def U9c {up:Bool} {z:Int} (h:0≤z∧z≤281474976710656):-281474976710656≤sgn up * z∧sgn up * z≤281474976710656:=by cases up <;> simp only [sgn] <;> simp <;> omega
def Yud {up:Bool} {start z:Int} (hs:-70368744177664≤start∧start≤70368744177664) (h:0≤z∧z≤Kxb up start):-70368744177664≤start + sgn up * z∧start + sgn up * z≤70368744177664:=by cases up <;> simp only [sgn,Kxb] at h ⊢ <;> simp at h ⊢ <;> omega
def Z8b {up:Bool} {start:Int} (hs:-70368744177664≤start∧start≤70368744177664):0≤Kxb up start∧Kxb up start≤140737488355328:=by cases up <;> simp [Kxb] <;> omega
def K3c (f : FuncId) (cap : Array Value) (LL : Int → LB) (g : Int → Bool) (start : Int) (up : Bool) (y : Int) (R : LS) (hs : -70368744177664 ≤ start ∧ start ≤ 70368744177664) (hm : Stays g start up)
 (hc:∀x y,-70368744177664≤x∧x≤70368744177664→Tri Tryz.prog f (.int .i64 x :: cap.toList).toArray (LL y) R (fun v M U=>v=.bool (g x)∧LL x=M∧R=U)):
 Tri Tryz.prog 278 [.int .i64 start,.bool up,.func (.func f) #[] cap].toArray (LL y) R (fun v M U=>∃(z:Int) (ok:Bool) (y':Int),v=.tuple #[.int .i64 z,.bool ok]∧First g start up z ok∧LL y'=M∧R=U):=by
 have hro:=Z8b (up:=up) hs;have h00:start + sgn up * 0=start:=by simp
 refine Jd 80 Tryz.call278 Tryz.func278 rfl rfl rfl ?_;apply Xac∘qaz∘qaw;refine Jy zPb rfl ?_;apply (qaa);refine V6c (Jza rfl rfl (hc start y hs)) rfl rfl ?_;rintro v M U ⟨rfl,rfl,rfl⟩;apply (qaf);refine q_c ?_ ?_<;>intro hc0;·apply Xbq∘Xbw∘qbh;refine q_r (LL start) R zmd ?_;exact ⟨start,true,start,rfl,⟨fun _=>⟨0,by omega,by omega,h00.symm,hc0,fun j h1 h2=>by omega⟩,fun h=>by cases h⟩,rfl,rfl⟩
 apply qbv∘Xbn∘qad∘Xap∘qah∘Xbl;refine Yj [8,9,21,22] ((⟨fun _=>[(8,.int .i64 (sgn up)),(9,.int .i64 (Kxb up start))],fun _=>LL start,fun _=>R,fun _=>0⟩:Head Unit)) ?_ ?_;·
  skip
  refine q_c ?_ ?_<;>intro hc1;·apply qay∘Xa2∘qad∘Xaw;subst hc1;exact q_j ()
  refine J3 ?_;subst hc1;exact q_j ()
 rintro u junk;try dsimp only
 apply Xac∘Xcb;refine Yj ([10,11]++rg 23 16) ((⟨fun g=>[(10,.int .i64 g.1.1),(11,.int .i64 g.1.2.1)],fun g=>LL g.1.2.2,fun _=>R,fun _=>0⟩:Head {q:Int×Int×Int // (0≤q.1∧q.1 < q.2.1∧q.2.1≤281474976710656)∧g (start + sgn up * q.1)=false∧(q.1=0∨q.1 < Kxb up start)∧(q.2.1 < Kxb up start→g (start + sgn up * q.2.1)=true)})) ?_ ?_;·
  refine Kc ?_;refine Vd ([10,11]++rg 23 16) zJ [(10,.int _ _),(11,.int _ _)] zh fun tq0=>?_;refine q_p ([10,11]++rg 23 16) ((⟨fun g=>[(10,.int .i64 g.1.1),(11,.int .i64 g.1.2.1)],fun g=>LL g.1.2.2,fun _=>R,fun g=>(Kxb up start + 1 - g.1.1).toNat⟩:Head {q:Int×Int×Int // ((q.1=0∧q.2.1=1)∨(1≤q.1∧q.2.1=q.1 * 2))∧g (start + sgn up * q.1)=false∧(q.1=0∨q.1 < Kxb up start)})) (⟨(0,1,start),.inl ⟨rfl,rfl⟩,by rw [h00];exact hc0,.inl rfl⟩) ?_;rintro ⟨⟨bad,good,y2⟩,hbg,hbf,hbr⟩ junk;try dsimp only
  dsimp only at hbg hbf hbr;have hgm:=U9c (up:=up) (z:=good) za;apply Xa1∘Xcv;refine Uda (k:=26) zmb (fun hg4=>?_) (fun hg4=>?_);·
   replace hg4:=qb hg4;refine Zt zPb rfl rfl ?_;(iterate 3 refine Zt (Jx znb) rfl rfl ?_);apply Uog∘Uqg;refine V6c (Jza rfl rfl (hc (start + sgn up * good) y2 (Yud hs za))) rfl rfl ?_;rintro v M U ⟨rfl,rfl,rfl⟩;refine Zt (Kab rfl) rfl rfl ?_;apply Zue∘qaf;refine q_c ?_ ?_<;>intro hc2;·refine J3 (Jb (Jp (Kc (Jh ?_))));apply qaa∘qad∘qcs∘Xdn∘Xaw;exact q_k ⟨(good,good * 2,start + sgn up * good),by dsimp only;omega,by simpa using hc2,by dsimp only;omega⟩
   exact zMd
  replace hg4:=qb hg4;iterate 8 refine Kea rfl rfl ?_
  apply Zue∘qaf;refine Zm rfl ?_;exact zMd
 rintro ⟨⟨bad,good,y2⟩,hbg,hbf,hbr,hgt⟩ junk;try dsimp only
 dsimp only at hbg hbf hbr hgt;apply Xd0∘Xcw;refine Yj ([6,7,11]++rg 42 14) ((⟨fun q=>[(11,.int .i64 q.1.1)],fun q=>LL q.1.2,fun _=>R,fun _=>0⟩:Head {q:Int×Int // bad < q.1∧q.1≤Kxb up start∧g (start + sgn up * q.1)=true})) ?_ ?_;·
  skip
  refine q_c ?_ ?_<;>intro hc3;·
   apply Xbq∘Xcb;have hgm:=U9c (up:=up) (z:=Kxb up start) za;apply Xa9∘qaa∘qbx∘qah;refine Uda (k:=46) zmb (fun hg4=>?_) (fun hg4=>?_);·replace hg4:=qb hg4;(iterate 8 refine Kea rfl rfl ?_);apply Zue∘qaf;refine K9 rfl ?_;exact uax
   replace hg4:=qb hg4;refine Zt zPb rfl rfl ?_;(iterate 3 refine Zt (Jx znb) rfl rfl ?_);apply Uog∘Uqg;refine V6c (Jza rfl rfl (hc (start + sgn up * Kxb up start) y2 (Yud hs za))) rfl rfl ?_;rintro v M U ⟨rfl,rfl,rfl⟩;refine Zt (Kab rfl) rfl rfl ?_;apply Zue∘qaf;refine q_c ?_ ?_<;>intro hc4;·exact uax
   refine J3 ?_;exact q_j ⟨(Kxb up start,start + sgn up * Kxb up start),by dsimp only;omega,by dsimp only;omega,by simpa using hc4⟩
  refine J3 ?_;exact q_j ⟨(good,y2),by dsimp only;omega,by dsimp only;omega,hgt za⟩
 rintro ⟨⟨good2,y3⟩,h31,h32,h33⟩ junk;try dsimp only
 dsimp only at h31 h32 h33;refine Jp (Kc ?_);refine Jl [(0,.int _ _),(2,_),(8,.int _ _),(10,.int _ _),(11,.int _ _)] zh fun tq1=>?_;refine q_p ([10,11,12]++rg 56 19) ((⟨fun q=>[(10,.int .i64 q.1.1),(11,.int .i64 q.1.2.1)],fun q=>LL q.1.2.2,fun _=>R,fun q=>(q.1.2.1 - q.1.1).toNat⟩:Head {q:Int×Int×Int // (0≤q.1∧q.1 < q.2.1∧q.2.1≤Kxb up start)∧g (start + sgn up * q.1)=false∧g (start + sgn up * q.2.1)=true})) (⟨(bad,good2,y3),by dsimp only;omega,hbf,h33⟩) ?_;rintro ⟨⟨lo,hi,y4⟩,q1,q2,q3⟩ junk;try dsimp only
 dsimp only at q1 q2 q3;apply Xa1∘Xad∘Xbb;refine q_c ?_ ?_<;>intro hc5;·
  obtain ⟨mid,hmid⟩:∃mid,mid=lo + (hi - lo).tdiv 2:=⟨_,rfl⟩;have hmb:lo < mid∧mid < hi:=by rw [yaa za] at hmid;omega
  have hdv:0≤(hi - lo).tdiv 2∧(hi - lo).tdiv 2≤hi - lo:=by rw [yaa za];omega
  refine J3 (Jb (Kc (Jp (Jh ?_))));iterate 3 apply (qaa)
  apply qa9∘qdd∘qar∘Xcb;rw [← hmid];have hgm:=U9c (up:=up) (z:=mid) za;apply (qay);refine Jy zPb rfl ?_;iterate 3 apply (qaa)
  apply qcm∘qar;refine V6c (Jza rfl rfl (hc (start + sgn up * mid) y4 (Yud hs za))) rfl rfl ?_;rintro v M U ⟨rfl,rfl,rfl⟩;apply (qaf);refine q_c ?_ ?_<;>intro hc6;·apply Xa9∘qad;refine J7 (Jf ?_);exact q_k ⟨(lo,mid,start + sgn up * mid),by dsimp only;omega,q2,hc6⟩
  apply Xa9∘qad;refine J7 (Jf ?_);exact q_k ⟨(mid,hi,start + sgn up * mid),by dsimp only;omega,hc6,q3⟩
 apply (qc3);have hgm:=U9c (up:=up) (z:=hi) za;apply (qay);iterate 3 apply (qaa)
 apply qcm∘qar∘qad∘Xbk;refine q_r (LL y4) R zmd ?_;exact ⟨start + sgn up * hi,true,y4,rfl,⟨fun _=>⟨hi,by omega,by omega,rfl,q3,fun j h1 h2=>hm.no h1 (show j≤lo by omega) za q2⟩,fun h=>by cases h⟩,rfl,rfl⟩
end Go.Proofs.YtchfclmokpbldaaGreat
end
section
namespace Go.Proofs.YtchfclmokpbldaaGreat
open Go.Aw Go
set_option maxRecDepth 20000
attribute [local irreducible] CJ LJ DJ Tri YV Gives Uq J2 Km Ur RV J4 OwL.L
def Tri.lend1 {P : Program} {f : FuncId} {args : Array Value} {A : LB} {R : LS} {p : OwL Int} {T : TypeId} {u : Value} (hin : InB (p.L T Jk) A) (hok : p.ok 1 Jk)
 (h:Tri P f args [] (isl p.arr :: R) (fun v M U=>v=u∧[]=M∧isl p.arr :: R=U)):Tri P f args A R (fun v M U=>v=u∧A=M∧R=U):=by have h2:=Tri.lend (S:=[isl p.arr]) (Post:=fun v M=>v=u∧[]=M) (Spl.rest (L:=A)) (fun w G hh s hs=>by rw [List.mem_singleton.1 hs];exact Y5 hh hin hok yf ze yg) (h.mono fun v M U ⟨a1,a2,a3⟩=>⟨⟨a1,a2⟩,a3⟩);exact zae
def Yeg {o:Ow} {l:List Int} {k:Nat} {y:Int}:(⟨o,l⟩:OwL Int).val=(⟨o,l.set k y⟩:OwL Int).val:=OwL.set_val.symm
structure HypsN (n:XNet) (a:XAir) (s:XSetting) (ps:List Int) (v:Int) (R:LS):Prop where
 pp:InR (Zka n.pipes) R
 aa:InR (Yoa n.at_) R
 is:NetIs a s n
 ok:AirOk a
 len:ps.length=a.mine.places.l.length
 pres:PresOk ps
 v:0≤v∧v < a.mine.places.l.length
def Vcf {n:XNet} {a:XAir} {s:XSetting} {o:Ow} {ps:List Int} {v y:Int} {A:LB} {R:LS} (h:HypsN n a s ps v R) (hy:-70368744177664≤y∧y≤70368744177664) (hin:InB ((⟨o,ps.set v.toNat y⟩:OwL Int).L 3 Jk) A) (hok:(⟨o,ps.set v.toNat y⟩:OwL Int).ok 1 Jk):
 Tri Tryz.prog 241 [n.val,(⟨o,ps⟩:OwL Int).val,.int .i64 v].toArray A R (fun w M U=>w=.int .i64 (Ypc a s (ps.set v.toNat y) v)∧A=M∧R=U):=by rw [Yeg (k:=v.toNat) (y:=y)];exact Tri.lend1 hin hok (Kkc n a s (⟨o,ps.set v.toNat y⟩:OwL Int).arr v [] _ (h.pp.mono fun r hr=>Ja (.tail _ hr)) (h.aa.mono fun r hr=>Ja (.tail _ hr)) zCb h.is h.ok (by simp [h.len]) (h.pres.set _ hy) h.v)
def Ksf {n:XNet} {a:XAir} {s:XSetting} {o:Ow} {ps:List Int} {v y:Int} {A:LB} {R:LS} (h:HypsN n a s ps v R) (hy:-70368744177664≤y∧y≤70368744177664) (hin:InB ((⟨o,ps.set v.toNat y⟩:OwL Int).L 3 Jk) A) (hok:(⟨o,ps.set v.toNat y⟩:OwL Int).ok 1 Jk):
 Tri Tryz.prog 242 [n.val,(⟨o,ps⟩:OwL Int).val,.int .i64 v].toArray A R (fun w M U=>w=.int .i64 (Yna a s (ps.set v.toNat y) v)∧A=M∧R=U):=by rw [Yeg (k:=v.toNat) (y:=y)];exact Tri.lend1 hin hok (Yrb n a s (⟨o,ps.set v.toNat y⟩:OwL Int).arr v [] _ (h.pp.mono fun r hr=>Ja (.tail _ hr)) (h.aa.mono fun r hr=>Ja (.tail _ hr)) zCb h.is h.ok (by simp [h.len]) (h.pres.set _ hy) h.v)
abbrev Vuf (a:XAir) (s:XSetting) (ps:List Int) (v:Int):Int→Bool:=fun x=>decide (0≤Ypc a s (ps.set v.toNat x) v)
abbrev Kod (a:XAir) (s:XSetting) (ps:List Int) (v:Int):Int→Bool:=fun x=>decide (Yna a s (ps.set v.toNat x) v≤0)
def Z6d {a:XAir} {s:XSetting} {ps:List Int} {v start:Int} (ha:AirOk a) (hv:v.toNat < ps.length):Stays (Vuf a s ps v) start true:=by intro i j h0 hij hj hg;rw [decide_eq_true_eq] at hg ⊢;have:=U6e (s:=s) ha (Jzd (ps:=ps) hv (show start + sgn true * i≤start + sgn true * j by simp only [sgn];simp;omega));omega
def Ked {a:XAir} {s:XSetting} {ps:List Int} {v start:Int} (ha:AirOk a) (hv:v.toNat < ps.length):Stays (Kod a s ps v) start false:=by intro i j h0 hij hj hg;rw [decide_eq_true_eq] at hg ⊢;have:=Jbe (s:=s) ha (Jzd (ps:=ps) hv (show start + sgn false * j≤start + sgn false * i by simp only [sgn];simp;omega));omega
abbrev clL (b8 b5 b3:Nat) (n:XNet) (o:Ow) (ps:List Int) (v:Int) (L:LB) (y:Int):LB:=
 ⟨b8,[(⟨o,ps⟩:OwL Int).val],40⟩ :: ((⟨o,ps.set v.toNat y⟩:OwL Int).L 3 Jk ++ (⟨b5,[.int .i64 v],3⟩ :: ⟨b3,n.cells,221⟩ :: L))
def Zqd {b8 b5 b3:Nat} {n:XNet} {a:XAir} {s:XSetting} {o:Ow} {ps:List Int} {u:Int} {L:LB} {R:LS} (h:HypsN n a s ps u R) (hok:(⟨o,ps⟩:OwL Int).ok 1 Jk) (x y:Int) (hx:-70368744177664≤x∧x≤70368744177664):
 Tri Tryz.prog 280 [.int .i64 x,.pointer (some ⟨b8,0,none⟩),.pointer (some ⟨b5,0,none⟩),.pointer (some ⟨b3,0,none⟩)].toArray (clL b8 b5 b3 n o ps u L y) R (fun w M U=>w=.bool (Vuf a s ps u x)∧clL b8 b5 b3 n o ps u L x=M∧R=U):=by have hv:=h.v;have hlen:=h.len;have hok2:∀z,(⟨o,ps.set u.toNat z⟩:OwL Int).ok 1 Jk:=fun z=>OwL.len_ok U8 hok zo;have hoky:=hok2 y;have hget:=Jt (l:=ps.set u.toNat y) (k:=u.toNat) 0 zD;refine Jd 15 Tryz.call280 Tryz.func280 rfl rfl rfl ?_;apply Xbh∘qam∘qac∘qac∘qaa∘Jtg∘J0g;rintro v M U ⟨rfl,rfl⟩;apply (qa4);refine U0 (by rw [yDa]) ?_;apply qay∘qbe∘qac∘qac;refine q_l rfl (Vcf (o:=o) (y:=x) h hx zH (hok2 x)) ?_;apply qbz∘Xbk;refine q_b (clL b8 b5 b3 n o ps u L x) R ?_;exact zDd
def J0d (n:XNet) (a:XAir) (s:XSetting) (ps:Arr Int) (u:Int) (L:LB) (R:LS) (h:HypsN n a s ps.l u R) (hps:InR (isl ps) R):
 Tri Tryz.prog 240 [n.val,ps.val,.int .i64 u].toArray L R (fun w M U=>∃(z:Int) (ok:Bool),w=.tuple #[.int .i64 z,.bool ok]∧First (Vuf a s ps.l u) (ps.l.getD u.toNat 0) true z ok∧L=M∧R=U):=by have hv:=h.v;have hlen:=h.len;have hnp:=h.ok.mine.places;have hget:=Jt (l:=ps.l) (k:=u.toNat) 0 za;have hb:=h.pres.get u.toNat;have hst:=Z6d (s:=s) (start:=ps.l.getD u.toNat 0) h.ok (ps:=ps.l) (v:=u) za;refine Jd 19 Tryz.call240 Tryz.func240 rfl rfl rfl ?_;apply (Xaf);intro b3;refine Uvd (v:=Value.int _ _) rfl rfl rfl ?_;intro b5;apply Xbw∘Xdq∘Kdg;rintro v M U ⟨o10,rfl,hok10,rfl,rfl⟩;apply (qaq);intro b8;apply qcy∘Xdq∘qac∘Kgg∘qa7;refine Jy (Uwc rfl) rfl ?_;refine Yhg zAc ?_;refine Jo rfl (K3c 280 #[.pointer (some ⟨b8,0,none⟩),.pointer (some ⟨b5,0,none⟩),.pointer (some ⟨b3,0,none⟩)] (clL b8 b5 b3 n o10 ps.l u L) (Vuf a s ps.l u) (ps.l.getD u.toNat 0) true (ps.l.getD u.toNat 0) _ hb hst (fun x y hx=>Zqd h hok10 x y hx)) rfl ?_;exact zWd
def Uxc {b8 b5 b3:Nat} {n:XNet} {a:XAir} {s:XSetting} {o:Ow} {ps:List Int} {u:Int} {L:LB} {R:LS} (h:HypsN n a s ps u R) (hok:(⟨o,ps⟩:OwL Int).ok 1 Jk) (x y:Int) (hx:-70368744177664≤x∧x≤70368744177664):
 Tri Tryz.prog 279 [.int .i64 x,.pointer (some ⟨b8,0,none⟩),.pointer (some ⟨b5,0,none⟩),.pointer (some ⟨b3,0,none⟩)].toArray (clL b8 b5 b3 n o ps u L y) R (fun w M U=>w=.bool (Kod a s ps u x)∧clL b8 b5 b3 n o ps u L x=M∧R=U):=by have hv:=h.v;have hlen:=h.len;have hok2:∀z,(⟨o,ps.set u.toNat z⟩:OwL Int).ok 1 Jk:=fun z=>OwL.len_ok U8 hok zo;have hoky:=hok2 y;have hget:=Jt (l:=ps.set u.toNat y) (k:=u.toNat) 0 zD;refine Jd 15 Tryz.call279 Tryz.func279 rfl rfl rfl ?_;apply Xbh∘qam∘qac∘qac∘qaa∘Jtg∘J0g;rintro v M U ⟨rfl,rfl⟩;apply (qa4);refine U0 (by rw [yDa]) ?_;apply qay∘qbe∘qac∘qac;refine q_l rfl (Ksf (o:=o) (y:=x) h hx zH (hok2 x)) ?_;apply qbx∘Xbk;refine q_b (clL b8 b5 b3 n o ps u L x) R ?_;exact zDd
def Jmc (n:XNet) (a:XAir) (s:XSetting) (ps:Arr Int) (u:Int) (L:LB) (R:LS) (h:HypsN n a s ps.l u R) (hps:InR (isl ps) R):
 Tri Tryz.prog 239 [n.val,ps.val,.int .i64 u].toArray L R (fun w M U=>∃(z:Int) (ok:Bool),w=.tuple #[.int .i64 z,.bool ok]∧First (Kod a s ps.l u) (ps.l.getD u.toNat 0) false z ok∧L=M∧R=U):=by have hv:=h.v;have hlen:=h.len;have hnp:=h.ok.mine.places;have hget:=Jt (l:=ps.l) (k:=u.toNat) 0 za;have hb:=h.pres.get u.toNat;have hst:=Ked (s:=s) (start:=ps.l.getD u.toNat 0) h.ok (ps:=ps.l) (v:=u) za;refine Jd 19 Tryz.call239 Tryz.func239 rfl rfl rfl ?_;apply (Xaf);intro b3;refine Uvd (v:=Value.int _ _) rfl rfl rfl ?_;intro b5;apply Xbw∘Xdq∘Kdg;rintro v M U ⟨o10,rfl,hok10,rfl,rfl⟩;apply (qaq);intro b8;apply qcy∘Xdq∘qac∘Kgg∘qa7;refine Jy (Uwc rfl) rfl ?_;refine Yhg zAc ?_;refine Jo rfl (K3c 279 #[.pointer (some ⟨b8,0,none⟩),.pointer (some ⟨b5,0,none⟩),.pointer (some ⟨b3,0,none⟩)] (clL b8 b5 b3 n o10 ps.l u L) (Kod a s ps.l u) (ps.l.getD u.toNat 0) false (ps.l.getD u.toNat 0) _ hb hst (fun x y hx=>Uxc h hok10 x y hx)) rfl ?_;exact zWd
end Go.Proofs.YtchfclmokpbldaaGreat
end
section
namespace Go.Proofs.YtchfclmokpbldaaGreat
open Go.Aw Go
set_option maxRecDepth 20000
attribute [local irreducible] CJ LJ DJ Tri YV Gives Uq J2 Km Ur RV J4 OwL.L
end Go.Proofs.YtchfclmokpbldaaGreat
end
section
namespace Go.Proofs.YtchfclmokpbldaaGreat
open Go.Aw Go
set_option maxRecDepth 20000
attribute [local irreducible] CJ LJ DJ Tri YV Gives Uq J2 Km Ur RV J4 OwL.L
def Ysa {ps:List Int} (h:ps.findSome? Uw=none):PresOk ps:=fun p hp=>by
 obtain ⟨i,hi⟩:=List.mem_iff_getElem?.1 hp
 exact Jxd h i p hi
def Jtb {ps:List Int} (h:PresOk ps):ps.findSome? Uw=none:=List.findSome?_eq_none_iff.2 fun p hp=>by
 have:=h p hp
 exact if_neg za
section
variable {a:XAir} {s:XSetting} {ps:Arr Int} {v:Int}
end
end Go.Proofs.YtchfclmokpbldaaGreat
end
section
namespace Go.Proofs.YtchfclmokpbldaaGreat
open Go.Aw Go
end Go.Proofs.YtchfclmokpbldaaGreat
end
