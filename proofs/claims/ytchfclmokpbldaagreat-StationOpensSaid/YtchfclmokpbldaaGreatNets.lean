/-
  Nets: NetS, NetW, Find, LeastW, RefUp, Bal, NetP, in one text. By an AI agent; no person has read it.
-/
import Derived.Test.YtchfclmokpbldaaGreatFits
import Derived.Test.YtchfclmokpbldaaGreatDraws
set_option linter.all false
set_option maxHeartbeats 4000000
section
variable {A B:Prop}
def Zoa(h:A→B:=by exact Kq zrd rfl rfl rfl):=h
def Zid(h:A→B:=by exact Kg tb [0,1,2,3,4,5,6,7,8,9,10,11,12,13,14,15,16,17] _ Kn zf ye):=h
def Yhd(h:A→B:=by exact Kq zjb rfl rfl rfl):=h
def Y6d(h:A→B:=by exact Kq zkb rfl rfl rfl):=h
def Y6e(h:A→B:=by exact J0 zQ rfl):=h
def Zde(h:A→B:=by exact Y6 zZc rfl):=h
def Yje(h:A→B:=by exact J0 (Jo tb ((⟨o15,ps.l.set u.toNat start⟩:OwL Int)) _ rfl rfl ((show _=Value.slice _ _ _ from rfl).trans Ule) rfl zi (i:=u.toNat) zo zw) rfl):=h
def Y1e(h:A→B:=by exact J0 (Kc tb ((⟨o15,ps.l.set u.toNat start⟩:OwL Int)) rfl rfl rfl zm zi yf zi ze) rfl):=h
def Yre(h:A→B:=by exact J0 (Jo tb ((⟨o15,ps.l.set u.toNat y⟩:OwL Int)) _ rfl rfl ((show _=Value.slice _ _ _ from rfl).trans Ule) rfl zi (i:=u.toNat) zo zw) rfl):=h
def Yse(h:A→B:=by exact J0 (Jo tb ((⟨o15,ps.l.set u.toNat w⟩:OwL Int)) _ rfl rfl ((show _=Value.slice _ _ _ from rfl).trans Ule) rfl zi (i:=u.toNat) zo zw) rfl):=h
def Vne(h:A→B:=by exact J0 (Kc tb ((⟨o15,ps.l.set u.toNat w⟩:OwL Int)) rfl rfl rfl zm zi yf zi ze) rfl):=h
def Zpe(h:A→B:=by exact J0 (Jo tb ((⟨o15,ps.l.set u.toNat mid⟩:OwL Int)) _ rfl rfl ((show _=Value.slice _ _ _ from rfl).trans Ule) rfl zi (i:=u.toNat) zo zw) rfl):=h
def Zbe(h:A→B:=by exact J0 (Kc tb ((⟨o15,ps.l.set u.toNat mid⟩:OwL Int)) rfl rfl rfl zm zi yf zi ze) rfl):=h
def Yjf(h:A→B:=by exact J0 (by first | exact Jf tb rfl rfl rfl rfl zB (i:=v.toNat) zo zc | exact Jm tb rfl rfl rfl rfl (i:=v.toNat) zo zc) rfl):=h
def Jog(h:A→B:=by exact J0 (by first | exact Jf tb rfl rfl rfl rfl zB (i:=e.toNat) zo zc | exact Jm tb rfl rfl rfl rfl (i:=e.toNat) zo zc) rfl):=h
def Vtf(h:A→B:=by exact Kq (by first | exact Jf tb rfl rfl rfl rfl zB (i:=p.road.fr.toNat) zo zc | exact Jm tb rfl rfl rfl rfl (i:=p.road.fr.toNat) zo zc) rfl rfl rfl):=h
def Z4f(h:A→B:=by exact Kq (by first | exact Jf tb rfl rfl rfl rfl zB (i:=p.road.to.toNat) zo zc | exact Jm tb rfl rfl rfl rfl (i:=p.road.to.toNat) zo zc) rfl rfl rfl):=h
def Z1f(h:A→B:=by exact J0 zC rfl):=h
def Ycf(h:A→B:=by exact U6 zOa rfl rfl):=h
def J2g(h:A→B:=by exact U6 zva rfl rfl):=h
def Zef(h:A→B:=by exact J0 (Jo tb ((⟨o,ps.set u.toNat y⟩:OwL Int)) _ rfl rfl ((show _=Value.slice _ _ _ from rfl).trans Ule) rfl zi (i:=u.toNat) zo zw) rfl):=h
def Vwf(h:A→B:=by exact V5 (Jp tb ((⟨o,ps.set u.toNat y⟩:OwL Int)) (x) rfl rfl rfl rfl zm zi yf zi zj ze ze)):=h
def J6g(h:A→B:=by exact J0 (by first | exact Jf tb rfl rfl rfl rfl zB (i:=u.toNat) zo zc | exact Jm tb rfl rfl rfl rfl (i:=u.toNat) zo zc) rfl):=h
def Ynf(h:A→B:=by exact V4 (show _=(⟨o15,ps.l.set u.toNat start⟩:OwL Int).L 3 Jj ++ (⟨b5,s.cells,80⟩ :: ⟨b4,a.cells,32⟩ :: L) from by rw [hself];rfl)):=h
def Jfg(h:B:=by exact ⟨start,true,rfl,⟨fun _=>⟨0,by omega,by rw [hrm];omega,by simp,by rw [decide_eq_true_eq];exact hc0,fun j h1 h2=>by omega⟩,fun h=>by cases h⟩,rfl,rfl⟩):=h
def Zyf(h:A→B:=by exact J0 (Kc tb ((⟨o15,ps.l.set u.toNat y⟩:OwL Int)) rfl rfl rfl zm zi yf zi ze) rfl):=h
def Y9f(h:A→B:=by exact J0 (Jo tb ((⟨o15,ps.l.set u.toNat z⟩:OwL Int)) _ rfl rfl ((show _=Value.slice _ _ _ from rfl).trans Ule) rfl zi (i:=u.toNat) zo zw) rfl):=h
def Vhf(h:A→B:=by exact V5 (Jp tb ((⟨o15,ps.l.set u.toNat z⟩:OwL Int)) ((lo + (hi - lo).tdiv 2)) rfl rfl rfl rfl zm zi yf zi zj ze ze)):=h
end
section
namespace Go.Proofs.YtchfclmokpbldaaGreat
open Go.Aw Go
def Jda (a:XAir) (ps:List Int) (k:Nat):Int:=ps.getD (a.mine.roads.l.getD k default).fr.toNat 0 - ps.getD (a.mine.roads.l.getD k default).to.toNat 0
def Uxa (F G:(Int→XSpan)→Int→Int) (a:XAir) (s:XSetting) (ps:List Int) (v:Int) (k:Nat):Int:=
 if (a.mine.roads.l.getD k default).closed=true then 0
 else if (a.mine.roads.l.getD k default).fr=v then F (Uc a s k) (Jda a ps k)
 else if (a.mine.roads.l.getD k default).to=v then -(G (Uc a s k) (Jda a ps k)) else 0
def Y7b (F G : (Int → XSpan) → Int → Int) (a : XAir) (s : XSetting) (ps : List Int) (v : Int) : Nat → Int
 | 0=>0
 | k + 1=>Y7b F G a s ps v k + Uxa F G a s ps v k
def Juc (a:XAir) (s:XSetting) (ps:List Int) (v:Int):Int:=Y7b Uv Ub a s ps v a.mine.roads.l.length
def Uda (a:XAir) (s:XSetting) (ps:List Int) (v:Int):Int:=Y7b Ub Uv a s ps v a.mine.roads.l.length
structure Ends (F:(Int→XSpan)→Int→Int) (a:XAir) (s:XSetting):Prop where
 bnd:∀k:Nat,k < a.mine.roads.l.length→∀p,-1048577≤F (Uc a s k) p∧F (Uc a s k) p≤1048577
def K4a {a:XAir} {s:XSetting} (ha:AirOk a):Ends Uv a s:=⟨fun k hk p=>by have:=(Kub (s:=s) ha (r:=(k:Int)) zc p).bnd;omega⟩
def J2a {a:XAir} {s:XSetting} (ha:AirOk a):Ends Ub a s:=⟨fun k hk p=>by have:=(Jrb (s:=s) ha (r:=(k:Int)) zc p).bnd;omega⟩
section
variable {F G:(Int→XSpan)→Int→Int} {a:XAir} {s:XSetting} {ps:List Int} {v:Int}
def Ufb (hF:Ends F a s) (hG:Ends G a s) {k:Nat} (hk:k < a.mine.roads.l.length):-1048577≤Uxa F G a s ps v k∧Uxa F G a s ps v k≤1048577:=by
 have h1:=hF.bnd k hk (Jda a ps k);have h2:=hG.bnd k hk (Jda a ps k);unfold Uxa;split;·omega
 ·
  split;·exact h1
  ·split <;> omega
def Jib (hF : Ends F a s) (hG : Ends G a s) : ∀ k : Nat, k ≤ a.mine.roads.l.length → -(1048577 * (k : Int)) ≤ Y7b F G a s ps v k ∧ Y7b F G a s ps v k ≤ 1048577 * (k : Int)
 | 0,_=>by simp [Y7b]
 | k + 1,hk=>by
  have ih:=Jib hF hG k zc
  have h:=Ufb (ps:=ps) (v:=v) hF hG (k:=k) zc
  rw [Y7b]
  omega
def Jyc (F G : (Int → XSpan) → Int → Int) (a : XAir) (s : XSetting) (ps : List Int) (v : Int) (n : Nat) : List Int → Int
 | []=>0
 | e :: l=>Jyc F G a s ps v n l + Uxa F G a s ps v ((Vd a n).getD e.toNat 0)
def V3b (n:Nat) (l m:List Int):Jyc F G a s ps v n (l ++ m)=Jyc F G a s ps v n l + Jyc F G a s ps v n m:=by
 induction l with
 | nil=>simp [Jyc]
 | cons e l ih=>rw [yA,Jyc,Jyc,ih];omega
def Vya (a : XAir) {k : Nat} : ∀ {n : Nat}, k ≤ n → ∃ m, Vd a n = Vd a k ++ m
 | 0,h=>⟨[],by rw [show k=0 by omega];rfl⟩
 | n + 1,h=>by
  rcases yk n k with h' | h'
  ·exact ⟨[],by rw [show k=n + 1 by omega];simp⟩
  ·obtain ⟨m, hm⟩ := Vya a (k := k) (n := n) h'
   rw [Vd]
   split
   ·exact ⟨m,hm⟩
   ·exact ⟨m ++ [n],by rw [hm,yp]⟩
def Zsc (a:XAir) {k n:Nat} (hk:k < n) (hc:¬ (a.mine.roads.l.getD k default).closed=true):(Vd a n).getD (Vd a k).length 0=k:=by obtain ⟨m,hm⟩:=Vya a (show k + 1≤n from hk);rw [hm,Vd,if_neg hc,yp,yh,yF (yn _)];simp
def J8d (n : Nat) {v : Nat} : ∀ k, k ≤ n → Jyc F G a s ps v n (Umd a v k) = Y7b F G a s ps v k
 | 0,_=>rfl
 | k + 1,hk=>by
  have ih:=J8d n (v:=v) k zc
  rw [Umd,Y7b]
  split
  ·rename_i hc
   rw [ih,Uxa,if_pos hc];omega
  ·rename_i hc
   split
   ·rename_i hv
    rw [V3b,ih,Jyc,Jyc,yz,Zsc a zc hc]
    omega
   ·rename_i hv
    rw [ih,Uxa,if_neg hc,if_neg (fun h=>hv (.inl h)),if_neg (fun h=>hv (.inr h))];omega
def Vgb (a : XAir) {v : Nat} : ∀ k, ∀ e ∈ Umd a v k, ∃ i : Nat, i < k ∧ e = ((Vd a i).length : Int) ∧ ¬ (a.mine.roads.l.getD i default).closed = true ∧ ((a.mine.roads.l.getD i default).fr = (v : Int) ∨ (a.mine.roads.l.getD i default).to = (v : Int))
 | 0,e,h=>by cases h
 | k + 1,e,h=>by
  rw [Umd] at h
  split at h
  ·obtain ⟨i,h1,h2⟩:=Vgb a k e h;exact ⟨i,by omega,h2⟩
  ·rename_i hc
   split at h
   ·rename_i hv
    rcases List.mem_append.1 h with h | h
    ·obtain ⟨i,h1,h2⟩:=Vgb a k e h;exact ⟨i,by omega,h2⟩
    ·rw [List.mem_singleton.1 h];exact ⟨k,by omega,rfl,hc,hv⟩
   ·obtain ⟨i,h1,h2⟩:=Vgb a k e h;exact ⟨i,by omega,h2⟩
end
structure MonoE (F:(Int→XSpan)→Int→Int) (a:XAir) (s:XSetting):Prop where
 mono:∀k:Nat,k < a.mine.roads.l.length→∀p q:Int,p≤q→F (Uc a s k) p≤F (Uc a s k) q
def U5d {a:XAir} {s:XSetting} (ha:AirOk a):MonoE Uv a s:=⟨fun k hk p q h=>Jed (s:=s) ha (r:=(k:Int)) zc h⟩
def Yvc {a:XAir} {s:XSetting} (ha:AirOk a):MonoE Ub a s:=⟨fun k hk p q h=>U4c (s:=s) ha (r:=(k:Int)) zc h⟩
structure Above (ps qs:List Int) (v:Int):Prop where
 own:ps.getD v.toNat 0≤qs.getD v.toNat 0
 rest:∀k:Nat,k≠v.toNat→qs.getD k 0≤ps.getD k 0
def V5b {F G : (Int → XSpan) → Int → Int} {a : XAir} {s : XSetting} {ps qs : List Int} {v : Int} (ha : AirOk a) (hF : MonoE F a s) (hG : MonoE G a s) (h : Above ps qs v) : ∀ k : Nat, k ≤ a.mine.roads.l.length → Y7b F G a s ps v k ≤ Y7b F G a s qs v k
 | 0,_=>yI _
 | k + 1,hk=>by
  have ih:=V5b ha hF hG h k zc
  have hro:=ha.mine.road k _ zwc
  have h1:=hro.fr
  have h2:=hro.to
  have h3:=hro.ne
  have ho:=h.own
  rw [Y7b,Y7b,Uxa,Uxa]
  split
  ·omega
  ·split
   ·rename_i hf
    have hr:=h.rest (a.mine.roads.l.getD k default).to.toNat zc
    have:=hF.mono k zc (Jda a ps k) (Jda a qs k) (by rw [Jda,Jda,hf];omega)
    omega
   ·split
    ·rename_i hf ht
     have hr:=h.rest (a.mine.roads.l.getD k default).fr.toNat zc
     have:=hG.mono k zc (Jda a qs k) (Jda a ps k) (by rw [Jda,Jda,ht];omega)
     omega
    ·omega
def Jbe {a:XAir} {s:XSetting} {ps qs:List Int} {v:Int} (ha:AirOk a) (h:Above ps qs v):Juc a s ps v≤Juc a s qs v:=V5b ha (U5d ha) (Yvc ha) h _ (yn _)
def Ynd {a:XAir} {s:XSetting} {ps qs:List Int} {v:Int} (ha:AirOk a) (h:Above ps qs v):Uda a s ps v≤Uda a s qs v:=V5b ha (Yvc ha) (U5d ha) h _ (yn _)
def Usa {l:List Int} {k i:Nat} {v:Int} (hk:k < l.length):(l.set k v).getD i 0=if i=k then v else l.getD i 0:=by exact uaX
def Zlc {ps:List Int} {v x y:Int} (hv:v.toNat < ps.length) (h:x≤y):Above (ps.set v.toNat x) (ps.set v.toNat y) v:=
 ⟨by rw [Usa hv,Usa hv,if_pos rfl,if_pos rfl];exact h,fun k hk=>by rw [Usa hv,Usa hv,if_neg hk,if_neg hk];exact yI _⟩
def Kxa {l:List Int} {k:Nat}:l.set k (l.getD k 0)=l:=by
 rcases yk k l.length with h | h;·have := Js (l := l) (k := k) 0 h;obtain ⟨_,h2⟩:=List.getElem?_eq_some_iff.1 this;rw [← h2,List.set_getElem_self]
 ·exact List.set_eq_of_length_le h
def PresOk (ps:List Int):Prop:=∀p∈ps,-70368744177664≤p∧p≤70368744177664
def PresOk.get {ps:List Int} (h:PresOk ps) (k:Nat):-70368744177664≤ps.getD k 0∧ps.getD k 0≤70368744177664:=by
 rcases yk k ps.length with h' | h';·exact h _ (yi (Js (l:=ps) 0 h'))
 ·rw [yh,yq h'];decide
def PresOk.set {ps:List Int} (h:PresOk ps) (k:Nat) {x:Int} (hx:-70368744177664≤x∧x≤70368744177664):PresOk (ps.set k x):=fun p hp=>by
 rcases List.mem_or_eq_of_mem_set hp with h1 | h1
 ·exact h p h1
 ·rw [h1];exact hx
end Go.Proofs.YtchfclmokpbldaaGreat
end
section
namespace Go.Proofs.YtchfclmokpbldaaGreat
open Go.Aw Go
set_option maxRecDepth 20000
attribute [local irreducible] CJ LJ DJ Tri YV Gives U7 Kb Kp U8 RV Ke OwL.L
structure Entry (n:XNet) (a:XAir) (s:XSetting) (v:Int) (e:Int) (i:Nat) (p:XPipe):Prop where
 hi:i < a.mine.roads.l.length
 he:0≤e∧e < n.pipes.l.length
 get:n.pipes.l[e.toNat]?=some p
 num:(Vd a a.mine.roads.l.length).getD e.toNat 0=i
 is:PipeIs a s i p
 ok:PipeOk p
 drop:Jdb p=Uc a s i
 closed:¬ (a.mine.roads.l.getD i default).closed=true
 ends:(a.mine.roads.l.getD i default).fr=v∨(a.mine.roads.l.getD i default).to=v
 fr:p.road.fr=(a.mine.roads.l.getD i default).fr
 to:p.road.to=(a.mine.roads.l.getD i default).to
 road:RoadOk a.mine.places.l.length (a.mine.roads.l.getD i default)
def NetIs.entry {n:XNet} {a:XAir} {s:XSetting} (hn:NetIs a s n) (ha:AirOk a) {v:Nat} {e:Int} (he:e∈Umd a v a.mine.roads.l.length):∃(i:Nat) (p:XPipe),Entry n a s v e i p:=by
 obtain ⟨i,hi,rfl,hc,hv⟩:=Vgb a _ e he;have hget:=Zsc a hi hc;have hlt:(Vd a i).length < (Vd a a.mine.roads.l.length).length:=by obtain ⟨m,hm⟩:=Vya a (show i + 1≤a.mine.roads.l.length from hi);rw [hm,Vd,if_neg hc];simp only [yj,ym];omega
 have hg:(Vd a a.mine.roads.l.length)[(Vd a i).length]?=some i:=by rw [Js 0 hlt,hget]
 have hnum:=congrArg (fun l=>l[(Vd a i).length]?) hn.nums;simp only [yt,hg,yFa] at hnum;obtain ⟨p,hp,hpn⟩:=Option.map_eq_some_iff.1 hnum;have hpi:=hn.pipe p (yi hp);rw [hpn] at hpi;have hlp:=(List.getElem?_eq_some_iff.1 hp).1;refine ⟨i,p,hi,by omega,by rw [yz];exact hp,by rw [yz];exact hget,hpi,Zoc ha zc hpi,funext fun q=>Vdd hpi q,hc,hv,?_,?_,ha.mine.road i _ (Js default hi)⟩;·rw [hpi.road,yz]
 ·rw [hpi.road,yz]
section
variable {F G:(Int→XSpan)→Int→Int} {a:XAir} {s:XSetting} {ps:List Int} {v:Int}
def Zpc {n:Nat} {l:List Int} {k:Nat} {e:Int} (he:l[k]?=some e):Jyc F G a s ps v n (l.take (k + 1))=Jyc F G a s ps v n (l.take k) + Uxa F G a s ps v ((Vd a n).getD e.toNat 0):=by
 have:l.take (k + 1)=l.take k ++ [e]:=by rw [yta,he];rfl
 rw [this,V3b,Jyc,Jyc];omega
def Ufe {a:XAir} {n:Nat} (hn:1≤n) (i:Nat):(Vd a n).getD i 0 < n:=by
 rcases yk i (Vd a n).length with h | h;·have := yi (Js (l := Vd a n) 0 h);exact (Zda.1 this).1
 ·rw [yh,yq h];exact hn
def J1b (hF : Ends F a s) (hG : Ends G a s) (hn : 1 ≤ a.mine.roads.l.length) : ∀ l : List Int, -(1048577 * (l.length : Int)) ≤ Jyc F G a s ps v a.mine.roads.l.length l ∧ Jyc F G a s ps v a.mine.roads.l.length l ≤ 1048577 * (l.length : Int)
 | []=>by simp [Jyc]
 | e :: l=>by
  have ih:=J1b hF hG hn l
  have h:=Ufb (ps:=ps) (v:=v) hF hG (k:=(Vd a a.mine.roads.l.length).getD e.toNat 0) (Ufe hn _)
  rw [Jyc,yC]
  omega
end
def InR.arr {x:Arr (Arr Int)} {R:LS} (h:InR (V6a x) R) {i:Nat} {y:Arr Int} (hi:x.l[i]?=some y):InR (isl y) R:=
 h.sub (.deep (List.mem_map.2 ⟨y,yi hi,rfl⟩) .here)
def Kxc (n:XNet) (a:XAir) (s:XSetting) (ps:Arr Int) (v:Int) (L:LB) (R:LS) (hpp:InR (Zga n.pipes) R) (haa:InR (V6a n.at_) R) (hps:InR (isl ps) R) (hn:NetIs a s n) (ha:AirOk a) (hl:ps.l.length=a.mine.places.l.length) (hb:PresOk ps.l) (hv:0≤v∧v < a.mine.places.l.length):
 Tri Tryz.prog 241 [n.val,ps.val,.int .i64 v].toArray L R (fun w M U=>w=.int .i64 (Juc a s ps.l v)∧L=M∧R=U):=by
 obtain ⟨x,hx⟩:=Ki (l:=n.at_.l) (k:=v.toNat) (by rw [hn.atl];omega);have hxl:=hn.at_ _ _ hx;have hxI:=InR.arr haa hx;have hnr:=ha.mine.roads;have hatl:=hn.atl;have hxn:x.l.length≤a.mine.roads.l.length:=by rw [hxl];exact Kva a _ _
 refine Jd 57 Tryz.call241 Tryz.func241 rfl rfl rfl ?_;apply (Xag);intro b3;apply Xar∘Xau∘Xaf∘Yjf∘qa7∘qag∘Xa0;refine Jh [(1,.slice _ _ _),(2,.int _ _),(3,.pointer _),(7,.int _ _),(16,.slice _ _ _),(17,.int _ _),(18,.int _ _)] zg fun tq0=>?_;refine q_s ([7,9,10,11]++rg 18 38) (fun g:{k:Nat // k≤x.l.length}=>[(7,.int .i64 (Jyc Uv Ub a s ps.l v a.mine.roads.l.length (x.l.take g.1))),(18,.int .i64 ((g.1:Nat):Int))]) (fun g=>x.l.length - g.1) (⟨0,by omega⟩) ?_;rintro ⟨k,hk⟩ junk;try dsimp only
 apply (Xay);refine q_c ?_ ?_<;>intro hc0;·
  obtain ⟨e,he⟩:=Ki (l:=x.l) (k:=k) zc;obtain ⟨i,p,hE⟩:=hn.entry ha (v:=v.toNat) (e:=e) (by rw [← hxl];exact yi he);have hek:=hE.he;have hpg:=hE.get;have hpI:=InR.pipe hpp hpg;have hro:=hE.road;have hr1:=hro.fr;have hr2:=hro.to;have hef:=hE.fr;have het:=hE.to;have hi:=hE.hi;have hsb:=J1b (ps:=ps.l) (v:=v) (K4a (s:=s) ha) (J2a (s:=s) ha) zc (x.l.take k);have htl:(x.l.take k).length≤k:=List.length_take_le _ _;have hst:=Zpc (F:=Uv) (G:=Ub) (a:=a) (s:=s) (ps:=ps.l) (v:=v) (n:=a.mine.roads.l.length) he;rw [hE.num] at hst;have hpf:=Js (l:=ps.l) (k:=p.road.fr.toNat) 0 zc;have hpt:=Js (l:=ps.l) (k:=p.road.to.toNat) 0 zc;have hbf:=hb.get p.road.fr.toNat;have hbt:=hb.get p.road.to.toNat;have hdf:Jda a ps.l i=ps.l.getD p.road.fr.toNat 0 - ps.l.getD p.road.to.toNat 0:=by rw [Jda,hef,het]
  have hfl:=(K4a (s:=s) ha).bnd i hi (Jda a ps.l i);have hfh:=(J2a (s:=s) ha).bnd i hi (Jda a ps.l i);rw [← hE.drop,hdf] at hfl hfh;rw [Uxa,if_neg hE.closed,hdf,← hE.drop,← hef] at hst;have hends:=hE.ends;rw [← hef,← het] at hends;apply qbb∘qa3∘qa7∘Xar∘Xaf∘Jog∘qdx∘qaq;intro b10;apply (Xem);refine Kg tb [0,1,2,3,4,5,6,7,8,9,10,11,12,13] _ Kn zf ye ?_;apply Zoa∘Xdy∘Vtf∘qbl∘Zoa∘Xdy∘Z4f∘Xe1∘qcg;refine J9 (Ja (Ji (Je ?_)));apply Xc3∘Xa6;refine q_c ?_ ?_<;>intro hc1;·rw [if_pos hc1] at hst;apply Xb0∘qdi∘qaa;refine q_l rfl zOc ?_;exact (Xad) zCe
  rw [if_neg hc1,if_pos zc] at hst;apply Xb0∘qdi∘qaa;refine q_l rfl zPc ?_;exact (qa9∘qad) zCe
 obtain rfl:k=x.l.length:=by omega
 apply (Xen);refine q_i L R ?_;have e:=J8d (F:=Uv) (G:=Ub) (a:=a) (s:=s) (ps:=ps.l) (v:=v.toNat) a.mine.roads.l.length a.mine.roads.l.length (yn _);rw [yja hv.1] at e;exact ⟨by rw [Juc,yZb,hxl,e],rfl,rfl⟩
def Y0b (n:XNet) (a:XAir) (s:XSetting) (ps:Arr Int) (v:Int) (L:LB) (R:LS) (hpp:InR (Zga n.pipes) R) (haa:InR (V6a n.at_) R) (hps:InR (isl ps) R) (hn:NetIs a s n) (ha:AirOk a) (hl:ps.l.length=a.mine.places.l.length) (hb:PresOk ps.l) (hv:0≤v∧v < a.mine.places.l.length):
 Tri Tryz.prog 242 [n.val,ps.val,.int .i64 v].toArray L R (fun w M U=>w=.int .i64 (Uda a s ps.l v)∧L=M∧R=U):=by
 obtain ⟨x,hx⟩:=Ki (l:=n.at_.l) (k:=v.toNat) (by rw [hn.atl];omega);have hxl:=hn.at_ _ _ hx;have hxI:=InR.arr haa hx;have hnr:=ha.mine.roads;have hatl:=hn.atl;have hxn:x.l.length≤a.mine.roads.l.length:=by rw [hxl];exact Kva a _ _
 refine Jd 57 Tryz.call242 Tryz.func242 rfl rfl rfl ?_;apply (Xag);intro b3;apply Xar∘Xau∘Xaf∘Yjf∘qa7∘qag∘Xa0;refine Jh [(1,.slice _ _ _),(2,.int _ _),(3,.pointer _),(7,.int _ _),(16,.slice _ _ _),(17,.int _ _),(18,.int _ _)] zg fun tq0=>?_;refine q_s ([7,9,10,11]++rg 18 38) (fun g:{k:Nat // k≤x.l.length}=>[(7,.int .i64 (Jyc Ub Uv a s ps.l v a.mine.roads.l.length (x.l.take g.1))),(18,.int .i64 ((g.1:Nat):Int))]) (fun g=>x.l.length - g.1) (⟨0,by omega⟩) ?_;rintro ⟨k,hk⟩ junk;try dsimp only
 apply (Xay);refine q_c ?_ ?_<;>intro hc0;·
  obtain ⟨e,he⟩:=Ki (l:=x.l) (k:=k) zc;obtain ⟨i,p,hE⟩:=hn.entry ha (v:=v.toNat) (e:=e) (by rw [← hxl];exact yi he);have hek:=hE.he;have hpg:=hE.get;have hpI:=InR.pipe hpp hpg;have hro:=hE.road;have hr1:=hro.fr;have hr2:=hro.to;have hef:=hE.fr;have het:=hE.to;have hi:=hE.hi;have hsb:=J1b (ps:=ps.l) (v:=v) (J2a (s:=s) ha) (K4a (s:=s) ha) zc (x.l.take k);have htl:(x.l.take k).length≤k:=List.length_take_le _ _;have hst:=Zpc (F:=Ub) (G:=Uv) (a:=a) (s:=s) (ps:=ps.l) (v:=v) (n:=a.mine.roads.l.length) he;rw [hE.num] at hst;have hpf:=Js (l:=ps.l) (k:=p.road.fr.toNat) 0 zc;have hpt:=Js (l:=ps.l) (k:=p.road.to.toNat) 0 zc;have hbf:=hb.get p.road.fr.toNat;have hbt:=hb.get p.road.to.toNat;have hdf:Jda a ps.l i=ps.l.getD p.road.fr.toNat 0 - ps.l.getD p.road.to.toNat 0:=by rw [Jda,hef,het]
  have hfl:=(J2a (s:=s) ha).bnd i hi (Jda a ps.l i);have hfh:=(K4a (s:=s) ha).bnd i hi (Jda a ps.l i);rw [← hE.drop,hdf] at hfl hfh;rw [Uxa,if_neg hE.closed,hdf,← hE.drop,← hef] at hst;have hends:=hE.ends;rw [← hef,← het] at hends;apply qbb∘qa3∘qa7∘Xar∘Xaf∘Jog∘qdx∘qaq;intro b10;apply (Xem);refine Kg tb [0,1,2,3,4,5,6,7,8,9,10,11,12,13] _ Kn zf ye ?_;apply Zoa∘Xdy∘Vtf∘qbl∘Zoa∘Xdy∘Z4f∘Xe1∘qcg;refine J9 (Ja (Ji (Je ?_)));apply Xc3∘Xa6;refine q_c ?_ ?_<;>intro hc1;·rw [if_pos hc1] at hst;apply Xb0∘qdi∘qaa;refine q_l rfl zPc ?_;exact (Xad) zCe
  rw [if_neg hc1,if_pos zc] at hst;apply Xb0∘qdi∘qaa;refine q_l rfl zOc ?_;exact (qa9∘qad) zCe
 obtain rfl:k=x.l.length:=by omega
 apply (Xen);refine q_i L R ?_;have e:=J8d (F:=Ub) (G:=Uv) (a:=a) (s:=s) (ps:=ps.l) (v:=v.toNat) a.mine.roads.l.length a.mine.roads.l.length (yn _);rw [yja hv.1] at e;exact ⟨by rw [Uda,yZb,hxl,e],rfl,rfl⟩
def J1c (a:XAir) (s:XSetting) (ps:Arr Int) (v:Int) (L:LB) (R:LS) (hm:AirR a R) (hs:SetR s R) (hps:InR (isl ps) R) (ha:AirOk a) (hf:FitOk a s) (hl:ps.l.length=a.mine.places.l.length) (hb:PresOk ps.l):
 Tri Tryz.prog 287 [a.val,s.val,ps.val,.int .i64 v].toArray L R (fun w M U=>w=.int .i64 (Juc a s ps.l v)∧L=M∧R=U):=by
 have hnr:=ha.mine.roads;have hmr:=hm.roads;refine Jd 71 Tryz.call287 Tryz.func287 rfl rfl rfl ?_;apply (Xag);intro b4;apply (qax);intro b5;apply Xar∘Xau∘Xat;refine Jh [(2,.slice _ _ _),(3,.int _ _),(4,.pointer _),(5,.pointer _),(9,.int _ _),(10,.int _ _)] zg fun tq0=>?_;refine q_s (rg 9 61) (fun g:{k:Nat // k≤a.mine.roads.l.length}=>[(9,.int .i64 (Y7b Uv Ub a s ps.l v g.1)),(10,.int .i64 ((g.1:Nat):Int))]) (fun g=>a.mine.roads.l.length - g.1) (⟨0,by omega⟩) ?_;rintro ⟨k,hk⟩ junk;try dsimp only
 apply Xap∘qab∘Xa9;refine q_c ?_ ?_<;>intro hc0;·
  have hro:=Js (l:=a.mine.roads.l) (k:=k) default zc;have hrk:=ha.mine.road _ _ hro;have hr1:=hrk.fr;have hr2:=hrk.to;have hr3:=hrk.ne;have hsb:=Jib (ps:=ps.l) (v:=v) (K4a (s:=s) ha) (J2a (s:=s) ha) k hk;have hpf:=Js (l:=ps.l) (k:=(a.mine.roads.l.getD k default).fr.toNat) 0 zc;have hpt:=Js (l:=ps.l) (k:=(a.mine.roads.l.getD k default).to.toNat) 0 zc;have hbf:=hb.get (a.mine.roads.l.getD k default).fr.toNat;have hbt:=hb.get (a.mine.roads.l.getD k default).to.toNat;have hfl:=(K4a (s:=s) ha).bnd k zc (Jda a ps.l k);have hfh:=(J2a (s:=s) ha).bnd k zc (Jda a ps.l k);rw [Jda] at hfl hfh;have hst:Y7b Uv Ub a s ps.l v (k + 1)=Y7b Uv Ub a s ps.l v k + Uxa Uv Ub a s ps.l v k:=rfl;rw [Uxa,Jda] at hst;apply qbb∘Xc3∘Z1f∘Xeo;intro b11;apply Xdz∘qaf;refine q_c ?_ ?_<;>intro hc1;·exact zYe
  rw [if_neg zN] at hst;apply qbo∘Xaf∘Xa6;refine q_c ?_ ?_<;>intro hc2;·rw [if_pos hc2] at hst;apply Zid∘qao∘qbc∘qbd∘qao∘Zoa∘Xae∘Yhd∘qbl∘Zoa∘Xae∘Y6d∘Xe1;refine q_d rfl zPb ?_;apply qc2∘qcg;refine J9 (Ja (Ji (Je ?_)));apply Xaf∘Xa6;exact ua5
  rw [if_neg hc2] at hst;apply qbv∘Xaf∘Xa6;exact ua5
 obtain rfl:k=a.mine.roads.l.length:=by omega
 exact (Xen) zRf
def Y5b (a:XAir) (s:XSetting) (ps:Arr Int) (v:Int) (L:LB) (R:LS) (hm:AirR a R) (hs:SetR s R) (hps:InR (isl ps) R) (ha:AirOk a) (hf:FitOk a s) (hl:ps.l.length=a.mine.places.l.length) (hb:PresOk ps.l):
 Tri Tryz.prog 288 [a.val,s.val,ps.val,.int .i64 v].toArray L R (fun w M U=>w=.int .i64 (Uda a s ps.l v)∧L=M∧R=U):=by
 have hnr:=ha.mine.roads;have hmr:=hm.roads;refine Jd 71 Tryz.call288 Tryz.func288 rfl rfl rfl ?_;apply (Xag);intro b4;apply (qax);intro b5;apply Xar∘Xau∘Xat;refine Jh [(2,.slice _ _ _),(3,.int _ _),(4,.pointer _),(5,.pointer _),(9,.int _ _),(10,.int _ _)] zg fun tq0=>?_;refine q_s (rg 9 61) (fun g:{k:Nat // k≤a.mine.roads.l.length}=>[(9,.int .i64 (Y7b Ub Uv a s ps.l v g.1)),(10,.int .i64 ((g.1:Nat):Int))]) (fun g=>a.mine.roads.l.length - g.1) (⟨0,by omega⟩) ?_;rintro ⟨k,hk⟩ junk;try dsimp only
 apply Xap∘qab∘Xa9;refine q_c ?_ ?_<;>intro hc0;·
  have hro:=Js (l:=a.mine.roads.l) (k:=k) default zc;have hrk:=ha.mine.road _ _ hro;have hr1:=hrk.fr;have hr2:=hrk.to;have hr3:=hrk.ne;have hsb:=Jib (ps:=ps.l) (v:=v) (J2a (s:=s) ha) (K4a (s:=s) ha) k hk;have hpf:=Js (l:=ps.l) (k:=(a.mine.roads.l.getD k default).fr.toNat) 0 zc;have hpt:=Js (l:=ps.l) (k:=(a.mine.roads.l.getD k default).to.toNat) 0 zc;have hbf:=hb.get (a.mine.roads.l.getD k default).fr.toNat;have hbt:=hb.get (a.mine.roads.l.getD k default).to.toNat;have hfl:=(J2a (s:=s) ha).bnd k zc (Jda a ps.l k);have hfh:=(K4a (s:=s) ha).bnd k zc (Jda a ps.l k);rw [Jda] at hfl hfh;have hst:Y7b Ub Uv a s ps.l v (k + 1)=Y7b Ub Uv a s ps.l v k + Uxa Ub Uv a s ps.l v k:=rfl;rw [Uxa,Jda] at hst;apply qbb∘Xc3∘Z1f∘Xeo;intro b11;apply Xdz∘qaf;refine q_c ?_ ?_<;>intro hc1;·exact zYe
  rw [if_neg zN] at hst;apply qbo∘Xaf∘Xa6;refine q_c ?_ ?_<;>intro hc2;·rw [if_pos hc2] at hst;apply Zid∘qao∘qbc∘qbd∘qao∘Zoa∘Xae∘Yhd∘qbl∘Zoa∘Xae∘Y6d∘Xe1;refine q_d rfl zQb ?_;apply qc2∘qcg;refine J9 (Ja (Ji (Je ?_)));apply Xaf∘Xa6;exact ua6
  rw [if_neg hc2] at hst;apply qbv∘Xaf∘Xa6;exact ua6
 obtain rfl:k=a.mine.roads.l.length:=by omega
 exact (Xen) zRf
end Go.Proofs.YtchfclmokpbldaaGreat
end
section
namespace Go.Proofs.YtchfclmokpbldaaGreat
open Go.Aw Go
set_option maxRecDepth 20000
attribute [local irreducible] CJ LJ DJ Tri YV Gives U7 Kb Kp U8 RV Ke OwL.L
abbrev sgn (up:Bool):Int:=if up then 1 else -1
abbrev Job (up:Bool) (start:Int):Int:=if up then 70368744177664 - start else start + 70368744177664
structure First (g:Int→Bool) (start:Int) (up:Bool) (v:Int) (ok:Bool):Prop where
 yes:ok=true→∃m,0≤m∧m≤Job up start∧v=start + sgn up * m∧g v=true∧∀j,0≤j→j < m→g (start + sgn up * j)=false
 no:ok=false→v=0∧∀j,0≤j→j≤Job up start→g (start + sgn up * j)=false
def Stays (g:Int→Bool) (start:Int) (up:Bool):Prop:=∀i j,0≤i→i≤j→j≤Job up start→g (start + sgn up * i)=true→g (start + sgn up * j)=true
def Stays.no {g:Int→Bool} {start:Int} {up:Bool} (h:Stays g start up) {i j:Int} (h0:0≤i) (hij:i≤j) (hj:j≤Job up start) (hg:g (start + sgn up * j)=false):g (start + sgn up * i)=false:=by
 cases e:g (start + sgn up * i) with
 | false=>rfl
 | true=>rw [h i j h0 hij hj e] at hg;cases hg
def Unc {up:Bool} {z:Int} (h:0≤z∧z≤281474976710656):-281474976710656≤sgn up * z∧sgn up * z≤281474976710656:=by cases up <;> simp only [sgn] <;> simp <;> omega
def V0d {up:Bool} {start z:Int} (hs:-70368744177664≤start∧start≤70368744177664) (h:0≤z∧z≤Job up start):-70368744177664≤start + sgn up * z∧start + sgn up * z≤70368744177664:=by cases up <;> simp only [sgn,Job] at h ⊢ <;> simp at h ⊢ <;> omega
def Yob {up:Bool} {start:Int} (hs:-70368744177664≤start∧start≤70368744177664):0≤Job up start∧Job up start≤140737488355328:=by cases up <;> simp [Job] <;> omega
def K2c (f : FuncId) (cap : Array Value) (LL : Int → LB) (g : Int → Bool) (start : Int) (up : Bool) (y : Int) (R : LS) (hs : -70368744177664 ≤ start ∧ start ≤ 70368744177664) (hm : Stays g start up)
 (hc:∀x y,-70368744177664≤x∧x≤70368744177664→Tri Tryz.prog f (.int .i64 x :: cap.toList).toArray (LL y) R (fun v M U=>v=.bool (g x)∧LL x=M∧R=U)):
 Tri Tryz.prog 278 [.int .i64 start,.bool up,.func (.func f) #[] cap].toArray (LL y) R (fun v M U=>∃(z:Int) (ok:Bool) (y':Int),v=.tuple #[.int .i64 z,.bool ok]∧First g start up z ok∧LL y'=M∧R=U):=by
 have hro:=Yob (up:=up) hs;have h00:start + sgn up * 0=start:=by simp
 refine Jd 80 Tryz.call278 Tryz.func278 rfl rfl rfl ?_;apply Xac∘Xdm;refine J0 zcc rfl ?_;apply (qaa);refine Y4c (Kna rfl rfl (hc start y hs)) rfl rfl ?_;rintro v M U ⟨rfl,rfl,rfl⟩;apply (qaf);refine q_c ?_ ?_<;>intro hc0;·apply Xbn∘Xb2∘qbh;refine q_r (LL start) R zEd ?_;exact ⟨start,true,start,rfl,⟨fun _=>⟨0,by omega,by omega,h00.symm,hc0,fun j h1 h2=>by omega⟩,fun h=>by cases h⟩,rfl,rfl⟩
 apply qbv∘Xck∘qad∘Xau∘Xec;refine Vu [8,9,21,22] ((⟨fun _=>[(8,.int .i64 (sgn up)),(9,.int .i64 (Job up start))],fun _=>LL start,fun _=>R,fun _=>0⟩:Head Unit)) ?_ ?_;·
  skip
  refine q_c ?_ ?_<;>intro hc1;·apply qay∘Xai∘Xce;subst hc1;exact q_j ()
  refine Jt ?_;subst hc1;exact q_j ()
 rintro u junk;try dsimp only
 apply Xac∘Xdf;refine Vu ([10,11]++rg 23 16) ((⟨fun g=>[(10,.int .i64 g.1.1),(11,.int .i64 g.1.2.1)],fun g=>LL g.1.2.2,fun _=>R,fun _=>0⟩:Head {q:Int×Int×Int // (0≤q.1∧q.1 < q.2.1∧q.2.1≤281474976710656)∧g (start + sgn up * q.1)=false∧(q.1=0∨q.1 < Job up start)∧(q.2.1 < Job up start→g (start + sgn up * q.2.1)=true)})) ?_ ?_;·
  refine Jy ?_;refine Uh ([10,11]++rg 23 16) zG [(10,.int _ _),(11,.int _ _)] zg fun tq0=>?_;refine q_p ([10,11]++rg 23 16) ((⟨fun g=>[(10,.int .i64 g.1.1),(11,.int .i64 g.1.2.1)],fun g=>LL g.1.2.2,fun _=>R,fun g=>(Job up start + 1 - g.1.1).toNat⟩:Head {q:Int×Int×Int // ((q.1=0∧q.2.1=1)∨(1≤q.1∧q.2.1=q.1 * 2))∧g (start + sgn up * q.1)=false∧(q.1=0∨q.1 < Job up start)})) (⟨(0,1,start),.inl ⟨rfl,rfl⟩,by rw [h00];exact hc0,.inl rfl⟩) ?_;rintro ⟨⟨bad,good,y2⟩,hbg,hbf,hbr⟩ junk;try dsimp only
  dsimp only at hbg hbf hbr;have hgm:=Unc (up:=up) (z:=good) zc;apply Xap∘Xcf;refine Zi (k:=26) ztb (fun hg4=>?_) (fun hg4=>?_);·
   replace hg4:=qb hg4;refine U6 zcc rfl rfl ?_;(iterate 3 refine U6 (J2 zub) rfl rfl ?_);apply Ycf∘J2g;refine Y4c (Kna rfl rfl (hc (start + sgn up * good) y2 (V0d hs zc))) rfl rfl ?_;rintro v M U ⟨rfl,rfl,rfl⟩;refine U6 (Uva rfl) rfl rfl ?_;apply Y6e∘qaf;refine q_c ?_ ?_<;>intro hc2;·refine Jt (Ja (Ji (Jy (Je ?_))));apply qaa∘qad∘qcs∘Xed∘Xce;exact q_k ⟨(good,good * 2,start + sgn up * good),by dsimp only;omega,by simpa using hc2,by dsimp only;omega⟩
   exact zue
  replace hg4:=qb hg4;iterate 8 refine V8a rfl rfl ?_
  apply Y6e∘qaf;refine Vy rfl ?_;exact zue
 rintro ⟨⟨bad,good,y2⟩,hbg,hbf,hbr,hgt⟩ junk;try dsimp only
 dsimp only at hbg hbf hbr hgt;apply Xap∘qaa∘Xdg;refine Vu ([6,7,11]++rg 42 14) ((⟨fun q=>[(11,.int .i64 q.1.1)],fun q=>LL q.1.2,fun _=>R,fun _=>0⟩:Head {q:Int×Int // bad < q.1∧q.1≤Job up start∧g (start + sgn up * q.1)=true})) ?_ ?_;·
  skip
  refine q_c ?_ ?_<;>intro hc3;·
   apply Xbn∘Xdf;have hgm:=Unc (up:=up) (z:=Job up start) zc;apply qay∘Xbu∘qbx∘qah;refine Zi (k:=46) ztb (fun hg4=>?_) (fun hg4=>?_);·replace hg4:=qb hg4;(iterate 8 refine V8a rfl rfl ?_);apply Y6e∘qaf;refine K0 rfl ?_;exact uaJ
   replace hg4:=qb hg4;refine U6 zcc rfl rfl ?_;(iterate 3 refine U6 (J2 zub) rfl rfl ?_);apply Ycf∘J2g;refine Y4c (Kna rfl rfl (hc (start + sgn up * Job up start) y2 (V0d hs zc))) rfl rfl ?_;rintro v M U ⟨rfl,rfl,rfl⟩;refine U6 (Uva rfl) rfl rfl ?_;apply Y6e∘qaf;refine q_c ?_ ?_<;>intro hc4;·exact uaJ
   refine Jt ?_;exact q_j ⟨(Job up start,start + sgn up * Job up start),by dsimp only;omega,by dsimp only;omega,by simpa using hc4⟩
  refine Jt ?_;exact q_j ⟨(good,y2),by dsimp only;omega,by dsimp only;omega,hgt zc⟩
 rintro ⟨⟨good2,y3⟩,h31,h32,h33⟩ junk;try dsimp only
 dsimp only at h31 h32 h33;refine Ji (Jy ?_);refine Jh [(0,.int _ _),(2,_),(8,.int _ _),(10,.int _ _),(11,.int _ _)] zg fun tq1=>?_;refine q_p ([10,11,12]++rg 56 19) ((⟨fun q=>[(10,.int .i64 q.1.1),(11,.int .i64 q.1.2.1)],fun q=>LL q.1.2.2,fun _=>R,fun q=>(q.1.2.1 - q.1.1).toNat⟩:Head {q:Int×Int×Int // (0≤q.1∧q.1 < q.2.1∧q.2.1≤Job up start)∧g (start + sgn up * q.1)=false∧g (start + sgn up * q.2.1)=true})) (⟨(bad,good2,y3),by dsimp only;omega,hbf,h33⟩) ?_;rintro ⟨⟨lo,hi,y4⟩,q1,q2,q3⟩ junk;try dsimp only
 dsimp only at q1 q2 q3;apply Xap∘Xal∘Xao;refine q_c ?_ ?_<;>intro hc5;·
  obtain ⟨mid,hmid⟩:∃mid,mid=lo + (hi - lo).tdiv 2:=⟨_,rfl⟩;have hmb:lo < mid∧mid < hi:=by rw [yO zc] at hmid;omega
  have hdv:0≤(hi - lo).tdiv 2∧(hi - lo).tdiv 2≤hi - lo:=by rw [yO zc];omega
  refine Jt (Ja (Jy (Ji (Je ?_))));iterate 3 apply (qaa)
  apply qa9∘qdd∘Xad∘qa4;rw [← hmid];have hgm:=Unc (up:=up) (z:=mid) zc;apply (qay);refine J0 zcc rfl ?_;iterate 3 apply (qaa)
  apply qcm∘qar;refine Y4c (Kna rfl rfl (hc (start + sgn up * mid) y4 (V0d hs zc))) rfl rfl ?_;rintro v M U ⟨rfl,rfl,rfl⟩;apply (qaf);refine q_c ?_ ?_<;>intro hc6;·apply Xb0∘qad;refine J6 (Jg ?_);exact q_k ⟨(lo,mid,start + sgn up * mid),by dsimp only;omega,q2,hc6⟩
  apply Xb0∘qad;refine J6 (Jg ?_);exact q_k ⟨(mid,hi,start + sgn up * mid),by dsimp only;omega,hc6,q3⟩
 apply (qc3);have hgm:=Unc (up:=up) (z:=hi) zc;apply (qay);iterate 3 apply (qaa)
 apply qcm∘Xad∘Xbb;refine q_r (LL y4) R zEd ?_;exact ⟨start + sgn up * hi,true,y4,rfl,⟨fun _=>⟨hi,by omega,by omega,rfl,q3,fun j h1 h2=>hm.no h1 (show j≤lo by omega) zc q2⟩,fun h=>by cases h⟩,rfl,rfl⟩
end Go.Proofs.YtchfclmokpbldaaGreat
end
section
namespace Go.Proofs.YtchfclmokpbldaaGreat
open Go.Aw Go
set_option maxRecDepth 20000
attribute [local irreducible] CJ LJ DJ Tri YV Gives U7 Kb Kp U8 RV Ke OwL.L
def Tri.lend1 {P : Program} {f : FuncId} {args : Array Value} {A : LB} {R : LS} {p : OwL Int} {T : TypeId} {u : Value} (hin : InB (p.L T Jj) A) (hok : p.ok 1 Jj)
 (h:Tri P f args [] (isl p.arr :: R) (fun v M U=>v=u∧[]=M∧isl p.arr :: R=U)):Tri P f args A R (fun v M U=>v=u∧A=M∧R=U):=by have h2:=Tri.lend (S:=[isl p.arr]) (Post:=fun v M=>v=u∧[]=M) (Spl.rest (L:=A)) (fun w G hh s hs=>by rw [List.mem_singleton.1 hs];exact Y2 hh hin hok yf zj yg) (h.mono fun v M U ⟨a1,a2,a3⟩=>⟨⟨a1,a2⟩,a3⟩);exact zmf
def Ule {o:Ow} {l:List Int} {k:Nat} {y:Int}:(⟨o,l⟩:OwL Int).val=(⟨o,l.set k y⟩:OwL Int).val:=OwL.set_val.symm
structure HypsN (n:XNet) (a:XAir) (s:XSetting) (ps:List Int) (v:Int) (R:LS):Prop where
 pp:InR (Zga n.pipes) R
 aa:InR (V6a n.at_) R
 is:NetIs a s n
 ok:AirOk a
 len:ps.length=a.mine.places.l.length
 pres:PresOk ps
 v:0≤v∧v < a.mine.places.l.length
def J7f {n:XNet} {a:XAir} {s:XSetting} {o:Ow} {ps:List Int} {v y:Int} {A:LB} {R:LS} (h:HypsN n a s ps v R) (hy:-70368744177664≤y∧y≤70368744177664) (hin:InB ((⟨o,ps.set v.toNat y⟩:OwL Int).L 3 Jj) A) (hok:(⟨o,ps.set v.toNat y⟩:OwL Int).ok 1 Jj):
 Tri Tryz.prog 241 [n.val,(⟨o,ps⟩:OwL Int).val,.int .i64 v].toArray A R (fun w M U=>w=.int .i64 (Juc a s (ps.set v.toNat y) v)∧A=M∧R=U):=by rw [Ule (k:=v.toNat) (y:=y)];exact Tri.lend1 hin hok (Kxc n a s (⟨o,ps.set v.toNat y⟩:OwL Int).arr v [] _ (h.pp.mono fun r hr=>Jb (.tail _ hr)) (h.aa.mono fun r hr=>Jb (.tail _ hr)) zRb h.is h.ok (by simp [h.len]) (h.pres.set _ hy) h.v)
def Uze {n:XNet} {a:XAir} {s:XSetting} {o:Ow} {ps:List Int} {v y:Int} {A:LB} {R:LS} (h:HypsN n a s ps v R) (hy:-70368744177664≤y∧y≤70368744177664) (hin:InB ((⟨o,ps.set v.toNat y⟩:OwL Int).L 3 Jj) A) (hok:(⟨o,ps.set v.toNat y⟩:OwL Int).ok 1 Jj):
 Tri Tryz.prog 242 [n.val,(⟨o,ps⟩:OwL Int).val,.int .i64 v].toArray A R (fun w M U=>w=.int .i64 (Uda a s (ps.set v.toNat y) v)∧A=M∧R=U):=by rw [Ule (k:=v.toNat) (y:=y)];exact Tri.lend1 hin hok (Y0b n a s (⟨o,ps.set v.toNat y⟩:OwL Int).arr v [] _ (h.pp.mono fun r hr=>Jb (.tail _ hr)) (h.aa.mono fun r hr=>Jb (.tail _ hr)) zRb h.is h.ok (by simp [h.len]) (h.pres.set _ hy) h.v)
structure HypsR (a:XAir) (s:XSetting) (ps:List Int) (v:Int) (R:LS):Prop where
 air:AirR a R
 set:SetR s R
 ok:AirOk a
 fit:FitOk a s
 len:ps.length=a.mine.places.l.length
 pres:PresOk ps
 v:0≤v∧v < a.mine.places.l.length
def Kud {a:XAir} {s:XSetting} {o:Ow} {ps:List Int} {v y:Int} {A:LB} {R:LS} (h:HypsR a s ps v R) (hy:-70368744177664≤y∧y≤70368744177664) (hin:InB ((⟨o,ps.set v.toNat y⟩:OwL Int).L 3 Jj) A) (hok:(⟨o,ps.set v.toNat y⟩:OwL Int).ok 1 Jj):
 Tri Tryz.prog 287 [a.val,s.val,(⟨o,ps⟩:OwL Int).val,.int .i64 v].toArray A R (fun w M U=>w=.int .i64 (Juc a s (ps.set v.toNat y) v)∧A=M∧R=U):=by rw [Ule (k:=v.toNat) (y:=y)];exact Tri.lend1 hin hok (J1c a s (⟨o,ps.set v.toNat y⟩:OwL Int).arr v [] _ (Vs h.air fun r hr=>Jb (.tail _ hr)) (Y3 h.set fun r hr=>Jb (.tail _ hr)) zRb h.ok h.fit (by simp [h.len]) (h.pres.set _ hy))
def Vhc {a:XAir} {s:XSetting} {o:Ow} {ps:List Int} {v y:Int} {A:LB} {R:LS} (h:HypsR a s ps v R) (hy:-70368744177664≤y∧y≤70368744177664) (hin:InB ((⟨o,ps.set v.toNat y⟩:OwL Int).L 3 Jj) A) (hok:(⟨o,ps.set v.toNat y⟩:OwL Int).ok 1 Jj):
 Tri Tryz.prog 288 [a.val,s.val,(⟨o,ps⟩:OwL Int).val,.int .i64 v].toArray A R (fun w M U=>w=.int .i64 (Uda a s (ps.set v.toNat y) v)∧A=M∧R=U):=by rw [Ule (k:=v.toNat) (y:=y)];exact Tri.lend1 hin hok (Y5b a s (⟨o,ps.set v.toNat y⟩:OwL Int).arr v [] _ (Vs h.air fun r hr=>Jb (.tail _ hr)) (Y3 h.set fun r hr=>Jb (.tail _ hr)) zRb h.ok h.fit (by simp [h.len]) (h.pres.set _ hy))
abbrev Jid (a:XAir) (s:XSetting) (ps:List Int) (v:Int):Int→Bool:=fun x=>decide (0≤Juc a s (ps.set v.toNat x) v)
abbrev Zqa (a:XAir) (s:XSetting) (ps:List Int) (v:Int):Int→Bool:=fun x=>decide (Uda a s (ps.set v.toNat x) v≤0)
def Kdc {a:XAir} {s:XSetting} {ps:List Int} {v start:Int} (ha:AirOk a) (hv:v.toNat < ps.length):Stays (Jid a s ps v) start true:=by intro i j h0 hij hj hg;rw [decide_eq_true_eq] at hg ⊢;have:=Jbe (s:=s) ha (Zlc (ps:=ps) hv (show start + sgn true * i≤start + sgn true * j by simp only [sgn];simp;omega));omega
def Yab {a:XAir} {s:XSetting} {ps:List Int} {v start:Int} (ha:AirOk a) (hv:v.toNat < ps.length):Stays (Zqa a s ps v) start false:=by intro i j h0 hij hj hg;rw [decide_eq_true_eq] at hg ⊢;have:=Ynd (s:=s) ha (Zlc (ps:=ps) hv (show start + sgn false * j≤start + sgn false * i by simp only [sgn];simp;omega));omega
abbrev clL (b8 b5 b3:Nat) (n:XNet) (o:Ow) (ps:List Int) (v:Int) (L:LB) (y:Int):LB:=
 ⟨b8,[(⟨o,ps⟩:OwL Int).val],40⟩ :: ((⟨o,ps.set v.toNat y⟩:OwL Int).L 3 Jj ++ (⟨b5,[.int .i64 v],3⟩ :: ⟨b3,n.cells,221⟩ :: L))
def Ytd {b8 b5 b3:Nat} {n:XNet} {a:XAir} {s:XSetting} {o:Ow} {ps:List Int} {u:Int} {L:LB} {R:LS} (h:HypsN n a s ps u R) (hok:(⟨o,ps⟩:OwL Int).ok 1 Jj) (x y:Int) (hx:-70368744177664≤x∧x≤70368744177664):
 Tri Tryz.prog 280 [.int .i64 x,.pointer (some ⟨b8,0,none⟩),.pointer (some ⟨b5,0,none⟩),.pointer (some ⟨b3,0,none⟩)].toArray (clL b8 b5 b3 n o ps u L y) R (fun w M U=>w=.bool (Jid a s ps u x)∧clL b8 b5 b3 n o ps u L x=M∧R=U):=by have hv:=h.v;have hlen:=h.len;have hok2:∀z,(⟨o,ps.set u.toNat z⟩:OwL Int).ok 1 Jj:=fun z=>OwL.len_ok Uw hok zq;have hoky:=hok2 y;have hget:=Js (l:=ps.set u.toNat y) (k:=u.toNat) 0 zH;refine Jd 15 Tryz.call280 Tryz.func280 rfl rfl rfl ?_;apply Xa3∘qam∘qac∘qac∘qaa∘Zef∘Vwf;rintro v M U ⟨rfl,rfl⟩;apply (qa4);refine V4 zea ?_;apply qay∘qbe∘qac∘qac;refine q_l rfl (J7f (o:=o) (y:=x) h hx zE (hok2 x)) ?_;apply qbz∘Xbb;refine q_b (clL b8 b5 b3 n o ps u L x) R ?_;exact zRd
def Zmc (n:XNet) (a:XAir) (s:XSetting) (ps:Arr Int) (u:Int) (L:LB) (R:LS) (h:HypsN n a s ps.l u R) (hps:InR (isl ps) R):
 Tri Tryz.prog 240 [n.val,ps.val,.int .i64 u].toArray L R (fun w M U=>∃(z:Int) (ok:Bool),w=.tuple #[.int .i64 z,.bool ok]∧First (Jid a s ps.l u) (ps.l.getD u.toNat 0) true z ok∧L=M∧R=U):=by have hv:=h.v;have hlen:=h.len;have hnp:=h.ok.mine.places;have hget:=Js (l:=ps.l) (k:=u.toNat) 0 zc;have hb:=h.pres.get u.toNat;have hst:=Kdc (s:=s) (start:=ps.l.getD u.toNat 0) h.ok (ps:=ps.l) (v:=u) zc;refine Jd 19 Tryz.call240 Tryz.func240 rfl rfl rfl ?_;apply (Xag);intro b3;refine Kad (v:=Value.int _ _) rfl rfl rfl ?_;intro b5;apply Xb2∘Xd0∘Zde;rintro v M U ⟨o10,rfl,hok10,rfl,rfl⟩;apply (qaq);intro b8;apply qcy∘Xd0∘qac∘J6g∘qa7;refine J0 (K6d rfl) rfl ?_;refine Uag zNc ?_;refine Ju rfl (K2c 280 #[.pointer (some ⟨b8,0,none⟩),.pointer (some ⟨b5,0,none⟩),.pointer (some ⟨b3,0,none⟩)] (clL b8 b5 b3 n o10 ps.l u L) (Jid a s ps.l u) (ps.l.getD u.toNat 0) true (ps.l.getD u.toNat 0) _ hb hst (fun x y hx=>Ytd h hok10 x y hx)) rfl ?_;exact zQe
def Vpc {b8 b5 b3:Nat} {n:XNet} {a:XAir} {s:XSetting} {o:Ow} {ps:List Int} {u:Int} {L:LB} {R:LS} (h:HypsN n a s ps u R) (hok:(⟨o,ps⟩:OwL Int).ok 1 Jj) (x y:Int) (hx:-70368744177664≤x∧x≤70368744177664):
 Tri Tryz.prog 279 [.int .i64 x,.pointer (some ⟨b8,0,none⟩),.pointer (some ⟨b5,0,none⟩),.pointer (some ⟨b3,0,none⟩)].toArray (clL b8 b5 b3 n o ps u L y) R (fun w M U=>w=.bool (Zqa a s ps u x)∧clL b8 b5 b3 n o ps u L x=M∧R=U):=by have hv:=h.v;have hlen:=h.len;have hok2:∀z,(⟨o,ps.set u.toNat z⟩:OwL Int).ok 1 Jj:=fun z=>OwL.len_ok Uw hok zq;have hoky:=hok2 y;have hget:=Js (l:=ps.set u.toNat y) (k:=u.toNat) 0 zH;refine Jd 15 Tryz.call279 Tryz.func279 rfl rfl rfl ?_;apply Xa3∘qam∘qac∘qac∘qaa∘Zef∘Vwf;rintro v M U ⟨rfl,rfl⟩;apply (qa4);refine V4 zea ?_;apply qay∘qbe∘qac∘qac;refine q_l rfl (Uze (o:=o) (y:=x) h hx zE (hok2 x)) ?_;apply qbx∘Xbb;refine q_b (clL b8 b5 b3 n o ps u L x) R ?_;exact zRd
def V4b (n:XNet) (a:XAir) (s:XSetting) (ps:Arr Int) (u:Int) (L:LB) (R:LS) (h:HypsN n a s ps.l u R) (hps:InR (isl ps) R):
 Tri Tryz.prog 239 [n.val,ps.val,.int .i64 u].toArray L R (fun w M U=>∃(z:Int) (ok:Bool),w=.tuple #[.int .i64 z,.bool ok]∧First (Zqa a s ps.l u) (ps.l.getD u.toNat 0) false z ok∧L=M∧R=U):=by have hv:=h.v;have hlen:=h.len;have hnp:=h.ok.mine.places;have hget:=Js (l:=ps.l) (k:=u.toNat) 0 zc;have hb:=h.pres.get u.toNat;have hst:=Yab (s:=s) (start:=ps.l.getD u.toNat 0) h.ok (ps:=ps.l) (v:=u) zc;refine Jd 19 Tryz.call239 Tryz.func239 rfl rfl rfl ?_;apply (Xag);intro b3;refine Kad (v:=Value.int _ _) rfl rfl rfl ?_;intro b5;apply Xb2∘Xd0∘Zde;rintro v M U ⟨o10,rfl,hok10,rfl,rfl⟩;apply (qaq);intro b8;apply qcy∘Xd0∘qac∘J6g∘qa7;refine J0 (K6d rfl) rfl ?_;refine Uag zNc ?_;refine Ju rfl (K2c 279 #[.pointer (some ⟨b8,0,none⟩),.pointer (some ⟨b5,0,none⟩),.pointer (some ⟨b3,0,none⟩)] (clL b8 b5 b3 n o10 ps.l u L) (Zqa a s ps.l u) (ps.l.getD u.toNat 0) false (ps.l.getD u.toNat 0) _ hb hst (fun x y hx=>Vpc h hok10 x y hx)) rfl ?_;exact zQe
end Go.Proofs.YtchfclmokpbldaaGreat
end
section
namespace Go.Proofs.YtchfclmokpbldaaGreat
open Go.Aw Go
set_option maxRecDepth 20000
attribute [local irreducible] CJ LJ DJ Tri YV Gives U7 Kb Kp U8 RV Ke OwL.L
def Y7f (a:XAir) (s:XSetting) (ps:Arr Int) (u:Int) (L:LB) (R:LS) (h:HypsR a s ps.l u R) (hps:InR (isl ps) R):
 Tri Tryz.prog 296 [a.val,s.val,ps.val,.int .i64 u].toArray L R (fun w M U=>∃(z:Int) (ok:Bool),w=.tuple #[.int .i64 z,.bool ok]∧First (Jid a s ps.l u) (ps.l.getD u.toNat 0) true z ok∧L=M∧R=U):=by
 have hv:=h.v;have hlen:=h.len;have hnp:=h.ok.mine.places;obtain ⟨start,hstart⟩:∃start,start=ps.l.getD u.toNat 0:=⟨_,rfl⟩;have hget:ps.l[u.toNat]?=some start:=by rw [hstart];exact Js (l:=ps.l) (k:=u.toNat) 0 zc
 have hb:-70368744177664≤start∧start≤70368744177664:=by rw [hstart];exact h.pres.get u.toNat
 have hst:=Kdc (s:=s) (start:=start) h.ok (ps:=ps.l) (v:=u) zc;have hself:ps.l.set u.toNat start=ps.l:=by rw [hstart];exact Kxa
 have hgs:∀y,(ps.l.set u.toNat y)[u.toNat]?=some y:=fun y=>by rw [yB zc]
 have hsg:∀j:Int,start + sgn true * j=start + j:=fun j=>by simp [sgn]
 have hrm:Job true start=70368744177664 - start:=rfl;rw [← hstart];refine Jd 86 Tryz.call296 Tryz.func296 rfl rfl rfl ?_;apply (Xag);intro b4;apply (qax);intro b5;apply Xb2∘Xd0∘Zde;rintro v M U ⟨o15,rfl,hok15,rfl,rfl⟩;apply (Xd1);have hok2:∀z,(⟨o15,ps.l.set u.toNat z⟩:OwL Int).ok 1 Jj:=fun z=>OwL.len_ok Uw hok15 zq;apply Ynf∘qay∘Xbp∘Xaj;refine q_l rfl (Kud (o:=o15) (y:=start) h hb zE (hok2 start)) ?_;apply (Xdg);refine q_c ?_ ?_<;>intro hc0;·exact zHe
 have hoks:=hok2 start;have hgy:=hgs start;have hf0:Jid a s ps.l u start=false:=decide_eq_false hc0;apply Xdh∘Yje∘Y1e∘qad∘Xdf;refine Vu ([8,9,11,12]++rg 30 24) ((⟨fun q=>[(11,.int .i64 q.1.1)],fun q=>(⟨o15,ps.l.set u.toNat q.1.2.2⟩:OwL Int).L 3 Jj ++ (⟨b5,s.cells,80⟩ :: ⟨b4,a.cells,32⟩ :: L),fun _=>R,fun _=>0⟩:Head {q:Int×Int×Int // (start≤q.1∧q.1≤70368744177664)∧Jid a s ps.l u q.1=false∧(q.1 < q.2.2∧q.2.2≤70368744177664)∧Jid a s ps.l u q.2.2=true})) ?_ ?_;·
  refine Jy ?_;refine Uh ([8,9,11,12]++rg 30 24) zG [(11,.int _ _),(12,.int _ _)] zg fun tq0=>?_;refine q_p ([8,9,11,12]++rg 30 24) ((⟨fun q=>[(11,.int .i64 q.1.1),(12,.int .i64 q.1.2.1)],fun q=>(⟨o15,ps.l.set u.toNat q.1.2.2⟩:OwL Int).L 3 Jj ++ (⟨b5,s.cells,80⟩ :: ⟨b4,a.cells,32⟩ :: L),fun _=>R,fun q=>(70368744177664 - q.1.1).toNat⟩:Head {q:Int×Int×Int // (start≤q.1∧q.1≤70368744177664)∧Jid a s ps.l u q.1=false∧q.2.1=q.1 - start + 1})) (⟨(start,1,start),by dsimp only;omega,hf0,by dsimp only;omega⟩) ?_;rintro ⟨⟨low,step,y⟩,j1,j2,j3⟩ junk;try dsimp only
  dsimp only at j1 j2 j3;have hoky:=hok2 y;have hgy:=hgs y;refine Jy (Ji (Je ?_));apply (qbm);iterate 3 apply (qaa)
  apply (qar);refine J0 (Jub rfl rfl) rfl ?_;apply (Yre);refine V5 (Jp tb ((⟨o15,ps.l.set u.toNat y⟩:OwL Int)) (min (low + step) 70368744177664) rfl rfl rfl rfl zm zi yf zi zj ze ze) ?_;rintro v M U ⟨rfl,rfl⟩;apply (qco);obtain ⟨w,hw⟩:∃w,w=min (low + step) 70368744177664:=⟨_,rfl⟩;have hwb:w≤70368744177664∧low≤w∧(w < 70368744177664→w=low + step):=by omega
  rw [← hw];refine V4 zea ?_;have hokw:=hok2 w;have hgw:=hgs w;apply qay∘Xbp∘Xaj;refine q_l rfl (Kud (o:=o15) (y:=w) h zc zE (hok2 w)) ?_;apply (Xdg);refine q_c ?_ ?_<;>intro hc1;·refine K5 (Kk ?_);refine Uxb rfl ?_;refine K1 (J8 ?_);have hgt:Jid a s ps.l u w=true:=decide_eq_true hc1;exact zZe
  have hgf:Jid a s ps.l u w=false:=decide_eq_false hc1;apply qbo∘Xaj∘Yse∘Vne∘Xa6;refine q_c ?_ ?_<;>intro hc2;·apply Xac∘qaz;refine J6 (Ja (Ud (J1 (Jv (K9 (Jv (Yxa ?_)))))));refine q_r L R zEd ?_;refine ⟨0,false,rfl,⟨(fun h=>by cases h),fun _=>⟨rfl,fun j h1 h2=>?_⟩⟩,rfl,rfl⟩;refine hst.no h1 h2 (yI _) ?_;rw [hsg,hrm,show start + (70368744177664 - start)=w from by omega];exact hgf
  exact zre
 rintro ⟨⟨low,step,y⟩,j1,j2,j3,j4⟩ junk;try dsimp only
 dsimp only at j1 j2 j3 j4;have hoky:=hok2 y;have hgy:=hgs y;apply Xee∘Yre∘Zyf∘qad;refine J6 (Ja (Ji (Jy ?_)));refine Jh [(3,.int _ _),(4,.pointer _),(5,.pointer _),(10,.slice _ _ _),(11,.int _ _),(13,.int _ _)] zg fun tq1=>?_;refine q_p ([11,13]++rg 58 27) ((⟨fun q=>[(11,.int .i64 q.1.1),(13,.int .i64 q.1.2.1)],fun q=>(⟨o15,ps.l.set u.toNat q.1.2.2⟩:OwL Int).L 3 Jj ++ (⟨b5,s.cells,80⟩ :: ⟨b4,a.cells,32⟩ :: L),fun _=>R,fun q=>(q.1.2.1 - q.1.1).toNat⟩:Head {q:Int×Int×Int // (start≤q.1∧q.1 < q.2.1∧q.2.1≤70368744177664)∧Jid a s ps.l u q.1=false∧Jid a s ps.l u q.2.1=true})) (⟨(low,y,y),by dsimp only;omega,j2,j4⟩) ?_;rintro ⟨⟨lo,hi,z⟩,q1,q2,q3⟩ junk;try dsimp only
 dsimp only at q1 q2 q3;have hokz:=hok2 z;have hgz:=hgs z;apply Xap∘Xal∘Xao;refine q_c ?_ ?_<;>intro hc3;·
  obtain ⟨mid,hmid⟩:∃mid,mid=lo + (hi - lo).tdiv 2:=⟨_,rfl⟩;have hmb:lo < mid∧mid < hi:=by rw [yO zc] at hmid;omega
  have hdv:0≤(hi - lo).tdiv 2∧(hi - lo).tdiv 2≤hi - lo:=by rw [yO zc];omega
  refine Jt (Ja (Jy (Ji (Je ?_))));apply (qbm);iterate 4 apply (qaa)
  apply qa9∘qdd∘qar∘Y9f∘Vhf;rintro v M U ⟨rfl,rfl⟩;apply (qa4);rw [← hmid];refine V4 zea ?_;have hokm:=hok2 mid;have hgm:=hgs mid;apply qay∘Xbp∘Xaj;refine q_l rfl (Kud (o:=o15) (y:=mid) h zc zE (hok2 mid)) ?_;apply (Xdg);refine q_c ?_ ?_<;>intro hc4;·apply Xcl∘Zpe∘Zbe∘qad;refine J6 (Jg ?_);exact q_k ⟨(lo,mid,mid),by dsimp only;omega,q2,decide_eq_true hc4⟩
  apply Xcl∘Zpe∘Zbe∘qad;refine J6 (Jg ?_);exact q_k ⟨(mid,hi,mid),by dsimp only;omega,decide_eq_false hc4,q3⟩
 apply Xds∘qad∘Xbb;refine q_r L R zEd ?_;refine ⟨hi,true,rfl,⟨fun _=>⟨hi - start,by omega,by rw [hrm];omega,by rw [hsg];omega,q3,fun j h1 h2=>?_⟩,fun h=>by cases h⟩,rfl,rfl⟩;refine hst.no h1 (show j≤lo - start by omega) (by rw [hrm];omega) ?_;rw [hsg,show start + (lo - start)=lo from by omega];exact q2
def Uwe (a:XAir) (s:XSetting) (ps:Arr Int) (u:Int) (L:LB) (R:LS) (h:HypsR a s ps.l u R) (hps:InR (isl ps) R):
 Tri Tryz.prog 297 [a.val,s.val,ps.val,.int .i64 u].toArray L R (fun w M U=>∃(z:Int) (ok:Bool),w=.tuple #[.int .i64 z,.bool ok]∧First (Zqa a s ps.l u) (ps.l.getD u.toNat 0) false z ok∧L=M∧R=U):=by
 have hv:=h.v;have hlen:=h.len;have hnp:=h.ok.mine.places;obtain ⟨start,hstart⟩:∃start,start=ps.l.getD u.toNat 0:=⟨_,rfl⟩;have hget:ps.l[u.toNat]?=some start:=by rw [hstart];exact Js (l:=ps.l) (k:=u.toNat) 0 zc
 have hb:-70368744177664≤start∧start≤70368744177664:=by rw [hstart];exact h.pres.get u.toNat
 have hst:=Yab (s:=s) (start:=start) h.ok (ps:=ps.l) (v:=u) zc;have hself:ps.l.set u.toNat start=ps.l:=by rw [hstart];exact Kxa
 have hgs:∀y,(ps.l.set u.toNat y)[u.toNat]?=some y:=fun y=>by rw [yB zc]
 have hsg:∀j:Int,start + sgn false * j=start - j:=fun j=>by simp [sgn];omega
 have hrm:Job false start=start + 70368744177664:=rfl;rw [← hstart];refine Jd 86 Tryz.call297 Tryz.func297 rfl rfl rfl ?_;apply (Xag);intro b4;apply (qax);intro b5;apply Xb2∘Xd0∘Zde;rintro v M U ⟨o15,rfl,hok15,rfl,rfl⟩;apply (Xd1);have hok2:∀z,(⟨o15,ps.l.set u.toNat z⟩:OwL Int).ok 1 Jj:=fun z=>OwL.len_ok Uw hok15 zq;apply Ynf∘qay∘Xbp∘Xaj;refine q_l rfl (Vhc (o:=o15) (y:=start) h hb zE (hok2 start)) ?_;apply (Xeq);refine q_c ?_ ?_<;>intro hc0;·exact zHe
 have hoks:=hok2 start;have hgy:=hgs start;have hf0:Zqa a s ps.l u start=false:=decide_eq_false hc0;apply Xdh∘Yje∘Y1e∘qad∘Xdf;refine Vu ([8,9,11,12]++rg 30 24) ((⟨fun q=>[(11,.int .i64 q.1.1)],fun q=>(⟨o15,ps.l.set u.toNat q.1.2.2⟩:OwL Int).L 3 Jj ++ (⟨b5,s.cells,80⟩ :: ⟨b4,a.cells,32⟩ :: L),fun _=>R,fun _=>0⟩:Head {q:Int×Int×Int // (-70368744177664≤q.1∧q.1≤start)∧Zqa a s ps.l u q.1=false∧(-70368744177664≤q.2.2∧q.2.2 < q.1)∧Zqa a s ps.l u q.2.2=true})) ?_ ?_;·
  refine Jy ?_;refine Uh ([8,9,11,12]++rg 30 24) zG [(11,.int _ _),(12,.int _ _)] zg fun tq0=>?_;refine q_p ([8,9,11,12]++rg 30 24) ((⟨fun q=>[(11,.int .i64 q.1.1),(12,.int .i64 q.1.2.1)],fun q=>(⟨o15,ps.l.set u.toNat q.1.2.2⟩:OwL Int).L 3 Jj ++ (⟨b5,s.cells,80⟩ :: ⟨b4,a.cells,32⟩ :: L),fun _=>R,fun q=>(q.1.1 + 70368744177664).toNat⟩:Head {q:Int×Int×Int // (-70368744177664≤q.1∧q.1≤start)∧Zqa a s ps.l u q.1=false∧q.2.1=start - q.1 + 1})) (⟨(start,1,start),by dsimp only;omega,hf0,by dsimp only;omega⟩) ?_;rintro ⟨⟨low,step,y⟩,j1,j2,j3⟩ junk;try dsimp only
  dsimp only at j1 j2 j3;have hoky:=hok2 y;have hgy:=hgs y;refine Jy (Ji (Je ?_));apply (qbm);iterate 3 apply (qaa)
  apply (qa9);refine J0 zsc rfl ?_;apply (Yre);refine V5 (Jp tb ((⟨o15,ps.l.set u.toNat y⟩:OwL Int)) (max (low - step) (-70368744177664)) rfl rfl rfl rfl zm zi yf zi zj ze ze) ?_;rintro v M U ⟨rfl,rfl⟩;apply (qco);obtain ⟨w,hw⟩:∃w,w=max (low - step) (-70368744177664):=⟨_,rfl⟩;have hwb:-70368744177664≤w∧w≤low∧(-70368744177664 < w→w=low - step):=by omega
  rw [← hw];refine V4 zea ?_;have hokw:=hok2 w;have hgw:=hgs w;apply qay∘Xbp∘Xaj;refine q_l rfl (Vhc (o:=o15) (y:=w) h zc zE (hok2 w)) ?_;apply (Xeq);refine q_c ?_ ?_<;>intro hc1;·refine K5 (Kk ?_);refine Uxb rfl ?_;refine K1 (J8 ?_);have hgt:Zqa a s ps.l u w=true:=decide_eq_true hc1;exact zZe
  have hgf:Zqa a s ps.l u w=false:=decide_eq_false hc1;apply qbo∘Xaj∘Yse∘Vne∘Xa6;refine q_c ?_ ?_<;>intro hc2;·apply Xac∘qaz;refine J6 (Ja (Ud (J1 (Jv (K9 (Jv (Yxa ?_)))))));refine q_r L R zEd ?_;refine ⟨0,false,rfl,⟨(fun h=>by cases h),fun _=>⟨rfl,fun j h1 h2=>?_⟩⟩,rfl,rfl⟩;refine hst.no h1 h2 (yI _) ?_;rw [hsg,hrm,show start - (start + 70368744177664)=w from by omega];exact hgf
  exact zre
 rintro ⟨⟨low,step,y⟩,j1,j2,j3,j4⟩ junk;try dsimp only
 dsimp only at j1 j2 j3 j4;have hoky:=hok2 y;have hgy:=hgs y;apply Xee∘Yre∘Zyf∘qad;refine J6 (Ja (Ji (Jy ?_)));refine Jh [(3,.int _ _),(4,.pointer _),(5,.pointer _),(10,.slice _ _ _),(11,.int _ _),(13,.int _ _)] zg fun tq1=>?_;refine q_p ([11,13]++rg 58 27) ((⟨fun q=>[(11,.int .i64 q.1.1),(13,.int .i64 q.1.2.1)],fun q=>(⟨o15,ps.l.set u.toNat q.1.2.2⟩:OwL Int).L 3 Jj ++ (⟨b5,s.cells,80⟩ :: ⟨b4,a.cells,32⟩ :: L),fun _=>R,fun q=>(q.1.1 - q.1.2.1).toNat⟩:Head {q:Int×Int×Int // (-70368744177664≤q.2.1∧q.2.1 < q.1∧q.1≤start)∧Zqa a s ps.l u q.1=false∧Zqa a s ps.l u q.2.1=true})) (⟨(low,y,y),by dsimp only;omega,j2,j4⟩) ?_;rintro ⟨⟨hi,lo,z⟩,q1,q2,q3⟩ junk;try dsimp only
 dsimp only at q1 q2 q3;have hokz:=hok2 z;have hgz:=hgs z;apply Xap∘Xal∘Xao;refine q_c ?_ ?_<;>intro hc3;·
  obtain ⟨mid,hmid⟩:∃mid,mid=lo + (hi - lo).tdiv 2:=⟨_,rfl⟩;have hmb:lo < mid∧mid < hi:=by rw [yO zc] at hmid;omega
  have hdv:0≤(hi - lo).tdiv 2∧(hi - lo).tdiv 2≤hi - lo:=by rw [yO zc];omega
  refine Jt (Ja (Jy (Ji (Je ?_))));apply (qbm);iterate 4 apply (qaa)
  apply qa9∘qdd∘qar∘Y9f∘Vhf;rintro v M U ⟨rfl,rfl⟩;apply (qa4);rw [← hmid];refine V4 zea ?_;have hokm:=hok2 mid;have hgm:=hgs mid;apply qay∘Xbp∘Xaj;refine q_l rfl (Vhc (o:=o15) (y:=mid) h zc zE (hok2 mid)) ?_;apply (Xeq);refine q_c ?_ ?_<;>intro hc4;·apply Xcl∘Zpe∘Zbe∘qad;refine J6 (Jg ?_);exact q_k ⟨(hi,mid,mid),by dsimp only;omega,q2,decide_eq_true hc4⟩
  apply Xcl∘Zpe∘Zbe∘qad;refine J6 (Jg ?_);exact q_k ⟨(mid,lo,mid),by dsimp only;omega,decide_eq_false hc4,q3⟩
 apply Xds∘qad∘Xbb;refine q_r L R zEd ?_;refine ⟨lo,true,rfl,⟨fun _=>⟨start - lo,by omega,by rw [hrm];omega,by rw [hsg];omega,q3,fun j h1 h2=>?_⟩,fun h=>by cases h⟩,rfl,rfl⟩;refine hst.no h1 (show j≤start - hi by omega) (by rw [hrm];omega) ?_;rw [hsg,show start - (start - hi)=hi from by omega];exact q2
end Go.Proofs.YtchfclmokpbldaaGreat
end
section
namespace Go.Proofs.YtchfclmokpbldaaGreat
open Go.Aw Go
set_option maxRecDepth 20000
attribute [local irreducible] CJ LJ DJ Tri YV Gives U7 Kb Kp U8 RV Ke OwL.L
def Kqa {ps:List Int} (h:ps.findSome? Um=none):PresOk ps:=fun p hp=>by
 obtain ⟨i,hi⟩:=List.mem_iff_getElem?.1 hp
 exact Z6c h i p hi
def Jbb {ps:List Int} (h:PresOk ps):ps.findSome? Um=none:=List.findSome?_eq_none_iff.2 fun p hp=>by
 have:=h p hp
 exact if_neg zc
section
variable {a:XAir} {s:XSetting} {ps:Arr Int} {v:Int}
end
end Go.Proofs.YtchfclmokpbldaaGreat
end
section
namespace Go.Proofs.YtchfclmokpbldaaGreat
open Go.Aw Go
end Go.Proofs.YtchfclmokpbldaaGreat
end
