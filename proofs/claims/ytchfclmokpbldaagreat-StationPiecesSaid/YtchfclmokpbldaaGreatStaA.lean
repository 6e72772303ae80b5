/-
  Merged texts. By an AI agent.
-/
import Derived.Test.YtchfclmokpbldaaGreatDrawC
import Derived.Test.YtchfclmokpbldaaGreatFits
import Derived.Test.YtchfclmokpbldaaGreatAppR
set_option linter.all false
set_option maxHeartbeats 4000000
set_option maxRecDepth 20000
namespace Go.Proofs.YtchfclmokpbldaaGreat
open Go.Aw Go
section
def Ygd {P : Program} {ρ : Operand → Value} {L : LB} {R : LS} {dst : Option Tmp} {ty : TypeId} {pos : String} {after : Array Edge} {guard : Option (Nat × Bool)} (tb : Tabs P) {T : TypeId} {x y : Operand} {k : IntKind} {len cap m : Nat} {h : Int} {ar : Option Addr} {e n1 fl bt z k2 n2 fl2 bt2 z2}
 (hT:V2 tb.tab T=some ⟨.slice e,n1,fl,bt,z⟩) (hE:V2 tb.tab e=some ⟨k2,n2,fl2,bt2,z2⟩) (hx:ρ x=.slice ar len cap) (hy:ρ y=.int k h) (hh:h=(m:Int)) (h1:1≤m) (hn:m≤len):
 YV P ⟨dst,.slice T x (some y) none none,ty,pos,after,guard⟩ ρ L R (.slice (if cap=m then ar else ar.map (·.add (m * n2))) (len - m) (cap - m)):=fun _ w _=>by
 have hu:=U4 (tb.ok _ _ hT) rfl
 have he:P.elem T=e:=by simp [Program.elem,hu]
 have hu':P.underlying T=some (.slice (P.elem T)):=by rw [he];exact hu
 have hs:=Go.Aw.run_sizeOf (tb.ok _ _ hE) w
 simp only at hs
 subst hh
 have h1:=run_slice_l (P:=P) w T ar len cap hu' k (m:Int) za za
 rw [he,hs,yA,yB] at h1
 simp [execOp,hx,hy,run_sliceAt_slice w T _ _ _ _ hu',h1,sliced]
def Ywc {w:World} {G:Nat→Prop} {wd len cap m:Nat} {a:Option Addr} {rows:List (List Value)} {subs:LS} (h:Rep w G (.mk wd a len cap rows subs)) (h1:1≤m) (hk:m≤len) (hp:0 < wd):Rep w G (.mk wd (if cap=m then a else a.map (·.add (m * wd))) (len - m) (cap - m) (rows.drop m) subs):=by
 cases h with
 | mk hl hc hm hw hr hs=>
  refine .mk zC za za (fun r hr=>hw r (yqa hr)) ?_ hs;rcases yl m len with h2 | h2;·
   rcases hr with h0 | ⟨b, off, ha, hg, Jfb⟩;·exact .inl (by rw [h0];simp)
   ·have hmw : 0 < m * wd := Nat.mul_pos h1 hp;refine .inr ⟨b,off + m * wd,by rw [if_neg za,ha,yNa,Addr.add,if_neg za],hg,fun i j hi hj=>?_⟩;have:=Jfb (i + m) j za hj;(have e:off + m * wd + i * wd + j=off + (i + m) * wd + j:=by rw [yDb];omega);rw [List.getElem?_drop,Nat.add_comm m i,← this,e]
  ·exact .inl (yeb za)
abbrev Yw {α:Type} (y:Arr α) (m wd:Nat):Arr α:=⟨if y.cap=m then y.a else y.a.map (·.add (m * wd)),y.cap - m,y.l.drop m⟩
abbrev Jsa {α:Type} (y:Arr α) (m:Nat):Arr α:=⟨y.a,y.cap,y.l.take m⟩
def Yia {α:Type} {P n code t L R} {Q:Kt} {wd m:Nat} {f:α→List Value} {subs:LS} {y:Arr α} (hR:InR (y.sl wd f subs) R) (h1:1≤m) (hk:m≤y.l.length) (hp:0 < wd) (h:CJ P n code t L ((Yw y m wd).sl wd f subs :: R) Q):CJ P n code t L R Q:=by
 refine Znc (s:=(Yw y m wd).sl wd f subs) (fun w G hh=>?_) h;obtain ⟨r,hr,hs⟩:=hR;have h2:=Ywc ((hh r hr).sub hs) h1 hk hp;have e1:y.l.length - m=(y.l.drop m).length:=by rw [yca]
 have e2:(y.l.map f).drop m=(y.l.drop m).map f:=by rw [List.map_drop]
 rw [e1,e2] at h2;exact h2
section
variable {P:Program} {ρ:Operand→Value} {L:LB} {R:LS} {dst:Option Tmp} {ty:TypeId} {pos:String} {after:Array Edge} {guard:Option (Nat×Bool)} (tb:Tabs P) {T:TypeId} {x y:Operand}
def Y5d {α:Type} {f:α→List Value} {xs:Arr α} {n2:Nat} {subs:LS} (hR:InR (xs.sl n2 f subs) R) (h0:0 < n2) (hx0:0 < xs.l.length) {c:Ctx} {w:World} (hst:St c L R w):V6c L R xs.val xs.l.length n2 (xs.l.flatMap f):=by
 obtain ⟨ar,cap,l⟩:=xs;dsimp only at hR hx0 ⊢;have hw:∀r∈l.map f,r.length=n2:=by
  have hst':=hst;obtain ⟨⟨G,hh,_⟩,_,_⟩:=hst';obtain ⟨r,hr,hsub⟩:=hR;have hrep:=(hh.rep r hr).sub hsub;cases hrep with
  | mk _ _ _ hw _ _=>exact hw
 have hf0:(l.map f).flatten=l.flatMap f:=Z2a _;have hfl:(l.map f).flatten.length=l.length * n2:=by rw [Uhd hw,yC]
 have hsx:=Ubd (L:=L) hR h0 (fun c w hst=>by
  obtain ⟨⟨G,hh,_⟩,_,_⟩:=hst;obtain ⟨r,hr,hsub⟩:=hR;have hrep:=(hh.rep r hr).sub hsub;cases hrep with
  | mk _ _ _ _ hm _=>
   rcases hm with h | ⟨b,off,ha,_⟩;·have h' := congrArg List.length h;simp at h';rw [h'] at hx0;simp at hx0
   ·exact ⟨b,off,ha⟩) hfl ⟨c,w,hst⟩
 rw [hf0] at hsx;exact hsx
def Z0 {α : Type} {e n fl bt z k2 n2 fl2 bt2 z2} {f : α → List Value} (p : OwL α) (xs : Arr α) {subs : LS} {F : OwL α → LB} (hT : V2 tb.tab T = some ⟨.slice e, n, fl, bt, z⟩) (hE : V2 tb.tab e = some ⟨k2, n2, fl2, bt2, z2⟩) (hn2 : z2.length = n2) (h0 : 0 < n2)
 (hx:ρ x=p.val) (hy:ρ y=xs.val) (hok:p.ok n2 f) (hR:InR (xs.sl n2 f subs) R) (hseg:OSeg e f p L F) (h1:∀x,(f x).all (·.oneCell')=true) (hby:(p.l.length + xs.l.length) * (bt2 + 1)≤140737488355328):
 Gives P ⟨dst,.call ⟨.builtin .append,#[x,y],#[T,T]⟩,ty,pos,after,guard⟩ ρ L R (fun v M U=>∃o:Ow,v=(⟨o,p.l ++ xs.l⟩:OwL α).val∧(⟨o,p.l ++ xs.l⟩:OwL α).ok n2 f∧F ⟨o,p.l ++ xs.l⟩=M∧R=U):=by
 obtain ⟨A,B,hL,hF⟩:=hseg.split;intro c w hst ac next Q kk
 have hb1:(p.l.length + xs.l.length) * bt2≤140737488355328:=yua (yub _ (Nat.le_succ _)) hby;have hb2:p.l.length + xs.l.length≤140737488355328:=yua (yZa _ (yjc _)) hby;have hx':ρ x=p.o.val p.l.length:=by rw [hx,Ow.val_of_ok hok];rfl
 rcases yyb xs.l.length with hz | hz;·
  have hnil : xs.l = [] := yea hz;have hy':ρ y=.slice xs.a 0 xs.cap:=by rw [hy,Arr.val,hz]
  have hsame:F p=L:=by rw [hF,hL]
  cases ho:p.o with
  | nil=>
   have hu:=U4 (tb.ok _ _ hT) rfl;obtain ⟨ti,u,zv,i1,i2,i3,i4⟩:=Uq (tb.ok _ _ hE);(have e1:execOp ρ ⟨dst,.call ⟨.builtin .append,#[x,y],#[T,T]⟩,ty,pos,after,guard⟩=(do pure (.value (← Builtin.append_ #[T,T] ty #[ρ x,ρ y]))):=by exact ua9);have hr:=Yda w T ty e ti hu i1 xs.a xs.cap;(have hpl:p.l=[]:=by have hok':=hok;rw [OwL.ok,ho] at hok';exact yea hok'.1);(have hxn:ρ x=.slice none 0 0:=by rw [hx,OwL.val,ho,hpl];rfl);refine Vt (w':=w) (v:=.slice none 0 0) ?_ (kk _ _ _ w ⟨.nil,by rw [hnil,hpl];rfl,by rw [hnil,hpl];exact ⟨rfl,rfl⟩,?_,rfl⟩ hst);·rw [e1, hxn, hy'];simp only [yY,hr,yA,yva]
   ·rw [← hsame,hnil,yfa,← ho]
  | own g cap spare=>(have hcap:p.l.length≤cap:=by have hok':=hok;rw [OwL.ok,ho] at hok';exact hok'.2.1);(have hxo:ρ x=.slice (some ⟨g,0,none⟩) p.l.length cap:=by rw [hx,OwL.val,ho];rfl);(refine Ksc (L:=L) (R:=R) (dst:=dst) (ty:=ty) (pos:=pos) (after:=after) (guard:=guard) tb hT hE hxo hy' hcap c w hst ac next Q ?_);rintro v M U w' ⟨rfl,rfl,rfl⟩ hst';rw [hnil,yfa] at kk;exact kk _ _ _ w' ⟨p.o,by rw [OwL.val,ho];rfl,hok,hsame,rfl⟩ hst'
 ·
  have hsh := Y5d (L := L) hR h0 hz hst;rw [← hy] at hsh;subst hL;refine Kya (dst:=dst) (ty:=ty) (pos:=pos) (after:=after) (guard:=guard) tb hT hE hn2 hx' hok (Jgd A _ B) hsh hz (Uec h1 _) za hb1 c w hst ac next Q ?_
  rintro v M U w' ⟨g,cap,spare,rfl,hok',rfl,rfl⟩ hst';have e:p.l.flatMap f ++ xs.l.flatMap f=(p.l ++ xs.l).flatMap f:=by simp
  rw [e] at hok';have hl:(p.l ++ xs.l).length=p.l.length + xs.l.length:=by simp
  exact uao
end
end
section
section
variable {P:Program} {ρ:Operand→Value} {L:LB} {R:LS} {dst:Option Tmp} {ty:TypeId} {pos:String} {after:Array Edge} {guard:Option (Nat×Bool)} (tb:Tabs P) {T:TypeId} {x y z:Operand}
def Jxb {α:Type} {u:Arr α} {m wd:Nat} {h:Int} {k:IntKind} {e n1 fl bt z k2 n2 fl2 bt2 z2} (hT:V2 tb.tab T=some ⟨.slice e,n1,fl,bt,z⟩) (hE:V2 tb.tab e=some ⟨k2,n2,fl2,bt2,z2⟩) (hx:ρ x=u.val) (hy:ρ y=.int k h) (hh:h=(m:Int)) (h1:1≤m) (hn:m≤u.l.length) (hw:n2=wd):
 YV P ⟨dst,.slice T x (some y) none none,ty,pos,after,guard⟩ ρ L R (Yw u m wd).val:=by have h2:=Ygd (ρ:=ρ) (L:=L) (R:=R) (dst:=dst) (ty:=ty) (pos:=pos) (after:=after) (guard:=guard) tb hT hE hx hy hh h1 hn;subst hw;rw [Arr.val,yca];exact h2
def Zyd {α:Type} {u:Arr α} {m q wd:Nat} {h l:Int} {k k3:IntKind} {e n1 fl bt zz k2 n2 fl2 bt2 z2} (hT:V2 tb.tab T=some ⟨.slice e,n1,fl,bt,zz⟩) (hE:V2 tb.tab e=some ⟨k2,n2,fl2,bt2,z2⟩) (hx:ρ x=u.val) (hy:ρ y=.int k l) (hz:ρ z=.int k3 h) (hl:l=(m:Int)) (hh:h=(m:Int) + (q:Int)) (h1:1≤m) (hn:m + q≤u.l.length) (hc:u.l.length≤u.cap) (hw:n2=wd):
 YV P ⟨dst,.slice T x (some y) (some z) none,ty,pos,after,guard⟩ ρ L R (Jsa (Yw u m wd) q).val:=fun _ w _=>by
 subst hw
 subst hl
 have hu:=U4 (tb.ok _ _ hT) rfl
 have he:P.elem T=e:=by simp [Program.elem,hu]
 have hu':P.underlying T=some (.slice (P.elem T)):=by rw [he];exact hu
 have hs:=Go.Aw.run_sizeOf (tb.ok _ _ hE) w
 simp only at hs
 have h3:=run_slice_lh (P:=P) w T u.a u.l.length u.cap hu' k k3 (m:Int) h za za za
 have e1:h.toNat - m=q:=by omega
 have e2:((u.l.drop m).take q).length=q:=by rw [yya,yca];omega
 rw [he,hs,yA,yB] at h3
 rw [Arr.val,Jsa,Yw,e2]
 simp [execOp,hx,hy,hz,run_sliceAt_slice w T _ _ _ _ hu',h3,sliced,e1]
end
def Zke {α:Type} {P n code t L R} {Q:Kt} {wd:Nat} {f:α→List Value} {subs:LS} {y:Arr α} (hR:InR (y.sl wd f subs) R) (h:y.l.length≤y.cap→CJ P n code t L R Q):CJ P n code t L R Q:=fun c a w hf hs=>by
 have hcap:y.l.length≤y.cap:=by
  have hst':=hs
  obtain ⟨⟨G,hh,_⟩,_,_⟩:=hst'
  obtain ⟨r,hr,hsub⟩:=hR
  have hrep:=(hh.rep r hr).sub hsub
  cases hrep with
  | mk _ hc _ _ _ _=>exact hc
 exact h hcap c a w hf hs
def Kwe {α:Type} {P n code t L R} {Q:Kt} {wd m:Nat} {f:α→List Value} {subs:LS} {y:Arr α} (q:Nat) (hR:InR (y.sl wd f subs) R) (h1:1≤m) (hk:m≤y.l.length) (hp:0 < wd) (h:CJ P n code t L ((Jsa (Yw y m wd) q).sl wd f subs :: R) Q):CJ P n code t L R Q:=by
 refine Yia hR h1 hk hp ?_;refine U6a q zCb ?_;exact Y3 ye (fun r hr=>by
  rcases List.mem_cons.1 hr with h | h;·exact Ja (by rw [h];exact .head _)
  ·exact Ja (.tail _ (.tail _ h))) h
end
section
section
variable {A B:Prop}
def Zzf(h:A→B:=by exact K3 zjb rfl rfl rfl):=h
end
def Tri.pperm {P:Program} {f:FuncId} {args:Array Value} {L:LB} {R:LS} {Post Post':Yo} (h:Tri P f args L R Post) (k:∀v M U,Post v M U→∃L'',M.Perm L''∧Post' v L'' U):Tri P f args L R Post':=
 ⟨h.1,fun w G hh=>(h.2 w G hh).mono fun _ _ ⟨v,M,U,e,p,s⟩=>let ⟨L'',hp,p'⟩:=k v M U p;⟨v,L'',U,e,p',s.perm hp⟩⟩
attribute [local irreducible] CJ LJ DJ Tri YV Gives Uo J0 Kj Un RV J2 OwL.L
def Yla (x:XSta) (pl:OwL XEntry) (b:Nat) (k z u:Int) (L:LB) (R:LS) (hk:pl.ok 4 XEntry.cells) (hn:pl.l.length≤400):
 Tri Tryz.prog 85 [.pointer (some ⟨b, 0, none⟩), .int .i64 k, .int .i64 z, .int .i64 u].toArray (⟨b, ({x with log := pl.arr} : XSta).cells, 54⟩ :: (pl.L 150 XEntry.cells ++ L)) R
  (fun v M U=>∃q:OwL XEntry,q.ok 4 XEntry.cells∧q.l=Z4a pl.l ⟨x.time,k,z,u⟩∧⟨b,({x with log:=q.arr}:XSta).cells,54⟩ :: (q.L 150 XEntry.cells ++ L)=M∧R=U):=by
 refine Tri.pperm (Post:=fun v M U=>∃q:OwL XEntry,q.ok 4 XEntry.cells∧q.l=Z4a pl.l ⟨x.time,k,z,u⟩∧(⟨b,({x with log:=q.arr}:XSta).cells,54⟩ :: (q.L 150 XEntry.cells ++ L)=M∨q.L 150 XEntry.cells ++ (⟨b,({x with log:=q.arr}:XSta).cells,54⟩ :: L)=M)∧R=U) ?_ (fun v M U ⟨q,h1,h2,h3,h4⟩=>⟨_,by
  rcases h3 with rfl | rfl;·exact yTa _
  ·exact ybb,q,h1,h2,rfl,h4⟩)
 refine Je 44 Tryz.call85 Tryz.func85 rfl rfl rfl ?_;refine Jl ?_;refine J6 tb [9] [0,1,2,3,4,5,6,7,8,9,10,11,12,13] [14,15,16,17] (_) _ Kr zc zi yd ?_;refine Vy (Jz zBb) rfl rfl rfl rfl ?_;apply (qb3);refine Kn zJb rfl rfl rfl rfl ?_;apply (Xb8);refine Kn zJb rfl rfl rfl rfl ?_;apply (Xaf);iterate 3 apply (qbf)
 refine Kn (J4 (qs:=[(0,(Value.int _ _).cells.toList),(1,(Value.int _ _).cells.toList),(2,(Value.int _ _).cells.toList),(3,(Value.int _ _).cells.toList)]) (out:=[_,_,_,_]) tb rfl rfl rfl rfl) rfl rfl rfl rfl ?_;refine J1b zpb rfl rfl rfl ?_;rintro v M U ⟨b22,rfl,rfl,hR22⟩;replace hR22:=hR22.symm;subst hR22;apply (Xbs);refine Yqa (Jr (f:=XEntry.cells) (p:=pl) (a:=⟨x.time,k,z,u⟩) tb rfl rfl rfl rfl (hk) zj zob rfl zA) rfl rfl rfl ?_;rintro v M U ⟨o23,rfl,hok23,rfl,rfl⟩;apply qa1∘qcb∘Xbq∘qb9;have hql:(⟨o23,pl.l ++ [⟨x.time,k,z,u⟩]⟩:OwL XEntry).l.length=pl.l.length + 1:=by simp
 have hqe:(pl.l ++ [(⟨x.time,k,z,u⟩:XEntry)]).length=pl.l.length + 1:=by simp
 apply (Xch);refine Jx zJb rfl ?_;apply Xab∘qa9∘Xau∘Xb1;refine q_c ?_ ?_<;>intro hc0;·
  obtain ⟨p1,hp1⟩:∃p1:OwL XEntry,p1=⟨o23,pl.l ++ [⟨x.time,k,z,u⟩]⟩:=⟨_,rfl⟩;have hpl2:(pl.l ++ [(⟨x.time,k,z,u⟩:XEntry)]).length=p1.l.length:=by rw [hp1]
  rw [← hp1] at hok23 hql ⊢;refine Ks (T:=150) (f:=XEntry.cells) (wd:=4) p1 [] zj yf ze hok23 yg ?_;refine V0 zy ?_;refine Yia (y:=p1.arr) (m:=p1.l.length - 400) zCb za (by show p1.l.length - 400≤p1.l.length;omega) ze ?_;have hdn:(Yw p1.arr (p1.l.length - 400) 4).l.length≤1000:=by show (p1.l.drop _).length≤_;rw [yca];omega
  apply Xch∘qa6;refine Jx zJb rfl ?_;apply (Xaj);refine Jx (Jxb (m:=p1.l.length - 400) (wd:=4) (u:=p1.arr) tb rfl rfl rfl rfl za za (by show p1.l.length - 400≤p1.l.length;omega) rfl) rfl ?_;refine Yl (Ky (f:=XEntry.cells) (xs:=Yw p1.arr (p1.l.length - 400) 4) tb rfl rfl rfl ze rfl rfl ((Ja (.head _))) yf za) rfl ?_;rintro v M U ⟨o41,rfl,hok41,rfl,rfl⟩;refine Jx zJb rfl ?_;apply Xa9∘qav;refine Jda (M:=(⟨o41,p1.l.drop (p1.l.length - 400)⟩:OwL XEntry).L 150 XEntry.cells ++ (⟨b,({x with log:=(⟨o41,p1.l.drop (p1.l.length - 400)⟩:OwL XEntry).arr}:XSta).cells,54⟩ :: L)) (U:=R) (Udf rfl) ?hp ?hL ?hR;case hp=>exact ⟨⟨o41,p1.l.drop (p1.l.length - 400)⟩,hok41,by show p1.l.drop _=_;rw [Z4a,hql,hp1],.inr rfl,rfl⟩
  case hL=>exact zi
  case hR=>exact fun r hr=>Ja (.tail _ (.tail _ hr))
 refine J1 ?_;refine Jda (M:=⟨b,({x with log:=(⟨o23,pl.l ++ [⟨x.time,k,z,u⟩]⟩:OwL XEntry).arr}:XSta).cells,54⟩ :: ((⟨o23,pl.l ++ [⟨x.time,k,z,u⟩]⟩:OwL XEntry).L 150 XEntry.cells ++ L)) (U:=R) (Udf rfl) ?hp ?hL ?hR;case hp=>exact ⟨⟨o23,pl.l ++ [⟨x.time,k,z,u⟩]⟩,hok23,by rw [Z4a,show pl.l.length + 1 - 400=0 by omega,ypb],.inl rfl,rfl⟩
 case hL=>exact zi
 case hR=>exact Jc _
def StaIs.note {g:PSite} {p:PSta} {x:XSta} (h:StaIs g p x) {l:Arr XEntry} {k z u:Int} (hl:l.l=Z4a x.log.l ⟨x.time,k,z,u⟩):StaIs g (Jua p k z u) ({x with log:=l}:XSta):={ h with log:=by rw [Jua,← h.log,← h.time];exact hl }
def Yib (x:XSta) (t:Int) (L:LB) (R:LS):
 Tri Tryz.prog 81 [x.val,.int .i64 t].toArray L R (fun v M U=>v=.bool (decide (t < x.time∨2147483648 < t))∧L=M∧R=U):=by
 refine Je 13 Tryz.call81 Tryz.func81 rfl rfl rfl ?_;apply (Xag);intro b2;apply qaz∘Xci∘Xbn;apply Kf (G:=[_,_]) (j:=4) (cj:=9) rfl rfl zb rfl zfb rfl;·intro hg5;replace hg5:=qb hg5;exact (Xca) qai
 intro junk5;apply (Xbl);refine q_b L R ?_;exact ya
def Kne (x:XSwitch):Bool:=!x.closed || decide (x.shown= -1)
def Yob {l:List Int} {f:Int→Bool} (h:∀j:Nat,j < l.length→f (l.getD j 0)=false):l.any f=false:=by rw [List.any_eq_false];intro y hy;obtain ⟨j,hj,rfl⟩:=yvb hy;have:=h j hj;rw [yh,yH hj] at this;rw [show (some l[j]).getD 0=l[j] from rfl] at this;rw [this];decide
def Ybe (f:XFeeder) (z:Int) (L:LB) (R:LS) (hf:FeederR f R) (hfe:feedE f.switches.l f.zones.l f.reply=0) (hz:0≤z∧z < f.zones.l.length):
 Tri Tryz.prog 159 [f.val,.int .i64 z].toArray L R (fun v M U=>v=.bool ((J5b f.switches.l f.zones.l f.reply (f.zones.l.getD z.toNat 0)).any fun k=>Kne (f.switches.l.getD k.toNat default))∧L=M∧R=U):=by
 have hsR:=hf.sw;have hzR:=hf.zn;have hzg:=Ju (l:=f.zones.l) (k:=z.toNat) 0 za;refine Je 34 Tryz.call159 Tryz.func159 rfl rfl rfl ?_;apply (Xag);intro b2;apply qaz∘qco;refine Kk tb [0,1,2,3,4,5,8,6,7] _ Kr zc ye ?_;apply Zzf∘Xbx;refine K3 zIa rfl rfl rfl ?_;apply qbl∘qao;refine Yp rfl (Uie f (f.zones.l.getD z.toNat 0) _ _ hf) rfl rfl ?_;rintro v M U ⟨q,rfl,hqk,hql,rfl,rfl⟩;refine ⟨zi,zq,?_⟩;refine K3 zzb rfl rfl rfl ?_;refine J3 (Jb (Kb ?_));refine Jk [(2,.pointer _),(14,.slice _ _ _),(15,.int _ _),(16,.int _ _)] zh fun tq0=>?_;have hqm:∀y∈q.l,0≤y∧y < f.switches.l.length:=fun y hy=>by have:=Kce (sw:=f.switches.l) (zn:=f.zones.l) (rp:=f.reply) (s:=f.zones.l.getD z.toNat 0) (x:=y) (by rw [← hql];exact hy);omega
 refine Ks (T:=3) (f:=Ji) (wd:=1) q [] zj yf ze hqk yg ?_;refine V0 zy ?_;have hqR:InR (isl q.arr) (isl q.arr :: R):=Ja (.head _);have hqn:q.l.length≤32:=by rw [hql];exact Jae
 have hsR2:=hsR.mono fun r hr=>Ja (R:=isl q.arr :: R) (.tail _ hr);refine q_s ([4,6,7]++rg 16 18) (fun g:{k:Nat // k≤q.l.length∧∀j:Nat,j < k→Kne (f.switches.l.getD (q.l.getD j 0).toNat default)=false}=>[(16,.int .i64 ((g.1:Nat):Int))]) (fun g=>q.l.length - g.1) (⟨0,by omega,fun j hj=>by omega⟩) ?_;rintro ⟨k,hk,hal⟩ junk;try dsimp only
 apply (Xan);refine q_c ?_ ?_<;>intro hc0;·
  have hqg:=Ju (l:=q.l) (k:=k) 0 za;have hqr:=hqm _ (yi hqg);have hsg:=Ju (l:=f.switches.l) (k:=(q.l.getD k 0).toNat) default za;apply (qbb);refine Jx zD rfl ?_;apply qa7∘Xah∘Xaj;refine Jx (by first | exact Jh tb rfl rfl rfl rfl zx (i:=(q.l.getD k 0).toNat) zk za | exact Jn tb rfl rfl rfl rfl (i:=(q.l.getD k 0).toNat) zk za) rfl ?_;apply qdw∘qaq;intro b7;apply Xb2∘Xcv;apply Kf (G:=[_,_,_]) (j:=3) (cj:=28) rfl rfl zb rfl zfb rfl;·exact zpd
  intro junk4;apply (qaf);refine q_c ?_ ?_<;>intro hc1;·
   apply Xbm∘qbt;refine K0 (M:=L) (U:=R) (U8 rfl zNc) ?hp ?hL ?hR;case hp=>exact ⟨by rw [← hql,List.any_eq_true.2 ⟨_,yi hqg,by rw [Kne];simpa using hc1⟩],rfl,rfl⟩
   case hL=>exact zi
   case hR=>exact fun r hr=>Ja (.tail _ hr)
  apply (Xa3);exact Kq ⟨k + 1,by omega,fun j hj=>by
  rcases yl j k with h | h;·exact hal j h
  ·(obtain rfl : j = k := by omega);rw [Kne];simpa using hc1⟩ zm zh zi zxb zw
 apply qbk∘Xbl;refine K0 (M:=L) (U:=R) (U8 rfl zNc) ?hp ?hL ?hR;case hp=>exact ⟨by rw [← hql,Yob fun j hj=>hal j za],rfl,rfl⟩
 case hL=>exact zi
 case hR=>exact fun r hr=>Ja (.tail _ hr)
def Kse (g:PSite) (p:PSta) (x:XSta) (pc:OwL XCut) (pl:OwL XEntry) (b:Nat) (z:Int) (L:LB) (R:LS) (hI:Inv g p) (hx:StaIs g p ({x with cuts:=pc.arr,log:=pl.arr}:XSta)) (hf:FeederR x.feeder R) (hck:pc.ok 3 XCut.cells) (hlk:pl.ok 4 XEntry.cells) (hz:0≤z∧z < p.cuts.length):
 Tri Tryz.prog 156 [.pointer (some ⟨b, 0, none⟩), .int .i64 z].toArray (⟨b, ({x with cuts := pc.arr, log := pl.arr} : XSta).cells, 54⟩ :: (pl.L 150 XEntry.cells ++ (pc.L 71 XCut.cells ++ L))) R
  (fun v M U=>∃(f:XFeeder) (q:OwL XEntry) (S:LS),q.ok 4 XEntry.cells∧StaIs g (Ydc g p z) ({x with cuts:=pc.arr,feeder:=f,log:=q.arr}:XSta)∧FeederR f (S ++ R)∧⟨b,({x with cuts:=pc.arr,feeder:=f,log:=q.arr}:XSta).cells,54⟩ :: (q.L 150 XEntry.cells ++ (pc.L 71 XCut.cells ++ L))=M∧S ++ R=U):=by
 have hcl:pc.l=p.cuts:=hx.cuts;have hll:pl.l=p.log:=hx.log;have hln:=hI.log;have hzn:x.feeder.zones.l=g.zn:=hx.zn;have hsw:x.feeder.switches.l=p.sw:=hx.sw;have hrp:x.feeder.reply=g.rp:=hx.rp;have htm:x.time=p.time:=hx.time;have hzl:=hI.zlen;have hcl2:=hI.clen;have hfo:=hI.fok;have hcb:z.toNat < pc.l.length:=by rw [hcl];omega
 have hzb:z.toNat < x.feeder.zones.l.length:=by rw [hzn];omega
 have hcg:=Ju (l:=pc.l) (k:=z.toNat) default hcb;have hzg:=Ju (l:=x.feeder.zones.l) (k:=z.toNat) 0 hzb;have hzr:=hfo.zr z.toNat za;rw [← hzn,← hsw] at hzr;obtain ⟨s,hs⟩:∃s,s=x.feeder.zones.l.getD z.toNat 0:=⟨_,rfl⟩;rw [← hs] at hzg hzr;have hsg:=Ju (l:=x.feeder.switches.l) (k:=s.toNat) default za;obtain ⟨y,hy⟩:∃y,y=x.feeder.switches.l.getD s.toNat default:=⟨_,rfl⟩;rw [← hy] at hsg;obtain ⟨c,hc⟩:∃c,c=pc.l.getD z.toNat default:=⟨_,rfl⟩;rw [← hc] at hcg;have hcan:Jvd x.feeder.switches.l x.feeder.zones.l x.feeder.reply s x.time=0:=by rw [hzn,hsw,hrp,htm,Jvd,if_neg (by rw [hI.fe];decide),if_neg (by rw [hsw] at hzr;omega),if_pos hI.tok]
 have hsR:=hf.sw;have hzR:=hf.zn;dsimp only [XSta.cells];refine Je 59 Tryz.call156 Tryz.func156 rfl rfl rfl ?_;apply qae∘Xby∘qa6;refine Jx zJb rfl ?_;apply (Xaj);refine Jx (Jv tb (pc) _ rfl rfl rfl rfl zg (i:=z.toNat) zk zu) rfl ?_;apply (qb0);refine Jx (Kd tb (pc) rfl rfl rfl zj zg yf zg zb) rfl ?_;refine Jq rfl (Yla {x with cuts:=pc.arr} pl b 1 z c.reason _ _ hlk (by rw [hll];exact hln)) rfl ?_;rintro v M U ⟨q,hqk,hql,rfl,rfl⟩;dsimp only [XSta.cells];apply (Xc2);refine Jx zJb rfl ?_;apply qab∘Xaj;refine Jx zIa rfl ?_;apply qa7∘Xah∘qa6;refine Jx zJb rfl ?_;apply qab∘Xaj;refine Jx zYa rfl ?_;apply Xb3∘qaz∘qa4;refine Kk tb [0,1,2,3,4,5,6,7,8,9,10,11,12,13,14,15] _ Kr zc ye ?_;apply Xbe∘qal∘Zzf∘qao∘Xc4;refine Yp rfl (K9b x.feeder s x.time _ _ hf) rfl rfl ?_;rintro v M U ⟨pp,qq,rp,rfl,⟨hppk,hqqk⟩,hop,rfl,rfl⟩;refine ⟨zi,zq,?_⟩;refine K3 zSb rfl rfl rfl ?_;refine K3 zZb rfl rfl rfl ?_;refine K3 zZb rfl rfl rfl ?_;apply (qbr);intro b6;apply qbg∘qcg∘qc6∘qaa∘Xax;refine q_c ?_ ?_<;>intro hc0;·exact absurd hcan hc0
 obtain ⟨hppl,hqql,rfl⟩:=hop hcan;refine Ks (T:=76) (f:=XSwitch.cells) (wd:=5) pp [] zj yf ze hppk yg ?_;refine V0 zy ?_;refine Ks (T:=3) (f:=Ji) (wd:=1) qq [] zj yf ze hqqk yg ?_;refine V0 zy ?_;have hfR:FeederR ⟨pp.arr,qq.arr,x.feeder.reply⟩ ([isl qq.arr,Jqd pp.arr] ++ R):=⟨Ja (.tail _ (.head _)),Ja (.head _)⟩;have hq0:q.l=(Jua p 1 z (p.cuts.getD z.toNat default).reason).log:=by rw [hql,Jua,← hll,← hcl,← hc,← htm]
 have hzs:g.zn.getD z.toNat 0=s:=by rw [hs,hzn]
 have hsy:p.sw.getD s.toNat default=y:=by rw [hy,hsw]
 have hpp:pp.l=V1 p.sw s p.time:=by rw [hppl,hsw,htm]
 apply qbv∘qa6;refine Jx zjb rfl ?_;refine Jx zJb rfl ?_;apply (qab);refine Kla tb rfl rfl rfl rfl zB zb zb zb ?_;apply (qa4);refine Y3 (M:=⟨b,({x with cuts:=pc.arr,feeder:=⟨pp.arr,qq.arr,x.feeder.reply⟩,log:=q.arr}:XSta).cells,54⟩ :: (q.L 150 XEntry.cells ++ (pc.L 71 XCut.cells ++ L))) zi zxb ?_;apply qay∘qah∘qaf;refine q_c ?_ ?_<;>intro hc1;·
  apply qay∘Xby;refine Jq rfl (Yla {x with cuts:=pc.arr,feeder:=⟨pp.arr,qq.arr,x.feeder.reply⟩} q b 2 s 0 _ _ hqk (by rw [hq0];exact (hI.note _ _ _).log)) rfl ?_;rintro v M U ⟨q2,hq2k,hq2l,rfl,rfl⟩;apply (qav);refine Jda (M:=⟨b,({x with cuts:=pc.arr,feeder:=⟨pp.arr,qq.arr,x.feeder.reply⟩,log:=q2.arr}:XSta).cells,54⟩ :: (q2.L 150 XEntry.cells ++ (pc.L 71 XCut.cells ++ L))) (U:=[isl qq.arr,Jqd pp.arr] ++ R) (Udf rfl) ?hp ?hL ?hR;case hp=>(have e:Ydc g p z=Jua { Jua p 1 z (p.cuts.getD z.toNat default).reason with sw:=V1 p.sw s p.time } 2 s 0:=by rw [Ydc,hzs,hsy,if_pos hc1]);exact ⟨⟨pp.arr,qq.arr,x.feeder.reply⟩,q2,[isl qq.arr,Jqd pp.arr],hq2k,by rw [e];exact { hx with sw:=hpp,zn:=hqql.trans hzn,log:=by show q2.l=_;rw [hq2l,hq0,htm];rfl },hfR,rfl,rfl⟩
  case hL=>exact zi
  case hR=>exact Jc _
 refine J1 ?_;refine Jda (M:=⟨b,({x with cuts:=pc.arr,feeder:=⟨pp.arr,qq.arr,x.feeder.reply⟩,log:=q.arr}:XSta).cells,54⟩ :: (q.L 150 XEntry.cells ++ (pc.L 71 XCut.cells ++ L))) (U:=[isl qq.arr,Jqd pp.arr] ++ R) (Udf rfl) ?hp ?hL ?hR;case hp=>
  have e:Ydc g p z={ Jua p 1 z (p.cuts.getD z.toNat default).reason with sw:=V1 p.sw s p.time }:=by rw [Ydc,hzs,hsy,if_neg (by rw [hc1];decide)]
  exact ⟨⟨pp.arr,qq.arr,x.feeder.reply⟩,q,[isl qq.arr,Jqd pp.arr],hqk,by rw [e];exact { hx with sw:=hpp,zn:=hqql.trans hzn,log:=hq0 },hfR,rfl,rfl⟩
 case hL=>exact zi
 case hR=>exact Jc _
end
end Go.Proofs.YtchfclmokpbldaaGreat
