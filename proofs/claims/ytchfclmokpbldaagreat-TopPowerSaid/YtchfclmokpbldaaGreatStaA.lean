/-
  Merged texts. By an AI agent.
-/
import Derived.Test.YtchfclmokpbldaaGreatSiteD
import Derived.Test.YtchfclmokpbldaaGreatFits
import Derived.Test.YtchfclmokpbldaaGreatAppR
import Derived.Test.YtchfclmokpbldaaGreatStatM
set_option linter.all false
set_option maxHeartbeats 4000000
set_option maxRecDepth 20000
namespace Go.Proofs.YtchfclmokpbldaaGreat
open Go.Aw Go
section
def Jfe {P : Program} {ρ : Operand → Value} {L : LB} {R : LS} {dst : Option Tmp} {ty : TypeId} {pos : String} {after : Array Edge} {guard : Option (Nat × Bool)} (tb : Tabs P) {T : TypeId} {x y : Operand} {k : IntKind} {len cap m : Nat} {h : Int} {ar : Option Addr} {e n1 fl bt z k2 n2 fl2 bt2 z2}
 (hT:Y4 tb.tab T=some ⟨.slice e,n1,fl,bt,z⟩) (hE:Y4 tb.tab e=some ⟨k2,n2,fl2,bt2,z2⟩) (hx:ρ x=.slice ar len cap) (hy:ρ y=.int k h) (hh:h=(m:Int)) (h1:1≤m) (hn:m≤len):
 YV P ⟨dst,.slice T x (some y) none none,ty,pos,after,guard⟩ ρ L R (.slice (if cap=m then ar else ar.map (·.add (m * n2))) (len - m) (cap - m)):=fun _ w _=>by
 have hu:=Vi (tb.ok _ _ hT) rfl
 have he:P.elem T=e:=by simp [Program.elem,hu]
 have hu':P.underlying T=some (.slice (P.elem T)):=by rw [he];exact hu
 have hs:=Go.Aw.run_sizeOf (tb.ok _ _ hE) w
 simp only at hs
 subst hh
 have h1:=run_slice_l (P:=P) w T ar len cap hu' k (m:Int) za za
 rw [he,hs,yE,yu] at h1
 simp [execOp,hx,hy,run_sliceAt_slice w T _ _ _ _ hu',h1,sliced]
def Y1c {w:World} {G:Nat→Prop} {wd len cap m:Nat} {a:Option Addr} {rows:List (List Value)} {subs:LS} (h:Rep w G (.mk wd a len cap rows subs)) (h1:1≤m) (hk:m≤len) (hp:0 < wd):Rep w G (.mk wd (if cap=m then a else a.map (·.add (m * wd))) (len - m) (cap - m) (rows.drop m) subs):=by
 cases h with
 | mk hl hc hm hw hr hs=>
  refine .mk zD za za (fun r hr=>hw r (yta hr)) ?_ hs;rcases yk m len with h2 | h2;·
   rcases hr with h0 | ⟨b, off, ha, hg, Kjb⟩;·exact .inl (by rw [h0];simp)
   ·have hmw : 0 < m * wd := Nat.mul_pos h1 hp;refine .inr ⟨b,off + m * wd,by rw [if_neg za,ha,yLa,Addr.add,if_neg za],hg,fun i j hi hj=>?_⟩;have:=Kjb (i + m) j za hj;(have e:off + m * wd + i * wd + j=off + (i + m) * wd + j:=by rw [yxb];omega);rw [List.getElem?_drop,yRb m i,← this,e]
  ·exact .inl (ycb za)
abbrev Ze {α:Type} (y:Arr α) (m wd:Nat):Arr α:=⟨if y.cap=m then y.a else y.a.map (·.add (m * wd)),y.cap - m,y.l.drop m⟩
abbrev Z9b {α:Type} (y:Arr α) (m:Nat):Arr α:=⟨y.a,y.cap,y.l.take m⟩
def Kfb {α:Type} {P n code t L R} {Q:Kt} {wd m:Nat} {f:α→List Value} {subs:LS} {y:Arr α} (hR:InR (y.sl wd f subs) R) (h1:1≤m) (hk:m≤y.l.length) (hp:0 < wd) (h:CJ P n code t L ((Ze y m wd).sl wd f subs :: R) Q):CJ P n code t L R Q:=by
 refine Kod (s:=(Ze y m wd).sl wd f subs) (fun w G hh=>?_) h;obtain ⟨r,hr,hs⟩:=hR;have h2:=Y1c ((hh r hr).sub hs) h1 hk hp;have e1:y.l.length - m=(y.l.drop m).length:=by rw [yP]
 have e2:(y.l.map f).drop m=(y.l.drop m).map f:=by rw [List.map_drop]
 rw [e1,e2] at h2;exact h2
section
variable {P:Program} {ρ:Operand→Value} {L:LB} {R:LS} {dst:Option Tmp} {ty:TypeId} {pos:String} {after:Array Edge} {guard:Option (Nat×Bool)} (tb:Tabs P) {T:TypeId} {x y:Operand}
def J7e {α:Type} {f:α→List Value} {xs:Arr α} {n2:Nat} {subs:LS} (hR:InR (xs.sl n2 f subs) R) (h0:0 < n2) (hx0:0 < xs.l.length) {c:Ctx} {w:World} (hst:St c L R w):Znd L R xs.val xs.l.length n2 (xs.l.flatMap f):=by
 obtain ⟨ar,cap,l⟩:=xs;dsimp only at hR hx0 ⊢;have hw:∀r∈l.map f,r.length=n2:=by
  have hst':=hst;obtain ⟨⟨G,hh,_⟩,_,_⟩:=hst';obtain ⟨r,hr,hsub⟩:=hR;have hrep:=(hh.rep r hr).sub hsub;cases hrep with
  | mk _ _ _ hw _ _=>exact hw
 have hf0:(l.map f).flatten=l.flatMap f:=Jzb _;have hfl:(l.map f).flatten.length=l.length * n2:=by rw [Yhd hw,yz]
 have hsx:=U8d (L:=L) hR h0 (fun c w hst=>by
  obtain ⟨⟨G,hh,_⟩,_,_⟩:=hst;obtain ⟨r,hr,hsub⟩:=hR;have hrep:=(hh.rep r hr).sub hsub;cases hrep with
  | mk _ _ _ _ hm _=>
   rcases hm with h | ⟨b,off,ha,_⟩;·have h' := congrArg List.length h;simp at h';rw [h'] at hx0;simp at hx0
   ·exact ⟨b,off,ha⟩) hfl ⟨c,w,hst⟩
 rw [hf0] at hsx;exact hsx
def Vsa {α : Type} {e n fl bt z k2 n2 fl2 bt2 z2} {f : α → List Value} (p : OwL α) (xs : Arr α) {subs : LS} {F : OwL α → LB} (hT : Y4 tb.tab T = some ⟨.slice e, n, fl, bt, z⟩) (hE : Y4 tb.tab e = some ⟨k2, n2, fl2, bt2, z2⟩) (hn2 : z2.length = n2) (h0 : 0 < n2)
 (hx:ρ x=p.val) (hy:ρ y=xs.val) (hok:p.ok n2 f) (hR:InR (xs.sl n2 f subs) R) (hseg:OSeg e f p L F) (h1:∀x,(f x).all (·.oneCell')=true) (hby:(p.l.length + xs.l.length) * (bt2 + 1)≤140737488355328):
 Gives P ⟨dst,.call ⟨.builtin .append,#[x,y],#[T,T]⟩,ty,pos,after,guard⟩ ρ L R (fun v M U=>∃o:Ow,v=(⟨o,p.l ++ xs.l⟩:OwL α).val∧(⟨o,p.l ++ xs.l⟩:OwL α).ok n2 f∧F ⟨o,p.l ++ xs.l⟩=M∧R=U):=by
 obtain ⟨A,B,hL,hF⟩:=hseg.split;intro c w hst ac next Q kk
 have hb1:(p.l.length + xs.l.length) * bt2≤140737488355328:=yqa (yJb _ (Nat.le_succ _)) hby;have hb2:p.l.length + xs.l.length≤140737488355328:=yqa (yqb _ (Nat.succ_pos _)) hby;have hx':ρ x=p.o.val p.l.length:=by rw [hx,Ow.val_of_ok hok];rfl
 rcases yrb xs.l.length with hz | hz;·
  have hnil : xs.l = [] := yha hz;have hy':ρ y=.slice xs.a 0 xs.cap:=by rw [hy,Arr.val,hz]
  have hsame:F p=L:=by rw [hF,hL]
  cases ho:p.o with
  | nil=>
   have hu:=Vi (tb.ok _ _ hT) rfl;obtain ⟨ti,u,zv,i1,i2,i3,i4⟩:=Vl (tb.ok _ _ hE);(have e1:execOp ρ ⟨dst,.call ⟨.builtin .append,#[x,y],#[T,T]⟩,ty,pos,after,guard⟩=(do pure (.value (← Builtin.append_ #[T,T] ty #[ρ x,ρ y]))):=by exact ua8);have hr:=Yta w T ty e ti hu i1 xs.a xs.cap;(have hpl:p.l=[]:=by have hok':=hok;rw [OwL.ok,ho] at hok';exact yha hok'.1);(have hxn:ρ x=.slice none 0 0:=by rw [hx,OwL.val,ho,hpl];rfl);refine V6 (w':=w) (v:=.slice none 0 0) ?_ (kk _ _ _ w ⟨.nil,by rw [hnil,hpl];rfl,by rw [hnil,hpl];exact ⟨rfl,rfl⟩,?_,rfl⟩ hst);·rw [e1, hxn, hy'];simp only [yga,hr,yE,yBa]
   ·rw [← hsame,hnil,yZ,← ho]
  | own g cap spare=>(have hcap:p.l.length≤cap:=by have hok':=hok;rw [OwL.ok,ho] at hok';exact hok'.2.1);(have hxo:ρ x=.slice (some ⟨g,0,none⟩) p.l.length cap:=by rw [hx,OwL.val,ho];rfl);(refine Vmc (L:=L) (R:=R) (dst:=dst) (ty:=ty) (pos:=pos) (after:=after) (guard:=guard) tb hT hE hxo hy' hcap c w hst ac next Q ?_);rintro v M U w' ⟨rfl,rfl,rfl⟩ hst';rw [hnil,yZ] at kk;exact kk _ _ _ w' ⟨p.o,by rw [OwL.val,ho];rfl,hok,hsame,rfl⟩ hst'
 ·
  have hsh := J7e (L := L) hR h0 hz hst;rw [← hy] at hsh;subst hL;refine Y2a (dst:=dst) (ty:=ty) (pos:=pos) (after:=after) (guard:=guard) tb hT hE hn2 hx' hok (Kze A _ B) hsh hz (Vsd h1 _) za hb1 c w hst ac next Q ?_
  rintro v M U w' ⟨g,cap,spare,rfl,hok',rfl,rfl⟩ hst';have e:p.l.flatMap f ++ xs.l.flatMap f=(p.l ++ xs.l).flatMap f:=by simp
  rw [e] at hok';have hl:(p.l ++ xs.l).length=p.l.length + xs.l.length:=by simp
  exact uaD
end
end
section
section
variable {P:Program} {ρ:Operand→Value} {L:LB} {R:LS} {dst:Option Tmp} {ty:TypeId} {pos:String} {after:Array Edge} {guard:Option (Nat×Bool)} (tb:Tabs P) {T:TypeId} {x y z:Operand}
def V1b {α:Type} {u:Arr α} {m wd:Nat} {h:Int} {k:IntKind} {e n1 fl bt z k2 n2 fl2 bt2 z2} (hT:Y4 tb.tab T=some ⟨.slice e,n1,fl,bt,z⟩) (hE:Y4 tb.tab e=some ⟨k2,n2,fl2,bt2,z2⟩) (hx:ρ x=u.val) (hy:ρ y=.int k h) (hh:h=(m:Int)) (h1:1≤m) (hn:m≤u.l.length) (hw:n2=wd):
 YV P ⟨dst,.slice T x (some y) none none,ty,pos,after,guard⟩ ρ L R (Ze u m wd).val:=by have h2:=Jfe (ρ:=ρ) (L:=L) (R:=R) (dst:=dst) (ty:=ty) (pos:=pos) (after:=after) (guard:=guard) tb hT hE hx hy hh h1 hn;subst hw;rw [Arr.val,yP];exact h2
def Ude {α:Type} {u:Arr α} {m q wd:Nat} {h l:Int} {k k3:IntKind} {e n1 fl bt zz k2 n2 fl2 bt2 z2} (hT:Y4 tb.tab T=some ⟨.slice e,n1,fl,bt,zz⟩) (hE:Y4 tb.tab e=some ⟨k2,n2,fl2,bt2,z2⟩) (hx:ρ x=u.val) (hy:ρ y=.int k l) (hz:ρ z=.int k3 h) (hl:l=(m:Int)) (hh:h=(m:Int) + (q:Int)) (h1:1≤m) (hn:m + q≤u.l.length) (hc:u.l.length≤u.cap) (hw:n2=wd):
 YV P ⟨dst,.slice T x (some y) (some z) none,ty,pos,after,guard⟩ ρ L R (Z9b (Ze u m wd) q).val:=fun _ w _=>by
 subst hw
 subst hl
 have hu:=Vi (tb.ok _ _ hT) rfl
 have he:P.elem T=e:=by simp [Program.elem,hu]
 have hu':P.underlying T=some (.slice (P.elem T)):=by rw [he];exact hu
 have hs:=Go.Aw.run_sizeOf (tb.ok _ _ hE) w
 simp only at hs
 have h3:=run_slice_lh (P:=P) w T u.a u.l.length u.cap hu' k k3 (m:Int) h za za za
 have e1:h.toNat - m=q:=by omega
 have e2:((u.l.drop m).take q).length=q:=by rw [yYa,yP];omega
 rw [he,hs,yE,yu] at h3
 rw [Arr.val,Z9b,Ze,e2]
 simp [execOp,hx,hy,hz,run_sliceAt_slice w T _ _ _ _ hu',h3,sliced,e1]
end
def Kbf {α:Type} {P n code t L R} {Q:Kt} {wd:Nat} {f:α→List Value} {subs:LS} {y:Arr α} (hR:InR (y.sl wd f subs) R) (h:y.l.length≤y.cap→CJ P n code t L R Q):CJ P n code t L R Q:=fun c a w hf hs=>by
 have hcap:y.l.length≤y.cap:=by
  have hst':=hs
  obtain ⟨⟨G,hh,_⟩,_,_⟩:=hst'
  obtain ⟨r,hr,hsub⟩:=hR
  have hrep:=(hh.rep r hr).sub hsub
  cases hrep with
  | mk _ hc _ _ _ _=>exact hc
 exact h hcap c a w hf hs
def Kje {α:Type} {P n code t L R} {Q:Kt} {wd m:Nat} {f:α→List Value} {subs:LS} {y:Arr α} (q:Nat) (hR:InR (y.sl wd f subs) R) (h1:1≤m) (hk:m≤y.l.length) (hp:0 < wd) (h:CJ P n code t L ((Z9b (Ze y m wd) q).sl wd f subs :: R) Q):CJ P n code t L R Q:=by
 refine Kfb hR h1 hk hp ?_;refine Vzd q zsb ?_;exact Vn ye (fun r hr=>by
  rcases List.mem_cons.1 hr with h | h;·exact Ja (by rw [h];exact .head _)
  ·exact Ja (.tail _ (.tail _ h))) h
end
section
section
variable {A B:Prop}
def Zlf(h:A→B:=by exact K2 zkb rfl rfl rfl):=h
end
def Tri.pperm {P:Program} {f:FuncId} {args:Array Value} {L:LB} {R:LS} {Post Post':Yy} (h:Tri P f args L R Post) (k:∀v M U,Post v M U→∃L'',M.Perm L''∧Post' v L'' U):Tri P f args L R Post':=
 ⟨h.1,fun w G hh=>(h.2 w G hh).mono fun _ _ ⟨v,M,U,e,p,s⟩=>let ⟨L'',hp,p'⟩:=k v M U p;⟨v,L'',U,e,p',s.perm hp⟩⟩
attribute [local irreducible] CJ LJ DJ Tri YV Gives U0 J3 Kj Uz RV J5 OwL.L
def Jza (x:XSta) (pl:OwL XEntry) (b:Nat) (k z u:Int) (L:LB) (R:LS) (hk:pl.ok 4 XEntry.cells) (hn:pl.l.length≤400):
 Tri Tryz.prog 85 [.pointer (some ⟨b, 0, none⟩), .int .i64 k, .int .i64 z, .int .i64 u].toArray (⟨b, ({x with log := pl.arr} : XSta).cells, 54⟩ :: (pl.L 150 XEntry.cells ++ L)) R
  (fun v M U=>∃q:OwL XEntry,q.ok 4 XEntry.cells∧q.l=Jxb pl.l ⟨x.time,k,z,u⟩∧⟨b,({x with log:=q.arr}:XSta).cells,54⟩ :: (q.L 150 XEntry.cells ++ L)=M∧R=U):=by
 refine Tri.pperm (Post:=fun v M U=>∃q:OwL XEntry,q.ok 4 XEntry.cells∧q.l=Jxb pl.l ⟨x.time,k,z,u⟩∧(⟨b,({x with log:=q.arr}:XSta).cells,54⟩ :: (q.L 150 XEntry.cells ++ L)=M∨q.L 150 XEntry.cells ++ (⟨b,({x with log:=q.arr}:XSta).cells,54⟩ :: L)=M)∧R=U) ?_ (fun v M U ⟨q,h1,h2,h3,h4⟩=>⟨_,by
  rcases h3 with rfl | rfl;·exact yHa _
  ·exact yZa,q,h1,h2,rfl,h4⟩)
 refine Jj 44 Tryz.call85 Tryz.func85 rfl rfl rfl ?_;refine Jr ?_;refine Kh tb [9] [0,1,2,3,4,5,6,7,8,9,10,11,12,13] [14,15,16,17] (_) _ K3 zc zi yd ?_;refine V2 (Jt zEb) rfl rfl rfl rfl ?_;apply (qb3);refine Ku zLb rfl rfl rfl rfl ?_;apply Xar∘qb3;refine Ku zLb rfl rfl rfl rfl ?_;apply (Xar);iterate 3 apply (qbf)
 refine Ku (Kf (qs:=[(0,(Value.int _ _).cells.toList),(1,(Value.int _ _).cells.toList),(2,(Value.int _ _).cells.toList),(3,(Value.int _ _).cells.toList)]) (out:=[_,_,_,_]) tb rfl rfl rfl rfl) rfl rfl rfl rfl ?_;refine K0d zzb rfl rfl rfl ?_;rintro v M U ⟨b22,rfl,rfl,hR22⟩;replace hR22:=hR22.symm;subst hR22;apply (Xc0);refine Z4b (Kb (f:=XEntry.cells) (p:=pl) (a:=⟨x.time,k,z,u⟩) tb rfl rfl rfl rfl (hk) zj zxb rfl zA) rfl rfl rfl ?_;rintro v M U ⟨o23,rfl,hok23,rfl,rfl⟩;apply qa1∘qcb∘Xc1∘qb9;have hql:(⟨o23,pl.l ++ [⟨x.time,k,z,u⟩]⟩:OwL XEntry).l.length=pl.l.length + 1:=by simp
 have hqe:(pl.l ++ [(⟨x.time,k,z,u⟩:XEntry)]).length=pl.l.length + 1:=by simp
 apply qay∘qa6;refine Jx zLb rfl ?_;apply Xab∘qa9∘Xau∘qa5∘qaf;refine q_c ?_ ?_<;>intro hc0;·
  obtain ⟨p1,hp1⟩:∃p1:OwL XEntry,p1=⟨o23,pl.l ++ [⟨x.time,k,z,u⟩]⟩:=⟨_,rfl⟩;have hpl2:(pl.l ++ [(⟨x.time,k,z,u⟩:XEntry)]).length=p1.l.length:=by rw [hp1]
  rw [← hp1] at hok23 hql ⊢;refine Kg (T:=150) (f:=XEntry.cells) (wd:=4) p1 [] zj yf ze hok23 yg ?_;refine Vf zp ?_;refine Kfb (y:=p1.arr) (m:=p1.l.length - 400) zsb za (by show p1.l.length - 400≤p1.l.length;omega) ze ?_;have hdn:(Ze p1.arr (p1.l.length - 400) 4).l.length≤1000:=by show (p1.l.drop _).length≤_;rw [yP];omega
  apply qay∘qa6∘qa6;refine Jx zLb rfl ?_;apply (Xam);refine Jx (V1b (m:=p1.l.length - 400) (wd:=4) (u:=p1.arr) tb rfl rfl rfl rfl za za (by show p1.l.length - 400≤p1.l.length;omega) rfl) rfl ?_;refine Jqa (Kn (f:=XEntry.cells) (xs:=Ze p1.arr (p1.l.length - 400) 4) tb rfl rfl rfl ze rfl rfl ((Ja (.head _))) yf za) rfl ?_;rintro v M U ⟨o41,rfl,hok41,rfl,rfl⟩;refine Jx zLb rfl ?_;apply Xbn∘qav;refine K5a (M:=(⟨o41,p1.l.drop (p1.l.length - 400)⟩:OwL XEntry).L 150 XEntry.cells ++ (⟨b,({x with log:=(⟨o41,p1.l.drop (p1.l.length - 400)⟩:OwL XEntry).arr}:XSta).cells,54⟩ :: L)) (U:=R) (Ynf rfl) ?hp ?hL ?hR;case hp=>exact ⟨⟨o41,p1.l.drop (p1.l.length - 400)⟩,hok41,by show p1.l.drop _=_;rw [Jxb,hql,hp1],.inr rfl,rfl⟩
  case hL=>exact zi
  case hR=>exact fun r hr=>Ja (.tail _ (.tail _ hr))
 refine Ka ?_;refine K5a (M:=⟨b,({x with log:=(⟨o23,pl.l ++ [⟨x.time,k,z,u⟩]⟩:OwL XEntry).arr}:XSta).cells,54⟩ :: ((⟨o23,pl.l ++ [⟨x.time,k,z,u⟩]⟩:OwL XEntry).L 150 XEntry.cells ++ L)) (U:=R) (Ynf rfl) ?hp ?hL ?hR;case hp=>exact ⟨⟨o23,pl.l ++ [⟨x.time,k,z,u⟩]⟩,hok23,by rw [Jxb,show pl.l.length + 1 - 400=0 by omega,yAb],.inl rfl,rfl⟩
 case hL=>exact zi
 case hR=>exact Jd _
def StaIs.note {g:PSite} {p:PSta} {x:XSta} (h:StaIs g p x) {l:Arr XEntry} {k z u:Int} (hl:l.l=Jxb x.log.l ⟨x.time,k,z,u⟩):StaIs g (Zg p k z u) ({x with log:=l}:XSta):={ h with log:=by rw [Zg,← h.log,← h.time];exact hl }
def Jla (x:XSta) (t:Int) (L:LB) (R:LS):
 Tri Tryz.prog 81 [x.val,.int .i64 t].toArray L R (fun v M U=>v=.bool (decide (t < x.time∨2147483648 < t))∧L=M∧R=U):=by
 refine Jj 13 Tryz.call81 Tryz.func81 rfl rfl rfl ?_;apply (Xaf);intro b2;apply qaz∘Xdh∘Xbc;apply J9 (G:=[_,_]) (j:=4) (cj:=9) rfl rfl zb rfl zfb rfl;·intro hg5;replace hg5:=qb hg5;exact (Xb8) qai
 intro junk5;apply (Xa2);refine q_b L R ?_;exact ya
def Vde (x:XSwitch):Bool:=!x.closed || decide (x.shown= -1)
def Yyb {l:List Int} {f:Int→Bool} (h:∀j:Nat,j < l.length→f (l.getD j 0)=false):l.any f=false:=by rw [List.any_eq_false];intro y hy;obtain ⟨j,hj,rfl⟩:=yMa hy;have:=h j hj;rw [yh,yC hj] at this;rw [show (some l[j]).getD 0=l[j] from rfl] at this;rw [this];decide
def Jff (f:XFeeder) (z:Int) (L:LB) (R:LS) (hf:FeederR f R) (hfe:feedE f.switches.l f.zones.l f.reply=0) (hz:0≤z∧z < f.zones.l.length):
 Tri Tryz.prog 159 [f.val,.int .i64 z].toArray L R (fun v M U=>v=.bool ((Kma f.switches.l f.zones.l f.reply (f.zones.l.getD z.toNat 0)).any fun k=>Vde (f.switches.l.getD k.toNat default))∧L=M∧R=U):=by
 have hsR:=hf.sw;have hzR:=hf.zn;have hzg:=Jw (l:=f.zones.l) (k:=z.toNat) 0 za;refine Jj 34 Tryz.call159 Tryz.func159 rfl rfl rfl ?_;apply (Xaf);intro b2;apply qaz∘qco;refine Kp tb [0,1,2,3,4,5,8,6,7] _ K3 zc ye ?_;apply Zlf∘Xb4;refine K2 zHa rfl rfl rfl ?_;apply qbl∘qao;refine Yj rfl (Vib f (f.zones.l.getD z.toNat 0) _ _ hf) rfl rfl ?_;rintro v M U ⟨q,rfl,hqk,hql,rfl,rfl⟩;refine ⟨zi,zw,?_⟩;refine K2 zBb rfl rfl rfl ?_;refine Jz (Jc (Km ?_));refine Jp [(2,.pointer _),(14,.slice _ _ _),(15,.int _ _),(16,.int _ _)] zh fun tq0=>?_;have hqm:∀y∈q.l,0≤y∧y < f.switches.l.length:=fun y hy=>by have:=V7b (sw:=f.switches.l) (zn:=f.zones.l) (rp:=f.reply) (s:=f.zones.l.getD z.toNat 0) (x:=y) (by rw [← hql];exact hy);omega
 refine Kg (T:=3) (f:=Jo) (wd:=1) q [] zj yf ze hqk yg ?_;refine Vf zp ?_;have hqR:InR (isl q.arr) (isl q.arr :: R):=Ja (.head _);have hqn:q.l.length≤32:=by rw [hql];exact V0c
 have hsR2:=hsR.mono fun r hr=>Ja (R:=isl q.arr :: R) (.tail _ hr);refine q_s ([4,6,7]++rg 16 18) (fun g:{k:Nat // k≤q.l.length∧∀j:Nat,j < k→Vde (f.switches.l.getD (q.l.getD j 0).toNat default)=false}=>[(16,.int .i64 ((g.1:Nat):Int))]) (fun g=>q.l.length - g.1) (⟨0,by omega,fun j hj=>by omega⟩) ?_;rintro ⟨k,hk,hal⟩ junk;try dsimp only
 apply (Xak);refine q_c ?_ ?_<;>intro hc0;·
  have hqg:=Jw (l:=q.l) (k:=k) 0 za;have hqr:=hqm _ (yj hqg);have hsg:=Jw (l:=f.switches.l) (k:=(q.l.getD k 0).toNat) default za;apply (qbb);refine Jx zB rfl ?_;apply qa7∘Xag∘Xam;refine Jx zWa rfl ?_;apply (Xdg);intro b7;apply Xbx∘Xce;apply J9 (G:=[_,_,_]) (j:=3) (cj:=28) rfl rfl zb rfl zfb rfl;·exact zGd
  intro junk4;apply (qaf);refine q_c ?_ ?_<;>intro hc1;·
   apply Xbe∘qbt;refine Kq (M:=L) (U:=R) zVc ?hp ?hL ?hR;case hp=>exact ⟨by rw [← hql,List.any_eq_true.2 ⟨_,yj hqg,by rw [Vde];simpa using hc1⟩],rfl,rfl⟩
   case hL=>exact zi
   case hR=>exact fun r hr=>Ja (.tail _ hr)
  apply (Xax);exact Kr ⟨k + 1,by omega,fun j hj=>by
  rcases yk j k with h | h;·exact hal j h
  ·(obtain rfl : j = k := by omega);rw [Vde];simpa using hc1⟩ zm zh zi ztb zx
 apply qbk∘Xa2;refine Kq (M:=L) (U:=R) zVc ?hp ?hL ?hR;case hp=>exact ⟨by rw [← hql,Yyb fun j hj=>hal j za],rfl,rfl⟩
 case hL=>exact zi
 case hR=>exact fun r hr=>Ja (.tail _ hr)
def Ure (g:PSite) (p:PSta) (x:XSta) (pc:OwL XCut) (pl:OwL XEntry) (b:Nat) (z:Int) (L:LB) (R:LS) (hI:Inv g p) (hx:StaIs g p ({x with cuts:=pc.arr,log:=pl.arr}:XSta)) (hf:FeederR x.feeder R) (hck:pc.ok 3 XCut.cells) (hlk:pl.ok 4 XEntry.cells) (hz:0≤z∧z < p.cuts.length):
 Tri Tryz.prog 156 [.pointer (some ⟨b, 0, none⟩), .int .i64 z].toArray (⟨b, ({x with cuts := pc.arr, log := pl.arr} : XSta).cells, 54⟩ :: (pl.L 150 XEntry.cells ++ (pc.L 71 XCut.cells ++ L))) R
  (fun v M U=>∃(f:XFeeder) (q:OwL XEntry) (S:LS),q.ok 4 XEntry.cells∧StaIs g (Vfb g p z) ({x with cuts:=pc.arr,feeder:=f,log:=q.arr}:XSta)∧FeederR f (S ++ R)∧⟨b,({x with cuts:=pc.arr,feeder:=f,log:=q.arr}:XSta).cells,54⟩ :: (q.L 150 XEntry.cells ++ (pc.L 71 XCut.cells ++ L))=M∧S ++ R=U):=by
 have hcl:pc.l=p.cuts:=hx.cuts;have hll:pl.l=p.log:=hx.log;have hln:=hI.log;have hzn:x.feeder.zones.l=g.zn:=hx.zn;have hsw:x.feeder.switches.l=p.sw:=hx.sw;have hrp:x.feeder.reply=g.rp:=hx.rp;have htm:x.time=p.time:=hx.time;have hzl:=hI.zlen;have hcl2:=hI.clen;have hfo:=hI.fok;have hcb:z.toNat < pc.l.length:=by rw [hcl];omega
 have hzb:z.toNat < x.feeder.zones.l.length:=by rw [hzn];omega
 have hcg:=Jw (l:=pc.l) (k:=z.toNat) default hcb;have hzg:=Jw (l:=x.feeder.zones.l) (k:=z.toNat) 0 hzb;have hzr:=hfo.zr z.toNat za;rw [← hzn,← hsw] at hzr;obtain ⟨s,hs⟩:∃s,s=x.feeder.zones.l.getD z.toNat 0:=⟨_,rfl⟩;rw [← hs] at hzg hzr;have hsg:=Jw (l:=x.feeder.switches.l) (k:=s.toNat) default za;obtain ⟨y,hy⟩:∃y,y=x.feeder.switches.l.getD s.toNat default:=⟨_,rfl⟩;rw [← hy] at hsg;obtain ⟨c,hc⟩:∃c,c=pc.l.getD z.toNat default:=⟨_,rfl⟩;rw [← hc] at hcg;have hcan:Jxc x.feeder.switches.l x.feeder.zones.l x.feeder.reply s x.time=0:=by rw [hzn,hsw,hrp,htm,Jxc,if_neg (by rw [hI.fe];decide),if_neg (by rw [hsw] at hzr;omega),if_pos hI.tok]
 have hsR:=hf.sw;have hzR:=hf.zn;dsimp only [XSta.cells];refine Jj 59 Tryz.call156 Tryz.func156 rfl rfl rfl ?_;apply qae∘Xc2∘qa6;refine Jx zLb rfl ?_;apply (Xam);refine Jx (Jv tb (pc) _ rfl rfl rfl rfl zg (i:=z.toNat) zk zu) rfl ?_;apply (qb0);refine Jx (Kc tb (pc) rfl rfl rfl zj zg yf zg zb) rfl ?_;refine Jy rfl (Jza {x with cuts:=pc.arr} pl b 1 z c.reason _ _ hlk (by rw [hll];exact hln)) rfl ?_;rintro v M U ⟨q,hqk,hql,rfl,rfl⟩;dsimp only [XSta.cells];apply qam∘qa6;refine Jx zLb rfl ?_;apply qab∘Xam;refine Jx zHa rfl ?_;apply qa7∘Xag∘qa6;refine Jx zLb rfl ?_;apply qab∘Xam;refine Jx zIa rfl ?_;apply Xbv∘qaz∘qa4;refine Kp tb [0,1,2,3,4,5,6,7,8,9,10,11,12,13,14,15] _ K3 zc ye ?_;apply Xbo∘qal∘Zlf∘qao∘Xct;refine Yj rfl (U3b x.feeder s x.time _ _ hf) rfl rfl ?_;rintro v M U ⟨pp,qq,rp,rfl,⟨hppk,hqqk⟩,hop,rfl,rfl⟩;refine ⟨zi,zw,?_⟩;refine K2 zCb rfl rfl rfl ?_;refine K2 zJb rfl rfl rfl ?_;refine K2 zJb rfl rfl rfl ?_;apply (qbr);intro b6;apply Xdi∘qc6∘qaa∘Xao;refine q_c ?_ ?_<;>intro hc0;·exact absurd hcan hc0
 obtain ⟨hppl,hqql,rfl⟩:=hop hcan;refine Kg (T:=76) (f:=XSwitch.cells) (wd:=5) pp [] zj yf ze hppk yg ?_;refine Vf zp ?_;refine Kg (T:=3) (f:=Jo) (wd:=1) qq [] zj yf ze hqqk yg ?_;refine Vf zp ?_;have hfR:FeederR ⟨pp.arr,qq.arr,x.feeder.reply⟩ ([isl qq.arr,Vcb pp.arr] ++ R):=⟨Ja (.tail _ (.head _)),Ja (.head _)⟩;have hq0:q.l=(Zg p 1 z (p.cuts.getD z.toNat default).reason).log:=by rw [hql,Zg,← hll,← hcl,← hc,← htm]
 have hzs:g.zn.getD z.toNat 0=s:=by rw [hs,hzn]
 have hsy:p.sw.getD s.toNat default=y:=by rw [hy,hsw]
 have hpp:pp.l=U5 p.sw s p.time:=by rw [hppl,hsw,htm]
 apply qbv∘qa6;refine Jx zkb rfl ?_;refine Jx zLb rfl ?_;apply (qab);refine K4a tb rfl rfl rfl rfl zy zb zb zb ?_;apply (qa4);refine Vn (M:=⟨b,({x with cuts:=pc.arr,feeder:=⟨pp.arr,qq.arr,x.feeder.reply⟩,log:=q.arr}:XSta).cells,54⟩ :: (q.L 150 XEntry.cells ++ (pc.L 71 XCut.cells ++ L))) zi ztb ?_;apply qay∘qah∘qaf;refine q_c ?_ ?_<;>intro hc1;·
  apply qay∘Xc2;refine Jy rfl (Jza {x with cuts:=pc.arr,feeder:=⟨pp.arr,qq.arr,x.feeder.reply⟩} q b 2 s 0 _ _ hqk (by rw [hq0];exact (hI.note _ _ _).log)) rfl ?_;rintro v M U ⟨q2,hq2k,hq2l,rfl,rfl⟩;apply (qav);refine K5a (M:=⟨b,({x with cuts:=pc.arr,feeder:=⟨pp.arr,qq.arr,x.feeder.reply⟩,log:=q2.arr}:XSta).cells,54⟩ :: (q2.L 150 XEntry.cells ++ (pc.L 71 XCut.cells ++ L))) (U:=[isl qq.arr,Vcb pp.arr] ++ R) (Ynf rfl) ?hp ?hL ?hR;case hp=>(have e:Vfb g p z=Zg { Zg p 1 z (p.cuts.getD z.toNat default).reason with sw:=U5 p.sw s p.time } 2 s 0:=by rw [Vfb,hzs,hsy,if_pos hc1]);exact ⟨⟨pp.arr,qq.arr,x.feeder.reply⟩,q2,[isl qq.arr,Vcb pp.arr],hq2k,by rw [e];exact { hx with sw:=hpp,zn:=hqql.trans hzn,log:=by show q2.l=_;rw [hq2l,hq0,htm];rfl },hfR,rfl,rfl⟩
  case hL=>exact zi
  case hR=>exact Jd _
 refine Ka ?_;refine K5a (M:=⟨b,({x with cuts:=pc.arr,feeder:=⟨pp.arr,qq.arr,x.feeder.reply⟩,log:=q.arr}:XSta).cells,54⟩ :: (q.L 150 XEntry.cells ++ (pc.L 71 XCut.cells ++ L))) (U:=[isl qq.arr,Vcb pp.arr] ++ R) (Ynf rfl) ?hp ?hL ?hR;case hp=>
  have e:Vfb g p z={ Zg p 1 z (p.cuts.getD z.toNat default).reason with sw:=U5 p.sw s p.time }:=by rw [Vfb,hzs,hsy,if_neg (by rw [hc1];decide)]
  exact ⟨⟨pp.arr,qq.arr,x.feeder.reply⟩,q,[isl qq.arr,Vcb pp.arr],hqk,by rw [e];exact { hx with sw:=hpp,zn:=hqql.trans hzn,log:=hq0 },hfR,rfl,rfl⟩
 case hL=>exact zi
 case hR=>exact Jd _
end
end Go.Proofs.YtchfclmokpbldaaGreat
