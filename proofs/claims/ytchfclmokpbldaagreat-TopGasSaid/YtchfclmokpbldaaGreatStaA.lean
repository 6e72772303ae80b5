/-
  Merged texts. By an AI agent.
-/
import Derived.Test.YtchfclmokpbldaaGreatSiteD
import Derived.Test.YtchfclmokpbldaaGreatFits
import Derived.Test.YtchfclmokpbldaaGreatAppR
import Derived.Test.YtchfclmokpbldaaGreatStatM
set_option linter.all false
set_option maxHeartbeats 4000000
set_option maxRecDepth 20000
namespace Go.Proofs.YtchfclmokpbldaaGreat
open Go.Aw Go
section
def Zjd {P : Program} {ρ : Operand → Value} {L : LB} {R : LS} {dst : Option Tmp} {ty : TypeId} {pos : String} {after : Array Edge} {guard : Option (Nat × Bool)} (tb : Tabs P) {T : TypeId} {x y : Operand} {k : IntKind} {len cap m : Nat} {h : Int} {ar : Option Addr} {e n1 fl bt z k2 n2 fl2 bt2 z2}
 (hT:Yy tb.tab T=some ⟨.slice e,n1,fl,bt,z⟩) (hE:Yy tb.tab e=some ⟨k2,n2,fl2,bt2,z2⟩) (hx:ρ x=.slice ar len cap) (hy:ρ y=.int k h) (hh:h=(m:Int)) (h1:1≤m) (hn:m≤len):
 YV P ⟨dst,.slice T x (some y) none none,ty,pos,after,guard⟩ ρ L R (.slice (if cap=m then ar else ar.map (·.add (m * n2))) (len - m) (cap - m)):=fun _ w _=>by
 have hu:=Vp (tb.ok _ _ hT) rfl
 have he:P.elem T=e:=by simp [Program.elem,hu]
 have hu':P.underlying T=some (.slice (P.elem T)):=by rw [he];exact hu
 have hs:=Go.Aw.run_sizeOf (tb.ok _ _ hE) w
 simp only at hs
 subst hh
 have h1:=run_slice_l (P:=P) w T ar len cap hu' k (m:Int) za za
 rw [he,hs,yE,yw] at h1
 simp [execOp,hx,hy,run_sliceAt_slice w T _ _ _ _ hu',h1,sliced]
def Y4c {w:World} {G:Nat→Prop} {wd len cap m:Nat} {a:Option Addr} {rows:List (List Value)} {subs:LS} (h:Rep w G (.mk wd a len cap rows subs)) (h1:1≤m) (hk:m≤len) (hp:0 < wd):Rep w G (.mk wd (if cap=m then a else a.map (·.add (m * wd))) (len - m) (cap - m) (rows.drop m) subs):=by
 cases h with
 | mk hl hc hm hw hr hs=>
  refine .mk zE za za (fun r hr=>hw r (ywa hr)) ?_ hs;rcases yk m len with h2 | h2;·
   rcases hr with h0 | ⟨b, off, ha, hg, J1b⟩;·exact .inl (by rw [h0];simp)
   ·have hmw : 0 < m * wd := Nat.mul_pos h1 hp;refine .inr ⟨b,off + m * wd,by rw [if_neg za,ha,yRa,Addr.add,if_neg za],hg,fun i j hi hj=>?_⟩;have:=J1b (i + m) j za hj;(have e:off + m * wd + i * wd + j=off + (i + m) * wd + j:=by rw [yIb];omega);rw [List.getElem?_drop,yZb m i,← this,e]
  ·exact .inl (yjb za)
abbrev Zi {α:Type} (y:Arr α) (m wd:Nat):Arr α:=⟨if y.cap=m then y.a else y.a.map (·.add (m * wd)),y.cap - m,y.l.drop m⟩
abbrev Jpc {α:Type} (y:Arr α) (m:Nat):Arr α:=⟨y.a,y.cap,y.l.take m⟩
def Kfb {α:Type} {P n code t L R} {Q:Kw} {wd m:Nat} {f:α→List Value} {subs:LS} {y:Arr α} (hR:InR (y.sl wd f subs) R) (h1:1≤m) (hk:m≤y.l.length) (hp:0 < wd) (h:CJ P n code t L ((Zi y m wd).sl wd f subs :: R) Q):CJ P n code t L R Q:=by
 refine U3d (s:=(Zi y m wd).sl wd f subs) (fun w G hh=>?_) h;obtain ⟨r,hr,hs⟩:=hR;have h2:=Y4c ((hh r hr).sub hs) h1 hk hp;have e1:y.l.length - m=(y.l.drop m).length:=by rw [yV]
 have e2:(y.l.map f).drop m=(y.l.drop m).map f:=by rw [List.map_drop]
 rw [e1,e2] at h2;exact h2
section
variable {P:Program} {ρ:Operand→Value} {L:LB} {R:LS} {dst:Option Tmp} {ty:TypeId} {pos:String} {after:Array Edge} {guard:Option (Nat×Bool)} (tb:Tabs P) {T:TypeId} {x y:Operand}
def Vke {α:Type} {f:α→List Value} {xs:Arr α} {n2:Nat} {subs:LS} (hR:InR (xs.sl n2 f subs) R) (h0:0 < n2) (hx0:0 < xs.l.length) {c:Ctx} {w:World} (hst:St c L R w):Jge L R xs.val xs.l.length n2 (xs.l.flatMap f):=by
 obtain ⟨ar,cap,l⟩:=xs;dsimp only at hR hx0 ⊢;have hw:∀r∈l.map f,r.length=n2:=by
  have hst':=hst;obtain ⟨⟨G,hh,_⟩,_,_⟩:=hst';obtain ⟨r,hr,hsub⟩:=hR;have hrep:=(hh.rep r hr).sub hsub;cases hrep with
  | mk _ _ _ hw _ _=>exact hw
 have hf0:(l.map f).flatten=l.flatMap f:=Kcb _;have hfl:(l.map f).flatten.length=l.length * n2:=by rw [Vud hw,yD]
 have hsx:=Vhd (L:=L) hR h0 (fun c w hst=>by
  obtain ⟨⟨G,hh,_⟩,_,_⟩:=hst;obtain ⟨r,hr,hsub⟩:=hR;have hrep:=(hh.rep r hr).sub hsub;cases hrep with
  | mk _ _ _ _ hm _=>
   rcases hm with h | ⟨b,off,ha,_⟩;·have h' := congrArg List.length h;simp at h';rw [h'] at hx0;simp at hx0
   ·exact ⟨b,off,ha⟩) hfl ⟨c,w,hst⟩
 rw [hf0] at hsx;exact hsx
def V7a {α : Type} {e n fl bt z k2 n2 fl2 bt2 z2} {f : α → List Value} (p : OwL α) (xs : Arr α) {subs : LS} {F : OwL α → LB} (hT : Yy tb.tab T = some ⟨.slice e, n, fl, bt, z⟩) (hE : Yy tb.tab e = some ⟨k2, n2, fl2, bt2, z2⟩) (hn2 : z2.length = n2) (h0 : 0 < n2)
 (hx:ρ x=p.val) (hy:ρ y=xs.val) (hok:p.ok n2 f) (hR:InR (xs.sl n2 f subs) R) (hseg:OSeg e f p L F) (h1:∀x,(f x).all (·.oneCell')=true) (hby:(p.l.length + xs.l.length) * (bt2 + 1)≤140737488355328):
 Gives P ⟨dst,.call ⟨.builtin .append,#[x,y],#[T,T]⟩,ty,pos,after,guard⟩ ρ L R (fun v U J=>∃o:Ow,v=(⟨o,p.l ++ xs.l⟩:OwL α).val∧(⟨o,p.l ++ xs.l⟩:OwL α).ok n2 f∧F ⟨o,p.l ++ xs.l⟩=U∧R=J):=by
 obtain ⟨A,B,hL,hF⟩:=hseg.split;intro c w hst ac next Q kk
 have hb1:(p.l.length + xs.l.length) * bt2≤140737488355328:=ysa (ySb _ (Nat.le_succ _)) hby;have hb2:p.l.length + xs.l.length≤140737488355328:=ysa (yxb _ (Nat.succ_pos _)) hby;have hx':ρ x=p.o.val p.l.length:=by rw [hx,Ow.val_of_ok hok];rfl
 rcases yac xs.l.length with hz | hz;·
  have hnil : xs.l = [] := yha hz;have hy':ρ y=.slice xs.a 0 xs.cap:=by rw [hy,Arr.val,hz]
  have hsame:F p=L:=by rw [hF,hL]
  cases ho:p.o with
  | nil=>
   have hu:=Vp (tb.ok _ _ hT) rfl;obtain ⟨ti,u,zv,i1,i2,i3,i4⟩:=Vb (tb.ok _ _ hE);(have e1:execOp ρ ⟨dst,.call ⟨.builtin .append,#[x,y],#[T,T]⟩,ty,pos,after,guard⟩=(do pure (.value (← Builtin.append_ #[T,T] ty #[ρ x,ρ y]))):=by exact ube);have hr:=Zca w T ty e ti hu i1 xs.a xs.cap;(have hpl:p.l=[]:=by have hok':=hok;rw [OwL.ok,ho] at hok';exact yha hok'.1);(have hxn:ρ x=.slice none 0 0:=by rw [hx,OwL.val,ho,hpl];rfl);refine V9 (w':=w) (v:=.slice none 0 0) ?_ (kk _ _ _ w ⟨.nil,by rw [hnil,hpl];rfl,by rw [hnil,hpl];exact ⟨rfl,rfl⟩,?_,rfl⟩ hst);·rw [e1, hxn, hy'];simp only [yea,hr,yE,yCa]
   ·rw [← hsame,hnil,yaa,← ho]
  | own g cap spare=>(have hcap:p.l.length≤cap:=by have hok':=hok;rw [OwL.ok,ho] at hok';exact hok'.2.1);(have hxo:ρ x=.slice (some ⟨g,0,none⟩) p.l.length cap:=by rw [hx,OwL.val,ho];rfl);(refine V4c (L:=L) (R:=R) (dst:=dst) (ty:=ty) (pos:=pos) (after:=after) (guard:=guard) tb hT hE hxo hy' hcap c w hst ac next Q ?_);rintro v U J w' ⟨rfl,rfl,rfl⟩ hst';rw [hnil,yaa] at kk;exact kk _ _ _ w' ⟨p.o,by rw [OwL.val,ho];rfl,hok,hsame,rfl⟩ hst'
 ·
  have hsh := Vke (L := L) hR h0 hz hst;rw [← hy] at hsh;subst hL;refine Yva (dst:=dst) (ty:=ty) (pos:=pos) (after:=after) (guard:=guard) tb hT hE hn2 hx' hok (J6e A _ B) hsh hz (Yid h1 _) za hb1 c w hst ac next Q ?_
  rintro v U J w' ⟨g,cap,spare,rfl,hok',rfl,rfl⟩ hst';have e:p.l.flatMap f ++ xs.l.flatMap f=(p.l ++ xs.l).flatMap f:=by simp
  rw [e] at hok';have hl:(p.l ++ xs.l).length=p.l.length + xs.l.length:=by simp
  exact uaJ
end
end
section
section
variable {P:Program} {ρ:Operand→Value} {L:LB} {R:LS} {dst:Option Tmp} {ty:TypeId} {pos:String} {after:Array Edge} {guard:Option (Nat×Bool)} (tb:Tabs P) {T:TypeId} {x y z:Operand}
def Ywb {α:Type} {u:Arr α} {m wd:Nat} {h:Int} {k:IntKind} {e n1 fl bt z k2 n2 fl2 bt2 z2} (hT:Yy tb.tab T=some ⟨.slice e,n1,fl,bt,z⟩) (hE:Yy tb.tab e=some ⟨k2,n2,fl2,bt2,z2⟩) (hx:ρ x=u.val) (hy:ρ y=.int k h) (hh:h=(m:Int)) (h1:1≤m) (hn:m≤u.l.length) (hw:n2=wd):
 YV P ⟨dst,.slice T x (some y) none none,ty,pos,after,guard⟩ ρ L R (Zi u m wd).val:=by have h2:=Zjd (ρ:=ρ) (L:=L) (R:=R) (dst:=dst) (ty:=ty) (pos:=pos) (after:=after) (guard:=guard) tb hT hE hx hy hh h1 hn;subst hw;rw [Arr.val,yV];exact h2
def K6e {α:Type} {u:Arr α} {m q wd:Nat} {h l:Int} {k k3:IntKind} {e n1 fl bt zz k2 n2 fl2 bt2 z2} (hT:Yy tb.tab T=some ⟨.slice e,n1,fl,bt,zz⟩) (hE:Yy tb.tab e=some ⟨k2,n2,fl2,bt2,z2⟩) (hx:ρ x=u.val) (hy:ρ y=.int k l) (hz:ρ z=.int k3 h) (hl:l=(m:Int)) (hh:h=(m:Int) + (q:Int)) (h1:1≤m) (hn:m + q≤u.l.length) (hc:u.l.length≤u.cap) (hw:n2=wd):
 YV P ⟨dst,.slice T x (some y) (some z) none,ty,pos,after,guard⟩ ρ L R (Jpc (Zi u m wd) q).val:=fun _ w _=>by
 subst hw
 subst hl
 have hu:=Vp (tb.ok _ _ hT) rfl
 have he:P.elem T=e:=by simp [Program.elem,hu]
 have hu':P.underlying T=some (.slice (P.elem T)):=by rw [he];exact hu
 have hs:=Go.Aw.run_sizeOf (tb.ok _ _ hE) w
 simp only at hs
 have h3:=run_slice_lh (P:=P) w T u.a u.l.length u.cap hu' k k3 (m:Int) h za za za
 have e1:h.toNat - m=q:=by omega
 have e2:((u.l.drop m).take q).length=q:=by rw [yHa,yV];omega
 rw [he,hs,yE,yw] at h3
 rw [Arr.val,Jpc,Zi,e2]
 simp [execOp,hx,hy,hz,run_sliceAt_slice w T _ _ _ _ hu',h3,sliced,e1]
end
def Kuf {α:Type} {P n code t L R} {Q:Kw} {wd:Nat} {f:α→List Value} {subs:LS} {y:Arr α} (hR:InR (y.sl wd f subs) R) (h:y.l.length≤y.cap→CJ P n code t L R Q):CJ P n code t L R Q:=fun c a w hf hs=>by
 have hcap:y.l.length≤y.cap:=by
  have hst':=hs
  obtain ⟨⟨G,hh,_⟩,_,_⟩:=hst'
  obtain ⟨r,hr,hsub⟩:=hR
  have hrep:=(hh.rep r hr).sub hsub
  cases hrep with
  | mk _ hc _ _ _ _=>exact hc
 exact h hcap c a w hf hs
def Uoe {α:Type} {P n code t L R} {Q:Kw} {wd m:Nat} {f:α→List Value} {subs:LS} {y:Arr α} (q:Nat) (hR:InR (y.sl wd f subs) R) (h1:1≤m) (hk:m≤y.l.length) (hp:0 < wd) (h:CJ P n code t L ((Jpc (Zi y m wd) q).sl wd f subs :: R) Q):CJ P n code t L R Q:=by
 refine Kfb hR h1 hk hp ?_;refine Vjd q zFb ?_;exact Vv ye (fun r hr=>by
  rcases List.mem_cons.1 hr with h | h;·exact Ja (by rw [h];exact .head _)
  ·exact Ja (.tail _ (.tail _ h))) h
end
section
section
variable {A B:Prop}
def Kdg(h:A→B:=by exact Ks zrb rfl rfl rfl):=h
end
def Tri.pperm {P:Program} {f:FuncId} {args:Array Value} {L:LB} {R:LS} {Post Post':Ys} (h:Tri P f args L R Post) (k:∀v U J,Post v U J→∃L'',U.Perm L''∧Post' v L'' J):Tri P f args L R Post':=
 ⟨h.1,fun w G hh=>(h.2 w G hh).mono fun _ _ ⟨v,U,J,e,p,s⟩=>let ⟨L'',hp,p'⟩:=k v U J p;⟨v,L'',J,e,p',s.perm hp⟩⟩
attribute [local irreducible] CJ LJ DJ Tri YV Gives Uq J2 Kj Ut RV J3 OwL.L
def Jua (x:XSta) (pl:OwL XEntry) (b:Nat) (k z u:Int) (L:LB) (R:LS) (hk:pl.ok 4 XEntry.cells) (hn:pl.l.length≤400):
 Tri Tryz.prog 85 [.pointer (some ⟨b, 0, none⟩), .int .i64 k, .int .i64 z, .int .i64 u].toArray (⟨b, ({x with log := pl.arr} : XSta).cells, 54⟩ :: (pl.L 150 XEntry.cells ++ L)) R
  (fun v U J=>∃q:OwL XEntry,q.ok 4 XEntry.cells∧q.l=J2b pl.l ⟨x.time,k,z,u⟩∧⟨b,({x with log:=q.arr}:XSta).cells,54⟩ :: (q.L 150 XEntry.cells ++ L)=U∧R=J):=by
 refine Tri.pperm (Post:=fun v U J=>∃q:OwL XEntry,q.ok 4 XEntry.cells∧q.l=J2b pl.l ⟨x.time,k,z,u⟩∧(⟨b,({x with log:=q.arr}:XSta).cells,54⟩ :: (q.L 150 XEntry.cells ++ L)=U∨q.L 150 XEntry.cells ++ (⟨b,({x with log:=q.arr}:XSta).cells,54⟩ :: L)=U)∧R=J) ?_ (fun v U J ⟨q,h1,h2,h3,h4⟩=>⟨_,by
  rcases h3 with rfl | rfl;·exact yua _
  ·exact yfb,q,h1,h2,rfl,h4⟩)
 refine Je 44 Tryz.call85 Tryz.func85 rfl rfl rfl ?_;refine Jq ?_;refine J7 tb [9] [0,1,2,3,4,5,6,7,8,9,10,11,12,13] [14,15,16,17] (_) _ Ko zc zi yd ?_;refine Vd (Jz zNb) rfl rfl rfl rfl ?_;apply (qb3);refine Ku zQb rfl rfl rfl rfl ?_;apply Xak∘qb3;refine Ku zQb rfl rfl rfl rfl ?_;apply (Xak);iterate 3 apply (qbf)
 refine Ku (J8 (qs:=[(0,(Value.int _ _).cells.toList),(1,(Value.int _ _).cells.toList),(2,(Value.int _ _).cells.toList),(3,(Value.int _ _).cells.toList)]) (out:=[_,_,_,_]) tb rfl rfl rfl rfl) rfl rfl rfl rfl ?_;refine Joc zBb rfl rfl rfl ?_;rintro v U J ⟨b22,rfl,rfl,hR22⟩;replace hR22:=hR22.symm;subst hR22;apply (Xcd);refine Jzb (Jy (f:=XEntry.cells) (p:=pl) (a:=⟨x.time,k,z,u⟩) tb rfl rfl rfl rfl (hk) zj zwb rfl zy) rfl rfl rfl ?_;rintro v U J ⟨o23,rfl,hok23,rfl,rfl⟩;apply qa1∘qcb∘Xb1∘qb9;have hql:(⟨o23,pl.l ++ [⟨x.time,k,z,u⟩]⟩:OwL XEntry).l.length=pl.l.length + 1:=by simp
 have hqe:(pl.l ++ [(⟨x.time,k,z,u⟩:XEntry)]).length=pl.l.length + 1:=by simp
 apply qay∘qa6;refine Jw zQb rfl ?_;apply Xab∘qa9∘Xau∘Xb6;refine q_c ?_ ?_<;>intro hc0;·
  obtain ⟨p1,hp1⟩:∃p1:OwL XEntry,p1=⟨o23,pl.l ++ [⟨x.time,k,z,u⟩]⟩:=⟨_,rfl⟩;have hpl2:(pl.l ++ [(⟨x.time,k,z,u⟩:XEntry)]).length=p1.l.length:=by rw [hp1]
  rw [← hp1] at hok23 hql ⊢;refine Kp (T:=150) (f:=XEntry.cells) (wd:=4) p1 [] zj yf ze hok23 yg ?_;refine U2 zq ?_;refine Kfb (y:=p1.arr) (m:=p1.l.length - 400) zFb za (by show p1.l.length - 400≤p1.l.length;omega) ze ?_;have hdn:(Zi p1.arr (p1.l.length - 400) 4).l.length≤1000:=by show (p1.l.drop _).length≤_;rw [yV];omega
  apply qay∘qa6∘qa6;refine Jw zQb rfl ?_;apply (Xah);refine Jw (Ywb (m:=p1.l.length - 400) (wd:=4) (u:=p1.arr) tb rfl rfl rfl rfl za za (by show p1.l.length - 400≤p1.l.length;omega) rfl) rfl ?_;refine Za (Kt (f:=XEntry.cells) (xs:=Zi p1.arr (p1.l.length - 400) 4) tb rfl rfl rfl ze rfl rfl ((Ja (.head _))) yf za) rfl ?_;rintro v U J ⟨o41,rfl,hok41,rfl,rfl⟩;refine Jw zQb rfl ?_;apply Xbo∘qav;refine Joa (U:=(⟨o41,p1.l.drop (p1.l.length - 400)⟩:OwL XEntry).L 150 XEntry.cells ++ (⟨b,({x with log:=(⟨o41,p1.l.drop (p1.l.length - 400)⟩:OwL XEntry).arr}:XSta).cells,54⟩ :: L)) (J:=R) (Y6f rfl) ?hp ?hL ?hR;case hp=>exact ⟨⟨o41,p1.l.drop (p1.l.length - 400)⟩,hok41,by show p1.l.drop _=_;rw [J2b,hql,hp1],.inr rfl,rfl⟩
  case hL=>exact zi
  case hR=>exact fun r hr=>Ja (.tail _ (.tail _ hr))
 refine J5 ?_;refine Joa (U:=⟨b,({x with log:=(⟨o23,pl.l ++ [⟨x.time,k,z,u⟩]⟩:OwL XEntry).arr}:XSta).cells,54⟩ :: ((⟨o23,pl.l ++ [⟨x.time,k,z,u⟩]⟩:OwL XEntry).L 150 XEntry.cells ++ L)) (J:=R) (Y6f rfl) ?hp ?hL ?hR;case hp=>exact ⟨⟨o23,pl.l ++ [⟨x.time,k,z,u⟩]⟩,hok23,by rw [J2b,show pl.l.length + 1 - 400=0 by omega,ysb],.inl rfl,rfl⟩
 case hL=>exact zi
 case hR=>exact Jc _
def StaIs.note {g:PSite} {p:PSta} {x:XSta} (h:StaIs g p x) {l:Arr XEntry} {k z u:Int} (hl:l.l=J2b x.log.l ⟨x.time,k,z,u⟩):StaIs g (Jma p k z u) ({x with log:=l}:XSta):={ h with log:=by rw [Jma,← h.log,← h.time];exact hl }
def K6a (x:XSta) (t:Int) (L:LB) (R:LS):
 Tri Tryz.prog 81 [x.val,.int .i64 t].toArray L R (fun v U J=>v=.bool (decide (t < x.time∨2147483648 < t))∧L=U∧R=J):=by
 refine Je 13 Tryz.call81 Tryz.func81 rfl rfl rfl ?_;apply (Xaf);intro b2;apply qaz∘Xc8∘Xbm;apply Kf (G:=[_,_]) (j:=4) (cj:=9) rfl rfl zb rfl zmb rfl;·intro hg5;replace hg5:=qb hg5;exact (Xcn) qai
 intro junk5;apply (Xbs);refine q_b L R ?_;exact ya
def Kee (x:XSwitch):Bool:=!x.closed || decide (x.shown= -1)
def Z5b {l:List Int} {f:Int→Bool} (h:∀j:Nat,j < l.length→f (l.getD j 0)=false):l.any f=false:=by rw [List.any_eq_false];intro y hy;obtain ⟨j,hj,rfl⟩:=yza hy;have:=h j hj;rw [yi,yB hj] at this;rw [show (some l[j]).getD 0=l[j] from rfl] at this;rw [this];decide
def Jbf (f:XFeeder) (z:Int) (L:LB) (R:LS) (hf:FeederR f R) (hfe:feedE f.switches.l f.zones.l f.reply=0) (hz:0≤z∧z < f.zones.l.length):
 Tri Tryz.prog 159 [f.val,.int .i64 z].toArray L R (fun v U J=>v=.bool ((Y9a f.switches.l f.zones.l f.reply (f.zones.l.getD z.toNat 0)).any fun k=>Kee (f.switches.l.getD k.toNat default))∧L=U∧R=J):=by
 have hsR:=hf.sw;have hzR:=hf.zn;have hzg:=Jp (l:=f.zones.l) (k:=z.toNat) 0 za;refine Je 34 Tryz.call159 Tryz.func159 rfl rfl rfl ?_;apply (Xaf);intro b2;apply qaz∘qco;refine Ke tb [0,1,2,3,4,5,8,6,7] _ Ko zc ye ?_;apply Kdg∘Xby;refine Ks zxa rfl rfl rfl ?_;apply qbl∘qao;refine Vo rfl (U6c f (f.zones.l.getD z.toNat 0) _ _ hf) rfl rfl ?_;rintro v U J ⟨q,rfl,hqk,hql,rfl,rfl⟩;refine ⟨zi,zt,?_⟩;refine Ks zPb rfl rfl rfl ?_;refine J1 (Jb (Ki ?_));refine Jm [(2,.pointer _),(14,.slice _ _ _),(15,.int _ _),(16,.int _ _)] zh fun tq0=>?_;have hqm:∀y∈q.l,0≤y∧y < f.switches.l.length:=fun y hy=>by have:=Yub (sw:=f.switches.l) (zn:=f.zones.l) (rp:=f.reply) (s:=f.zones.l.getD z.toNat 0) (x:=y) (by rw [← hql];exact hy);omega
 refine Kp (T:=3) (f:=Jj) (wd:=1) q [] zj yf ze hqk yg ?_;refine U2 zq ?_;have hqR:InR (isl q.arr) (isl q.arr :: R):=Ja (.head _);have hqn:q.l.length≤32:=by rw [hql];exact Yec
 have hsR2:=hsR.mono fun r hr=>Ja (R:=isl q.arr :: R) (.tail _ hr);refine q_s ([4,6,7]++rg 16 18) (fun g:{k:Nat // k≤q.l.length∧∀j:Nat,j < k→Kee (f.switches.l.getD (q.l.getD j 0).toNat default)=false}=>[(16,.int .i64 ((g.1:Nat):Int))]) (fun g=>q.l.length - g.1) (⟨0,by omega,fun j hj=>by omega⟩) ?_;rintro ⟨k,hk,hal⟩ junk;try dsimp only
 apply (Xaj);refine q_c ?_ ?_<;>intro hc0;·
  have hqg:=Jp (l:=q.l) (k:=k) 0 za;have hqr:=hqm _ (yh hqg);have hsg:=Jp (l:=f.switches.l) (k:=(q.l.getD k 0).toNat) default za;apply (qbb);refine Jw zD rfl ?_;apply qa7∘Xag∘Xah;refine Jw zcb rfl ?_;apply qdw∘qaq;intro b7;apply Xb9∘Xcm;apply Kf (G:=[_,_,_]) (j:=3) (cj:=28) rfl rfl zb rfl zmb rfl;·exact zJd
  intro junk4;apply (qaf);refine q_c ?_ ?_<;>intro hc1;·
   apply Xbt∘qbt;refine K2 (U:=L) (J:=R) (Vs rfl zTc) ?hp ?hL ?hR;case hp=>exact ⟨by rw [← hql,List.any_eq_true.2 ⟨_,yh hqg,by rw [Kee];simpa using hc1⟩],rfl,rfl⟩
   case hL=>exact zi
   case hR=>exact fun r hr=>Ja (.tail _ hr)
  apply (Xaw);exact Ka ⟨k + 1,by omega,fun j hj=>by
  rcases yk j k with h | h;·exact hal j h
  ·(obtain rfl : j = k := by omega);rw [Kee];simpa using hc1⟩ zm zh zi zAb zx
 apply qbk∘Xbs;refine K2 (U:=L) (J:=R) (Vs rfl zTc) ?hp ?hL ?hR;case hp=>exact ⟨by rw [← hql,Z5b fun j hj=>hal j za],rfl,rfl⟩
 case hL=>exact zi
 case hR=>exact fun r hr=>Ja (.tail _ hr)
def Vqe (g:PSite) (p:PSta) (x:XSta) (pc:OwL XCut) (pl:OwL XEntry) (b:Nat) (z:Int) (L:LB) (R:LS) (hI:Inv g p) (hx:StaIs g p ({x with cuts:=pc.arr,log:=pl.arr}:XSta)) (hf:FeederR x.feeder R) (hck:pc.ok 3 XCut.cells) (hlk:pl.ok 4 XEntry.cells) (hz:0≤z∧z < p.cuts.length):
 Tri Tryz.prog 156 [.pointer (some ⟨b, 0, none⟩), .int .i64 z].toArray (⟨b, ({x with cuts := pc.arr, log := pl.arr} : XSta).cells, 54⟩ :: (pl.L 150 XEntry.cells ++ (pc.L 71 XCut.cells ++ L))) R
  (fun v U J=>∃(f:XFeeder) (q:OwL XEntry) (S:LS),q.ok 4 XEntry.cells∧StaIs g (Jcd g p z) ({x with cuts:=pc.arr,feeder:=f,log:=q.arr}:XSta)∧FeederR f (S ++ R)∧⟨b,({x with cuts:=pc.arr,feeder:=f,log:=q.arr}:XSta).cells,54⟩ :: (q.L 150 XEntry.cells ++ (pc.L 71 XCut.cells ++ L))=U∧S ++ R=J):=by
 have hcl:pc.l=p.cuts:=hx.cuts;have hll:pl.l=p.log:=hx.log;have hln:=hI.log;have hzn:x.feeder.zones.l=g.zn:=hx.zn;have hsw:x.feeder.switches.l=p.sw:=hx.sw;have hrp:x.feeder.reply=g.rp:=hx.rp;have htm:x.time=p.time:=hx.time;have hzl:=hI.zlen;have hcl2:=hI.clen;have hfo:=hI.fok;have hcb:z.toNat < pc.l.length:=by rw [hcl];omega
 have hzb:z.toNat < x.feeder.zones.l.length:=by rw [hzn];omega
 have hcg:=Jp (l:=pc.l) (k:=z.toNat) default hcb;have hzg:=Jp (l:=x.feeder.zones.l) (k:=z.toNat) 0 hzb;have hzr:=hfo.zr z.toNat za;rw [← hzn,← hsw] at hzr;obtain ⟨s,hs⟩:∃s,s=x.feeder.zones.l.getD z.toNat 0:=⟨_,rfl⟩;rw [← hs] at hzg hzr;have hsg:=Jp (l:=x.feeder.switches.l) (k:=s.toNat) default za;obtain ⟨y,hy⟩:∃y,y=x.feeder.switches.l.getD s.toNat default:=⟨_,rfl⟩;rw [← hy] at hsg;obtain ⟨c,hc⟩:∃c,c=pc.l.getD z.toNat default:=⟨_,rfl⟩;rw [← hc] at hcg;have hcan:Urc x.feeder.switches.l x.feeder.zones.l x.feeder.reply s x.time=0:=by rw [hzn,hsw,hrp,htm,Urc,if_neg (by rw [hI.fe];decide),if_neg (by rw [hsw] at hzr;omega),if_pos hI.tok]
 have hsR:=hf.sw;have hzR:=hf.zn;dsimp only [XSta.cells];refine Je 59 Tryz.call156 Tryz.func156 rfl rfl rfl ?_;apply qae∘Xco∘qa6;refine Jw zQb rfl ?_;apply (Xah);refine Jw (Jo tb (pc) _ rfl rfl rfl rfl zg (i:=z.toNat) zk zp) rfl ?_;apply (qb0);refine Jw (J4 tb (pc) rfl rfl rfl zj zg yf zg zb) rfl ?_;refine Jv rfl (Jua {x with cuts:=pc.arr} pl b 1 z c.reason _ _ hlk (by rw [hll];exact hln)) rfl ?_;rintro v U J ⟨q,hqk,hql,rfl,rfl⟩;dsimp only [XSta.cells];apply qam∘qa6;refine Jw zQb rfl ?_;apply qab∘Xah;refine Jw zxa rfl ?_;apply qa7∘Xag∘qa6;refine Jw zQb rfl ?_;apply qab∘Xah;refine Jw zNa rfl ?_;apply Xbc∘qaz∘qa4;refine Ke tb [0,1,2,3,4,5,6,7,8,9,10,11,12,13,14,15] _ Ko zc ye ?_;apply Xbn∘qal∘Kdg∘qao∘Xc9;refine Vo rfl (U4b x.feeder s x.time _ _ hf) rfl rfl ?_;rintro v U J ⟨pp,qq,rp,rfl,⟨hppk,hqqk⟩,hop,rfl,rfl⟩;refine ⟨zi,zt,?_⟩;refine Ks zRb rfl rfl rfl ?_;refine Ks zXb rfl rfl rfl ?_;refine Ks zXb rfl rfl rfl ?_;apply (qbr);intro b6;apply Xdf∘qc6∘qaa∘Xat;refine q_c ?_ ?_<;>intro hc0;·exact absurd hcan hc0
 obtain ⟨hppl,hqql,rfl⟩:=hop hcan;refine Kp (T:=76) (f:=XSwitch.cells) (wd:=5) pp [] zj yf ze hppk yg ?_;refine U2 zq ?_;refine Kp (T:=3) (f:=Jj) (wd:=1) qq [] zj yf ze hqqk yg ?_;refine U2 zq ?_;have hfR:FeederR ⟨pp.arr,qq.arr,x.feeder.reply⟩ ([isl qq.arr,Zeb pp.arr] ++ R):=⟨Ja (.tail _ (.head _)),Ja (.head _)⟩;have hq0:q.l=(Jma p 1 z (p.cuts.getD z.toNat default).reason).log:=by rw [hql,Jma,← hll,← hcl,← hc,← htm]
 have hzs:g.zn.getD z.toNat 0=s:=by rw [hs,hzn]
 have hsy:p.sw.getD s.toNat default=y:=by rw [hy,hsw]
 have hpp:pp.l=Ye p.sw s p.time:=by rw [hppl,hsw,htm]
 apply qbv∘qa6;refine Jw zrb rfl ?_;refine Jw zQb rfl ?_;apply (qab);refine Kua tb rfl rfl rfl rfl zC zb zb zb ?_;apply (qa4);refine Vv (U:=⟨b,({x with cuts:=pc.arr,feeder:=⟨pp.arr,qq.arr,x.feeder.reply⟩,log:=q.arr}:XSta).cells,54⟩ :: (q.L 150 XEntry.cells ++ (pc.L 71 XCut.cells ++ L))) zi zAb ?_;apply qay∘Xds;refine q_c ?_ ?_<;>intro hc1;·
  apply qay∘Xco;refine Jv rfl (Jua {x with cuts:=pc.arr,feeder:=⟨pp.arr,qq.arr,x.feeder.reply⟩} q b 2 s 0 _ _ hqk (by rw [hq0];exact (hI.note _ _ _).log)) rfl ?_;rintro v U J ⟨q2,hq2k,hq2l,rfl,rfl⟩;apply (qav);refine Joa (U:=⟨b,({x with cuts:=pc.arr,feeder:=⟨pp.arr,qq.arr,x.feeder.reply⟩,log:=q2.arr}:XSta).cells,54⟩ :: (q2.L 150 XEntry.cells ++ (pc.L 71 XCut.cells ++ L))) (J:=[isl qq.arr,Zeb pp.arr] ++ R) (Y6f rfl) ?hp ?hL ?hR;case hp=>(have e:Jcd g p z=Jma { Jma p 1 z (p.cuts.getD z.toNat default).reason with sw:=Ye p.sw s p.time } 2 s 0:=by rw [Jcd,hzs,hsy,if_pos hc1]);exact ⟨⟨pp.arr,qq.arr,x.feeder.reply⟩,q2,[isl qq.arr,Zeb pp.arr],hq2k,by rw [e];exact { hx with sw:=hpp,zn:=hqql.trans hzn,log:=by show q2.l=_;rw [hq2l,hq0,htm];rfl },hfR,rfl,rfl⟩
  case hL=>exact zi
  case hR=>exact Jc _
 refine J5 ?_;refine Joa (U:=⟨b,({x with cuts:=pc.arr,feeder:=⟨pp.arr,qq.arr,x.feeder.reply⟩,log:=q.arr}:XSta).cells,54⟩ :: (q.L 150 XEntry.cells ++ (pc.L 71 XCut.cells ++ L))) (J:=[isl qq.arr,Zeb pp.arr] ++ R) (Y6f rfl) ?hp ?hL ?hR;case hp=>
  have e:Jcd g p z={ Jma p 1 z (p.cuts.getD z.toNat default).reason with sw:=Ye p.sw s p.time }:=by rw [Jcd,hzs,hsy,if_neg (by rw [hc1];decide)]
  exact ⟨⟨pp.arr,qq.arr,x.feeder.reply⟩,q,[isl qq.arr,Zeb pp.arr],hqk,by rw [e];exact { hx with sw:=hpp,zn:=hqql.trans hzn,log:=hq0 },hfR,rfl,rfl⟩
 case hL=>exact zi
 case hR=>exact Jc _
end
end Go.Proofs.YtchfclmokpbldaaGreat
