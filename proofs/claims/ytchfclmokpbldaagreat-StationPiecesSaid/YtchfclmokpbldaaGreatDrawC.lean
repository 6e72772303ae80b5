/-
  Merged texts. By an AI agent.
-/
import Derived.Test.YtchfclmokpbldaaGreatData
import Derived.Test.YtchfclmokpbldaaGreatOwn
import Derived.Test.YtchfclmokpbldaaGreatRuleD
import Derived.Test.YtchfclmokpbldaaGreatWinR
set_option linter.all false
set_option maxHeartbeats 4000000
set_option maxRecDepth 20000
namespace Go.Proofs.YtchfclmokpbldaaGreat
open Go.Aw Go
section
def Ykb {P:Program} (w:World) (t ty e:TypeId) (i:TypeInfo) (ht:P.underlying t=some (.slice e)) (hi:P.info? e=some i) (b off sLen sCap:Nat) (a:Option Addr) (c:Nat) (hl:sLen≤sCap):
 (Builtin.append_ #[t,t] ty #[.slice (some ⟨b,off,none⟩) sLen sCap,.slice a 0 c]).run P w=.ok (.slice (some ⟨b,off,none⟩) sLen sCap) w:=by
 have hst:=run_storeCells_cells (P:=P) b (off + sLen * i.size) [] 0 w zo zo zo;cases a with
 | none=>simp [Builtin.append_,run_underlying ht,sizeOf,typeInfo,hi,Builtin.lenOf,hl,Builtin.firstCells,storeCells]
 | some a=>have hf:=run_firstCells_some (P:=P) w i.size 0 a 0 c [] zo zo;simp [Builtin.append_,run_underlying ht,sizeOf,typeInfo,hi,Builtin.lenOf,hl,hf,storeCells]
section
variable {P:Program} {ρ:Operand→Value} {L:LB} {R:LS} {dst:Option Tmp} {ty:TypeId} {pos:String} {after:Array Edge} {guard:Option (Nat×Bool)} (tb:Tabs P) {T:TypeId} {x y:Operand}
def Ksc {e n fl bt z k2 n2 fl2 bt2 z2} {b sLen sCap c:Nat} {ar:Option Addr} (hT:V2 tb.tab T=some ⟨.slice e,n,fl,bt,z⟩) (hE:V2 tb.tab e=some ⟨k2,n2,fl2,bt2,z2⟩) (hx:ρ x=.slice (some ⟨b,0,none⟩) sLen sCap) (hy:ρ y=.slice ar 0 c) (hl:sLen≤sCap):
 Gives P ⟨dst,.call ⟨.builtin .append,#[x,y],#[T,T]⟩,ty,pos,after,guard⟩ ρ L R (fun v M U=>v=.slice (some ⟨b,0,none⟩) sLen sCap∧L=M∧R=U):=by
 intro c1 w hst a next Q kk
 have hu:=U4 (tb.ok _ _ hT) rfl;obtain ⟨ti,u,zv,i1,i2,i3,i4⟩:=Uq (tb.ok _ _ hE);have e1:execOp ρ ⟨dst,.call ⟨.builtin .append,#[x,y],#[T,T]⟩,ty,pos,after,guard⟩=(do pure (.value (← Builtin.append_ #[T,T] ty #[ρ x,ρ y]))):=by exact ua9
 have hr:=Ykb w T ty e ti hu i1 b 0 sLen sCap ar c hl;refine Vt (w':=w) (v:=.slice (some ⟨b,0,none⟩) sLen sCap) ?_ (kk _ _ _ w ⟨rfl,rfl,rfl⟩ hst);rw [e1,hx,hy];simp only [yY,hr,yA,yva]
end
def Uec {α : Type} {f : α → List Value} (h1 : ∀ x, (f x).all (·.oneCell') = true) : ∀ l : List α, (l.flatMap f).all (·.oneCell') = true
 | []=>rfl
 | x :: l=>by rw [yN,List.all_append,h1 x,Uec h1 l];rfl
def K6e {α:Type} {f:α→List Value} {wd:Nat} {T':TypeId} {q:OwL α} {L:LB} {R:LS} (hf:∀x,(f x).length=wd) (hok:q.ok wd f) (hin:InB (q.L T' f) L) (hm:0 < q.l.length):V6c L R q.val q.l.length wd (q.l.flatMap f):=by obtain ⟨g,cap,spare,ho⟩:=OwL.own_of hok hm;refine ⟨⟨g,0,none⟩,cap,by rw [OwL.val,ho];rfl,Ud hf q.l,fun c w hst j u hj=>?_⟩;have hmem:(⟨g,q.l.flatMap f ++ spare,T'⟩:Blk)∈L:=hin _ (by rw [OwL.L,ho];simp [Ow.L]);exact ubp
section
variable {P:Program} {ρ:Operand→Value} {L:LB} {R:LS} {dst:Option Tmp} {ty:TypeId} {pos:String} {after:Array Edge} {guard:Option (Nat×Bool)} (tb:Tabs P) {T:TypeId} {x y:Operand}
def K6c {α : Type} {e n fl bt z k2 n2 fl2 bt2 z2} {f : α → List Value} (p q : OwL α) {T' : TypeId} {F : OwL α → LB} (hT : V2 tb.tab T = some ⟨.slice e, n, fl, bt, z⟩) (hE : V2 tb.tab e = some ⟨k2, n2, fl2, bt2, z2⟩) (hn2 : z2.length = n2)
 (hx:ρ x=p.val) (hy:ρ y=q.val) (hok:p.ok n2 f) (hokq:q.ok n2 f) (hf:∀x,(f x).length=n2) (hseg:OSeg e f p L F) (hB:InB (q.L T' f) L) (hm:0 < q.l.length) (h1:∀x,(f x).all (·.oneCell')=true) (hby:(p.l.length + q.l.length) * (bt2 + 1)≤140737488355328):
 Gives P ⟨dst,.call ⟨.builtin .append,#[x,y],#[T,T]⟩,ty,pos,after,guard⟩ ρ L R (fun v M U=>∃o:Ow,v=(⟨o,p.l ++ q.l⟩:OwL α).val∧(⟨o,p.l ++ q.l⟩:OwL α).ok n2 f∧F ⟨o,p.l ++ q.l⟩=M∧R=U):=by
 have hsh:V6c L R q.val q.l.length n2 (q.l.flatMap f):=K6e hf hokq hB hm;rw [← hy] at hsh;obtain ⟨A,B,hL,hF⟩:=hseg.split;subst hL;have hb1:(p.l.length + q.l.length) * bt2≤140737488355328:=yua (yub _ (Nat.le_succ _)) hby;have hb2:p.l.length + q.l.length≤140737488355328:=yua (yZa _ (yjc _)) hby;have hx':ρ x=p.o.val p.l.length:=by rw [hx,Ow.val_of_ok hok];rfl
 have:=Kya (dst:=dst) (ty:=ty) (pos:=pos) (after:=after) (guard:=guard) tb hT hE hn2 hx' hok (Jgd A _ B) hsh hm (Uec h1 _) za hb1;intro c w hst ac next Q kk
 refine this c w hst ac next Q ?_
 rintro v M U w' ⟨g,cap,spare,rfl,hok',rfl,rfl⟩ hst';have e:p.l.flatMap f ++ q.l.flatMap f=(p.l ++ q.l).flatMap f:=by simp
 rw [e] at hok';have hl:(p.l ++ q.l).length=p.l.length + q.l.length:=by simp
 exact uao
end
def Zhe {γ : Type} (ws : List Nat) (t0 : Nat → Value) (hd : Head γ) (Q : Kt) : Kt
 | .normal,t,L,R=>∃g,Off ws t0 t∧Vta t (hd.slots g)∧(∃L1,L.Perm L1∧(hd.L g).Sublist L1)∧∀r∈hd.R g,InR r R
 | e,t,L,R=>Q e t L R
def Jy {γ:Type} {ws:List Nat} {t0 t:Nat→Value} {L L1:LB} {R:LS} {hd:Head γ} {Q:Kt} (g:γ) (ho:Off ws t0 t) (hs:Vta t (hd.slots g)) (hp:L.Perm L1) (hL:(hd.L g).Sublist L1) (hR:∀r∈hd.R g,InR r R):Zhe ws t0 hd Q .normal t L R:=⟨g,ho,hs,⟨L1,hp,hL⟩,hR⟩
def Ujd {P n code t L M R} {Q:Kt} (hp:L.Perm M) (h:CJ P n code t M R Q):CJ P n code t L R Q:=J9b fun _ _ hst=>⟨_,_,hst.perm hp,h⟩
def Kec {γ:Type} {P n x y t L R} {Q:Kt} (ws:List Nat) (hd:Head γ) (h:CJ P n x t L R (Zhe ws t hd Q)) (k:∀g junk,CJ P n y (updL (havoc ws t junk) (hd.slots g)) (hd.L g) (hd.R g) Q):CJ P n x t L R (Uo P n y Q):=by
 intro c a w hf hs;refine wp_mono (h c a w hf hs) ?_;rintro e a w ⟨hnp,t',M,U,hq,hf',hs'⟩;cases e with
 | normal=>
  obtain ⟨g,ho,hsh,⟨L1,hp,hL⟩,hR⟩:=hq;have e:updL (havoc ws t t') (hd.slots g)=t':=by rw [Zv ho,Yv hsh]
  refine ⟨trivial,t',M,U,?_,hf',hs'⟩;have:=k g t';rw [e] at this;exact Ujd hp (Y3 hL hR this)
 | _=>exact ⟨hnp,t',M,U,hq,hf',hs'⟩
def Z1c {P : Program} {dst : Option Tmp} {f : FuncId} {xs : List Operand} {ts : Array TypeId} {pos : String} {after : Array Edge} {guard : Option (Nat × Bool)} {ty : TypeId} {t : Nat → Value} {L : LB} {R : LS} {args : List Value} {Post : Yo} (ha : xs.map (ev t) = args)
 (h:Tri P f args.toArray L R Post):Gives P ⟨dst,.call ⟨.value (.func f),xs.toArray,ts⟩,ty,pos,after,guard⟩ (ev t) L R Post:=
 K9a (by rw [← ha];simp) rfl h
def Ks {α : Type} {P n code t L R} {Q : Kt} {T : TypeId} {f : α → List Value} {wd : Nat} (p : OwL α) (subs : LS) {F : OwL α → LB} (hseg : OSeg T f p L F) (hf : ∀ x, (f x).length = wd) (hwd : 0 < wd) (hok : p.ok wd f) (hs : ∀ s ∈ subs, InR s R)
 (h:CJ P n code t (F OwL.nil) (p.arr.sl wd f subs :: R) Q):CJ P n code t L R Q:=by
 obtain ⟨A,B,hL,hF⟩:=hseg.split;rw [hF] at h;rw [hL,yo];refine V5 subs hf hwd hok hs ?_;have e:A ++ (OwL.nil:OwL α).L T f ++ B=A ++ B:=by rw [Ku,yfa]
 rw [← e];exact h
end
section
attribute [local irreducible] CJ LJ DJ Tri YV Gives Uo J0 Kj Un RV J2 OwL.L
section
variable {A B:Prop}
def U6e(h:A→B:=by exact Yl zpb rfl):=h
def Vve(h:A→B:=by exact Jx (Jv tb ((⟨b.o,bs1⟩:OwL XNode)) _ rfl rfl ((show _=Value.slice _ _ _ from rfl).trans (by simp only [OwL.val,hb1l])) rfl zg (i:=i) zk zu) rfl):=h
def Kaf(h:A→B:=by exact Jx (Jv tb ((⟨b.o,bs⟩:OwL XNode)) _ rfl rfl ((show _=Value.slice _ _ _ from rfl).trans (by simp only [OwL.val,hbl])) rfl zg (i:=i) zk zu) rfl):=h
def K2f(h:A→B:=by exact Jx (Kd tb ((⟨b.o,bs1⟩:OwL XNode)) rfl rfl rfl zj zg yf zg zb) rfl):=h
def Zif(h:A→B:=by exact Jx (J4 (qs:=[(0,(Value.int _ _).cells.toList),(1,(Value.int _ _).cells.toList)]) (out:=[_,_,_,_]) tb rfl rfl rfl rfl) rfl):=h
def Ytf(h:A→B:=by exact Jx (Kd tb ((⟨b.o,bs⟩:OwL XNode)) rfl rfl rfl zj zg yf zg zb) rfl):=h
end
def Ute (c : Nat) (x : Arr Int) (R : LS) (conds n : Nat) : Prop := ∀ k, k ≤ x.l.length → Tri Tryz.prog 93 [.pointer (some ⟨c, 0, none⟩), .int .i64 (conds : Int), .int .i64 (n : Int)].toArray [cblk c x k] R
 (fun v M U=>∃(p:OwL XNode) (k':Nat),v=p.val∧p.ok 4 XNode.cells∧RuleD conds n p.l∧k'≤x.l.length∧p.L 172 XNode.cells ++ (cblk c x k' :: [])=M∧R=U)
def Vid (c:Nat) (x:Arr Int) (R:LS) (conds:Nat) (hx:CodesR x R) (hc:1≤conds∧conds≤64):Ute c x R conds 0:=by
 intro k hk;refine Je 106 Tryz.call93 Tryz.func93 rfl rfl rfl ?_;apply qae∘Xbv∘Xb5;refine Zm (k:=13) zfb (fun hg3=>?_) (fun hg3=>?_);·
  replace hg3:=qb hg3;iterate 3 refine Kwb rfl rfl ?_
  refine Jx zN rfl ?_;apply (qaf);refine U9 rfl ?_;apply qae∘Xby;refine Jq rfl (Vz zp hx hk za) rfl ?_;rintro v M U ⟨r1,k1,rfl,g1,g1',g1'',hk1,rfl,rfl⟩;have g1q:=g1' za;apply Zif∘U6e;rintro v M U ⟨b22,rfl,rfl,hR22⟩;replace hR22:=hR22.symm;subst hR22;apply qc4∘qbh;refine K0 (M:=(⟨.own b22 1 [],[⟨1,r1,0,0⟩]⟩:OwL XNode).L 172 XNode.cells ++ (cblk c x k1 :: [])) (U:=R) zTc ?hp ?hL ?hR;case hp=>exact ⟨⟨.own b22 1 [],[⟨1,r1,0,0⟩]⟩,k1,rfl,J4a yf rfl ze,RuleD.leaf za hc.2,hk1,rfl,rfl⟩
  case hL=>rw [← Uka (f:=XNode.cells) [⟨1,r1,0,0⟩] rfl];exact yu _
  case hR=>exact Jc _
 replace hg3:=qb hg3;(exfalso;omega)
def Zdb {α β:Type} [Inhabited α] {l:List α} {f:α→β}:(List.range l.length).map (fun j=>f (l.getD j default))=l.map f:=by
 refine yoa fun j=>?_;rcases yl j l.length with hj | hj;·rw [yt,yda hj,yt,Ju (l:=l) (k:=j) default hj];rfl
 ·rw [yr zC,yr zC]
def Uze {α:Type} {l:List α} {i:Nat} {x:α} (h:l[i]?=some x):l.set i x=l:=by
 refine yoa fun j=>?_;rw [yJ];split;·
  rename_i e;subst e;rw [h];split;·rfl
  ·rename_i hn;rw [yr za] at h;cases h
 ·rfl
def Jmb (c:Nat) (x:Arr Int) (R:LS) (conds n:Nat) (hx:CodesR x R) (hc:1≤conds∧conds≤64) (hn:Zde n≤100) (hn2:n≤100) (ih:Ute c x R conds n):Ute c x R conds (n + 1):=by
 intro k hk;have call : ∀ k, k ≤ x.l.length → Tri Tryz.prog 93 [.pointer (some ⟨c, 0, none⟩), .int .i64 (conds : Int), .int .i64 (((n + 1 : Nat) : Int) - 1)].toArray [cblk c x k] R
  (fun v M U=>∃(p:OwL XNode) (k':Nat),v=p.val∧p.ok 4 XNode.cells∧RuleD conds n p.l∧k'≤x.l.length∧p.L 172 XNode.cells ++ (cblk c x k' :: [])=M∧R=U):=fun k hk=>by
  rw [show ((n + 1:Nat):Int) - 1=(n:Int) by omega];exact ih k hk
 refine Je 106 Tryz.call93 Tryz.func93 rfl rfl rfl ?_;apply qae∘Xbv∘Xb5;refine Zm (k:=13) zfb (fun hg3=>?_) (fun hg3=>?_);·replace hg3:=qb hg3;(exfalso;omega)
 replace hg3:=qb hg3;refine Vn (Jz zBb) rfl rfl ?_;refine Jpb rfl (Vz zp hx hk za) rfl rfl ?_;rintro v M U ⟨r0,k0,rfl,g0,g0',g0'',hk0,rfl,rfl⟩;refine Vn zec rfl rfl ?_;refine Jx zN rfl ?_;apply (qaf);refine q_c ?_ ?_<;>intro hc0;·
  apply qae∘Xby;refine Jq rfl (Vz zp hx hk0 za) rfl ?_;rintro v M U ⟨r1,k1,rfl,g1,g1',g1'',hk1,rfl,rfl⟩;have g1q:=g1' za;apply Zif∘U6e;rintro v M U ⟨b22,rfl,rfl,hR22⟩;replace hR22:=hR22.symm;subst hR22;apply qc4∘qbh;refine K0 (M:=(⟨.own b22 1 [],[⟨1,r1,0,0⟩]⟩:OwL XNode).L 172 XNode.cells ++ (cblk c x k1 :: [])) (U:=R) zTc ?hp ?hL ?hR;case hp=>exact ⟨⟨.own b22 1 [],[⟨1,r1,0,0⟩]⟩,k1,rfl,J4a yf rfl ze,RuleD.leaf za hc.2,hk1,rfl,rfl⟩
  case hL=>rw [← Uka (f:=XNode.cells) [⟨1,r1,0,0⟩] rfl];exact yu _
  case hR=>exact Jc _
 apply qbv∘Xby∘Xba;refine Jq rfl (call _ hk0) rfl ?_;rintro v M U ⟨a,k2,rfl,hak,haD,hk2,rfl,rfl⟩;have hal:=haD.len;apply Xbv∘qa6;refine Jq rfl (K4e zp hx hk2 za) rfl ?_;rintro v M U ⟨bb,k3,rfl,hk3,rfl,rfl⟩;apply (qaf);refine q_c ?_ ?_<;>intro hc1;·apply qae∘qbm∘Xak∘qa9;refine Jx (J4 (qs:=[(0,(Value.int _ _).cells.toList),(2,(Value.int _ _).cells.toList)]) (out:=[_,_,_,_]) tb rfl rfl rfl rfl) rfl ?_;apply (U6e);rintro v M U ⟨b35,rfl,rfl,hR35⟩;replace hR35:=hR35.symm;subst hR35;refine Yl (Jr (f:=XNode.cells) (p:=a) (a:=⟨2,0,(a.l.length:Int) - 1,0⟩) tb rfl rfl rfl rfl (hak) zj zob rfl zA) rfl ?_;rintro v M U ⟨o36,rfl,hok36,rfl,rfl⟩;apply qc4∘qbh;refine q_r ((⟨o36,a.l ++ [⟨2,0,(a.l.length:Int) - 1,0⟩]⟩:OwL XNode).L 172 XNode.cells ++ (cblk c x k3 :: [])) R zTc ?_;exact ⟨(⟨o36,_⟩:OwL XNode),k3,rfl,hok36,haD.neg,hk3,rfl,rfl⟩
 apply qbv∘Xby∘Xba;refine Jq rfl (Tri.spl (.appB (.consL .nil)) (call _ hk3)) rfl ?_;rintro v M U ⟨_,rfl,b,k4,rfl,hbk,hbD,hk4,rfl,rfl⟩;simp only [yo,yz,yw];have hbn:=hbD.len;apply Xbv∘Xa4;refine Jk [(0,.pointer _),(7,.slice _ _ _),(8,.slice _ _ _),(9,.int _ _)] zh fun tq0=>?_;refine q_p ([9]++rg 42 46) ((⟨fun g=>[(9,.int .i64 ((g.1.1:Nat):Int))],fun g=>a.L 172 XNode.cells ++ ((⟨b.o,g.1.2⟩:OwL XNode).L 172 XNode.cells ++ (cblk c x k4 :: [])),fun _=>R,fun g=>b.l.length - g.1.1⟩:Head {g:Nat×List XNode // g.1≤b.l.length∧WrO b.l (fun j=>shN a.l.length (b.l.getD j default)) g.1 g.2})) (⟨(0,b.l),by dsimp only;omega,.zero⟩) ?_;rintro ⟨⟨i,bs⟩,hi,hW⟩ junk;try dsimp only
 dsimp only at hi hW;have hbl:=hW.len;have hbk1:(⟨b.o,bs⟩:OwL XNode).ok 4 XNode.cells:=OwL.len_ok yf hbk hbl;apply Xaw∘Xak∘Xa2;refine q_c ?_ ?_<;>intro hc2;·
  have hbg0:=Ju (l:=b.l) (k:=i) default za;have hbg:=hW.old i (yn _);rw [hbg0] at hbg;have hWn:=fun (z:XNode)=>hW.next (x:=z) za;obtain ⟨y,hy⟩:∃y,y=b.l.getD i default:=⟨_,rfl⟩;have hsm:=hbD.small _ (yi hbg0);rw [← hy] at hbg hWn hsm;refine J1 (Jb (Jl (Kb (Jl (Jl (Jf ?_))))));apply Xas∘Kaf∘qb0∘Ytf∘Xax;refine V8 (rg 54 10) ((⟨fun _=>[],fun g=>a.L 172 XNode.cells ++ ((⟨b.o,g.1⟩:OwL XNode).L 172 XNode.cells ++ (cblk c x k4 :: [])),fun _=>R,fun _=>0⟩:Head {g:List XNode // g=bs.set i ⟨y.kind,y.cond,if y.kind=1 then y.left else y.left + a.l.length,y.right⟩})) ?_ ?_;·
   skip
   refine q_c ?_ ?_<;>intro hc3;·apply Xcd∘Kaf∘qb0∘Ytf∘Xak∘qar∘Kaf∘qb0;refine Yc (Js tb ((⟨b.o,bs⟩:OwL XNode)) (⟨y.kind,y.cond,y.left + a.l.length,y.right⟩) rfl rfl rfl rfl zj zg yf zg ze zb zb) ?_;rintro v M U ⟨rfl,rfl⟩;apply (qav);exact q_j ⟨bs.set i ⟨y.kind,y.cond,y.left + a.l.length,y.right⟩,by rw [if_neg hc3]⟩
   refine J1 ?_;exact q_j ⟨bs,by rw [if_pos za];exact (Uze hbg).symm⟩
  rintro ⟨bs1,hb1⟩ junk;try dsimp only
  have hb1l:bs1.length=b.l.length:=by rw [hb1,yP];exact hbl
  have hbk2:(⟨b.o,bs1⟩:OwL XNode).ok 4 XNode.cells:=OwL.len_ok yf hbk hb1l;have hbg1:bs1[i]?=some ⟨y.kind,y.cond,if y.kind=1 then y.left else y.left + a.l.length,y.right⟩:=by rw [hb1];exact yO za
  apply qae∘Xas∘Vve∘qb0∘K2f∘Xcq;apply Kf (G:=[_,_,_,_,_,_]) (j:=6) (cj:=70) rfl rfl zb rfl zfb rfl;·intro hg7;replace hg7:=qb hg7;exact (Xas∘Vve∘qb0∘K2f∘qbn) qai
  intro junk7;apply (qaf);refine q_c ?_ ?_<;>intro hc4;·apply Xcd∘Vve∘qb0∘K2f∘Xak;refine Jx (Jjb rfl rfl zw zw) rfl ?_;apply Vve∘qb0;refine Yc (Js tb ((⟨b.o,bs1⟩:OwL XNode)) (⟨y.kind,y.cond,if y.kind=1 then y.left else y.left + a.l.length,y.right + a.l.length⟩) rfl rfl rfl rfl zj zg yf zg ze zb zb) ?_;rintro v M U ⟨rfl,rfl⟩;apply (Xdf);exact q_k ⟨(i + 1,bs1.set i ⟨y.kind,y.cond,if y.kind=1 then y.left else y.left + a.l.length,y.right + a.l.length⟩),by dsimp only;omega,by dsimp only;rw [hb1,yJa];exact hWn _ (by rw [shN,if_pos hc4])⟩
  apply qbj∘Xbd;exact q_k ⟨(i + 1,bs1),by dsimp only;omega,by dsimp only;rw [hb1];exact hWn _ (by rw [shN,if_neg (show ¬ (y.kind=3∨y.kind=4) by omega)])⟩
 obtain rfl:i=b.l.length:=by omega
 have hdn:=hW.done;rw [Zdb] at hdn;apply qbk∘Xak∘Xak∘qar∘Xah∘qbm∘qbm;refine Yl (K6c tb a (⟨b.o,bs⟩:OwL XNode) rfl rfl rfl rfl ((show _=Value.slice _ _ _ from rfl).trans (by simp only [OwL.val,hbl])) hak hbk1 yf zj zG zw yf zw) rfl ?_;rintro v M U ⟨o95,rfl,hok95,rfl,rfl⟩;apply (qa6);refine Jq rfl (Z8 zp hx hk4 za) rfl ?_;rintro v M U ⟨r3,k5,rfl,g3,g3',hk5,rfl,rfl⟩;apply Xak∘qa9∘Xba;refine Jx (J4 (qs:=[(0,(Value.int _ _).cells.toList),(2,(Value.int _ _).cells.toList),(3,(Value.int _ _).cells.toList)]) (out:=[_,_,_,_]) tb rfl rfl rfl rfl) rfl ?_;apply (U6e);rintro v M U ⟨b104,rfl,rfl,hR104⟩;replace hR104:=hR104.symm;subst hR104;refine Yl (Jr (f:=XNode.cells) (p:=(⟨o95,a.l ++ bs⟩:OwL XNode)) (a:=⟨r3,0,(a.l.length:Int) - 1,(a.l.length:Int) + b.l.length - 1⟩) tb rfl rfl rfl rfl (hok95) zj zob rfl zA) rfl ?_;rintro v M U ⟨o105,rfl,hok105,rfl,rfl⟩;apply (Xct);refine q_r ((⟨o105,a.l ++ bs ++ [⟨r3,0,(a.l.length:Int) - 1,(a.l.length:Int) + b.l.length - 1⟩]⟩:OwL XNode).L 172 XNode.cells ++ (cblk c x k5 :: [])) R zTc ?_;refine ⟨(⟨o105,_⟩:OwL XNode),k5,rfl,hok105,?_,hk5,rfl,rfl⟩;have:=haD.two hbD (k:=r3) za;rw [show ((a.l.length + b.l.length:Nat):Int)=(a.l.length:Int) + b.l.length by omega] at this;rw [hdn];exact this
def Ved (c:Nat) (x:Arr Int) (R:LS) (conds:Nat) (hx:CodesR x R) (hc:1≤conds∧conds≤64):Ute c x R conds 2:=
 Jmb c x R conds 1 hx hc ze ze (Jmb c x R conds 0 hx hc ze ze (Vid c x R conds hx hc))
end
section
attribute [local irreducible] CJ LJ DJ Tri YV Gives Uo J0 Kj Un RV J2 OwL.L
section
variable {A B:Prop}
def Usf(h:A→B:=by exact Jq rfl (Z8 zp hx hk za) rfl):=h
def U3f(h:A→B:=by exact Jx zjc rfl):=h
end
def Uzf {c:Nat} {x:Arr Int} {k:Nat} {L:LB} {F:List Value→LB} {R:LS} (hu:USeg c (Us x k) 168 L F) (hx:CodesR x R) (hk:k≤x.l.length):
 Tri Tryz.prog 94 [.pointer (some ⟨c, 0, none⟩)].toArray L R
  (fun v M U=>∃(r:Int) (k':Nat),v=.int .i64 r∧(-1≤r∧r≤1)∧k'≤x.l.length∧F (Us x k')=M∧R=U):=by refine Je 6 Tryz.call94 Tryz.func94 rfl rfl rfl ?_;apply Xac∘Xc2;refine Jq rfl (Vz hu hx hk za) rfl ?_;rintro v M U ⟨r1,k1,rfl,g1,g1',g1'',hk1,rfl,rfl⟩;have g1q:=g1' za;apply qa9∘Xai;refine q_i (F (Us x k1)) R ?_;exact ⟨r1 - 1,k1,rfl,by omega,hk1,rfl,rfl⟩
structure LevD (l:XLevel):Prop where
 cut:1≤l.cut∧l.cut≤120
 clear:0≤l.clear∧l.clear < l.cut
 delay:0≤l.delay∧l.delay≤11
def LevD.ok {l:XLevel} (h:LevD l):Zb l:=by have h1:=h.cut;have h2:=h.clear;have h3:=h.delay;rw [Zb];omega
def Ubc (c:Nat) (x:Arr Int) (k:Nat) (R:LS) (hx:CodesR x R) (hk:k≤x.l.length):
 Tri Tryz.prog 173 [.pointer (some ⟨c, 0, none⟩)].toArray [cblk c x k] R
  (fun v M U=>∃(l:XLevel) (k':Nat),v=l.val∧LevD l∧k'≤x.l.length∧cblk c x k' :: []=M∧R=U):=by refine Je 15 Tryz.call173 Tryz.func173 rfl rfl rfl ?_;apply (Xcg);intro b2;apply Xc2∘Usf;rintro v M U ⟨r1,k1,rfl,g1,g1',hk1,rfl,rfl⟩;apply (qa6);refine Jq rfl (Vz zp hx hk1 za) rfl ?_;rintro v M U ⟨r2,k2,rfl,g2,g2',g2'',hk2,rfl,rfl⟩;have g2q:=g2' za;refine Jx (J4 (qs:=[(0,(Value.int _ _).cells.toList),(2,(Value.int _ _).cells.toList)]) (out:=[_,_,_]) tb rfl rfl rfl rfl) rfl ?_;apply (qaq);intro b3;apply Xa1∘qa6∘Xaa;refine Jq rfl (Vz zp hx hk2 za) rfl ?_;rintro v M U ⟨r3,k3,rfl,g3,g3',g3'',hk3,rfl,rfl⟩;have g3q:=g3' za;apply Xa7∘qam;refine Jx zjb rfl ?_;apply (Xa8);refine q_r [cblk c x k3] R (U8 rfl zkb) ?_;exact ⟨⟨r1,r3,r2⟩,k3,rfl,⟨by dsimp only;omega,by dsimp only;omega,by dsimp only;omega⟩,hk3,rfl,rfl⟩
def Vof {c:Nat} {x:Arr Int} {k:Nat} {L:LB} {F:List Value→LB} {R:LS} (hu:USeg c (Us x k) 168 L F) (hx:CodesR x R) (hk:k≤x.l.length):
 Tri Tryz.prog 173 [.pointer (some ⟨c, 0, none⟩)].toArray L R
  (fun v M U=>∃(l:XLevel) (k':Nat),v=l.val∧LevD l∧k'≤x.l.length∧F (Us x k')=M∧R=U):=
 (Tri.at1 (Post' := fun v cs' U => ∃ (l : XLevel) (k' : Nat), v = l.val ∧ LevD l ∧ k' ≤ x.l.length ∧ cs' = Us x k' ∧ R = U) hu (Ubc c x k R hx hk)
  (fun v M U ⟨y,k',h1,h2,h5,h6,h7⟩=>⟨_,h6,y,k',h1,h2,h5,rfl,h7⟩)).mono
  (fun v M U ⟨cs',h0,y,k',h1,h2,h5,h6,h7⟩=>⟨y,k',h1,h2,h5,by rw [← h6];exact h0,h7⟩)
def Z4c {c:Nat} {x:Arr Int} {k:Nat} {kind address target:Int} {L:LB} {F:List Value→LB} {R:LS} (hu:USeg c (Us x k) 168 L F) (hx:CodesR x R) (hk:k≤x.l.length):
 Tri Tryz.prog 91 [.pointer (some ⟨c, 0, none⟩), .int .i64 kind, .int .i64 address, .int .i64 target].toArray L R
  (fun v M U=>∃(s:XSens) (k':Nat),v=s.val∧SensD kind address target s∧k'≤x.l.length∧F (Us x k')=M∧R=U):=
 (Tri.at1 (Post' := fun v cs' U => ∃ (s : XSens) (k' : Nat), v = s.val ∧ SensD kind address target s ∧ k' ≤ x.l.length ∧ cs' = Us x k' ∧ R = U) hu (Y4b c x k kind address target R hx hk)
  (fun v M U ⟨y,k',h1,h2,h5,h6,h7⟩=>⟨_,h6,y,k',h1,h2,h5,rfl,h7⟩)).mono
  (fun v M U ⟨cs',h0,y,k',h1,h2,h5,h6,h7⟩=>⟨y,k',h1,h2,h5,by rw [← h6];exact h0,h7⟩)
structure CondD (S:List XSens) (n:Nat) (c:XCond):Prop where
 err:Ko S n c=0
 value:0≤c.value∧c.value≤60
 level:LevD c.level
def U5e {S:List XSens} {n:Nat} {c:XCond} (hk:c.kind=1∨c.kind=2∨c.kind=4∨c.kind=5) (hv:0≤c.value∧c.value≤60) (hl:LevD c.level) (ht:0≤c.target∧c.target < if c.kind=5 then (n:Int) else S.length):CondD S n c:=by
 refine ⟨?_,hv,hl⟩;have hb:Ki S n c=0:=by
  rw [Ki];rcases hk with h | h | h | h;·exact ubl
  ·exact ubl
  ·exact ubl
  ·rw [if_pos h] at ht;rw [if_neg za,if_neg za,if_pos h,if_pos za]
 rw [Ko,if_neg za,if_neg za,Zx,if_pos hl.ok];split <;> rfl
def Kxe {S:List XSens} {n:Nat} {c:XCond} {i:Nat} (hk:c.kind=3) (hv:0≤c.value∧c.value≤60) (hl:LevD c.level) (ht:c.target=(i:Int)) (hi:i < S.length) (hs:(S.getD i default).kind=5):CondD S n c:=by
 refine ⟨?_,hv,hl⟩;have hb:Ki S n c=0:=by rw [Ki,if_neg za,if_pos hk,if_pos];refine ⟨by omega,?_⟩;rw [ht,yB];exact hs
 rw [Ko,if_neg za,if_neg za,if_neg za]
def Vqc (c:Nat) (x:Arr Int) (k:Nat) (s:XSite) (R:LS) (hx:CodesR x R) (hk:k≤x.l.length) (hs:InR (Y4c s.sensors) R) (hn:1≤s.sensors.l.length∧s.sensors.l.length≤1000) (hr:1≤s.air.mine.roads.l.length∧s.air.mine.roads.l.length≤1000):
 Tri Tryz.prog 92 [.pointer (some ⟨c, 0, none⟩), s.val].toArray [cblk c x k] R
  (fun v M U=>∃(z:XCond) (k':Nat),v=z.val∧CondD s.sensors.l s.air.mine.roads.l.length z∧k'≤x.l.length∧cblk c x k' :: []=M∧R=U):=by
 refine Je 54 Tryz.call92 Tryz.func92 rfl rfl rfl ?_;apply (Xag);intro b3;apply (qaq);intro b4;apply Xc2∘Usf;rintro v M U ⟨r1,k1,rfl,g1,g1',hk1,rfl,rfl⟩;apply (qa6);refine Jq rfl (Z8 zp hx hk1 za) rfl ?_;rintro v M U ⟨r2,k2,rfl,g2,g2',hk2,rfl,rfl⟩;apply (qa6);refine Jq rfl (Vof zp hx hk2) rfl ?_;rintro v M U ⟨l,k3,rfl,hl,hk3,rfl,rfl⟩;refine Jx (J4 (qs:=[(0,(Value.int _ _).cells.toList),(2,(Value.int _ _).cells.toList),(3,(Value.agg _).cells.toList)]) (out:=[_,_,_,_,_,_]) tb rfl rfl rfl rfl) rfl ?_;apply (qaq);intro b5;apply Xbh∘Xaa∘Xbf;refine V8 ([6]++rg 18 18) ((⟨fun _=>[],fun g=>⟨b5,XCond.cells ⟨g.1,0,r2,l⟩,102⟩ :: ⟨b4,[.int .i64 0,.int .i64 0,.int .i64 0,.int .i64 0,.int .i64 0,.int .i64 0],102⟩ :: ⟨b3,s.cells,38⟩ :: cblk c x k3 :: [],fun _=>R,fun _=>0⟩:Head {g:Int // g=1∨g=2∨g=4∨g=5})) ?_ ?_;·
  skip
  refine q_c ?_ ?_<;>intro hc0;·
   apply qbi∘Xa4;refine Va ([6]++rg 18 18) zI [(6,.int _ _)] zh fun tq0=>?_;refine q_s ([6]++rg 18 17) (fun g:{j:Nat // j≤s.sensors.l.length}=>[(6,.int .i64 ((g.1:Nat):Int))]) (fun g=>s.sensors.l.length - g.1) (⟨0,by omega⟩) ?_;rintro ⟨j,hj⟩ junk;(try dsimp only);apply Xaw∘Xdu;refine q_c ?_ ?_<;>intro hc1;·
    have hsg:=Ju (l:=s.sensors.l) (k:=j) default za;apply qbb∘Xaj;refine Jx zwa rfl ?_;apply Xb3∘Xbf;refine q_c ?_ ?_<;>intro hc2;·apply Xbr∘Xa7∘qam∘U3f∘qak;refine J5 (Jb (Up (Kc (Kg (Vx (Kc (Kg (Ywb ?_))))))));refine q_r [cblk c x k3] R (U8 rfl (Jt (row:=[_,_,_,_,_,_]) tb rfl rfl rfl zf zb zb)) ?_;exact ⟨⟨r1,(j:Int),r2,l⟩,k3,rfl,Kxe (i:=j) hc0 zw hl rfl za hc2,hk3,rfl,rfl⟩
    apply qbj∘Xbd;exact q_k (⟨j + 1,by omega⟩)
   refine K4 (Km (K2 (J8 (Jb (Jf ?_)))));apply Xa7∘qav;exact q_j ⟨1,.inl rfl⟩
  refine J1 ?_;exact q_j ⟨r1,by omega⟩
 rintro ⟨kd,hkd⟩ junk;try dsimp only
 apply qae∘Xab∘Xaq∘Xaa∘Xbf;refine V8 [7,42,43,44,45,46] ((⟨fun g=>[(7,.int .i64 g.1)],fun g=>⟨b5,XCond.cells ⟨kd,0,r2,l⟩,102⟩ :: ⟨b4,[.int .i64 0,.int .i64 0,.int .i64 0,.int .i64 0,.int .i64 0,.int .i64 0],102⟩ :: ⟨b3,s.cells,38⟩ :: cblk c x k3 :: [],fun _=>R,fun _=>0⟩:Head {g:Int // g=if kd=5 then (s.air.mine.roads.l.length:Int) else s.sensors.l.length})) ?_ ?_;·
  skip
  refine q_c ?_ ?_<;>intro hc3;·apply (qay);(iterate 3 apply (qab));apply Xcw∘Xar;exact q_j ⟨(s.air.mine.roads.l.length:Int),by rw [if_pos hc3]⟩
  refine J1 ?_;exact q_j ⟨(s.sensors.l.length:Int),by rw [if_neg hc3]⟩
 rintro ⟨nn,hnn⟩ junk;try dsimp only
 have hnb:1≤nn∧nn≤1000:=by rw [hnn];split <;> omega
 apply Xaw∘Xbf;refine q_c ?_ ?_<;>intro hc4;·(exfalso;omega)
 apply qbv∘Xby;refine Jq rfl (Vz zp hx hk3 za) rfl ?_;rintro v M U ⟨r3,k4,rfl,g3,g3',g3'',hk4,rfl,rfl⟩;have g3q:=g3' za;apply Xa7∘qam∘U3f∘Xa8;refine q_r [cblk c x k4] R (U8 rfl (Jt (row:=[_,_,_,_,_,_]) tb rfl rfl rfl zf zb zb)) ?_;exact ⟨⟨kd,r3,r2,l⟩,k4,rfl,U5e hkd zw hl (by dsimp only;rw [← hnn];omega),hk4,rfl,rfl⟩
def Jcg {c:Nat} {x:Arr Int} {k:Nat} {s:XSite} {L:LB} {F:List Value→LB} {R:LS} (hu:USeg c (Us x k) 168 L F) (hx:CodesR x R) (hk:k≤x.l.length) (hs:InR (Y4c s.sensors) R) (hn:1≤s.sensors.l.length∧s.sensors.l.length≤1000) (hr:1≤s.air.mine.roads.l.length∧s.air.mine.roads.l.length≤1000):
 Tri Tryz.prog 92 [.pointer (some ⟨c, 0, none⟩), s.val].toArray L R
  (fun v M U=>∃(z:XCond) (k':Nat),v=z.val∧CondD s.sensors.l s.air.mine.roads.l.length z∧k'≤x.l.length∧F (Us x k')=M∧R=U):=
 (Tri.at1 (Post' := fun v cs' U => ∃ (z : XCond) (k' : Nat), v = z.val ∧ CondD s.sensors.l s.air.mine.roads.l.length z ∧ k' ≤ x.l.length ∧ cs' = Us x k' ∧ R = U) hu (Vqc c x k s R hx hk hs hn hr)
  (fun v M U ⟨y,k',h1,h2,h5,h6,h7⟩=>⟨_,h6,y,k',h1,h2,h5,rfl,h7⟩)).mono
  (fun v M U ⟨cs',h0,y,k',h1,h2,h5,h6,h7⟩=>⟨y,k',h1,h2,h5,by rw [← h6];exact h0,h7⟩)
end
end Go.Proofs.YtchfclmokpbldaaGreat
