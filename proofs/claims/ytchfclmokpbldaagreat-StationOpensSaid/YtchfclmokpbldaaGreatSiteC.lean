/-
  Merged texts. By an AI agent.
-/
import Derived.Test.YtchfclmokpbldaaGreatDrawR
import Derived.Laws.StructEq
import Derived.Test.YtchfclmokpbldaaGreatDraws
import Derived.Test.YtchfclmokpbldaaGreatFeedP
import Derived.Test.YtchfclmokpbldaaGreatRestA
import Derived.Test.YtchfclmokpbldaaGreatLaw11b
import Derived.Test.YtchfclmokpbldaaGreatCongrS
set_option linter.all false
set_option maxHeartbeats 4000000
set_option maxRecDepth 20000
namespace Go.Proofs.YtchfclmokpbldaaGreat
open Go.Aw Go
section
inductive KC where
 | i
 | b
def KC.fits : KC → Value → Prop
 | .i,.int .i64 _=>True
 | .b,.bool _=>True
 | _,_=>False
def U5a : List KC → List Value → Prop
 | [],[]=>True
 | k :: ks,v :: vs=>k.fits v∧U5a ks vs
 | _,_=>False
def Yca : Value → Value → Bool
 | .int _ a,.int _ b=>decide (a=b)
 | .bool a,.bool b=>decide (a=b)
 | _,_=>false
def Vl : List Value → List Value → Bool
 | a :: l,b :: m=>Yca a b && Vl l m
 | _,_=>true
def Ztc : ∀ {ks : List KC} {l : List Value}, U5a ks l → l.length = ks.length
 | [],[],_=>rfl
 | [],_ :: _,h=>h.elim
 | _ :: _,[],h=>h.elim
 | k :: ks,v :: vs,h=>by simp [Ztc h.2]
def J2b : ∀ {ks ms : List KC} {l : List Value}, U5a (ks ++ ms) l → U5a ks (l.take ks.length) ∧ U5a ms (l.drop ks.length)
 | [],ms,l,h=>⟨by simp [U5a],by simpa using h⟩
 | k :: ks,ms,[],h=>h.elim
 | k :: ks,ms,v :: vs,h=>by
  have:=J2b (ks:=ks) (ms:=ms) (l:=vs) h.2
  exact ⟨⟨h.1,this.1⟩,this.2⟩
def Klb : ∀ (n : Nat) (l m : List Value), Vl l m = (Vl (l.take n) (m.take n) && Vl (l.drop n) (m.drop n))
 | 0,l,m=>by simp [Vl]
 | n + 1,[],m=>by simp [Vl]
 | n + 1,a :: l,[]=>by simp [Vl]
 | n + 1,a :: l,b :: m=>by
  simp only [List.take_succ_cons,List.drop_succ_cons,Vl]
  rw [Klb n l m,Bool.and_assoc]
section
variable {P:Program}
def FE (P:Program) (d:Nat) (I:TypeId) (ks:List KC):Prop:=
 ∀(xs ys:List Value) (off:Nat) (w:World),U5a ks ((xs.drop off).take ks.length)→U5a ks ((ys.drop off).take ks.length)→
  ∃a b,(part I xs.toArray off).run P w=.ok a w∧(part I ys.toArray off).run P w=.ok b w∧(Op.equalIn d I a b).run P w=.ok (Vl ((xs.drop off).take ks.length) ((ys.drop off).take ks.length)) w
def Vmb {I:TypeId} {xs:List Value} {off:Nat} {v:Value} {w:World} (hag:(isAgg I).run P w=.ok false w) (h:(xs.drop off).take 1=[v]):(part I xs.toArray off).run P w=.ok v w:=by
 have hv:xs[off]?=some v:=by
  have:((xs.drop off).take 1)[0]?=some v:=by rw [h];rfl
  rw [yoa] at this;simpa using this
 simp only [part,yba,hag,yD];simp [hv]
def Vtd {l:List Value} {k:KC} (h:U5a [k] l):∃v,l=[v]∧k.fits v:=by
 match l,h with
 | [v],h=>exact ⟨v,rfl,h.1⟩
def Z3 {d:Nat} {I:TypeId} (h:P.underlying I=some (.int .i64)):FE P (d + 1) I [.i]:=by
 intro xs ys off w hx hy;have hag:(isAgg I).run P w=.ok false w:=by simp [isAgg,run_underlying h]
 obtain ⟨u,hu,fu⟩:=Vtd hx;obtain ⟨v,hv,fv⟩:=Vtd hy;refine ⟨u,v,Vmb hag hu,Vmb hag hv,?_⟩;have hu':(xs.drop off).take [KC.i].length=[u]:=hu;have hv':(ys.drop off).take [KC.i].length=[v]:=hv;rw [hu',hv']
 match u,v,fu,fv with
 | .int .i64 a,.int .i64 b,_,_=>rw [run_equalIn_int (P:=P) w d I .i64 .i64 a b h,Ucc];simp [Vl,Yca]
def Jhb {d:Nat} {I:TypeId} (h:P.underlying I=some .bool):FE P (d + 1) I [.b]:=by
 intro xs ys off w hx hy;have hag:(isAgg I).run P w=.ok false w:=by simp [isAgg,run_underlying h]
 obtain ⟨u,hu,fu⟩:=Vtd hx;obtain ⟨v,hv,fv⟩:=Vtd hy;refine ⟨u,v,Vmb hag hu,Vmb hag hv,?_⟩;have hu':(xs.drop off).take [KC.b].length=[u]:=hu;have hv':(ys.drop off).take [KC.b].length=[v]:=hv;rw [hu',hv']
 match u,v,fu,fv with
 | .bool a,.bool b,_,_=>rw [run_equalIn_bool (P:=P) w d I a b h];simp only [Vl,Yca,Bool.and_true];cases a <;> cases b <;> rfl
def V7c : Nat → List (TypeId × List KC) → List (Bool × TypeId × Nat)
 | _,[]=>[]
 | o,(I,ks) :: l=>(false,I,o) :: V7c (o + ks.length) l
def J9c {d : Nat} : ∀ (pl : List (TypeId × List KC)) (fs : List Field) (xs ys : List Value) (off : Nat) (w : World), fs.map (fun f => (f.name == "_", f.type, f.offset)) = V7c off pl → (∀ p ∈ pl, FE P d p.1 p.2) →
 U5a (pl.flatMap (·.2)) (xs.drop off)→U5a (pl.flatMap (·.2)) (ys.drop off)→(Op.eqFields d xs.toArray ys.toArray fs).run P w=.ok (Vl (xs.drop off) (ys.drop off)) w
 | [],fs,xs,ys,off,w,hm,_,hx,hy=>by
  have:fs=[]:=by simpa [V7c] using hm
  subst this
  have h1:=Ztc hx
  have h2:xs.drop off=[]:=yqa zta
  rw [h2]
  simp [Op.eqFields,Vl]
 | (I,ks) :: pl,[],xs,ys,off,w,hm,_,_,_=>by simp [V7c] at hm
 | (I,ks) :: pl,f :: fs,xs,ys,off,w,hm,hp,hx,hy=>by
  simp only [yM,V7c,yNb,Prod.mk.injEq] at hm
  obtain ⟨⟨f1,f2,f3⟩,hm⟩:=hm
  have nf : f.name ≠ "_" := by simpa using f1
  rw [yQ] at hx hy
  obtain ⟨x1,x2⟩:=J2b hx
  obtain ⟨y1,y2⟩:=J2b hy
  obtain ⟨a,b,ha,hb,hab⟩:=hp (I,ks) yya xs ys off w x1 y1
  have ih:=J9c pl fs xs ys (off + ks.length) w hm (fun p h=>hp p (yU _ h)) (by rw [← yTb];exact x2) (by rw [← yTb];exact y2)
  simp only [Op.eqFields,if_pos nf,f2,f3,yba,ha,hb,hab,yD,Sem.run_ite,ywa]
  rw [Klb ks.length (xs.drop off) (ys.drop off),yTb,yTb]
  cases hc:Vl ((xs.drop off).take ks.length) ((ys.drop off).take ks.length) with
  | false=>simp
  | true=>simpa using ih
def Ygc {d : Nat} {T : TypeId} {pl : List (TypeId × List KC)} (h1 : P.underlying T = some (.struct (P.fieldsOf T))) (h2 : P.stoodInHeld T = false) (h4 : (P.fieldsOf T).toList.map (fun f => (f.name == "_", f.type, f.offset)) = V7c 0 pl) (hp : ∀ p ∈ pl, FE P d p.1 p.2)
 {xs ys:List Value} {w:World} (hx:U5a (pl.flatMap (·.2)) xs) (hy:U5a (pl.flatMap (·.2)) ys):(Op.equalIn (d + 1) T (.agg xs.toArray) (.agg ys.toArray)).run P w=.ok (Vl xs ys) w:=by rw [run_equalIn_agg w d T _ _ h1 h2];exact J9c pl _ xs ys 0 w h4 hp hx hy
def Jbg {d : Nat} {I : TypeId} {pl : List (TypeId × List KC)} {i : TypeInfo} (h1 : P.underlying I = some (.struct (P.fieldsOf I))) (h2 : P.stoodInHeld I = false) (hi : P.info? I = some i) (hc : P.cellsOf I = (pl.flatMap (·.2)).length) (h4 : (P.fieldsOf I).toList.map (fun f => (f.name == "_", f.type, f.offset)) = V7c 0 pl) (hp : ∀ p ∈ pl, FE P d p.1 p.2) :
 FE P (d + 1) I (pl.flatMap (·.2)):=by
 intro xs ys off w hx hy;have hag:(isAgg I).run P w=.ok true w:=by simp [isAgg,run_underlying h1]
 have hs:(sizeOf I).run P w=.ok (pl.flatMap (·.2)).length w:=by rw [run_sizeOf w hi,hc]
 have pt:∀zs:List Value,(part I zs.toArray off).run P w=.ok (.agg ((zs.drop off).take (pl.flatMap (·.2)).length).toArray) w:=fun zs=>by simp only [part,yba,hag,yD,if_true,hs,ywa];congr 2;simp
 exact ⟨_,_,pt xs,pt ys,Ygc h1 h2 h4 hp hx hy⟩
structure StrEq (P:Program) (T:TypeId) (ks:List KC):Prop where
 eq:∀(xs ys:List Value) (w:World),U5a ks xs→U5a ks ys→(Op.equalIn 10000 T (.agg xs.toArray) (.agg ys.toArray)).run P w=.ok (Vl xs ys) w
 guard:P.eqGuardType P.depth T=false
def Kza {T : TypeId} (pl : List (TypeId × List KC)) {ks : List KC} (h1 : P.underlying T = some (.struct (P.fieldsOf T))) (h2 : P.stoodInHeld T = false) (h3 : P.eqGuardType P.depth T = false) (h4 : (P.fieldsOf T).toList.map (fun f => (f.name == "_", f.type, f.offset)) = V7c 0 pl) (hk : pl.flatMap (·.2) = ks) (hp : ∀ p ∈ pl, FE P 9999 p.1 p.2) : StrEq P T ks :=
 ⟨fun xs ys w hx hy=>Ygc h1 h2 h4 hp (by rw [hk];exact hx) (by rw [hk];exact hy),h3⟩
end
section
variable {P:Program} {ρ:Operand→Value} {L:LB} {R:LS} {dst:Option Tmp} {ty:TypeId} {pos:String} {after:Array Edge} {guard:Option (Nat×Bool)} {T T2:TypeId} {x y:Operand} {ks:List KC} {xs ys:List Value}
def Kkc (hT:StrEq P T ks) (hx:ρ x=.agg xs.toArray) (hy:ρ y=.agg ys.toArray) (fx:U5a ks xs) (fy:U5a ks ys) {b:Bool} (hb:Vl xs ys=b):YV P ⟨dst,.binOp .eql T x y T2,ty,pos,after,guard⟩ ρ L R (.bool b):=fun _ w _=>by
 have h1:=run_eqGuard_agg (P:=P) w .eql T x y xs.toArray ys.toArray hT.guard
 simp only [execOp,hx,hy,yba,h1,yD,run_eql_struct,hT.eq xs ys _ fx fy,hb]
 simp
def Jta (hT:StrEq P T ks) (hx:ρ x=.agg xs.toArray) (hy:ρ y=.agg ys.toArray) (fx:U5a ks xs) (fy:U5a ks ys) {b:Bool} (hb:Vl xs ys=b):YV P ⟨dst,.binOp .neq T x y T2,ty,pos,after,guard⟩ ρ L R (.bool (!b)):=fun _ w _=>by
 have h1:=run_eqGuard_agg (P:=P) w .neq T x y xs.toArray ys.toArray hT.guard
 simp only [execOp,hx,hy,yba,h1,yD,run_neq_struct,hT.eq xs ys _ fx fy,hb]
 simp
end
def Knf:StrEq Tryz.prog 153 [.b,.i,.i]:=
 Kza [(4,[.b]),(3,[.i]),(3,[.i])] zf zf zf zf rfl (by
  intro p hp
  simp only [yT,yP,or_false] at hp
  rcases hp with rfl | rfl | rfl
  ·exact Jhb zf
  ·exact Z3 zf
  ·exact Z3 zf)
def Kog:StrEq Tryz.prog 71 [.b,.i,.i]:=
 Kza [(4,[.b]),(3,[.i]),(3,[.i])] zf zf zf zf rfl (by
  intro p hp
  simp only [yT,yP,or_false] at hp
  rcases hp with rfl | rfl | rfl
  ·exact Jhb zf
  ·exact Z3 zf
  ·exact Z3 zf)
end
section
section
variable {A B:Prop}
def U9e(h:A→B:=by exact J0 zzb rfl):=h
def V5f(h:A→B:=by exact Y6 (K6 (f:=XSwitch.cells) (xs:=f.switches) tb rfl rfl rfl zj rfl rfl (hsR) yf zc) rfl):=h
def Vmf(h:A→B:=by exact Y6 (K6 (f:=Jj) (xs:=f.zones) tb rfl rfl rfl zj rfl rfl (hzR) yf zc) rfl):=h
end
def Ype:StrEq Tryz.prog 76 [.i,.i,.i,.b,.b]:=
 Kza [(3,[.i]),(3,[.i]),(3,[.i]),(4,[.b]),(4,[.b])] zf zf zf zf rfl (by
  intro p hp
  simp only [yT,yP,or_false] at hp
  rcases hp with rfl | rfl | rfl | rfl | rfl
  ·exact Z3 zf
  ·exact Z3 zf
  ·exact Z3 zf
  ·exact Jhb zf
  ·exact Jhb zf)
def K2d:StrEq Tryz.prog 51 [.i,.i,.i,.i,.i]:=
 Kza [(3,[.i]),(3,[.i]),(3,[.i]),(3,[.i]),(3,[.i])] zf zf zf zf rfl (by
  intro p hp
  simp only [yT,yP,or_false] at hp
  rcases hp with rfl | rfl | rfl | rfl | rfl
  ·exact Z3 zf
  ·exact Z3 zf
  ·exact Z3 zf
  ·exact Z3 zf
  ·exact Z3 zf)
attribute [local irreducible] CJ LJ DJ Tri YV Gives U7 Kb Kp U8 RV Ke OwL.L
def Kma (sw:List XSwitch) (t:Int):Prop:=(0≤t∧t≤2147483648)∧∀x∈sw,x.since≤t
instance (sw:List XSwitch) (t:Int):Decidable (Kma sw t):=by unfold Kma;infer_instance
def Z1b (sw:List XSwitch) (zn:List Int) (rp s t:Int):Int:=if feedE sw zn rp≠0 then feedE sw zn rp else if s < 0∨(sw.length:Int)≤s then 16 else if Kma sw t then 0 else 8
def Kqc (f:XFeeder) (t:Int) (L:LB) (R:LS) (hf:FeederR f R):
 Tri Tryz.prog 227 [f.val,.int .i64 t].toArray L R (fun v M U=>v=.bool (decide (Kma f.switches.l t))∧L=M∧R=U):=by
 have hsR:=hf.sw;refine Kba Tryz.call227 hsR fun hcap=>?_;refine Jd 25 Tryz.call227 Tryz.func227 rfl rfl rfl ?_;apply (Xag);intro b2;apply Xdm∘Xcf;apply J3 (G:=[_,_]) (j:=2) (cj:=9) rfl rfl ze rfl ztb rfl;·exact zPd
 intro junk3;apply (qaf);refine q_c ?_ ?_<;>intro hc0;·exact zhf
 apply (Xd8);refine Jh [(1,.int _ _),(14,.slice _ _ _),(15,.int _ _),(16,.int _ _)] zg fun tq0=>?_;refine q_s ([4,6]++rg 16 9) (fun g:{k:Nat // k≤f.switches.l.length∧∀j:Nat,j < k→(f.switches.l.getD j default).since≤t}=>[(16,.int .i64 ((g.1:Nat):Int))]) (fun g=>f.switches.l.length - g.1) (⟨0,by omega,fun j hj=>by omega⟩) ?_;rintro ⟨k,hk,hal⟩ junk;try dsimp only
 apply (Xay);refine q_c ?_ ?_<;>intro hc1;·
  have hg:=Js (l:=f.switches.l) (k:=k) default zc;apply (qbb);refine J0 zC rfl ?_;apply qdw∘qaq;intro b6;apply Xbe∘qaa∘Xaa∘Xao;refine q_c ?_ ?_<;>intro hc2;·exact ubo
  apply (Xbk);exact uav
 exact uaT
def K9d (f:XFeeder) (s t:Int) (L:LB) (R:LS) (hf:FeederR f R):
 Tri Tryz.prog 150 [f.val,.int .i64 s,.int .i64 t].toArray L R (fun v M U=>v=.int .i64 (Z1b f.switches.l f.zones.l f.reply s t)∧L=M∧R=U):=by
 refine Jd 26 Tryz.call150 Tryz.func150 rfl rfl rfl ?_;apply (Xag);intro b3;apply Xau∘U9e;refine q_l rfl (Jla f _ _ hf) ?_;apply (Xbj);refine q_c ?_ ?_<;>intro hc0;·apply (Xcx);refine q_i L R ?_;exact ⟨by rw [Z1b,if_pos hc0],rfl,rfl⟩
 apply qbo∘Xcf;apply J3 (G:=[_,_,_,_,_]) (j:=2) (cj:=15) rfl rfl ze rfl ztb rfl;·exact zke
 intro junk3;apply (qaf);refine q_c ?_ ?_<;>intro hc1;·exact ubM
 apply qbo∘U9e∘qaa;refine q_l rfl (Kqc f t _ _ hf) ?_;apply (Xbg);refine q_c ?_ ?_<;>intro hc2;·exact zuf
 exact zvf
def V2c (f:XFeeder) (L:LB) (R:LS) (hf:FeederR f R) (hn:f.switches.l.length≤1000∧f.zones.l.length≤1000):
 Tri Tryz.prog 151 [f.val].toArray L R (fun v M U=>∃(p:OwL XSwitch) (q:OwL Int),v=.agg #[p.val,q.val,.int .i64 f.reply]∧(p.ok 5 XSwitch.cells∧q.ok 1 Jj)∧p.l=f.switches.l∧q.l=f.zones.l∧q.L 3 Jj ++ (p.L 76 XSwitch.cells ++ L)=M∧R=U):=by have hsR:=hf.sw;have hzR:=hf.zn;refine Jd 12 Tryz.call151 Tryz.func151 rfl rfl rfl ?_;apply (Xag);intro b1;apply (qaq);intro b2;exact zSd
def Kbd (f:XFeeder) (L:LB) (R:LS) (hf:FeederR f R) (hn:f.switches.l.length≤1000∧f.zones.l.length≤1000):
 Tri Tryz.prog 207 [f.val].toArray L R (fun v M U=>∃(p:OwL XSwitch) (q:OwL Int),v=.agg #[p.val,q.val,.int .i64 f.reply]∧(p.ok 5 XSwitch.cells∧q.ok 1 Jj)∧p.l=f.switches.l∧q.l=f.zones.l∧q.L 3 Jj ++ (p.L 76 XSwitch.cells ++ L)=M∧R=U):=by have hsR:=hf.sw;have hzR:=hf.zn;refine Jd 12 Tryz.call207 Tryz.func207 rfl rfl rfl ?_;apply (Xag);intro b1;apply (qaq);intro b2;exact zSd
end
section
attribute [local irreducible] CJ LJ DJ Tri YV Gives U7 Kb Kp U8 RV Ke OwL.L
section
variable {A B:Prop}
def Zaf(h:A→B:=by exact Kq zmb rfl rfl rfl):=h
end
def Kje {sw:List XSwitch} (h:Jbf sw):∀(n:Nat) (s:Int),s < sw.length→(s + 1).toNat≤n→∀x∈Zia sw s,0≤x∧x≤s:=by
 intro n;induction n with
 | zero=>intro s _ hn;rw [Yoa zc];intro x hx;cases hx
 | succ n ih=>
  intro s hs hn x hx;by_cases h0:s < 0;·rw [Yoa h0] at hx;cases hx
  ·
   have ha := h s.toNat zc;rw [Ubb h zc hs,yT] at hx;rcases hx with rfl | hx;·omega
   ·have := ih _ zc zc x hx;omega
def Jxe {sw:List XSwitch} {zn:List Int} {rp s:Int} {x:Int} (hx:x∈K7b sw zn rp s):0≤x∧x≤s∧s < sw.length:=by
 rw [K7b] at hx;split at hx;·cases hx
 ·have hok := Zo (sw := sw) (zn := zn) (rp := rp) zc;have:=Kje hok.up _ s zc (yn _) x hx;omega
def J0e {sw:List XSwitch} {zn:List Int} {rp s:Int}:(K7b sw zn rp s).length≤32:=by
 rw [K7b];split;·simp
 ·have hok := Zo (sw := sw) (zn := zn) (rp := rp) zc;have h1:=hok.sn;have:=Yfc hok.up _ s zc (yn _);omega
def Joc (f g:XFeeder) (L:LB) (R:LS) (hf:FeederR f R) (hg:FeederR g R) (h1:f.switches.l=g.switches.l) (h2:f.zones.l=g.zones.l) (h3:f.reply=g.reply):
 Tri Tryz.prog 68 [f.val,g.val].toArray L R (fun v M U=>v=.bool true∧L=M∧R=U):=by
 have hsR:=hf.sw;have hzR:=hf.zn;have hsR2:=hg.sw;have hzR2:=hg.zn;have hl1:f.switches.l.length=g.switches.l.length:=by rw [h1]
 have hl2:f.zones.l.length=g.zones.l.length:=by rw [h2]
 refine Kba Tryz.call68 hsR fun hcap=>?_;refine Kba Tryz.call68 hzR fun hcap2=>?_;refine Jd 66 Tryz.call68 Tryz.func68 rfl rfl rfl ?_;apply (Xag);intro b2;apply (qax);intro b3;apply Xdm∘Xbl∘Xb8;apply J3 (G:=[_,_,_,_,_,_,_]) (j:=5) (cj:=12) rfl rfl ze rfl ztb rfl;·intro hg6;replace hg6:=qb hg6;exact (Xe0) zUd
 intro junk6;apply (qah);apply J3 (G:=[_,_,_,_,_,_,_]) (j:=14) (cj:=21) rfl rfl ze rfl ztb rfl;·intro hg15;replace hg15:=qb hg15;exact (Xe0) zUd
 intro junk15;apply (qaf);refine q_c ?_ ?_<;>intro hc0;·apply (Xc0);refine q_b L R ?_;exact absurd h3 zc
 apply (Xcj);refine Jh [(2,.pointer _),(3,.pointer _),(5,.int _ _)] zg fun tq0=>?_;refine q_s ([4,5]++rg 30 18) (fun g:{k:Nat // k≤f.switches.l.length}=>[(5,.int .i64 ((g.1:Nat):Int))]) (fun g=>f.switches.l.length - g.1) (⟨0,by omega⟩) ?_;rintro ⟨k,hk⟩ junk;try dsimp only
 apply (Xbm);refine q_c ?_ ?_<;>intro hc1;·
  have hxg:=Js (l:=f.switches.l) (k:=k) default zc;have hyg:g.switches.l[k]?=some (f.switches.l.getD k default):=by rw [← h1];exact hxg
  refine Jt (Ja (Ji (Jy (Ji ?_))));refine Kg tb [0,1,2,3,4,5,6,7,8,9,10] _ Kn zf ye ?_;apply Xev∘Zaf∘Xev∘Zaf;refine Kq (Jta Ype rfl rfl zI zI rfl) rfl rfl rfl ?_;exact uaI
 apply (Xdl);refine Jh [(2,.pointer _),(3,.pointer _),(6,.int _ _)] zg fun tq1=>?_;refine q_s ([4,6]++rg 48 18) (fun g:{k:Nat // k≤f.zones.l.length}=>[(6,.int .i64 ((g.1:Nat):Int))]) (fun g=>f.zones.l.length - g.1) (⟨0,by omega⟩) ?_;rintro ⟨k,hk⟩ junk;try dsimp only
 apply (Xbm);refine q_c ?_ ?_<;>intro hc3;·
  have hxg:=Js (l:=f.zones.l) (k:=k) 0 zc;have hyg:g.zones.l[k]?=some (f.zones.l.getD k 0):=by rw [← h2];exact hxg
  refine Jt (Ja (Ji (Jy (Ji ?_))));refine Kg tb [0,1,2,3,4,5,6,7,8,9,10] _ Kn zf ye ?_;apply Xev∘qbl∘Xev∘qbl;refine Kq (Vtb rfl rfl) rfl rfl rfl ?_;apply (qbu);refine q_c ?_ ?_<;>intro hc4;·apply (Xci);refine q_b L R ?_;exact absurd hc4 zq
  exact zYd
 exact zMf
end
section
attribute [local irreducible] CJ LJ DJ Tri YV Gives U7 Kb Kp U8 RV Ke OwL.L
def Vzf (sw:List XSwitch) (a y:Int):Bool:=decide (y≠a∧(sw.getD y.toNat default).shown= -1)
def Kqg (sw:List XSwitch) (l:List Int):Int:=l.foldl (fun a x=>if (sw.getD x.toNat default).shown≠1 then x else a) (l.getD 0 0)
def U5c (c:List XCut) (sw:List XSwitch) (zn:List Int) (rp zone a:Int) (k:Nat):Prop:=
 ((k:Int)≠zone∧(c.getD k default).off=true)∧a∈K7b sw zn rp (zn.getD k 0)∧¬∃y∈K7b sw zn rp (zn.getD k 0),Vzf sw a y=true
instance (c:List XCut) (sw:List XSwitch) (zn:List Int) (rp zone a:Int) (k:Nat):Decidable (U5c c sw zn rp zone a k):=by unfold U5c;infer_instance
def Zye (c:List XCut) (sw:List XSwitch) (zn:List Int) (rp zone a:Int):Prop:=∃k:Nat,k < zn.length∧U5c c sw zn rp zone a k
instance (c:List XCut) (sw:List XSwitch) (zn:List Int) (rp zone a:Int):Decidable (Zye c sw zn rp zone a):=by unfold Zye;infer_instance
end
section
def Kwg {P:Program} {fn:Func} {t:Nat→Value} {L:LB} {R:LS} {r s q z:ResultVar} {v u x y:Value} (hr:fn.results=#[r,s,q,z]) (h:RV P t L R r v) (k:RV P t L R s u) (m:RV P t L R q x) (m2:RV P t L R z y):∀c n a w,Fr n t a→St c L R w→(results fn a.tmps).run P w=.ok (.tuple #[v,u,x,y]) w:=by intro c n a w hf hs;have h1:=Z1a h hf hs;have h2:=Z1a k hf hs;have h3:=Z1a m hf hs;have h4:=Z1a m2 hf hs;rw [Upa,hr];simp [h1,h2,h3,h4]
attribute [local irreducible] CJ LJ DJ Tri YV Gives U7 Kb Kp U8 RV Ke OwL.L
def atR (f:XFeeder) (k:Int):Int:=Kqg f.switches.l (K7b f.switches.l f.zones.l f.reply (f.zones.l.getD k.toNat 0))
def Ucg (f:XFeeder) (r:XRest):Prop:=atR f r.zone=f.zones.l.getD r.zone.toNat 0
instance (f:XFeeder) (r:XRest):Decidable (Ucg f r):=by unfold Ucg;infer_instance
end
section
def Jtc (z:XZone):XZone:=⟨⟨none,0,z.rule.l⟩,z.hold,⟨none,0,z.roads.l⟩,z.fresh⟩
def K4 (s:XSite):XSite:=⟨Z1 s.air,⟨none,0,s.sensors.l⟩,⟨none,0,s.conds.l⟩,⟨none,0,s.zones.l.map Jtc⟩,⟨none,0,s.persons.l⟩⟩
def Yna (s:XSite) (k:Nat):(K4 s).zones.l.getD k default=Jtc (s.zones.l.getD k default):=Vfb rfl
def Yea (s:XSite):(K4 s).zones.l.length=s.zones.l.length:=yK _
def Ugd (a:XAir) (x:XSens):Jqa (Z1 a) x=Jqa a x:=by rw [Jqa,Jqa,show (Z1 a).fans.l.length=a.fans.l.length from yK _,show (Z1 a).doors.l.length=a.doors.l.length from yK _];rfl
def Zxb (a:XAir) (S:List XSens):Uf (Z1 a) S=Uf a S:=by
 have e:Yx (Z1 a) S=Yx a S:=by funext i;rw [Yx,Yx,Ugd]
 rw [Uf,Uf,e]
def Vsc (s:XSite):Yd (K4 s)=Yd s:=by rw [Yd,Yd,show (K4 s).zones.l=s.zones.l.map Jtc from rfl,yQb];rfl
def J3a (s:XSite):K7 (K4 s)=K7 s:=by rw [K7,K7,Vsc,Yea,show Ko (K4 s).air=Ko s.air from Yub _,show Uf (K4 s).air (K4 s).sensors.l=Uf s.air s.sensors.l from Zxb _ _];rfl
def Zxa (s:XSite) (m:List XMeas) (w:List XWatch) (fl:List XSpan) (t:Int):valuesErr (K4 s) m w fl t=valuesErr s m w fl t:=by rw [valuesErr,valuesErr,J3a];rfl
def Uwb (s:XSite) (v:List Int) (c:List XCut) (t:Int):cutsErr (K4 s) v c t=cutsErr s v c t:=by rw [cutsErr,cutsErr,J3a,Yea];rfl
def Ktc (s:XSite) (v:List Int) (c:List XCut) (t:Int):cutAt (K4 s) v c t=cutAt s v c t:=by funext i;rw [cutAt,cutAt,Yna];rfl
def Udb (s : XSite) (v : List Int) (c : List XCut) : ∀ k, U4a (K4 s) v c k = U4a s v c k
 | 0=>rfl
 | k + 1=>by rw [U4a,U4a,Udb s v c k,Yna];rfl
def Zjb (s:XSite) (c:List XCut) (fl:List XSpan) (k t:Int):readyE (K4 s) c fl k t=readyE s c fl k t:=by rw [readyE,readyE,Yna];rfl
def Unb (s:XSite) (n m:Nat) (t:Int):sharedE (K4 s) n m t=sharedE s n m t:=by rw [sharedE,sharedE,J3a,Yea];rfl
abbrev SiteE (s s':XSite):Prop:=K4 s=K4 s'
section
variable {s s':XSite} (h:SiteE s s')
include h
def SiteE.air:Z1 s.air=Z1 s'.air:=congrArg XSite.air zrc
def SiteE.sens:s.sensors.l=s'.sensors.l:=by have e:=congrArg (fun x:XSite=>x.sensors.l) zrc;exact e
def SiteE.conds:s.conds.l=s'.conds.l:=by have e:=congrArg (fun x:XSite=>x.conds.l) zrc;exact e
def SiteE.persons:s.persons.l=s'.persons.l:=by have e:=congrArg (fun x:XSite=>x.persons.l) zrc;exact e
def SiteE.places:s.air.mine.places.l=s'.air.mine.places.l:=by have e:=congrArg (fun x:XSite=>x.air.mine.places.l) zrc;exact e
def SiteE.roads:s.air.mine.roads.l=s'.air.mine.roads.l:=by have e:=congrArg (fun x:XSite=>x.air.mine.roads.l) zrc;exact e
def SiteE.nfans:s.air.fans.l.length=s'.air.fans.l.length:=by have:=congrArg (fun x:XSite=>x.air.fans.l.length) zrc;simpa [K4,Z1] using this
def SiteE.ndoors:s.air.doors.l.length=s'.air.doors.l.length:=by have:=congrArg (fun x:XSite=>x.air.doors.l.length) zrc;simpa [K4,Z1] using this
def SiteE.nzones:s.zones.l.length=s'.zones.l.length:=by rw [← Yea s,h,Yea s']
def SiteE.zone (k:Nat):Jtc (s.zones.l.getD k default)=Jtc (s'.zones.l.getD k default):=by rw [← Yna s,h,Yna s']
def SiteE.rule (k:Nat):(s.zones.l.getD k default).rule.l=(s'.zones.l.getD k default).rule.l:=by have e:=congrArg (fun z:XZone=>z.rule.l) (SiteE.zone h k);exact e
def SiteE.door (k:Nat):(s.air.doors.l.getD k default).rests.l=(s'.air.doors.l.getD k default).rests.l:=by
 have e:Zpa (s.air.doors.l.getD k default)=Zpa (s'.air.doors.l.getD k default):=by rw [← Ypb s.air,SiteE.air h,Ypb s'.air]
 have e2:=congrArg (fun d:XDoor=>d.rests.l) e;exact e2
def SiteE.err:K7 s=K7 s':=by rw [← J3a s,h,J3a s']
def SiteE.valuesErr (m:List XMeas) (w:List XWatch) (fl:List XSpan) (t:Int):valuesErr s m w fl t=valuesErr s' m w fl t:=by rw [← Zxa s,h,Zxa s']
def SiteE.valuesV (m:List XMeas) (w:List XWatch) (fl:List XSpan) (t:Int):valuesV s m w fl t=valuesV s' m w fl t:=by rw [Go.Proofs.YtchfclmokpbldaaGreat.valuesV,Go.Proofs.YtchfclmokpbldaaGreat.valuesV,SiteE.valuesErr h,SiteE.sens h,SiteE.conds h]
def SiteE.valuesW (m:List XMeas) (w:List XWatch) (fl:List XSpan) (t:Int):valuesW s m w fl t=valuesW s' m w fl t:=by rw [Go.Proofs.YtchfclmokpbldaaGreat.valuesW,Go.Proofs.YtchfclmokpbldaaGreat.valuesW,SiteE.valuesErr h,SiteE.sens h,SiteE.conds h]
def SiteE.cutsErr (v:List Int) (c:List XCut) (t:Int):cutsErr s v c t=cutsErr s' v c t:=by rw [← Uwb s,h,Uwb s']
def SiteE.cutAt (v:List Int) (c:List XCut) (t:Int):cutAt s v c t=cutAt s' v c t:=by rw [← Ktc s,h,Ktc s']
def SiteE.cutsC (v:List Int) (c:List XCut) (t:Int):cutsC s v c t=cutsC s' v c t:=by rw [Go.Proofs.YtchfclmokpbldaaGreat.cutsC,Go.Proofs.YtchfclmokpbldaaGreat.cutsC,SiteE.cutsErr h,SiteE.cutAt h]
def SiteE.cutsN (v:List Int) (c:List XCut) (t:Int):cutsN s v c t=cutsN s' v c t:=by rw [Go.Proofs.YtchfclmokpbldaaGreat.cutsN,Go.Proofs.YtchfclmokpbldaaGreat.cutsN,SiteE.cutsErr h,← Udb s,h,Udb s']
def SiteE.readyE (c:List XCut) (fl:List XSpan) (k t:Int):readyE s c fl k t=readyE s' c fl k t:=by rw [← Zjb s,h,Zjb s']
def SiteE.sharedE (n m:Nat) (t:Int):sharedE s n m t=sharedE s' n m t:=by rw [← Unb s,h,Unb s']
def SiteE.askE (c:List XCut) (fl:List XSpan) (r:XRest) (p k t:Int):askE s c fl r p k t=askE s' c fl r p k t:=by rw [Go.Proofs.YtchfclmokpbldaaGreat.askE,Go.Proofs.YtchfclmokpbldaaGreat.askE,SiteE.sharedE h,SiteE.readyE h,SiteE.persons h]
def SiteE.askR (c:List XCut) (fl:List XSpan) (r:XRest) (p k t:Int):askR s c fl r p k t=askR s' c fl r p k t:=by rw [Go.Proofs.YtchfclmokpbldaaGreat.askR,Go.Proofs.YtchfclmokpbldaaGreat.askR,SiteE.askE h]
end
end
end Go.Proofs.YtchfclmokpbldaaGreat
