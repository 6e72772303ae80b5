/-
  Merged texts. By an AI agent.
-/
import Derived.Test.YtchfclmokpbldaaGreatDrawR
import Derived.Test.YtchfclmokpbldaaGreatFits
import Derived.Test.YtchfclmokpbldaaGreatAppR
import Derived.Test.YtchfclmokpbldaaGreatStatM
set_option linter.all false
set_option maxHeartbeats 4000000
set_option maxRecDepth 20000
namespace Go.Proofs.YtchfclmokpbldaaGreat
open Go.Aw Go
section
def Ykd {P : Program} {ρ : Operand → Value} {L : LB} {R : LS} {dst : Option Tmp} {ty : TypeId} {pos : String} {after : Array Edge} {guard : Option (Nat × Bool)} (tb : Tabs P) {T : TypeId} {x y : Operand} {k : IntKind} {len cap m : Nat} {h : Int} {ar : Option Addr} {e n1 fl bt z k2 n2 fl2 bt2 z2}
 (hT:Zd tb.tab T=some ⟨.slice e,n1,fl,bt,z⟩) (hE:Zd tb.tab e=some ⟨k2,n2,fl2,bt2,z2⟩) (hx:ρ x=.slice ar len cap) (hy:ρ y=.int k h) (hh:h=(m:Int)) (h1:1≤m) (hn:m≤len):
 YV P ⟨dst,.slice T x (some y) none none,ty,pos,after,guard⟩ ρ L R (.slice (if cap=m then ar else ar.map (·.add (m * n2))) (len - m) (cap - m)):=fun _ w _=>by
 have hu:=Yz (tb.ok _ _ hT) rfl
 have he:P.elem T=e:=by simp [Program.elem,hu]
 have hu':P.underlying T=some (.slice (P.elem T)):=by rw [he];exact hu
 have hs:=Go.Aw.run_sizeOf (tb.ok _ _ hE) w
 simp only at hs
 subst hh
 have h1:=run_slice_l (P:=P) w T ar len cap hu' k (m:Int) zc zc
 rw [he,hs,yD,yz] at h1
 simp [execOp,hx,hy,run_sliceAt_slice w T _ _ _ _ hu',h1,sliced]
def Z0d {w:World} {G:Nat→Prop} {wd len cap m:Nat} {a:Option Addr} {rows:List (List Value)} {subs:LS} (h:Rep w G (.mk wd a len cap rows subs)) (h1:1≤m) (hk:m≤len) (hp:0 < wd):Rep w G (.mk wd (if cap=m then a else a.map (·.add (m * wd))) (len - m) (cap - m) (rows.drop m) subs):=by
 cases h with
 | mk hl hc hm hw hr hs=>
  refine .mk zH zc zc (fun r hr=>hw r (List.mem_of_mem_drop hr)) ?_ hs;rcases yk m len with h2 | h2;·
   rcases hr with h0 | ⟨b, off, ha, hg, Khb⟩;·exact .inl (by rw [h0];simp)
   ·have hmw : 0 < m * wd := Nat.mul_pos h1 hp;refine .inr ⟨b,off + m * wd,by rw [if_neg zc,ha,yFa,Addr.add,if_neg zc],hg,fun i j hi hj=>?_⟩;have:=Khb (i + m) j zc hj;(have e:off + m * wd + i * wd + j=off + (i + m) * wd + j:=by rw [ytb];omega);rw [List.getElem?_drop,Nat.add_comm m i,← this,e]
  ·exact .inl (yVa zc)
abbrev J2e {α:Type} (y:Arr α) (m wd:Nat):Arr α:=⟨if y.cap=m then y.a else y.a.map (·.add (m * wd)),y.cap - m,y.l.drop m⟩
def Ute {α:Type} {P n code t L R} {Q:K2} {wd m:Nat} {f:α→List Value} {subs:LS} {y:Arr α} (hR:InR (y.sl wd f subs) R) (h1:1≤m) (hk:m≤y.l.length) (hp:0 < wd) (h:CJ P n code t L ((J2e y m wd).sl wd f subs :: R) Q):CJ P n code t L R Q:=by
 refine Uod (s:=(J2e y m wd).sl wd f subs) (fun w G hh=>?_) h;obtain ⟨r,hr,hs⟩:=hR;have h2:=Z0d ((hh r hr).sub hs) h1 hk hp;have e1:y.l.length - m=(y.l.drop m).length:=by rw [yjb]
 have e2:(y.l.map f).drop m=(y.l.drop m).map f:=by rw [List.map_drop]
 rw [e1,e2] at h2;exact h2
section
variable {P:Program} {ρ:Operand→Value} {L:LB} {R:LS} {dst:Option Tmp} {ty:TypeId} {pos:String} {after:Array Edge} {guard:Option (Nat×Bool)} (tb:Tabs P) {T:TypeId} {x y:Operand}
end
end
section
section
variable {P:Program} {ρ:Operand→Value} {L:LB} {R:LS} {dst:Option Tmp} {ty:TypeId} {pos:String} {after:Array Edge} {guard:Option (Nat×Bool)} (tb:Tabs P) {T:TypeId} {x y z:Operand}
def Kcf {α:Type} {u:Arr α} {m wd:Nat} {h:Int} {k:IntKind} {e n1 fl bt z k2 n2 fl2 bt2 z2} (hT:Zd tb.tab T=some ⟨.slice e,n1,fl,bt,z⟩) (hE:Zd tb.tab e=some ⟨k2,n2,fl2,bt2,z2⟩) (hx:ρ x=u.val) (hy:ρ y=.int k h) (hh:h=(m:Int)) (h1:1≤m) (hn:m≤u.l.length) (hw:n2=wd):
 YV P ⟨dst,.slice T x (some y) none none,ty,pos,after,guard⟩ ρ L R (J2e u m wd).val:=by have h2:=Ykd (ρ:=ρ) (L:=L) (R:=R) (dst:=dst) (ty:=ty) (pos:=pos) (after:=after) (guard:=guard) tb hT hE hx hy hh h1 hn;subst hw;rw [Arr.val,yjb];exact h2
end
end
section
section
variable {A B:Prop}
def Vuf(h:A→B:=by exact Kq zzb rfl rfl rfl):=h
end
def Tri.pperm {P:Program} {f:FuncId} {args:Array Value} {L:LB} {R:LS} {Post Post':Zc} (h:Tri P f args L R Post) (k:∀v M U,Post v M U→∃L'',M.Perm L''∧Post' v L'' U):Tri P f args L R Post':=
 ⟨h.1,fun w G hh=>(h.2 w G hh).mono fun _ _ ⟨v,M,U,e,p,s⟩=>let ⟨L'',hp,p'⟩:=k v M U p;⟨v,L'',U,e,p',s.perm hp⟩⟩
attribute [local irreducible] CJ LJ DJ Tri YV Gives U7 Kb Kp U8 RV Ke OwL.L
def Y6a (x:XSta) (pl:OwL XEntry) (b:Nat) (k z u:Int) (L:LB) (R:LS) (hk:pl.ok 4 XEntry.cells) (hn:pl.l.length≤400):
 Tri Tryz.prog 85 [.pointer (some ⟨b, 0, none⟩), .int .i64 k, .int .i64 z, .int .i64 u].toArray (⟨b, ({x with log := pl.arr} : XSta).cells, 54⟩ :: (pl.L 150 XEntry.cells ++ L)) R
  (fun v M U=>∃q:OwL XEntry,q.ok 4 XEntry.cells∧q.l=J6b pl.l ⟨x.time,k,z,u⟩∧⟨b,({x with log:=q.arr}:XSta).cells,54⟩ :: (q.L 150 XEntry.cells ++ L)=M∧R=U):=by
 refine Tri.pperm (Post:=fun v M U=>∃q:OwL XEntry,q.ok 4 XEntry.cells∧q.l=J6b pl.l ⟨x.time,k,z,u⟩∧(⟨b,({x with log:=q.arr}:XSta).cells,54⟩ :: (q.L 150 XEntry.cells ++ L)=M∨q.L 150 XEntry.cells ++ (⟨b,({x with log:=q.arr}:XSta).cells,54⟩ :: L)=M)∧R=U) ?_ (fun v M U ⟨q,h1,h2,h3,h4⟩=>⟨_,by
  rcases h3 with rfl | rfl;·exact yLa _
  ·exact yTa,q,h1,h2,rfl,h4⟩)
 refine Jd 44 Tryz.call85 Tryz.func85 rfl rfl rfl ?_;refine Ji ?_;refine Kh tb [9] [0,1,2,3,4,5,6,7,8,9,10,11,12,13] [14,15,16,17] (_) _ Kn zf zk yd ?_;refine V6 (J2 zSb) rfl rfl rfl rfl ?_;apply (qb3);refine Kz zXb rfl rfl rfl rfl ?_;apply (Xda);refine Kz zXb rfl rfl rfl rfl ?_;apply (Xah);iterate 3 apply (qbf)
 refine Kz (Kf (qs:=[(0,(Value.int _ _).cells.toList),(1,(Value.int _ _).cells.toList),(2,(Value.int _ _).cells.toList),(3,(Value.int _ _).cells.toList)]) (out:=[_,_,_,_]) tb rfl rfl rfl rfl) rfl rfl rfl rfl ?_;refine Keb zDb rfl rfl rfl ?_;rintro v M U ⟨b22,rfl,rfl,hR22⟩;replace hR22:=hR22.symm;subst hR22;apply (Xb3);refine V7a (Jq (f:=XEntry.cells) (p:=pl) (a:=⟨x.time,k,z,u⟩) tb rfl rfl rfl rfl (hk) zm zCb rfl zz) rfl rfl rfl ?_;rintro v M U ⟨o23,rfl,hok23,rfl,rfl⟩;apply qa1∘qcb∘Xby∘qb9;have hql:(⟨o23,pl.l ++ [⟨x.time,k,z,u⟩]⟩:OwL XEntry).l.length=pl.l.length + 1:=by simp
 have hqe:(pl.l ++ [(⟨x.time,k,z,u⟩:XEntry)]).length=pl.l.length + 1:=by simp
 apply (Xel);refine J0 zXb rfl ?_;apply Xab∘qa9∘Xa2∘Xdq;refine q_c ?_ ?_<;>intro hc0;·
  obtain ⟨p1,hp1⟩:∃p1:OwL XEntry,p1=⟨o23,pl.l ++ [⟨x.time,k,z,u⟩]⟩:=⟨_,rfl⟩;have hpl2:(pl.l ++ [(⟨x.time,k,z,u⟩:XEntry)]).length=p1.l.length:=by rw [hp1]
  rw [← hp1] at hok23 hql ⊢;refine Kt (T:=150) (f:=XEntry.cells) (wd:=4) p1 [] zm yf zj hok23 yg ?_;refine V4 zA ?_;refine Ute (y:=p1.arr) (m:=p1.l.length - 400) zRb zc (by show p1.l.length - 400≤p1.l.length;omega) zj ?_;have hdn:(J2e p1.arr (p1.l.length - 400) 4).l.length≤1000:=by show (p1.l.drop _).length≤_;rw [yjb];omega
  apply Xel∘qa6;refine J0 zXb rfl ?_;apply (Xaf);refine J0 (Kcf (m:=p1.l.length - 400) (wd:=4) (u:=p1.arr) tb rfl rfl rfl rfl zc zc (by show p1.l.length - 400≤p1.l.length;omega) rfl) rfl ?_;refine Y6 (K6 (f:=XEntry.cells) (xs:=J2e p1.arr (p1.l.length - 400) 4) tb rfl rfl rfl zj rfl rfl ((Jb (.head _))) yf zc) rfl ?_;rintro v M U ⟨o41,rfl,hok41,rfl,rfl⟩;refine J0 zXb rfl ?_;apply Xbo∘qav;refine Jua (M:=(⟨o41,p1.l.drop (p1.l.length - 400)⟩:OwL XEntry).L 150 XEntry.cells ++ (⟨b,({x with log:=(⟨o41,p1.l.drop (p1.l.length - 400)⟩:OwL XEntry).arr}:XSta).cells,54⟩ :: L)) (U:=R) (Uzf rfl) ?hp ?hL ?hR;case hp=>exact ⟨⟨o41,p1.l.drop (p1.l.length - 400)⟩,hok41,by show p1.l.drop _=_;rw [J6b,hql,hp1],.inr rfl,rfl⟩
  case hL=>exact zk
  case hR=>exact fun r hr=>Jb (.tail _ (.tail _ hr))
 refine Jt ?_;refine Jua (M:=⟨b,({x with log:=(⟨o23,pl.l ++ [⟨x.time,k,z,u⟩]⟩:OwL XEntry).arr}:XSta).cells,54⟩ :: ((⟨o23,pl.l ++ [⟨x.time,k,z,u⟩]⟩:OwL XEntry).L 150 XEntry.cells ++ L)) (U:=R) (Uzf rfl) ?hp ?hL ?hR;case hp=>exact ⟨⟨o23,pl.l ++ [⟨x.time,k,z,u⟩]⟩,hok23,by rw [J6b,show pl.l.length + 1 - 400=0 by omega,yib],.inl rfl,rfl⟩
 case hL=>exact zk
 case hR=>exact Jc _
def StaIs.note {g:PSite} {p:PSta} {x:XSta} (h:StaIs g p x) {l:Arr XEntry} {k z u:Int} (hl:l.l=J6b x.log.l ⟨x.time,k,z,u⟩):StaIs g (Yda p k z u) ({x with log:=l}:XSta):={ h with log:=by rw [Yda,← h.log,← h.time];exact hl }
def Udd (x:XSta) (t:Int) (L:LB) (R:LS):
 Tri Tryz.prog 81 [x.val,.int .i64 t].toArray L R (fun v M U=>v=.bool (decide (t < x.time∨2147483648 < t))∧L=M∧R=U):=by
 refine Jd 13 Tryz.call81 Tryz.func81 rfl rfl rfl ?_;apply (Xag);intro b2;apply qaz∘Xdr∘Xa7;apply J3 (G:=[_,_]) (j:=4) (cj:=9) rfl rfl ze rfl ztb rfl;·intro hg5;replace hg5:=qb hg5;exact (Xcu) qai
 intro junk5;exact ubt
def Jwe (x:XSwitch):Bool:=!x.closed || decide (x.shown= -1)
def Zvb {l:List Int} {f:Int→Bool} (h:∀j:Nat,j < l.length→f (l.getD j 0)=false):l.any f=false:=by rw [List.any_eq_false];intro y hy;obtain ⟨j,hj,rfl⟩:=yGa hy;have:=h j hj;rw [yh,yx hj] at this;rw [show (some l[j]).getD 0=l[j] from rfl] at this;rw [this];decide
def V4e (f:XFeeder) (z:Int) (L:LB) (R:LS) (hf:FeederR f R) (hfe:feedE f.switches.l f.zones.l f.reply=0) (hz:0≤z∧z < f.zones.l.length):
 Tri Tryz.prog 159 [f.val,.int .i64 z].toArray L R (fun v M U=>v=.bool ((K7b f.switches.l f.zones.l f.reply (f.zones.l.getD z.toNat 0)).any fun k=>Jwe (f.switches.l.getD k.toNat default))∧L=M∧R=U):=by
 have hsR:=hf.sw;have hzR:=hf.zn;have hzg:=Js (l:=f.zones.l) (k:=z.toNat) 0 zc;refine Jd 34 Tryz.call159 Tryz.func159 rfl rfl rfl ?_;apply (Xag);intro b2;apply qaz∘qco;refine Kg tb [0,1,2,3,4,5,8,6,7] _ Kn zf ye ?_;apply Vuf∘Xa8;refine Kq zob rfl rfl rfl ?_;apply qbl∘qao;refine Vn rfl (Yue f (f.zones.l.getD z.toNat 0) _ _ hf) rfl rfl ?_;rintro v M U ⟨q,rfl,hqk,hql,rfl,rfl⟩;refine ⟨zk,zu,?_⟩;refine Kq zHb rfl rfl rfl ?_;refine J9 (Ja (Jy ?_));refine Jh [(2,.pointer _),(14,.slice _ _ _),(15,.int _ _),(16,.int _ _)] zg fun tq0=>?_;have hqm:∀y∈q.l,0≤y∧y < f.switches.l.length:=fun y hy=>by have:=Jxe (sw:=f.switches.l) (zn:=f.zones.l) (rp:=f.reply) (s:=f.zones.l.getD z.toNat 0) (x:=y) (by rw [← hql];exact hy);omega
 refine Kt (T:=3) (f:=Jj) (wd:=1) q [] zm yf zj hqk yg ?_;refine V4 zA ?_;have hqR:InR (isl q.arr) (isl q.arr :: R):=Jb (.head _);have hqn:q.l.length≤32:=by rw [hql];exact J0e
 have hsR2:=hsR.mono fun r hr=>Jb (R:=isl q.arr :: R) (.tail _ hr);refine q_s ([4,6,7]++rg 16 18) (fun g:{k:Nat // k≤q.l.length∧∀j:Nat,j < k→Jwe (f.switches.l.getD (q.l.getD j 0).toNat default)=false}=>[(16,.int .i64 ((g.1:Nat):Int))]) (fun g=>q.l.length - g.1) (⟨0,by omega,fun j hj=>by omega⟩) ?_;rintro ⟨k,hk,hal⟩ junk;try dsimp only
 apply (Xay);refine q_c ?_ ?_<;>intro hc0;·
  have hqg:=Js (l:=q.l) (k:=k) 0 zc;have hqr:=hqm _ (yi hqg);have hsg:=Js (l:=f.switches.l) (k:=(q.l.getD k 0).toNat) default zc;apply (qbb);refine J0 zC rfl ?_;apply qa7∘Xar∘Xaf;refine J0 (by first | exact Jf tb rfl rfl rfl rfl zB (i:=(q.l.getD k 0).toNat) zo zc | exact Jm tb rfl rfl rfl rfl (i:=(q.l.getD k 0).toNat) zo zc) rfl ?_;apply qdw∘qaq;intro b7;apply Xcv∘Xdd;apply J3 (G:=[_,_,_]) (j:=3) (cj:=28) rfl rfl ze rfl ztb rfl;·exact ubE
  intro junk4;apply (qaf);refine q_c ?_ ?_<;>intro hc1;·
   apply (Xci);refine Ku (M:=L) (U:=R) (U3 rfl zjd) ?hp ?hL ?hR;case hp=>exact ⟨by rw [← hql,List.any_eq_true.2 ⟨_,yi hqg,by rw [Jwe];simpa using hc1⟩],rfl,rfl⟩
   case hL=>exact zk
   case hR=>exact fun r hr=>Jb (.tail _ hr)
  apply (Xbk);exact Ka ⟨k + 1,by omega,fun j hj=>by
  rcases yk j k with h | h;·exact hal j h
  ·(obtain rfl : j = k := by omega);rw [Jwe];simpa using hc1⟩ zp zg zk zJb zt
 apply (Xde);refine Ku (M:=L) (U:=R) (U3 rfl zjd) ?hp ?hL ?hR;case hp=>exact ⟨by rw [← hql,Zvb fun j hj=>hal j zc],rfl,rfl⟩
 case hL=>exact zk
 case hR=>exact fun r hr=>Jb (.tail _ hr)
def Kwe (g:PSite) (p:PSta) (x:XSta) (pc:OwL XCut) (pl:OwL XEntry) (b:Nat) (z:Int) (L:LB) (R:LS) (hI:Inv g p) (hx:StaIs g p ({x with cuts:=pc.arr,log:=pl.arr}:XSta)) (hf:FeederR x.feeder R) (hck:pc.ok 3 XCut.cells) (hlk:pl.ok 4 XEntry.cells) (hz:0≤z∧z < p.cuts.length):
 Tri Tryz.prog 156 [.pointer (some ⟨b, 0, none⟩), .int .i64 z].toArray (⟨b, ({x with cuts := pc.arr, log := pl.arr} : XSta).cells, 54⟩ :: (pl.L 150 XEntry.cells ++ (pc.L 71 XCut.cells ++ L))) R
  (fun v M U=>∃(f:XFeeder) (q:OwL XEntry) (S:LS),q.ok 4 XEntry.cells∧StaIs g (Y1d g p z) ({x with cuts:=pc.arr,feeder:=f,log:=q.arr}:XSta)∧FeederR f (S ++ R)∧⟨b,({x with cuts:=pc.arr,feeder:=f,log:=q.arr}:XSta).cells,54⟩ :: (q.L 150 XEntry.cells ++ (pc.L 71 XCut.cells ++ L))=M∧S ++ R=U):=by
 have hcl:pc.l=p.cuts:=hx.cuts;have hll:pl.l=p.log:=hx.log;have hln:=hI.log;have hzn:x.feeder.zones.l=g.zn:=hx.zn;have hsw:x.feeder.switches.l=p.sw:=hx.sw;have hrp:x.feeder.reply=g.rp:=hx.rp;have htm:x.time=p.time:=hx.time;have hzl:=hI.zlen;have hcl2:=hI.clen;have hfo:=hI.fok;have hcb:z.toNat < pc.l.length:=by rw [hcl];omega
 have hzb:z.toNat < x.feeder.zones.l.length:=by rw [hzn];omega
 have hcg:=Js (l:=pc.l) (k:=z.toNat) default hcb;have hzg:=Js (l:=x.feeder.zones.l) (k:=z.toNat) 0 hzb;have hzr:=hfo.zr z.toNat zc;rw [← hzn,← hsw] at hzr;obtain ⟨s,hs⟩:∃s,s=x.feeder.zones.l.getD z.toNat 0:=⟨_,rfl⟩;rw [← hs] at hzg hzr;have hsg:=Js (l:=x.feeder.switches.l) (k:=s.toNat) default zc;obtain ⟨y,hy⟩:∃y,y=x.feeder.switches.l.getD s.toNat default:=⟨_,rfl⟩;rw [← hy] at hsg;obtain ⟨c,hc⟩:∃c,c=pc.l.getD z.toNat default:=⟨_,rfl⟩;rw [← hc] at hcg;have hcan:Z1b x.feeder.switches.l x.feeder.zones.l x.feeder.reply s x.time=0:=by rw [hzn,hsw,hrp,htm,Z1b,if_neg (by rw [hI.fe];decide),if_neg (by rw [hsw] at hzr;omega),if_pos hI.tok]
 have hsR:=hf.sw;have hzR:=hf.zn;dsimp only [XSta.cells];refine Jd 59 Tryz.call156 Tryz.func156 rfl rfl rfl ?_;apply qae∘Xc2∘qa6;refine J0 zXb rfl ?_;apply (Xaf);refine J0 (Jo tb (pc) _ rfl rfl rfl rfl zi (i:=z.toNat) zo zw) rfl ?_;apply (qb0);refine J0 (Kc tb (pc) rfl rfl rfl zm zi yf zi ze) rfl ?_;refine Ju rfl (Y6a {x with cuts:=pc.arr} pl b 1 z c.reason _ _ hlk (by rw [hll];exact hln)) rfl ?_;rintro v M U ⟨q,hqk,hql,rfl,rfl⟩;dsimp only [XSta.cells];apply (Xd9);refine J0 zXb rfl ?_;apply (Xc3);refine J0 zob rfl ?_;apply qa7∘Xar∘qa6;refine J0 zXb rfl ?_;apply (Xc3);refine J0 zpb rfl ?_;apply Xbd∘qaz∘qa4;refine Kg tb [0,1,2,3,4,5,6,7,8,9,10,11,12,13,14,15] _ Kn zf ye ?_;apply Xbw∘qal∘Vuf∘qao∘Xeb;refine Vn rfl (Utb x.feeder s x.time _ _ hf) rfl rfl ?_;rintro v M U ⟨pp,qq,rp,rfl,⟨hppk,hqqk⟩,hop,rfl,rfl⟩;refine ⟨zk,zu,?_⟩;refine Kq zcc rfl rfl rfl ?_;refine Kq zkc rfl rfl rfl ?_;refine Kq zkc rfl rfl rfl ?_;apply (qbr);intro b6;apply qbg∘qcg∘qc6∘qaa∘Xaw;refine q_c ?_ ?_<;>intro hc0;·exact absurd hcan hc0
 obtain ⟨hppl,hqql,rfl⟩:=hop hcan;refine Kt (T:=76) (f:=XSwitch.cells) (wd:=5) pp [] zm yf zj hppk yg ?_;refine V4 zA ?_;refine Kt (T:=3) (f:=Jj) (wd:=1) qq [] zm yf zj hqqk yg ?_;refine V4 zA ?_;have hfR:FeederR ⟨pp.arr,qq.arr,x.feeder.reply⟩ ([isl qq.arr,Z4b pp.arr] ++ R):=⟨Jb (.tail _ (.head _)),Jb (.head _)⟩;have hq0:q.l=(Yda p 1 z (p.cuts.getD z.toNat default).reason).log:=by rw [hql,Yda,← hll,← hcl,← hc,← htm]
 have hzs:g.zn.getD z.toNat 0=s:=by rw [hs,hzn]
 have hsy:p.sw.getD s.toNat default=y:=by rw [hy,hsw]
 have hpp:pp.l=Ye p.sw s p.time:=by rw [hppl,hsw,htm]
 apply qbv∘qa6;refine J0 zzb rfl ?_;refine J0 zXb rfl ?_;apply (qab);refine Kta tb rfl rfl rfl rfl zD ze ze ze ?_;apply (qa4);refine Kpa (M:=⟨b,({x with cuts:=pc.arr,feeder:=⟨pp.arr,qq.arr,x.feeder.reply⟩,log:=q.arr}:XSta).cells,54⟩ :: (q.L 150 XEntry.cells ++ (pc.L 71 XCut.cells ++ L))) zk zJb ?_;apply qay∘qah∘qaf;refine q_c ?_ ?_<;>intro hc1;·
  apply qay∘Xc2;refine Ju rfl (Y6a {x with cuts:=pc.arr,feeder:=⟨pp.arr,qq.arr,x.feeder.reply⟩} q b 2 s 0 _ _ hqk (by rw [hq0];exact (hI.note _ _ _).log)) rfl ?_;rintro v M U ⟨q2,hq2k,hq2l,rfl,rfl⟩;apply (qav);refine Jua (M:=⟨b,({x with cuts:=pc.arr,feeder:=⟨pp.arr,qq.arr,x.feeder.reply⟩,log:=q2.arr}:XSta).cells,54⟩ :: (q2.L 150 XEntry.cells ++ (pc.L 71 XCut.cells ++ L))) (U:=[isl qq.arr,Z4b pp.arr] ++ R) (Uzf rfl) ?hp ?hL ?hR;case hp=>(have e:Y1d g p z=Yda { Yda p 1 z (p.cuts.getD z.toNat default).reason with sw:=Ye p.sw s p.time } 2 s 0:=by rw [Y1d,hzs,hsy,if_pos hc1]);exact ⟨⟨pp.arr,qq.arr,x.feeder.reply⟩,q2,[isl qq.arr,Z4b pp.arr],hq2k,by rw [e];exact { hx with sw:=hpp,zn:=hqql.trans hzn,log:=by show q2.l=_;rw [hq2l,hq0,htm];rfl },hfR,rfl,rfl⟩
  case hL=>exact zk
  case hR=>exact Jc _
 refine Jt ?_;refine Jua (M:=⟨b,({x with cuts:=pc.arr,feeder:=⟨pp.arr,qq.arr,x.feeder.reply⟩,log:=q.arr}:XSta).cells,54⟩ :: (q.L 150 XEntry.cells ++ (pc.L 71 XCut.cells ++ L))) (U:=[isl qq.arr,Z4b pp.arr] ++ R) (Uzf rfl) ?hp ?hL ?hR;case hp=>
  have e:Y1d g p z={ Yda p 1 z (p.cuts.getD z.toNat default).reason with sw:=Ye p.sw s p.time }:=by rw [Y1d,hzs,hsy,if_neg (by rw [hc1];decide)]
  exact ⟨⟨pp.arr,qq.arr,x.feeder.reply⟩,q,[isl qq.arr,Z4b pp.arr],hqk,by rw [e];exact { hx with sw:=hpp,zn:=hqql.trans hzn,log:=hq0 },hfR,rfl,rfl⟩
 case hL=>exact zk
 case hR=>exact Jc _
end
end Go.Proofs.YtchfclmokpbldaaGreat
