import Derived.Test.YtchfclmokpbldaaGreatFeedX
import Derived.Test.YtchfclmokpbldaaGreatSliW
import Derived.Test.YtchfclmokpbldaaGreatSiteD
set_option linter.unusedVariables false
set_option linter.unusedSimpArgs false
section
/-
  Stations: the log, a zone that is cut. By an AI agent; no person has read it.
-/
namespace Go.Proofs.YtchfclmokpbldaaGreat
open Go.Aw Go
section
variable {A9 B9:Prop}
theorem Kah (a:A9) (h:A9→B9:=by exact Jbu (Jal (row:=[_,_,_]) tb rfl rfl rfl zf zb zb) rfl rfl rfl):B9:=h a
end
theorem Tri.pperm {P:Program} {f:FuncId} {args:Array Value} {L:List Blk} {R:List Sl} {Post Post':Jef} (h:Tri P f args L R Post) (k:∀v L' R',Post v L' R'→∃L'',L'.Perm L''∧Post' v L'' R'):Tri P f args L R Post':=
  ⟨h.1,fun w G hh=>(h.2 w G hh).mono fun _ _ ⟨v,L',R',e,p,s⟩=>let ⟨L'',hp,p'⟩:=k v L' R' p;⟨v,L'',R',e,p',s.perm hp⟩⟩
set_option maxRecDepth 20000
attribute [local irreducible] CJ LJ DJ Tri YV Gives Jcj Ja1 Jbg Jci RV Ja2 OwL.L
theorem Jf3 (x:XSta) (pl:OwL XEntry) (b:Nat) (k z u:Int) (L:List Blk) (R:List Sl) (hk:pl.ok 4 XEntry.cells) (hn:pl.l.length≤400):
    Tri Tryz.prog 85 [.pointer (some ⟨b, 0, none⟩), .int .i64 k, .int .i64 z, .int .i64 u].toArray (⟨b, ({x with log := pl.arr} : XSta).cells, 54⟩ :: (pl.L 150 XEntry.cells ++ L)) R
      (fun v L' R'=>∃q:OwL XEntry,q.ok 4 XEntry.cells∧q.l=Jl5 pl.l ⟨x.time,k,z,u⟩∧⟨b,({x with log:=q.arr}:XSta).cells,54⟩ :: (q.L 150 XEntry.cells ++ L)=L'∧R=R'):=by
  refine Tri.pperm (Post:=fun v L' R'=>∃q:OwL XEntry,q.ok 4 XEntry.cells∧q.l=Jl5 pl.l ⟨x.time,k,z,u⟩∧(⟨b,({x with log:=q.arr}:XSta).cells,54⟩ :: (q.L 150 XEntry.cells ++ L)=L'∨q.L 150 XEntry.cells ++ (⟨b,({x with log:=q.arr}:XSta).cells,54⟩ :: L)=L')∧R=R') ?_ (fun v L' R' ⟨q,h1,h2,h3,h4⟩=>⟨_,by
    rcases h3 with rfl | rfl
    · exact List.Perm.refl _
    · exact List.perm_middle,q,h1,h2,rfl,h4⟩)
  refine Jad 44 Tryz.call85 Tryz.func85 rfl rfl rfl ?_
  refine Jam ?_
  refine Jbk tb [9] [0,1,2,3,4,5,6,7,8,9,10,11,12,13] [14,15,16,17] (_) _ Jby zc zi (List.nil_sublist _) ?_
  refine Jd2 (Jav (show _=Value.pointer _ from rfl)) rfl rfl rfl rfl ?_
  refine qb3 ?_
  refine Jbv (Jay rfl) rfl rfl rfl rfl ?_
  refine Xar ?_
  refine qb3 ?_
  refine Jbv (Jay rfl) rfl rfl rfl rfl ?_
  refine Xar ?_
  iterate 3 refine qbf ?_
  refine Jbv (Jbc (qs:=[(0,(Value.int _ _).cells.toList),(1,(Value.int _ _).cells.toList),(2,(Value.int _ _).cells.toList),(3,(Value.int _ _).cells.toList)]) (out:=[_,_,_,_]) tb rfl rfl rfl rfl) rfl rfl rfl rfl ?_
  refine Jxz (Ja0 (qs:=[(0,(Value.agg _).cells.toList)]) (out:=[_,_,_,_]) tb rfl rfl rfl rfl rfl rfl rfl) rfl rfl rfl ?_
  rintro v L' R' ⟨b22,rfl,rfl,hR22⟩
  replace hR22:=hR22.symm;subst hR22
  refine Xc2 ?_
  refine Jpz (Ja9 (f:=XEntry.cells) (p:=pl) (a:=⟨x.time,k,z,u⟩) tb rfl rfl rfl rfl (hk) zk (Jb0 zf rfl rfl) rfl zB) rfl rfl rfl ?_
  rintro v L' R' ⟨o23,rfl,hok23,rfl,rfl⟩
  refine qa1 ?_
  refine qcb ?_
  refine Xdc ?_
  refine qb9 ?_
  have hql:(⟨o23,pl.l ++ [⟨x.time,k,z,u⟩]⟩:OwL XEntry).l.length=pl.l.length + 1:=by simp
  have hqe:(pl.l ++ [(⟨x.time,k,z,u⟩:XEntry)]).length=pl.l.length + 1:=by simp
  refine qay ?_
  refine qa6 ?_
  refine Jax (Jay rfl) rfl ?_
  refine Xab ?_
  refine qa9 ?_
  refine Xat ?_
  refine qa5 ?_
  refine qaf ?_
  refine q_c (fun hc0=>?_) (fun hc0=>?_)
  ·
   obtain ⟨p1,hp1⟩:∃p1:OwL XEntry,p1=⟨o23,pl.l ++ [⟨x.time,k,z,u⟩]⟩:=⟨_,rfl⟩
   have hpl2:(pl.l ++ [(⟨x.time,k,z,u⟩:XEntry)]).length=p1.l.length:=by rw [hp1]
   rw [← hp1] at hok23 hql ⊢
   refine Jbe (T:=150) (f:=XEntry.cells) (wd:=4) p1 [] zk (fun _=>rfl) ze hok23 (fun s hs=>by cases hs) ?_
   refine Jcy zp ?_
   refine Jlg (y:=p1.arr) (m:=p1.l.length - 400) (Jaa (.head _)) za (by show p1.l.length - 400≤p1.l.length;omega) ze ?_
   have hdn:(Jfk p1.arr (p1.l.length - 400) 4).l.length≤1000:=by show (p1.l.drop _).length≤_;rw [List.length_drop];omega
   refine qay ?_
   refine qa6 ?_
   refine qa6 ?_
   refine Jax (Jay rfl) rfl ?_
   refine Xal ?_
   refine Jax (Jsn (m:=p1.l.length - 400) (wd:=4) (u:=p1.arr) tb rfl rfl rfl rfl za za (by show p1.l.length - 400≤p1.l.length;omega) rfl) rfl ?_
   refine Jgl (Jbm (f:=XEntry.cells) (xs:=Jfk p1.arr (p1.l.length - 400) 4) tb rfl rfl rfl ze rfl rfl ((Jaa (.head _))) (fun _=>rfl) za) rfl ?_
   rintro v L' R' ⟨o41,rfl,hok41,rfl,rfl⟩
   refine Jax (Jay rfl) rfl ?_
   refine Xbs ?_
   refine qav ?_
   refine Jgw (L':=(⟨o41,p1.l.drop (p1.l.length - 400)⟩:OwL XEntry).L 150 XEntry.cells ++ (⟨b,({x with log:=(⟨o41,p1.l.drop (p1.l.length - 400)⟩:OwL XEntry).arr}:XSta).cells,54⟩ :: L)) (R':=R) (Kaz rfl) ?hp ?hL ?hR
   case hp=>exact ⟨⟨o41,p1.l.drop (p1.l.length - 400)⟩,hok41,by show p1.l.drop _=_;rw [Jl5,hql,hp1],.inr rfl,rfl⟩
   case hL=>exact zi
   case hR=>exact fun r hr=>Jaa (.tail _ (.tail _ hr))
  refine Ja4 ?_
  refine Jgw (L':=⟨b,({x with log:=(⟨o23,pl.l ++ [⟨x.time,k,z,u⟩]⟩:OwL XEntry).arr}:XSta).cells,54⟩ :: ((⟨o23,pl.l ++ [⟨x.time,k,z,u⟩]⟩:OwL XEntry).L 150 XEntry.cells ++ L)) (R':=R) (Kaz rfl) ?hp ?hL ?hR
  case hp=>exact ⟨⟨o23,pl.l ++ [⟨x.time,k,z,u⟩]⟩,hok23,by rw [Jl5,show pl.l.length + 1 - 400=0 by omega,List.drop_zero],.inl rfl,rfl⟩
  case hL=>exact zi
  case hR=>exact Jac _
theorem StaIs.note {g:PSite} {p:PSta} {x:XSta} (h:StaIs g p x) {l:Arr XEntry} {k z u:Int} (hl:l.l=Jl5 x.log.l ⟨x.time,k,z,u⟩):StaIs g (Jf9 p k z u) ({x with log:=l}:XSta):={ h with log:=by rw [Jf9,← h.log,← h.time];exact hl }
theorem Jfp (x:XSta) (t:Int) (L:List Blk) (R:List Sl):
    Tri Tryz.prog 81 [x.val,.int .i64 t].toArray L R (fun v L' R'=>v=.bool (decide (t < x.time∨2147483648 < t))∧L=L'∧R=R'):=by
  refine Jad 13 Tryz.call81 Tryz.func81 rfl rfl rfl ?_
  refine Xaf ?_
  intro b2
  refine qaz ?_
  refine Xdi ?_
  refine Xbi ?_
  apply Ja7 (G:=[_,_]) (j:=4) (cj:=9) rfl rfl zb rfl (show _=Value.bool _ from rfl) rfl
  ·
   intro hg5
   replace hg5:=qb hg5
   refine Xb5 ?_
   exact qai
  intro junk5
  refine Xa3 ?_
  refine q_b (L':=L) (R':=R) ?_
  exact ⟨by refine congrArg Value.bool ?_;rw [Bool.eq_iff_iff];simp,rfl,rfl⟩
def J26 (x:XSwitch):Bool:=!x.closed || decide (x.shown= -1)
theorem Jog {l:List Int} {f:Int→Bool} (h:∀j:Nat,j < l.length→f (l.getD j 0)=false):l.any f=false:=by
  rw [List.any_eq_false]
  intro y hy
  obtain ⟨j,hj,rfl⟩:=List.getElem_of_mem hy
  have:=h j hj
  rw [List.getD_eq_getElem?_getD,List.getElem?_eq_getElem hj] at this
  rw [show (some l[j]).getD 0=l[j] from rfl] at this
  rw [this];decide
theorem J6e (f:XFeeder) (z:Int) (L:List Blk) (R:List Sl) (hf:FeederR f R) (hfe:feedE f.switches.l f.zones.l f.reply=0) (hz:0≤z∧z < f.zones.l.length):
    Tri Tryz.prog 159 [f.val,.int .i64 z].toArray L R (fun v L' R'=>v=.bool ((Jjh f.switches.l f.zones.l f.reply (f.zones.l.getD z.toNat 0)).any fun k=>J26 (f.switches.l.getD k.toNat default))∧L=L'∧R=R'):=by
  have hsR:=hf.sw
  have hzR:=hf.zn
  have hzg:=Jau (l:=f.zones.l) (k:=z.toNat) 0 za
  refine Jad 34 Tryz.call159 Tryz.func159 rfl rfl rfl ?_
  refine Xaf ?_
  intro b2
  refine qaz ?_
  refine qco ?_
  refine Jbf tb [0,1,2,3,4,5,8,6,7] _ Jby zc (List.Sublist.refl _) ?_
  refine Kah ?_
  refine Xbo ?_
  refine Jbu zGa rfl rfl rfl ?_
  refine qbl ?_
  refine qao ?_
  refine Jei rfl (Js6 f (f.zones.l.getD z.toNat 0) _ _ hf) rfl rfl ?_
  rintro v L' R' ⟨q,rfl,hqk,hql,rfl,rfl⟩
  refine ⟨zi,zx,?_⟩
  refine Jbu (Jhf tb rfl rfl rfl) rfl rfl rfl ?_
  refine Jaz (Jab (Jbd ?_))
  refine Jan [(2,Value.pointer _),(14,Value.slice _ _ _),(15,Value.int _ _),(16,Value.int _ _)] zh fun tq0=>?_
  have hqm:∀y∈q.l,0≤y∧y < f.switches.l.length:=fun y hy=>by
    have:=Jpq (sw:=f.switches.l) (zn:=f.zones.l) (rp:=f.reply) (s:=f.zones.l.getD z.toNat 0) (x:=y) (by rw [← hql];exact hy)
    omega
  refine Jbe (T:=3) (f:=Jap) (wd:=1) q [] zk (fun _=>rfl) ze hqk (fun s hs=>by cases hs) ?_
  refine Jcy zp ?_
  have hqR:InR (isl q.arr) (isl q.arr :: R):=Jaa (.head _)
  have hqn:q.l.length≤32:=by rw [hql];exact Jvw
  have hsR2:=hsR.mono fun r hr=>Jaa (R:=isl q.arr :: R) (.tail _ hr)
  refine q_s [4,6,7,16,17,18,19,20,21,22,23,24,25,26,27,28,29,30,31,32,33] (fun g:{k:Nat // k≤q.l.length∧∀j:Nat,j < k→J26 (f.switches.l.getD (q.l.getD j 0).toNat default)=false}=>[(16,.int .i64 ((g.1:Nat):Int))]) (fun g=>q.l.length - g.1) (⟨0,by omega,fun j hj=>by omega⟩) ?_
  rintro ⟨k,hk,hal⟩ junk
  try dsimp only
  refine Xak ?_
  refine q_c (fun hc0=>?_) (fun hc0=>?_)
  ·
   have hqg:=Jau (l:=q.l) (k:=k) 0 za
   have hqr:=hqm _ (List.mem_of_getElem? hqg)
   have hsg:=Jau (l:=f.switches.l) (k:=(q.l.getD k 0).toNat) default za
   refine qbb ?_
   refine Jax zC rfl ?_
   refine qa7 ?_
   refine Xag ?_
   refine Xal ?_
   refine Jax zUa rfl ?_
   refine qdw ?_
   refine qaq ?_
   intro b7
   refine Xb1 ?_
   refine Xcl ?_
   apply Ja7 (G:=[_,_,_]) (j:=3) (cj:=28) rfl rfl zb rfl (show _=Value.bool _ from rfl) rfl
   ·
    intro hg4
    replace hg4:=qb hg4
    refine Xaa ?_
    refine qbn ?_
    exact qai
   intro junk4
   refine qaf ?_
   refine q_c (fun hc1=>?_) (fun hc1=>?_)
   ·
    refine Xca ?_
    refine Jbw (L':=L) (R':=R) (Jec rfl (Jaf (show _=Value.bool _ from rfl))) ?hp ?hL ?hR
    case hp=>exact ⟨by rw [← hql,List.any_eq_true.2 ⟨_,List.mem_of_getElem? hqg,by rw [J26];simpa using hc1⟩],rfl,rfl⟩
    case hL=>exact zi
    case hR=>exact fun r hr=>Jaa (.tail _ hr)
   refine Xay ?_
   exact Jbl ⟨k + 1,by omega,fun j hj=>by
   rcases Nat.lt_or_ge j k with h | h
   · exact hal j h
   · obtain rfl : j = k := by omega
     rw [J26];simpa using hc1⟩ zm zh zi (Jac _) zy
  refine Xdf ?_
  refine Jbw (L':=L) (R':=R) (Jec rfl (Jaf (show _=Value.bool _ from rfl))) ?hp ?hL ?hR
  case hp=>exact ⟨by rw [← hql,Jog fun j hj=>hal j za],rfl,rfl⟩
  case hL=>exact zi
  case hR=>exact fun r hr=>Jaa (.tail _ hr)
theorem J13 (g:PSite) (p:PSta) (x:XSta) (pc:OwL XCut) (pl:OwL XEntry) (b:Nat) (z:Int) (L:List Blk) (R:List Sl) (hI:Inv g p) (hx:StaIs g p ({x with cuts:=pc.arr,log:=pl.arr}:XSta)) (hf:FeederR x.feeder R) (hck:pc.ok 3 XCut.cells) (hlk:pl.ok 4 XEntry.cells) (hz:0≤z∧z < p.cuts.length):
    Tri Tryz.prog 156 [.pointer (some ⟨b, 0, none⟩), .int .i64 z].toArray (⟨b, ({x with cuts := pc.arr, log := pl.arr} : XSta).cells, 54⟩ :: (pl.L 150 XEntry.cells ++ (pc.L 71 XCut.cells ++ L))) R
      (fun v L' R'=>∃(f:XFeeder) (q:OwL XEntry) (S:List Sl),q.ok 4 XEntry.cells∧StaIs g (Jt0 g p z) ({x with cuts:=pc.arr,feeder:=f,log:=q.arr}:XSta)∧FeederR f (S ++ R)∧⟨b,({x with cuts:=pc.arr,feeder:=f,log:=q.arr}:XSta).cells,54⟩ :: (q.L 150 XEntry.cells ++ (pc.L 71 XCut.cells ++ L))=L'∧S ++ R=R'):=by
  have hcl:pc.l=p.cuts:=hx.cuts
  have hll:pl.l=p.log:=hx.log
  have hln:=hI.log
  have hzn:x.feeder.zones.l=g.zn:=hx.zn
  have hsw:x.feeder.switches.l=p.sw:=hx.sw
  have hrp:x.feeder.reply=g.rp:=hx.rp
  have htm:x.time=p.time:=hx.time
  have hzl:=hI.zlen
  have hcl2:=hI.clen
  have hfo:=hI.fok
  have hcb:z.toNat < pc.l.length:=by rw [hcl];omega
  have hzb:z.toNat < x.feeder.zones.l.length:=by rw [hzn];omega
  have hcg:=Jau (l:=pc.l) (k:=z.toNat) default hcb
  have hzg:=Jau (l:=x.feeder.zones.l) (k:=z.toNat) 0 hzb
  have hzr:=hfo.zr z.toNat za
  rw [← hzn,← hsw] at hzr
  obtain ⟨s,hs⟩:∃s,s=x.feeder.zones.l.getD z.toNat 0:=⟨_,rfl⟩
  rw [← hs] at hzg hzr
  have hsg:=Jau (l:=x.feeder.switches.l) (k:=s.toNat) default za
  obtain ⟨y,hy⟩:∃y,y=x.feeder.switches.l.getD s.toNat default:=⟨_,rfl⟩
  rw [← hy] at hsg
  obtain ⟨c,hc⟩:∃c,c=pc.l.getD z.toNat default:=⟨_,rfl⟩
  rw [← hc] at hcg
  have hcan:Jrt x.feeder.switches.l x.feeder.zones.l x.feeder.reply s x.time=0:=by
    rw [hzn,hsw,hrp,htm,Jrt,if_neg (by rw [hI.fe];decide),if_neg (by rw [hsw] at hzr;omega),if_pos hI.tok]
  have hsR:=hf.sw
  have hzR:=hf.zn
  dsimp only [XSta.cells]
  refine Jad 59 Tryz.call156 Tryz.func156 rfl rfl rfl ?_
  refine qae ?_
  refine Xdu ?_
  refine qa6 ?_
  refine Jax (Jay rfl) rfl ?_
  refine Xal ?_
  refine Jax (Jat tb (pc) _ rfl rfl rfl rfl zg (i:=z.toNat) zj zu) rfl ?_
  refine qb0 ?_
  refine Jax (Jbj tb (pc) rfl rfl rfl zk zg (fun _=>rfl) zg zb) rfl ?_
  refine Jaw rfl (Jf3 {x with cuts:=pc.arr} pl b 1 z c.reason _ _ hlk (by rw [hll];exact hln)) rfl ?_
  rintro v L' R' ⟨q,hqk,hql,rfl,rfl⟩
  dsimp only [XSta.cells]
  refine qam ?_
  refine qa6 ?_
  refine Jax (Jay rfl) rfl ?_
  refine qab ?_
  refine Xal ?_
  refine Jax zGa rfl ?_
  refine qa7 ?_
  refine Xag ?_
  refine qa6 ?_
  refine Jax (Jay rfl) rfl ?_
  refine qab ?_
  refine Xal ?_
  refine Jax zHa rfl ?_
  refine Xb4 ?_
  refine qaz ?_
  refine qa4 ?_
  refine Jbf tb [0,1,2,3,4,5,6,7,8,9,10,11,12,13,14,15] _ Jby zc (List.Sublist.refl _) ?_
  refine Xbt ?_
  refine qal ?_
  refine Kah ?_
  refine qao ?_
  refine Xcv ?_
  refine Jei rfl (Jm8 x.feeder s x.time _ _ hf) rfl rfl ?_
  rintro v L' R' ⟨pp,qq,rp,rfl,⟨hppk,hqqk⟩,hop,rfl,rfl⟩
  refine ⟨zi,zx,?_⟩
  refine Jbu (Jav rfl) rfl rfl rfl ?_
  refine Jbu (Jb3 rfl rfl) rfl rfl rfl ?_
  refine Jbu (Jb3 rfl rfl) rfl rfl rfl ?_
  refine qbr ?_
  intro b6
  refine Xdq ?_
  refine qc6 ?_
  refine qaa ?_
  refine Xaq ?_
  refine q_c (fun hc0=>?_) (fun hc0=>?_)
  ·
   exact absurd hcan hc0
  obtain ⟨hppl,hqql,rfl⟩:=hop hcan
  refine Jbe (T:=76) (f:=XSwitch.cells) (wd:=5) pp [] zk (fun _=>rfl) ze hppk (fun s hs=>by cases hs) ?_
  refine Jcy zp ?_
  refine Jbe (T:=3) (f:=Jap) (wd:=1) qq [] zk (fun _=>rfl) ze hqqk (fun s hs=>by cases hs) ?_
  refine Jcy zp ?_
  have hfR:FeederR ⟨pp.arr,qq.arr,x.feeder.reply⟩ ([isl qq.arr,Jpm pp.arr] ++ R):=⟨Jaa (.tail _ (.head _)),Jaa (.head _)⟩
  have hq0:q.l=(Jf9 p 1 z (p.cuts.getD z.toNat default).reason).log:=by rw [hql,Jf9,← hll,← hcl,← hc,← htm]
  have hzs:g.zn.getD z.toNat 0=s:=by rw [hs,hzn]
  have hsy:p.sw.getD s.toNat default=y:=by rw [hy,hsw]
  have hpp:pp.l=Jdn p.sw s p.time:=by rw [hppl,hsw,htm]
  refine qbv ?_
  refine qa6 ?_
  refine Jax (Jal (row:=[_,_,_]) tb rfl rfl rfl zf zb zb) rfl ?_
  refine Jax (Jay rfl) rfl ?_
  refine qab ?_
  refine Jg4 tb rfl rfl rfl rfl zA zb zb zb ?_
  refine qa4 ?_
  refine Jc3 (L':=⟨b,({x with cuts:=pc.arr,feeder:=⟨pp.arr,qq.arr,x.feeder.reply⟩,log:=q.arr}:XSta).cells,54⟩ :: (q.L 150 XEntry.cells ++ (pc.L 71 XCut.cells ++ L))) zi (Jac _) ?_
  refine qay ?_
  refine qah ?_
  refine qaf ?_
  refine q_c (fun hc1=>?_) (fun hc1=>?_)
  ·
   refine qay ?_
   refine Xdu ?_
   refine Jaw rfl (Jf3 {x with cuts:=pc.arr,feeder:=⟨pp.arr,qq.arr,x.feeder.reply⟩} q b 2 s 0 _ _ hqk (by rw [hq0];exact (hI.note _ _ _).log)) rfl ?_
   rintro v L' R' ⟨q2,hq2k,hq2l,rfl,rfl⟩
   refine qav ?_
   refine Jgw (L':=⟨b,({x with cuts:=pc.arr,feeder:=⟨pp.arr,qq.arr,x.feeder.reply⟩,log:=q2.arr}:XSta).cells,54⟩ :: (q2.L 150 XEntry.cells ++ (pc.L 71 XCut.cells ++ L))) (R':=[isl qq.arr,Jpm pp.arr] ++ R) (Kaz rfl) ?hp ?hL ?hR
   case hp=>
    have e:Jt0 g p z=Jf9 { Jf9 p 1 z (p.cuts.getD z.toNat default).reason with sw:=Jdn p.sw s p.time } 2 s 0:=by rw [Jt0,hzs,hsy,if_pos hc1]
    exact ⟨⟨pp.arr,qq.arr,x.feeder.reply⟩,q2,[isl qq.arr,Jpm pp.arr],hq2k,by
      rw [e]
      exact { hx with sw:=hpp,zn:=hqql.trans hzn,log:=by show q2.l=_;rw [hq2l,hq0,htm];rfl },hfR,rfl,rfl⟩
   case hL=>exact zi
   case hR=>exact Jac _
  refine Ja4 ?_
  refine Jgw (L':=⟨b,({x with cuts:=pc.arr,feeder:=⟨pp.arr,qq.arr,x.feeder.reply⟩,log:=q.arr}:XSta).cells,54⟩ :: (q.L 150 XEntry.cells ++ (pc.L 71 XCut.cells ++ L))) (R':=[isl qq.arr,Jpm pp.arr] ++ R) (Kaz rfl) ?hp ?hL ?hR
  case hp=>
   have e:Jt0 g p z={ Jf9 p 1 z (p.cuts.getD z.toNat default).reason with sw:=Jdn p.sw s p.time }:=by rw [Jt0,hzs,hsy,if_neg (by rw [hc1];decide)]
   exact ⟨⟨pp.arr,qq.arr,x.feeder.reply⟩,q,[isl qq.arr,Jpm pp.arr],hqk,by
     rw [e]
     exact { hx with sw:=hpp,zn:=hqql.trans hzn,log:=hq0 },hfR,rfl,rfl⟩
  case hL=>exact zi
  case hR=>exact Jac _
end Go.Proofs.YtchfclmokpbldaaGreat
end
section
/-
  Stations: what they take for the state of fans and doors, and the flows. By an AI agent; no person has read it.
-/
namespace Go.Proofs.YtchfclmokpbldaaGreat
open Go.Aw Go
set_option maxRecDepth 20000
attribute [local irreducible] CJ LJ DJ Tri YV Gives Jcj Ja1 Jbg Jci RV Ja2 OwL.L
section
variable {A9 B9:Prop}
theorem Kck (a:A9) (h:A9→B9:=by exact Jbv (Jal (row:=[_,_,_,_,_,_,_,_,_,_,_,_,_,_,_,_,_,_,_,_,_,_,_]) tb rfl rfl rfl zf zb zb) rfl rfl rfl rfl):B9:=h a
end
theorem SiteE.set {s s':XSite} (h:SiteE s s') (m:List XMeas) (t:Int):J6b s m t=J6b s' m t:=by
  rw [J6b,J6b,Jlc,Jlc,Jh0,Jh0,h.nfans,h.ndoors,h.sens]
  have e:∀i:Nat,(s.air.doors.l.getD i default).rests.l=(s'.air.doors.l.getD i default).rests.l:=h.door
  simp only [e]
theorem SiteE.flows {s s':XSite} (h:SiteE s s') (A:List Bool) (m:List XMeas) (t:Int):Jiz s A m t=Jiz s' A m t:=by
  have e:∀q:Sts,flS s.air A q=flS s'.air A q:=fun q=>by rw [flS,flS,(AirE.of (s:=mkS q) (s':=mkS q) h.air rfl).ana A]
  rw [Jiz,Jiz,h.set,e,h.sens]
theorem Jrp {m:XMine} {u v:Nat} (h:Conn (Jt7 m) u v):Conn m u v:=by
  induction h with
  | refl=>exact .refl
  | tail _ k ih=>exact .tail ih k
theorem Jqn {m:XMine} {u v:Nat} (h:Conn m u v):Conn (Jt7 m) u v:=by
  induction h with
  | refl=>exact .refl
  | tail _ k ih=>exact .tail ih k
theorem Juq (m:XMine) (A:List Bool):AiryIs (Jt7 m) A↔AiryIs m A:=
  ⟨fun h=>⟨h.len,fun i hi=>(h.iff i hi).trans ⟨fun ⟨j,h1,h2,h3⟩=>⟨j,h1,h2,Jrp h3⟩,fun ⟨j,h1,h2,h3⟩=>⟨j,h1,h2,Jqn h3⟩⟩⟩,fun h=>⟨h.len,fun i hi=>(h.iff i hi).trans ⟨fun ⟨j,h1,h2,h3⟩=>⟨j,h1,h2,Jqn h3⟩,fun ⟨j,h1,h2,h3⟩=>⟨j,h1,h2,Jrp h3⟩⟩⟩⟩
theorem SiteE.airy {s s':XSite} (h:SiteE s s') {A:List Bool} (hA:AiryIs s'.air.mine A):AiryIs s.air.mine A:=by
  have e:Jt7 s.air.mine=Jt7 s'.air.mine:=congrArg XAir.mine h.air
  rw [← Juq,e,Juq];exact hA
theorem Jxm {S:List XSens} {kind target:Int} {k:Nat} (hk:k < S.length) (h:(S.getD k default).kind=kind∧(S.getD k default).target=target) (hal:∀j:Nat,j < k→¬ ((S.getD j default).kind=kind∧(S.getD j default).target=target)):Juj S kind target=some k:=by
  rw [Juj,List.find?_range_eq_some]
  exact ⟨by simpa using h,by rw [List.mem_range];exact hk,fun j hj=>by have:=hal j hj;simp only [Bool.not_eq_true',decide_eq_false_iff_not];exact this⟩
theorem Jw8 {S:List XSens} {kind target:Int} (hal:∀j:Nat,j < S.length→¬ ((S.getD j default).kind=kind∧(S.getD j default).target=target)):Juj S kind target=none:=by
  rw [Juj,List.find?_eq_none]
  intro j hj
  rw [List.mem_range] at hj
  simpa using hal j hj
structure StaV (x:XSta) (R:List Sl):Prop where
  site:SiteR x.site R
  meas:InR (Jde x.meas) R
  mok:∀m∈x.meas.l,Jhj m
  mlen:x.meas.l.length≤1000
  time:0≤x.time∧x.time≤2147483648
  ok:Jb1 x.site=0
theorem StaV.of {g:PSite} {p:PSta} {x:XSta} {R:List Sl} (hI:Inv g p) (hx:StaIs g p x) (h1:SiteR x.site R) (h2:InR (Jde x.meas) R):StaV x R:=
  ⟨h1,h2,by rw [hx.meas];exact hI.mok,by rw [hx.meas,hI.meas];have:=hI.sok.len;omega,by rw [hx.time];exact hI.time,by rw [hx.site.err];exact hI.site⟩
theorem Jvr (x:XSta) (kind target n:Int) (L:List Blk) (R:List Sl) (h:StaV x R):
    Tri Tryz.prog 128 [x.val,.int .i64 kind,.int .i64 target,.int .i64 n].toArray L R (fun v L' R'=>v=.int .i64 (Jgk x.site.sensors.l x.meas.l x.time kind target n)∧L=L'∧R=R'):=by
  have hsR:=h.site.sensors
  have hln:=(Jez h.ok).len
  refine Jad 58 Tryz.call128 Tryz.func128 rfl rfl rfl ?_
  refine Xaf ?_
  intro b4
  refine Xas ?_
  refine qab ?_
  refine Xaw ?_
  refine Jan [(1,Value.int _ _),(2,Value.int _ _),(3,Value.int _ _),(4,Value.pointer _),(14,Value.slice _ _ _),(15,Value.int _ _),(16,Value.int _ _)] zh fun tq0=>?_
  refine q_s [8,9,10,11,16,17,18,19,20,21,22,23,24,25,26,27,28,29,30,31,32,33,34,35,36,37,38,39,40,41,42,43,44,45,46,47,48,49,50,51,52,53,54,55,56,57] (fun g:{k:Nat // k≤x.site.sensors.l.length∧∀j:Nat,j < k→¬ ((x.site.sensors.l.getD j default).kind=kind∧(x.site.sensors.l.getD j default).target=target)}=>[(16,.int .i64 ((g.1:Nat):Int))]) (fun g=>x.site.sensors.l.length - g.1) (⟨0,by omega,fun j hj=>by omega⟩) ?_
  rintro ⟨k,hk,hal⟩ junk
  try dsimp only
  refine Xak ?_
  refine q_c (fun hc0=>?_) (fun hc0=>?_)
  ·
   have hg:=Jau (l:=x.site.sensors.l) (k:=k) default za
   refine Xa6 ?_
   refine Jax zC rfl ?_
   refine Jax zW rfl ?_
   refine qaq ?_
   intro b10
   refine qad ?_
   refine Xba ?_
   refine Xal ?_
   refine Xbu ?_
   apply Ja7 (G:=[_,_,_,_]) (j:=4) (cj:=25) rfl rfl zb rfl (show _=Value.bool _ from rfl) rfl
   ·
    intro hg5
    replace hg5:=qb hg5
    refine Xal ?_
    refine qbq ?_
    exact qai
   intro junk5
   refine qaf ?_
   refine q_c (fun hc1=>?_) (fun hc1=>?_)
   ·
    refine Jcc (Jbt (Jbb (Jab (Jah ?_))))
    refine Xae ?_
    exact Jbl ⟨k + 1,by omega,fun j hj=>by
    rcases Nat.lt_or_ge j k with h | h
    · exact hal j h
    · obtain rfl : j = k := by omega
      omega⟩ zm zh zi (Jac _) zy
   have hfs:=Jxm (S:=x.site.sensors.l) (kind:=kind) (target:=target) (k:=k) za za hal
   refine qbo ?_
   refine qab ?_
   refine Jax (Jal (row:=[_,_,_,_,_,_,_,_]) tb rfl rfl rfl zf zb zb) rfl ?_
   refine Xal ?_
   refine Xaa ?_
   refine q_l rfl (Jub x.site x.meas (k:Int) x.time _ _ hsR h.meas h.mok h.time) ?_
   refine qaq ?_
   intro b11
   refine Xa2 ?_
   refine Xa1 ?_
   refine Xb7 ?_
   apply Jb7 (G:=[_,_,_]) (j:=5) (cj:=44) rfl rfl zb rfl (show _=Value.bool _ from rfl) rfl
   ·
    intro hg6
    replace hg6:=qb hg6
    refine Xaa ?_
    refine qbz ?_
    exact qai
   intro junk6
   refine qah ?_
   apply Jb7 (G:=[_,_,_,_]) (j:=10) (cj:=49) rfl rfl zb rfl (show _=Value.bool _ from rfl) rfl
   ·
    intro hg11
    replace hg11:=qb hg11
    refine Xal ?_
    refine qaj ?_
    exact qai
   intro junk11
   refine qaf ?_
   refine q_c (fun hc2=>?_) (fun hc2=>?_)
   ·
    refine Xb3 ?_
    refine qad ?_
    refine qch ?_
    refine q_i (L':=L) (R':=R) ?_
    exact ⟨by rw [Jgk,hfs];dsimp only;rw [if_pos za],rfl,rfl⟩
   refine qbv ?_
   refine qad ?_
   refine qbt ?_
   refine q_i (L':=L) (R':=R) ?_
   exact ⟨by rw [Jgk,hfs];dsimp only;rw [if_neg za],rfl,rfl⟩
  refine Xb9 ?_
  refine q_i (L':=L) (R':=R) ?_
  exact ⟨by rw [Jgk,Jw8 fun j hj=>hal j za],rfl,rfl⟩
theorem Jwc (x:XSta) (L:List Blk) (R:List Sl) (h:StaV x R):
    Tri Tryz.prog 54 [x.val].toArray L R (fun v L' R'=>∃pf pd:Arr Int,v=.agg #[pf.val,pd.val]∧pf.l=Jlc x.site x.meas.l x.time x.site.air.fans.l.length∧pd.l=Jh0 x.site x.meas.l x.time x.site.air.doors.l.length∧L=L'∧isl pd :: isl pf :: R=R'):=by
  have hfR:=h.site.air.fans
  have hdR:=h.site.air.doors
  have hao:=Jeo (Jez h.ok).air
  have hnf:=hao.nfans
  have hnd:=hao.ndoors
  refine Jad 47 Tryz.call54 Tryz.func54 rfl rfl rfl ?_
  refine Xaf ?_
  intro b1
  refine qaq ?_
  intro b2
  refine qam ?_
  refine qaq ?_
  intro b3
  refine qaw ?_
  iterate 3 refine qab ?_
  refine qac ?_
  refine Xdg ?_
  refine Jan [(1,Value.pointer _),(2,Value.pointer _),(3,Value.pointer _),(11,Value.int _ _),(12,Value.int _ _)] zh fun tq0=>?_
  refine Jdg [4,12,13,14,15,16,17,18,19,20,21,22,23] ((⟨fun g=>[(12,.int .i64 ((g.1.1:Nat):Int))],fun g=>⟨b3,[g.1.2.val,.slice none 0 0],80⟩ :: (g.1.2.L 3 Jap ++ (⟨b2,[.slice none 0 0,.slice none 0 0],80⟩ :: ⟨b1,x.cells,54⟩ :: L)),fun _=>R,fun g=>x.site.air.fans.l.length - g.1.1⟩:Head {g:Nat×OwL Int // g.1≤x.site.air.fans.l.length∧g.2.ok 1 Jap∧g.2.l=Jlc x.site x.meas.l x.time g.1})) (⟨(0,OwL.nil),by dsimp only;omega,OwL.nil_ok,rfl⟩) zh zV (Jac _) ?_
  rintro ⟨⟨k,pf⟩,hk,hfk,hfl⟩ junk
  try dsimp only
  dsimp only at hk hfk hfl
  have hfn:pf.l.length=k:=by rw [hfl,Jot]
  refine Xak ?_
  refine q_c (fun hc0=>?_) (fun hc0=>?_)
  ·
   refine Xa6 ?_
   refine qad ?_
   refine qaf ?_
   refine Jbk tb [] [0,1,2,3,4,5] [6,7,8] (_) _ Jby zc zi (List.nil_sublist _) ?_
   refine Xar ?_
   refine Kck ?_
   refine qbf ?_
   refine Jdf rfl (Jvr x 5 (k:Int) 3 _ _ h) rfl rfl ?_
   rintro v L' R' ⟨rfl,rfl,rfl⟩
   refine ⟨zi,zx,?_⟩
   refine qc9 ?_
   rintro v L' R' ⟨b20,rfl,rfl,hR20⟩
   replace hR20:=hR20.symm;subst hR20
   refine Xc2 ?_
   refine Jpz (Ja9 (f:=Jap) (p:=pf) (a:=Jgk x.site.sensors.l x.meas.l x.time 5 (k:Int) 3) tb rfl rfl rfl rfl (hfk) zk (Jb0 zf rfl rfl) rfl zB) rfl rfl rfl ?_
   rintro v L' R' ⟨o21,rfl,hok21,rfl,rfl⟩
   refine qa1 ?_
   refine Xdc ?_
   refine Xc3 ?_
   exact q_k ⟨(k + 1,⟨o21,pf.l ++ [Jgk x.site.sensors.l x.meas.l x.time 5 (k:Int) 3]⟩),by dsimp only;omega,hok21,by dsimp only;rw [Jz9,hfl]⟩
  obtain rfl:k=x.site.air.fans.l.length:=by omega
  refine qcf ?_
  iterate 3 refine qab ?_
  refine qac ?_
  refine Xdg ?_
  refine Jan [(1,Value.pointer _),(2,Value.pointer _),(3,Value.pointer _),(27,Value.slice _ _ _),(28,Value.int _ _),(29,Value.int _ _)] zh fun tq1=>?_
  refine Jdg [5,6,29,30,31,32,33,34,35,36,37,38,39,40,41,42,43,44,45] ((⟨fun g=>[(29,.int .i64 ((g.1.1:Nat):Int))],fun g=>⟨b3,[pf.val,g.1.2.val],80⟩ :: (g.1.2.L 3 Jap ++ (pf.L 3 Jap ++ (⟨b2,[.slice none 0 0,.slice none 0 0],80⟩ :: ⟨b1,x.cells,54⟩ :: L))),fun _=>R,fun g=>x.site.air.doors.l.length - g.1.1⟩:Head {g:Nat×OwL Int // g.1≤x.site.air.doors.l.length∧g.2.ok 1 Jap∧g.2.l=Jh0 x.site x.meas.l x.time g.1})) (⟨(0,OwL.nil),by dsimp only;omega,OwL.nil_ok,rfl⟩) zh zV (Jac _) ?_
  rintro ⟨⟨j,pd⟩,hj,hdk,hdl⟩ junk
  try dsimp only
  dsimp only at hj hdk hdl
  have hdn:pd.l.length=j:=by rw [hdl,Jl9]
  refine Xak ?_
  refine q_c (fun hc1=>?_) (fun hc1=>?_)
  ·
   have hg:=Jau (l:=x.site.air.doors.l) (k:=j) default za
   refine Xa6 ?_
   refine Jax zta rfl ?_
   refine qdk ?_
   refine qaq ?_
   intro b6
   refine qad ?_
   refine qak ?_
   refine qaf ?_
   refine Jbk tb [] [0,1,2,3,4,5,6,7,8] [9,10,11] (_) _ Jby zc zi (List.nil_sublist _) ?_
   refine Xar ?_
   refine Kck ?_
   refine qbf ?_
   refine Xar ?_
   refine Jbv (Jhf tb rfl rfl rfl) rfl rfl rfl rfl ?_
   refine Jdf rfl (Jvr x 6 (j:Int) _ _ _ h) rfl rfl ?_
   rintro v L' R' ⟨rfl,rfl,rfl⟩
   refine ⟨zi,zx,?_⟩
   refine qc9 ?_
   rintro v L' R' ⟨b42,rfl,rfl,hR42⟩
   replace hR42:=hR42.symm;subst hR42
   refine Xc2 ?_
   refine Jpz (Ja9 (f:=Jap) (p:=pd) (a:=Jgk x.site.sensors.l x.meas.l x.time 6 (j:Int) ((x.site.air.doors.l.getD j default).rests.l.length:Int)) tb rfl rfl rfl rfl (hdk) zk (Jb0 zf rfl rfl) rfl zB) rfl rfl rfl ?_
   rintro v L' R' ⟨o43,rfl,hok43,rfl,rfl⟩
   refine qa1 ?_
   refine Xdc ?_
   refine Xc3 ?_
   exact q_k ⟨(j + 1,⟨o43,pd.l ++ [Jgk x.site.sensors.l x.meas.l x.time 6 (j:Int) ((x.site.air.doors.l.getD j default).rests.l.length:Int)]⟩),by dsimp only;omega,hok43,by dsimp only;rw [Jwg,hdl]⟩
  obtain rfl:j=x.site.air.doors.l.length:=by omega
  refine Jbe (T:=3) (f:=Jap) (wd:=1) pf [] zk (fun _=>rfl) ze hfk (fun s hs=>by cases hs) ?_
  refine Jcy zp ?_
  refine Jbe (T:=3) (f:=Jap) (wd:=1) pd [] zk (fun _=>rfl) ze hdk (fun s hs=>by cases hs) ?_
  refine Jcy zp ?_
  refine qbk ?_
  refine Xda ?_
  refine q_r (L':=L) (R':=isl pd.arr :: isl pf.arr :: R) (Jec rfl (Jao (row:=[_,_]) tb rfl rfl rfl zf zb zb)) ?_
  exact ⟨pf.arr,pd.arr,rfl,hfl,hdl,rfl,rfl⟩
theorem J3r (s:XSite) (A:List Bool) (m:List XMeas) (t:Int) {pf pd:Arr Int} (h1:pf.l=Jlc s m t s.air.fans.l.length) (h2:pd.l=Jh0 s m t s.air.doors.l.length):Jiz s A m t=(J34 (Jns s.air ⟨pf,pd⟩ A).2 nothingS 3 s.sensors.l m t).out:=by
  rw [Jiz,← Kcr s.air ⟨pf,pd⟩ A]
  have e:Jqd (⟨pf,pd⟩:XSetting)=J6b s m t:=by
    show (pf.l,pd.l)=_
    rw [h1,h2,J6b]
  rw [e]
theorem Jlk (x:XSta) (A:List Bool) (L:List Blk) (R:List Sl) (h:StaV x R) (hA:AiryIs x.site.air.mine A):
    Tri Tryz.prog 58 [x.val].toArray L R (fun v L' R'=>∃fl:Arr XSpan,v=fl.val∧fl.l=Jiz x.site A x.meas.l x.time∧L=L'∧J06 fl :: R=R'):=by
  have hsR:=h.site.sensors
  have hso:=Jez h.ok
  have hln:=hso.len
  have hrn:=(Jeo hso.air).mine.roads
  refine Jad 27 Tryz.call58 Tryz.func58 rfl rfl rfl ?_
  refine Xaf ?_
  intro b1
  refine Xc4 ?_
  refine Jbf tb [0,1,2,3,4,5,6,7,8,9,10] _ Jby zc (List.Sublist.refl _) ?_
  refine qal ?_
  refine qal ?_
  refine qbc ?_
  refine Jbu (Jal (row:=[_,_,_,_,_,_,_,_,_,_,_,_,_,_,_,_,_,_,_,_,_,_,_]) tb rfl rfl rfl zf zb zb) rfl rfl rfl ?_
  refine Jei rfl (Jwc x _ _ h) rfl rfl ?_
  rintro v L' R' ⟨pf,pd,rfl,hfl,hdl,rfl,rfl⟩
  refine ⟨zi,zx,?_⟩
  refine Jei rfl (Jx0 x.site.air ⟨pf,pd⟩ A _ _ (Jgb h.site.air fun r hr=>Jaa (.tail _ (.tail _ hr))) ⟨Jaa (.tail _ (.head _)),Jaa (.head _)⟩ (fun _=>hA)) rfl rfl ?_
  rintro v L' R' ⟨q,rfl,hqk,hql,rfl,rfl⟩
  refine ⟨zi,zx,?_⟩
  refine Jbu (Jav rfl) rfl rfl rfl ?_
  refine Jbu (Jb3 rfl rfl) rfl rfl rfl ?_
  refine Jbu (Jb3 rfl rfl) rfl rfl rfl ?_
  refine Jbu (Jca (show _=Value.slice _ _ _ from rfl)) rfl rfl rfl ?_
  refine qcg ?_
  refine qb9 ?_
  have hfit:Jjb x.site.air ⟨pf,pd⟩=true:=by
    rw [J70 x.site.air (s:=⟨pf,pd⟩) (s':=mkS (J6b x.site x.meas.l x.time)) (by show (pf.l,pd.l)=_;rw [hfl,hdl];rfl)]
    exact Jy6 _ _
  have hqn:q.l.length=x.site.air.mine.roads.l.length:=by rw [hql];exact J18 hso.air hfit hA
  refine Jbe (T:=90) (f:=XSpan.cells) (wd:=2) q [] zk (fun _=>rfl) ze hqk (fun s hs=>by cases hs) ?_
  refine Jcy zp ?_
  have h4:∀r∈R,InR r (J06 q.arr :: isl pd :: isl pf :: R):=fun r hr=>Jaa (.tail _ (.tail _ (.tail _ hr)))
  refine Xdv ?_
  refine qab ?_
  refine Xa1 ?_
  refine Xaa ?_
  refine Jaw rfl (Jwn q.arr x.site.sensors x.meas x.time _ _ (Jaa (.head _)) (hsR.mono h4) (h.meas.mono h4) (by show q.l.length≤1000;omega) za h.mlen h.mok h.time) rfl ?_
  rintro v L' R' ⟨p2,q2,rfl,⟨hp2k,hq2k⟩,hp2l,hq2l,rfl,rfl⟩
  refine Jax (Jav rfl) rfl ?_
  refine Xa5 ?_
  refine Xc4 ?_
  refine Jbe (T:=90) (f:=XSpan.cells) (wd:=2) p2 [] zk (fun _=>rfl) ze hp2k (fun s hs=>by cases hs) ?_
  refine Jcy zp ?_
  refine Xdv ?_
  refine Xde ?_
  refine Jbw (L':=L) (R':=J06 p2.arr :: R) (Jec rfl (Jaf (show _=Value.slice _ _ _ from rfl))) ?hp ?hL ?hR
  case hp=>exact ⟨p2.arr,rfl,by show p2.l=_;rw [hp2l,J3r x.site A x.meas.l x.time hfl hdl,← hql],rfl,rfl⟩
  case hL=>exact zi
  case hR=>
   exact fun r hr=>by
     rcases List.mem_cons.1 hr with h | h
     · rw [h];exact Jaa (.head _)
     · exact Jaa (.tail _ (.tail _ (.tail _ (.tail _ h))))
end Go.Proofs.YtchfclmokpbldaaGreat
end
