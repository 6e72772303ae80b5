/-
  Texts of one chapter, merged. By an AI agent; no person has read it.
-/
import Derived.Test.YtchfclmokpbldaaGreatTelF
import Derived.Test.YtchfclmokpbldaaGreatStatM
import Derived.Test.YtchfclmokpbldaaGreatStaC
import Derived.Test.YtchfclmokpbldaaGreatCloneS
set_option linter.unusedVariables false
set_option linter.unusedSimpArgs false
set_option maxRecDepth 20000
namespace Go.Proofs.YtchfclmokpbldaaGreat
open Go.Aw Go
section
attribute [local irreducible] CJ LJ DJ Tri YV Gives Ui J0 Ke Uh RV J2 OwL.L
section
variable {A9 B9:Prop}
theorem Ywd (a:A9) (h:A9→B9:=by exact Jx (Kb (qs:=[]) (out:=[_,_,_,_]) tb rfl rfl rfl rfl) rfl):B9:=h a
theorem Y8d (h:B9:=by exact ⟨(⟨0,0,⟨0,0⟩⟩:XMeas),by rw [he],fun h=>by omega,rfl,rfl⟩):B9:=h
theorem J4f (a:A9) (h:A9→B9:=by exact Kx zpa rfl rfl rfl rfl):B9:=h a
end
theorem Kzb (a:Int) (L:List Blk) (R:List Sl) (ha:-1000000000000≤a∧a≤1000000000000):
    Tri Tryz.prog 194 [.int .i64 a].toArray L R (fun v L' R'=>v=.int .i64 (a / 1000)∧L=L'∧R=R'):=by
  have hm:=Int.tmod_def a 1000
  have h1:0≤a→a.tdiv 1000=a / 1000:=fun h=>Int.tdiv_eq_ediv_of_nonneg h
  have h2:a < 0→a.tdiv 1000= -((-a) / 1000):=fun h=>by
    have:a= -(-a):=by omega
    rw [this,Int.neg_tdiv,Int.tdiv_eq_ediv_of_nonneg za];omega
  refine Jg 12 Tryz.call194 Tryz.func194 rfl rfl rfl ?_
  refine Xab ?_
  refine Xde ?_
  refine qdd ?_
  refine Xdb ?_
  refine qda ?_
  refine Xbo ?_
  refine q_c (fun hc0=>?_) (fun hc0=>?_)
  ·
   refine Xa3 ?_
   refine qa9 ?_
   refine Xat ?_
   refine Xah ?_
   refine q_i (L':=L) (R':=R) ?_
   exact ⟨by rw [show a.tdiv 1000 - 1=a / 1000 by omega],rfl,rfl⟩
  refine qbv ?_
  refine qaa ?_
  refine Xah ?_
  refine q_i (L':=L) (R':=R) ?_
  exact ⟨by rw [show a.tdiv 1000=a / 1000 by omega],rfl,rfl⟩
theorem Kxc (s:XSens) (r:Int) (L:List Blk) (R:List Sl) (hs:Uy s=0) (hr0:-1000000≤r∧r≤1000000):
    Tri Tryz.prog 115 [s.val,.int .i64 r].toArray L R (fun v L' R'=>v=(Uca s r).val∧L=L'∧R=R'):=by
  refine Jg 71 Tryz.call115 Tryz.func115 rfl rfl rfl ?_
  refine Xag ?_
  intro b2
  refine qaq ?_
  intro b4
  refine qaw ?_
  refine Xb5 ?_
  apply J9 (G:=[_,_]) (j:=2) (cj:=10) rfl rfl zb rfl zdb rfl
  ·
   exact zdd
  intro junk3
  refine qaf ?_
  refine q_c (fun hc0=>?_) (fun hc0=>?_)
  ·
   refine qae ?_
   refine q_l rfl (K6 _ _) ?_
   refine qak ?_
   refine qbh ?_
   refine q_r (L':=L) (R':=R) zBc ?_
   exact ⟨by rw [Uca,if_pos za],rfl,rfl⟩
  have hE:¬ (Uy s≠0∨¬ (0≤r∧r≤65535)):=by omega
  have hml:=V7d (s:=s) (r:=r) hs za
  have hsk:=Vlb hs
  rw [Zb] at hsk
  have hkd:1≤s.kind∧s.kind≤6:=by
    rw [Uy] at hs
    split at hs
    · omega
    · omega
  refine qbv ?_
  refine Xas ?_
  refine Xaa ?_
  refine qaf ?_
  refine Yka [5,17,18,19,20,21,22] ((⟨fun g=>[(5,.int .i64 g.1)],fun _=>⟨b4,[.int .i64 0,.int .i64 0],90⟩ :: ⟨b2,s.cells,88⟩ :: L,fun _=>R,fun _=>0⟩:Head {n:Int // n=if 4≤s.kind then Umd s.kind else -1})) ?_ ?_
  ·
   refine Kg (Jn (Jh ?_))
   refine Xay ?_
   refine q_c (fun hc1=>?_) (fun hc1=>?_)
   ·
    refine qay ?_
    refine qad ?_
    refine J6 (Ji ?_)
    exact q_j ⟨1,by rw [if_pos za,Umd,if_neg za,if_neg za]⟩
   refine Xbi ?_
   refine q_c (fun hc2=>?_) (fun hc2=>?_)
   ·
    refine qay ?_
    refine qad ?_
    refine J6 (Ji ?_)
    exact q_j ⟨2,by rw [if_pos za,Umd,if_neg za,if_pos za]⟩
   refine Xbi ?_
   refine q_c (fun hc3=>?_) (fun hc3=>?_)
   ·
    refine qay ?_
    refine qad ?_
    refine J6 (Ji ?_)
    exact q_j ⟨5,by rw [if_pos za,Umd,if_pos za]⟩
   refine J5 (Ji ?_)
   exact q_j ⟨-1,by rw [if_neg za]⟩
  rintro ⟨ms,hms⟩ junk
  try dsimp only
  have hm4:4≤s.kind↔0≤ms:=by
    rw [hms,Umd]
    repeat' split
    all_goals omega
  refine Xce ?_
  refine Xcj ?_
  refine q_c (fun hc4=>?_) (fun hc4=>?_)
  ·
   refine qbi ?_
   refine Xbh ?_
   refine qa5 ?_
   refine qaf ?_
   refine q_c (fun hc5=>?_) (fun hc5=>?_)
   ·
    refine qae ?_
    refine q_l rfl (K6 _ _) ?_
    refine qak ?_
    refine J6 (Jb (Uo (J7 (J7 ?_))))
    refine q_r (L':=L) (R':=R) zBc ?_
    exact ⟨by rw [if_pos za] at hms;rw [Uca,if_neg hE,if_pos za,if_pos za],rfl,rfl⟩
   refine qbv ?_
   refine Xbh ?_
   refine qcd ?_
   refine qak ?_
   refine qbh ?_
   refine q_r (L':=L) (R':=R) zBc ?_
   exact ⟨by rw [if_pos za] at hms;rw [Uca,if_neg hE,if_pos za,if_neg za],rfl,rfl⟩
  refine qbv ?_
  refine Xam ?_
  refine qcm ?_
  refine Xb3 ?_
  refine Kn tb [0,1,2,5,6,8,9,10,11,14,15,3,4,7,12,13,16,17,18,19] ([Blk.mk b2 _ _]) K1 ze zi ?_
  refine Xb1 ?_
  refine Xan ?_
  refine Xb1 ?_
  refine Kv (J8d rfl za za) rfl rfl rfl ?_
  refine Xan ?_
  refine q_d rfl (Kzb (s.scale * r) _ _ za) ?_
  refine qc2 ?_
  refine qb7 ?_
  refine q_d rfl (Kzb (-(s.scale * r)) _ _ za) ?_
  refine qb7 ?_
  refine qc2 ?_
  refine Kv zAb rfl rfl rfl ?_
  refine qbr ?_
  intro b7
  refine qbg ?_
  refine qc6 ?_
  refine Xbm ?_
  refine qah ?_
  apply J9 (G:=[_,_,_]) (j:=3) (cj:=57) rfl rfl zb rfl zdb rfl
  ·
   exact zBd
  intro junk4
  refine qaf ?_
  refine q_c (fun hc6=>?_) (fun hc6=>?_)
  ·
   refine qay ?_
   refine Xaa ?_
   refine Jx zkc rfl ?_
   refine Xaa ?_
   refine Jx zkc rfl ?_
   refine Xbj ?_
   refine Xbj ?_
   refine qam ?_
   refine Xdc ?_
   refine q_r (L':=L) (R':=R) zBc ?_
   exact ⟨by rw [Uca,if_neg hE,if_neg za,if_pos za,Yme];simp only [Int.sub_eq_add_neg],rfl,rfl⟩
  refine qbv ?_
  refine Xdc ?_
  refine q_r (L':=L) (R':=R) zBc ?_
  exact ⟨by rw [Uca,if_neg hE,if_neg za,if_neg za,Yme];simp only [Int.sub_eq_add_neg],rfl,rfl⟩
def IsAd (S:List XSens) (ad z a:Int):Prop:=(a= -1∧∀j:Nat,z < j→j < S.length→(S.getD j default).address≠ad)∨((z < a∧a < S.length)∧(S.getD a.toNat default).address=ad∧∀j:Nat,z < j→(j:Int) < a→(S.getD j default).address≠ad)
theorem V4d {S:List XSens} {ad a:Int} (h:IsAd S ad (-1) a):Jna S ad=a:=by
  rcases h with ⟨h1,h2⟩ | ⟨h1,h2,h3⟩
  · rw [Jna,List.find?_eq_none.2 (fun i hi=>by rw [List.mem_range] at hi;simpa using h2 i za hi),h1];rfl
  · have:(List.range S.length).find? (fun i=>decide ((S.getD i default).address=ad))=some a.toNat:=by
      rw [List.find?_range_eq_some]
      refine ⟨by simpa using h2,by rw [List.mem_range];omega,fun j hj=>?_⟩
      simpa using h3 j za za
    rw [Jna,this]
    show ((a.toNat:Nat):Int)=a
    omega
theorem IsAd.hit {S:List XSens} {z ad:Int} (hz:0≤z∧z < S.length) (h:(S.getD z.toNat default).address=ad):IsAd S ad (z - 1) z:=
  .inr ⟨by omega,h,fun j h1 h2=>by omega⟩
theorem IsAd.miss {S:List XSens} {z ad a:Int} (hz:0≤z∧z < S.length) (k:IsAd S ad z a) (h:(S.getD z.toNat default).address≠ad):IsAd S ad (z - 1) a:=by
  rcases k with ⟨h1,h2⟩ | ⟨h1,h2,h3⟩
  · refine .inl ⟨h1, fun j hj hl => ?_⟩
    rcases Classical.em (z < j) with h4 | h4
    · exact h2 j h4 hl
    · obtain rfl : j = z.toNat := by omega
      exact h
  · refine .inr ⟨by omega, h2, fun j hj hl => ?_⟩
    rcases Classical.em (z < j) with h4 | h4
    · exact h3 j h4 hl
    · obtain rfl : j = z.toNat := by omega
      exact h
theorem Ylb (S:Arr XSens) (f:XFrame) (t:Int) (L:List Blk) (R:List Sl) (hS:InR (Vyd S) R) (hf:InR (bsl f.data) R) (hb:BytesOk f.data.l) (hn:S.l.length≤64):
    Tri Tryz.prog 45 [S.val,f.val,.int .i64 t].toArray L R (fun v L' R'=>∃m:XMeas,v=.tuple #[m.val,.int .i64 (U7 S.l f.tele t)]∧(U7 S.l f.tele t=0→m=Vob S.l f.tele t)∧L=L'∧R=R'):=by
  refine U8 Tryz.call45 hf fun hfn=>?_
  refine Jg 85 Tryz.call45 Tryz.func45 rfl rfl rfl ?_
  refine Xag ?_
  intro b4
  refine qaq ?_
  intro b6
  refine Xas ?_
  refine Xb5 ?_
  apply J9 (G:=[_,_]) (j:=2) (cj:=13) rfl rfl zb rfl zdb rfl
  ·
   exact zdd
  intro junk3
  refine qaf ?_
  refine q_c (fun hc0=>?_) (fun hc0=>?_)
  ·
   refine qae ?_
   refine Ywd ?_
   refine Xaz ?_
   refine q_r (L':=L) (R':=R) zUc ?_
   have he:U7 S.l f.tele t=8:=by rw [U7,if_pos za]
   exact Y8d
  refine qbv ?_
  refine Xas ?_
  refine Xap ?_
  refine qa9 ?_
  refine Xb4 ?_
  refine Jo [(0,Value.slice _ _ _),(2,Value.int _ _),(4,Value.pointer _),(6,Value.pointer _),(8,Value.int _ _),(9,Value.int _ _)] zg fun tq0=>?_
  refine q_s [8,9,21,22,23,24,25,26,27,28,29,30,31,32,33] (fun g:{g:Int×Int // (-1≤g.1∧g.1 < S.l.length)∧IsAd S.l f.address g.1 g.2}=>[(9,.int .i64 g.1.1),(8,.int .i64 g.1.2)]) (fun g=>(g.1.1 + 1).toNat) (⟨((S.l.length:Int) - 1,-1),by dsimp only;omega,.inl ⟨rfl,fun j h1 h2=>by dsimp only at h1;omega⟩⟩) ?_
  rintro ⟨⟨z,a⟩,hz,ha⟩ junk
  try dsimp only
  dsimp only at hz ha
  refine Xce ?_
  refine Xcj ?_
  refine q_c (fun hc1=>?_) (fun hc1=>?_)
  ·
   have hg:=Jw (l:=S.l) (k:=z.toNat) default za
   refine J5 (Jb (Jn (Kg (Jn ?_))))
   refine Kn tb [0,1,2,3,4,5,6,7] _ K1 ze (List.Sublist.refl _) ?_
   refine Kv zKc rfl rfl rfl ?_
   refine qao ?_
   refine Kv zFa rfl rfl rfl ?_
   refine qce ?_
   refine qbl ?_
   refine Xan ?_
   refine Kv zRb rfl rfl rfl ?_
   refine qbu ?_
   refine q_c (fun hc2=>?_) (fun hc2=>?_)
   ·
    refine Xa3 ?_
    refine qad ?_
    refine qcs ?_
    refine Xci ?_
    exact q_k ⟨(z - 1,z),by dsimp only;omega,.hit za hc2⟩
   refine qbj ?_
   refine Xci ?_
   exact q_k ⟨(z - 1,a),by dsimp only;omega,ha.miss za hc2⟩
  obtain rfl:z= -1:=by omega
  have hadr:Jna S.l f.tele.address=a:=V4d ha
  have har:a < 0∨(0≤a∧a < S.l.length):=by
    rcases ha with h | h
    · omega
    · omega
  refine qcf ?_
  refine Xb5 ?_
  apply J9 (G:=[_,_,_,_,_,_]) (j:=2) (cj:=36) rfl rfl zb rfl zdb rfl
  ·
   intro hg3
   replace hg3:=qb hg3
   have hgA:=Jw (l:=S.l) (k:=a.toNat) default za
   refine Xau ?_
   refine Jx zZa rfl ?_
   refine Jx zV rfl ?_
   refine q_l rfl (Ura (S.l.getD a.toNat default) _ _) ?_
   exact zfd
  intro junk3
  refine qaf ?_
  refine q_c (fun hc3=>?_) (fun hc3=>?_)
  ·
   refine qae ?_
   refine Ywd ?_
   refine Xaz ?_
   refine q_r (L':=L) (R':=R) zUc ?_
   have he:U7 S.l f.tele t=9:=by rw [U7,if_neg za,hadr,if_pos za]
   exact Y8d
  have hgA:=Jw (l:=S.l) (k:=a.toNat) default za
  have hE1:¬ (t < 0∨2147483648 < t):=by omega
  have hE2:¬ (a < 0∨Uy (S.l.getD a.toNat default)≠0):=by omega
  have hdl:f.tele.data.length=f.data.l.length:=rfl
  have htk:f.tele.kind=f.kind:=rfl
  refine qbv ?_
  refine Xbh ?_
  refine q_l rfl (K6 _ _) ?_
  refine Jx (Kb (qs:=[(0,(Value.int _ _).cells.toList),(1,(Value.int _ _).cells.toList),(2,(Value.agg _).cells.toList)]) (out:=[_,_,_,_]) tb rfl rfl rfl rfl) rfl ?_
  refine qaq ?_
  intro b10
  refine Xa9 ?_
  refine Xaa ?_
  refine J6 (Jb (Kg (Jn (Jh ?_))))
  refine Xay ?_
  refine q_c (fun hc4=>?_) (fun hc4=>?_)
  ·
   refine qbi ?_
   refine Xac ?_
   refine Xaq ?_
   refine q_c (fun hc5=>?_) (fun hc5=>?_)
   ·
    refine qae ?_
    refine Ywd ?_
    refine Xdd ?_
    refine J6 (Jb (Uo (J7 (J3 (J7 ?_)))))
    exact zCd
   have h0:=Jw (l:=f.data.l) (k:=0) 0 za
   have h1:=Jw (l:=f.data.l) (k:=1) 0 za
   have hb0:=hb.at 0
   have hb1:=hb.at 1
   refine J5 (Jb ?_)
   refine Kj tb [] [0,1,2,3,4,5,6,7,8,9,10,11,12,13,14,15,16,17] [18] (_) _ K1 ze zi (by (repeat (first | apply List.Sublist.cons (a:=Blk.mk b10 _ _) | apply List.Sublist.cons_cons));exact List.Sublist.refl _) ?_
   refine Xc9 ?_
   refine Kx zZa rfl rfl rfl rfl ?_
   refine Kx zV rfl rfl rfl rfl ?_
   refine Xar ?_
   refine qd2 ?_
   refine qci ?_
   refine J4f ?_
   refine Kx (Kbc rfl rfl zc (Jfe za)) rfl rfl rfl rfl ?_
   refine Xar ?_
   refine Kx zcb rfl rfl rfl rfl ?_
   refine qci ?_
   refine J4f ?_
   refine Kx (Yce rfl rfl (Ygf za za)) rfl rfl rfl rfl ?_
   refine Vi rfl (Kxc (S.l.getD a.toNat default) _ _ _ za za) rfl rfl ?_
   rintro v L' R' ⟨rfl,rfl,rfl⟩
   refine ⟨zi,zw,?_⟩
   refine qan ?_
   refine qba ?_
   refine Zva rfl rfl rfl rfl zA zb zb zb zi ?_
   refine J1 (Ji (Jb (Jn (Jh ?_))))
   refine qa8 ?_
   refine Xbl ?_
   refine q_r (L':=L) (R':=R) zUc ?_
   have he:U7 S.l f.tele t=0:=by rw [U7,if_neg hE1,hadr,if_neg hE2,if_neg za,if_neg za]
   exact ⟨⟨a,t,Uca (S.l.getD a.toNat default) (f.data.l.getD 0 0 * 256 + f.data.l.getD 1 0)⟩,by rw [he],fun _=>by rw [Vob,hadr,if_pos za];rfl,rfl,rfl⟩
  refine Xbi ?_
  refine q_c (fun hc6=>?_) (fun hc6=>?_)
  ·
   refine qae ?_
   refine Xac ?_
   refine Xaq ?_
   refine q_c (fun hc7=>?_) (fun hc7=>?_)
   ·
    refine qae ?_
    refine Ywd ?_
    refine Xdd ?_
    refine qdb ?_
    exact zCd
   refine J5 (Ji (Jb (Jn (Jh ?_))))
   refine qa8 ?_
   refine Xbl ?_
   refine q_r (L':=L) (R':=R) zUc ?_
   have he:U7 S.l f.tele t=0:=by rw [U7,if_neg hE1,hadr,if_neg hE2,if_neg za,if_neg za]
   exact ⟨⟨a,t,nothingS⟩,by rw [he],fun _=>by rw [Vob,hadr,if_neg za],rfl,rfl⟩
  refine qae ?_
  refine Ywd ?_
  refine Xdd ?_
  refine qdb ?_
  refine q_r (L':=L) (R':=R) zUc ?_
  have he:U7 S.l f.tele t=5:=by rw [U7,if_neg hE1,hadr,if_neg hE2,if_pos za]
  exact Y8d
end
section
attribute [local irreducible] CJ LJ DJ Tri YV Gives Ui J0 Ke Uh RV J2 OwL.L
section
variable {A9 B9:Prop}
theorem J7e (a:A9) (h:A9→B9:=by exact Jx zjb rfl):B9:=h a
theorem Kgf (a:A9) (h:A9→B9:=by exact Kd (T:=93) (f:=XMeas.cells) (wd:=4) pm [] zj (fun _=>rfl) zc hK.km (fun s hs=>by cases hs)):B9:=h a
end
def Uva (g:PSite) (q:PSta×Int) (L:List Blk) (R:List Sl):Yn:=fun v L' R'=>∃(y:XSta) (S:List Sl),v=.tuple #[y.val,.int .i64 q.2]∧StaIs g q.1 y∧StaR y R'∧L=L'∧S ++ R=R'
theorem Joa {g:PSite} {p:PSta} {x:XSta} (hx:StaIs g p x) {t:Int}:(t < x.time∨2147483648 < t)↔Jia p t:=by rw [hx.time,Jia]
theorem StaK.fin {x:XSta} {s:XSite} {h:Arr Int} {w:Arr XWatch} {c:Arr XCut} {f:XFeeder} {pm:OwL XMeas} {pl:OwL XEntry} {R R':List Sl} (k:StaK x s h w c f pm pl R) (hR:∀r∈R,InR r R') (h1:InR (Vn pm.arr) R') (h2:InR (Yw pl.arr) R'):StaR (⟨s,x.time,h,x.dropped,pm.arr,w,c,f,x.rest,pl.arr⟩:XSta) R':=⟨k.site.mono hR,k.held.mono hR,h1,k.watches.mono hR,k.cuts.mono hR,k.feeder.mono hR,h2⟩
theorem Jld (g:PSite) (p:PSta) (x:XSta) (t:Int) (L:List Blk) (R:List Sl) (hI:Inv g p) (hx:StaIs g p x) (hR:StaR x R):
    Tri Tryz.prog 25 [x.val,.int .i64 t].toArray L R (Uva g (Uab g p t) L R):=by
  refine Jg 16 Tryz.call25 Tryz.func25 rfl rfl rfl ?_
  refine Xag ?_
  intro b2
  refine qaq ?_
  intro b4
  refine Xaf ?_
  refine J7e ?_
  refine Js rfl zTb rfl ?_
  rintro v L' R' ⟨s,h,w,c,f,pm,pl,S0,rfl,hK,rfl,rfl⟩
  refine qaq ?_
  intro b6
  refine Xa9 ?_
  refine J7e ?_
  refine qaa ?_
  refine q_l rfl (Jaa x t _ _) ?_
  refine qaf ?_
  refine q_c (fun hc0=>?_) (fun hc0=>?_)
  ·
   refine Jn ?_
   refine Kgf ?_
   refine Uv zp ?_
   refine Kd (T:=150) (f:=XEntry.cells) (wd:=4) pl [] zj (fun _=>rfl) zc hK.kl (fun s hs=>by cases hs) ?_
   refine Uv zp ?_
   refine qay ?_
   refine J7e ?_
   refine Xaz ?_
   refine q_r (L':=L) (R':=((Yw pl.arr :: Vn pm.arr :: S0) ++ R)) zLc ?_
   have hl:Jia p t:=(Joa hx).1 zC
   exact ⟨(⟨s,x.time,h,x.dropped,pm.arr,w,c,f,x.rest,pl.arr⟩:XSta),Yw pl.arr :: Vn pm.arr :: S0,by rw [Uab,if_pos hl],by rw [Uab,if_pos hl];exact hK.is hx,hK.fin (fun r hr=>Ja (.tail _ (.tail _ hr))) zMb zpb,rfl,rfl⟩
  have hl:¬ Jia p t:=fun h=>absurd ((Joa hx).2 h) zC
  have ht:=K9 hl
  have hIs:=hK.is hx
  have hS0:∀r∈S0 ++ R,InR r (Vn pm.arr :: (S0 ++ R)):=fun r hr=>Ja (.tail _ hr)
  refine Kgf ?_
  refine Uv zp ?_
  refine qbv ?_
  refine qaa ?_
  refine Js rfl zCc rfl ?_
  rintro v L' R' ⟨w2,c2,f2,q,S2,hqk,hS,⟨hw2,hc2,hf2⟩,rfl,rfl⟩
  refine qa4 ?_
  refine Kd (T:=150) (f:=XEntry.cells) (wd:=4) q [] zj (fun _=>rfl) zc hqk (fun s hs=>by cases hs) ?_
  refine Uv zp ?_
  have h3:∀r∈S2 ++ (Vn pm.arr :: (S0 ++ R)),InR r ((Yw q.arr :: (S2 ++ (Vn pm.arr :: S0))) ++ R):=fun r hr=>Ja zX
  have h4:∀r∈S0 ++ R,InR r ((Yw q.arr :: (S2 ++ (Vn pm.arr :: S0))) ++ R):=fun r hr=>(hS0 r hr).mono fun r hr=>h3 r (List.mem_append_right _ hr)
  refine Ymb (R':=((Yw q.arr :: (S2 ++ (Vn pm.arr :: S0))) ++ R)) (by simp only [List.cons_append,List.append_assoc]) ?_
  refine qay ?_
  refine J7e ?_
  refine Xbl ?_
  refine q_r (L':=L) (R':=((Yw q.arr :: (S2 ++ (Vn pm.arr :: S0))) ++ R)) zLc ?_
  exact ⟨(⟨s,t,h,x.dropped,pm.arr,w2,c2,f2,(Jd g p t).rest,q.arr⟩:XSta),Yw q.arr :: (S2 ++ (Vn pm.arr :: S0)),by rw [Uab,if_neg hl],by rw [Uab,if_neg hl];exact hS,⟨hK.site.mono h4,hK.held.mono h4,h3 _ (List.mem_append_right _ (.head _)),hw2.mono h3,hc2.mono h3,hf2.mono h3,Ja (.head _)⟩,rfl,rfl⟩
end
end Go.Proofs.YtchfclmokpbldaaGreat
