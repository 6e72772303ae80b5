import Derived.Test.YtchfclmokpbldaaGreatStrEq
import Derived.Test.YtchfclmokpbldaaGreatRuleD
import Derived.Test.YtchfclmokpbldaaGreatLaw11b
set_option linter.unusedVariables false
set_option linter.unusedSimpArgs false
section
/-
  Power networks: orders to switches: feeder.Close, the reference's Answer and Live, and what they stand on. By an AI agent; no person has read it.
-/
namespace Go.Proofs.YtchfclmokpbldaaGreat
open Go.Aw Go
section
variable {A9 B9:Prop}
theorem J0z (a:A9) (h:A9→B9:=by exact Jax (Jal (row:=[_,_,_]) tb rfl rfl rfl zf zb zb) rfl):B9:=h a
theorem Kbc (h:B9:=by exact ⟨.nil,.nil,0,by rw [he];rfl,⟨OwL.nil_ok,OwL.nil_ok⟩,fun h=>by omega,by rw [Jbi,Jbi];rfl,rfl⟩):B9:=h
end
theorem J5r:StrEq Tryz.prog 76 [.i,.i,.i,.b,.b]:=
  Jhl [(3,[.i]),(3,[.i]),(3,[.i]),(4,[.b]),(4,[.b])] zc zc zc zc rfl (by
    intro p hp
    simp only [List.mem_cons,List.not_mem_nil,or_false] at hp
    rcases hp with rfl | rfl | rfl | rfl | rfl
    · exact Jel zc
    · exact Jel zc
    · exact Jel zc
    · exact Jk0 zc
    · exact Jk0 zc)
theorem Jwk:StrEq Tryz.prog 51 [.i,.i,.i,.i,.i]:=
  Jhl [(3,[.i]),(3,[.i]),(3,[.i]),(3,[.i]),(3,[.i])] zc zc zc zc rfl (by
    intro p hp
    simp only [List.mem_cons,List.not_mem_nil,or_false] at hp
    rcases hp with rfl | rfl | rfl | rfl | rfl
    · exact Jel zc
    · exact Jel zc
    · exact Jel zc
    · exact Jel zc
    · exact Jel zc)
set_option maxRecDepth 20000
attribute [local irreducible] CJ LJ DJ Tri YV Gives Jcj Ja1 Jbg Jci RV Ja2 OwL.L
def Jix (sw:List XSwitch) (t:Int):Prop:=(0≤t∧t≤2147483648)∧∀x∈sw,x.since≤t
instance (sw:List XSwitch) (t:Int):Decidable (Jix sw t):=by unfold Jix;infer_instance
def Jrt (sw:List XSwitch) (zn:List Int) (rp s t:Int):Int:=if feedE sw zn rp≠0 then feedE sw zn rp else if s < 0∨(sw.length:Int)≤s then 16 else if Jix sw t then 0 else 8
theorem Jqx (f:XFeeder) (t:Int) (L:List Blk) (R:List Sl) (hf:FeederR f R):
    Tri Tryz.prog 227 [f.val,.int .i64 t].toArray L R (fun v L' R'=>v=.bool (decide (Jix f.switches.l t))∧L=L'∧R=R'):=by
  have hsR:=hf.sw
  refine Jgv Tryz.call227 hsR fun hcap=>?_
  refine Jad 25 Tryz.call227 Tryz.func227 rfl rfl rfl ?_
  refine Xaf ?_
  intro b2
  refine qaz ?_
  refine qaw ?_
  refine Xb0 ?_
  apply Ja7 (G:=[_,_]) (j:=2) (cj:=9) rfl rfl zb rfl (show _=Value.bool _ from rfl) rfl
  ·
   intro hg3
   replace hg3:=qb hg3
   refine Xb5 ?_
   exact qai
  intro junk3
  refine qaf ?_
  refine q_c (fun hc0=>?_) (fun hc0=>?_)
  ·
   refine Xch ?_
   refine q_b (L':=L) (R':=R) ?_
   exact ⟨by rw [decide_eq_false (fun h=>by have:=h.1;omega)],rfl,rfl⟩
  refine Xcm ?_
  refine Jan [(1,Value.int _ _),(14,Value.slice _ _ _),(15,Value.int _ _),(16,Value.int _ _)] zh fun tq0=>?_
  refine q_s [4,6,16,17,18,19,20,21,22,23,24] (fun g:{k:Nat // k≤f.switches.l.length∧∀j:Nat,j < k→(f.switches.l.getD j default).since≤t}=>[(16,.int .i64 ((g.1:Nat):Int))]) (fun g=>f.switches.l.length - g.1) (⟨0,by omega,fun j hj=>by omega⟩) ?_
  rintro ⟨k,hk,hal⟩ junk
  try dsimp only
  refine Xak ?_
  refine q_c (fun hc1=>?_) (fun hc1=>?_)
  ·
   have hg:=Jau (l:=f.switches.l) (k:=k) default za
   refine qbb ?_
   refine Jax zC rfl ?_
   refine qdw ?_
   refine qaq ?_
   intro b6
   refine Xa2 ?_
   refine qaa ?_
   refine Xaa ?_
   refine Xbe ?_
   refine q_c (fun hc2=>?_) (fun hc2=>?_)
   ·
    refine Xca ?_
    refine q_b (L':=L) (R':=R) ?_
    exact ⟨by rw [decide_eq_false (fun h=>by have:=h.2 _ (List.mem_of_getElem? hg);omega)],rfl,rfl⟩
   refine Xay ?_
   exact Jbl (⟨k + 1,by omega,fun j hj=>by
   rcases Nat.lt_or_ge j k with h | h
   · exact hal j h
   · obtain rfl : j = k := by omega
     omega⟩) zm zh zi (Jac _) zy
  refine Xdf ?_
  refine q_b (L':=L) (R':=R) ?_
  refine ⟨by rw [decide_eq_true (p:=Jix f.switches.l t)];refine ⟨by omega,fun x hx=>?_⟩;obtain ⟨j,hj,rfl⟩:=List.getElem_of_mem hx;have:=hal j za;rwa [List.getD_eq_getElem?_getD,List.getElem?_eq_getElem hj] at this,rfl,rfl⟩
theorem Jpd (f:XFeeder) (s t:Int) (L:List Blk) (R:List Sl) (hf:FeederR f R):
    Tri Tryz.prog 150 [f.val,.int .i64 s,.int .i64 t].toArray L R (fun v L' R'=>v=.int .i64 (Jrt f.switches.l f.zones.l f.reply s t)∧L=L'∧R=R'):=by
  refine Jad 26 Tryz.call150 Tryz.func150 rfl rfl rfl ?_
  refine Xaf ?_
  intro b3
  refine Xas ?_
  refine J0z ?_
  refine q_l rfl (Jdr f _ _ hf) ?_
  refine Xa9 ?_
  refine q_c (fun hc0=>?_) (fun hc0=>?_)
  ·
   refine Xdl ?_
   refine q_i (L':=L) (R':=R) ?_
   exact ⟨by rw [Jrt,if_pos hc0],rfl,rfl⟩
  refine qbo ?_
  refine Xb0 ?_
  apply Ja7 (G:=[_,_,_,_,_]) (j:=2) (cj:=15) rfl rfl zb rfl (show _=Value.bool _ from rfl) rfl
  ·
   intro hg3
   replace hg3:=qb hg3
   refine qaa ?_
   refine Xab ?_
   refine qbz ?_
   exact qai
  intro junk3
  refine qaf ?_
  refine q_c (fun hc1=>?_) (fun hc1=>?_)
  ·
   refine Xa7 ?_
   refine q_i (L':=L) (R':=R) ?_
   exact ⟨by rw [Jrt,if_neg za,if_pos za],rfl,rfl⟩
  refine qbo ?_
  refine J0z ?_
  refine qaa ?_
  refine q_l rfl (Jqx f t _ _ hf) ?_
  refine Xbd ?_
  refine q_c (fun hc2=>?_) (fun hc2=>?_)
  ·
   refine Xa7 ?_
   refine q_i (L':=L) (R':=R) ?_
   exact ⟨by rw [Jrt,if_neg za,if_neg za,if_neg zK],rfl,rfl⟩
  refine Xcf ?_
  refine q_i (L':=L) (R':=R) ?_
  exact ⟨by rw [Jrt,if_neg za,if_neg za,if_pos zK],rfl,rfl⟩
theorem Jlw (f:XFeeder) (L:List Blk) (R:List Sl) (hf:FeederR f R) (hn:f.switches.l.length≤1000∧f.zones.l.length≤1000):
    Tri Tryz.prog 151 [f.val].toArray L R (fun v L' R'=>∃(p:OwL XSwitch) (q:OwL Int),v=.agg #[p.val,q.val,.int .i64 f.reply]∧(p.ok 5 XSwitch.cells∧q.ok 1 Jap)∧p.l=f.switches.l∧q.l=f.zones.l∧q.L 3 Jap ++ (p.L 76 XSwitch.cells ++ L)=L'∧R=R'):=by
  have hsR:=hf.sw
  have hzR:=hf.zn
  refine Jad 12 Tryz.call151 Tryz.func151 rfl rfl rfl ?_
  refine Xaf ?_
  intro b1
  refine qaq ?_
  intro b2
  refine Xck ?_
  refine Jgl (Jbm (f:=XSwitch.cells) (xs:=f.switches) tb rfl rfl rfl ze rfl rfl (hsR) (fun _=>rfl) za) rfl ?_
  rintro v L' R' ⟨o5,rfl,hok5,rfl,rfl⟩
  refine Xbs ?_
  refine Xck ?_
  refine Jgl (Jbm (f:=Jap) (xs:=f.zones) tb rfl rfl rfl ze rfl rfl (hzR) (fun _=>rfl) za) rfl ?_
  rintro v L' R' ⟨o9,rfl,hok9,rfl,rfl⟩
  refine Xbs ?_
  refine qam ?_
  refine J0z ?_
  refine Xbq ?_
  refine q_r (L':=(⟨o9,f.zones.l⟩:OwL Int).L 3 Jap ++ ((⟨o5,f.switches.l⟩:OwL XSwitch).L 76 XSwitch.cells ++ L)) (R':=R) (Jec rfl (Jao (row:=[_,_,_]) tb rfl rfl rfl zf zb zb)) ?_
  exact ⟨⟨o5,f.switches.l⟩,⟨o9,f.zones.l⟩,rfl,⟨hok5,hok9⟩,rfl,rfl,rfl,rfl⟩
def Jjq (sw:List XSwitch) (zn:List Int) (rp s t:Int):Int:=
  if Jrt sw zn rp s t≠0 then Jrt sw zn rp s t
  else if (sw.getD s.toNat default).shown≠-1∨(0≤(sw.getD s.toNat default).above∧(sw.getD (sw.getD s.toNat default).above.toNat default).shown≠1) then 10 else 0
def Jxu (sw:List XSwitch) (s t:Int):List XSwitch:=sw.set s.toNat ⟨(sw.getD s.toNat default).above,t,0,true,false⟩
theorem Jtj (f:XFeeder) (s t:Int) (L:List Blk) (R:List Sl) (hf:FeederR f R):
    Tri Tryz.prog 166 [f.val,.int .i64 s,.int .i64 t].toArray L R (fun v L' R'=>∃(p:OwL XSwitch) (q:OwL Int) (r:Int),v=.tuple #[.agg #[p.val,q.val,.int .i64 r],.int .i64 (Jjq f.switches.l f.zones.l f.reply s t)]∧(p.ok 5 XSwitch.cells∧q.ok 1 Jap)∧
      (Jjq f.switches.l f.zones.l f.reply s t=0→p.l=Jxu f.switches.l s t∧q.l=f.zones.l∧r=f.reply)∧q.L 3 Jap ++ (p.L 76 XSwitch.cells ++ L)=L'∧R=R'):=by
  have hsR:=hf.sw
  refine Jad 54 Tryz.call166 Tryz.func166 rfl rfl rfl ?_
  refine Xaf ?_
  intro b3
  refine qaq ?_
  intro b6
  refine Xas ?_
  refine J0z ?_
  refine Xbw ?_
  refine q_l rfl (Jpd f s t _ _ hf) ?_
  refine Xa9 ?_
  refine q_c (fun hc0=>?_) (fun hc0=>?_)
  ·
   refine qae ?_
   refine Jax (Jbc (qs:=[]) (out:=[_,_,_]) tb rfl rfl rfl rfl) rfl ?_
   refine Xbz ?_
   refine q_r (L':=L) (R':=R) (Jcf rfl (Jao (row:=[_,_,_]) tb rfl rfl rfl zf zb zb) (Jaf (show _=Value.int _ _ from rfl))) ?_
   have he:Jjq f.switches.l f.zones.l f.reply s t=Jrt f.switches.l f.zones.l f.reply s t:=by rw [Jjq,if_pos hc0]
   exact Kbc
  have hcan:Jrt f.switches.l f.zones.l f.reply s t=0:=by omega
  have hfe:feedE f.switches.l f.zones.l f.reply=0:=by
    rw [Jrt] at hcan
    split at hcan <;> omega
  have hok:=Jdt hfe
  have hsn:=hok.sn
  have hzl:=hok.zl
  have hsr:0≤s∧s < f.switches.l.length:=by
    rw [Jrt,if_neg za] at hcan
    split at hcan <;> omega
  have hg:=Jau (l:=f.switches.l) (k:=s.toNat) default za
  have hup:=hok.up s.toNat za
  obtain ⟨x,hx⟩:∃x,x=f.switches.l.getD s.toNat default:=⟨_,rfl⟩
  rw [← hx] at hg hup
  refine qbv ?_
  refine Xal ?_
  refine Jax zHa rfl ?_
  refine qdw ?_
  refine qaq ?_
  intro b9
  refine Xba ?_
  refine Xaa ?_
  refine Xbu ?_
  apply Ja7 (G:=[_,_,_,_,_,_,_,_,_,_,_,_,_]) (j:=3) (cj:=27) rfl rfl zb rfl (show _=Value.bool _ from rfl) rfl
  ·
   intro hg4
   replace hg4:=qb hg4
   refine Xaa ?_
   refine qbz ?_
   refine qah ?_
   apply Jb7 (G:=[_,_,_,_,_,_,_,_]) (j:=7) (cj:=31) rfl rfl zb rfl (show _=Value.bool _ from rfl) rfl
   ·
    intro hg8
    replace hg8:=qb hg8
    have hga:=Jau (l:=f.switches.l) (k:=x.above.toNat) default za
    refine Xa1 ?_
    refine Jax (by first | exact Jae tb rfl rfl rfl rfl zt (i:=x.above.toNat) zj za | exact Jak tb rfl rfl rfl rfl (i:=x.above.toNat) zj za) rfl ?_
    refine Xb4 ?_
    refine qbq ?_
    exact qai
   intro junk8
   exact qai
  intro junk4
  refine qaf ?_
  refine q_c (fun hc1=>?_) (fun hc1=>?_)
  ·
   refine qae ?_
   refine Jax (Jbc (qs:=[]) (out:=[_,_,_]) tb rfl rfl rfl rfl) rfl ?_
   refine Xa0 ?_
   refine q_r (L':=L) (R':=R) (Jcf rfl (Jao (row:=[_,_,_]) tb rfl rfl rfl zf zb zb) (Jaf (show _=Value.int _ _ from rfl))) ?_
   have he:Jjq f.switches.l f.zones.l f.reply s t=10:=by rw [Jjq,if_neg za,← hx,if_pos za]
   exact Kbc
  have he:Jjq f.switches.l f.zones.l f.reply s t=0:=by rw [Jjq,if_neg za,← hx,if_neg za]
  refine qbv ?_
  refine J0z ?_
  refine Jaw rfl (Jlw f _ _ hf za) rfl ?_
  rintro v L' R' ⟨p,q,rfl,⟨hpk,hqk⟩,hpl,hql,rfl,rfl⟩
  refine qaq ?_
  intro b10
  refine Xcw ?_
  have hpg:p.l[s.toNat]?=some x:=by rw [hpl];exact hg
  have hpn:p.l.length=f.switches.l.length:=by rw [hpl]
  refine qay ?_
  refine Xal ?_
  refine Xal ?_
  refine Jax (Jbc (qs:=[(0,(Value.int _ _).cells.toList),(1,(Value.int _ _).cells.toList),(3,(Value.bool _).cells.toList)]) (out:=[_,_,_,_,_]) tb rfl rfl rfl rfl) rfl ?_
  refine Jax (Jat tb (p) _ rfl rfl rfl rfl zg (i:=s.toNat) zj zu) rfl ?_
  refine Jd9 (Jcn tb (p) (⟨x.above,t,0,true,false⟩) rfl rfl rfl rfl zk zg (fun _=>rfl) zg (Nat.le_of_ble_eq_true rfl) zb zb) ?_
  rintro v L' R' ⟨rfl,rfl⟩
  refine qa4 ?_
  have hpk2:=OwL.set_ok (f:=XSwitch.cells) (wd:=5) (p:=p) (i:=s.toNat) (x:=⟨x.above,t,0,true,false⟩) (fun _=>rfl) hpk
  refine qay ?_
  refine J0z ?_
  refine Xbl ?_
  refine q_r (L':=q.L 3 Jap ++ ((⟨p.o,p.l.set s.toNat ⟨x.above,t,0,true,false⟩⟩:OwL XSwitch).L 76 XSwitch.cells ++ L)) (R':=R) (Jcf rfl (Jao (row:=[_,_,_]) tb rfl rfl rfl zf zb zb) (Jaf (show _=Value.int _ _ from rfl))) ?_
  exact ⟨⟨p.o,p.l.set s.toNat ⟨x.above,t,0,true,false⟩⟩,q,f.reply,by simp only [he,OwL.val,List.length_set],⟨hpk2,hqk⟩,fun _=>⟨by rw [Jxu,← hx,hpl],hql,rfl⟩,rfl,rfl⟩
end Go.Proofs.YtchfclmokpbldaaGreat
end
section
/-
  Power networks: the reference's Answer, Live and Same. By an AI agent; no person has read it.
-/
namespace Go.Proofs.YtchfclmokpbldaaGreat
open Go.Aw Go
set_option maxRecDepth 20000
attribute [local irreducible] CJ LJ DJ Tri YV Gives Jcj Ja1 Jbg Jci RV Ja2 OwL.L
section
variable {A9 B9:Prop}
theorem Ka5 (a:A9) (h:A9→B9:=by exact Jbu zWa rfl rfl rfl):B9:=h a
end
def Jd0 (sw:List XSwitch) (zn:List Int) (rp s t:Int):Int:=
  if feedE sw zn rp≠0 then feedE sw zn rp else if s < 0∨(sw.length:Int)≤s then 16 else if t≠1∧t≠-1 then 10 else 0
def Jgs (sw:List XSwitch) (s t:Int):List XSwitch:=
  sw.set s.toNat ⟨(sw.getD s.toNat default).above,(sw.getD s.toNat default).since,t,(sw.getD s.toNat default).closed,if t= -1 then false else (sw.getD s.toNat default).late⟩
theorem J1v {sw:List XSwitch} (h:J6z sw):∀(n:Nat) (s:Int),s < sw.length→(s + 1).toNat≤n→∀x∈Jkh sw s,0≤x∧x≤s:=by
  intro n
  induction n with
  | zero=>intro s _ hn;rw [Jjr za];intro x hx;cases hx
  | succ n ih=>
    intro s hs hn x hx
    by_cases h0:s < 0
    · rw [Jjr h0] at hx;cases hx
    · have ha := h s.toNat za
      rw [Jj2 h za hs,List.mem_cons] at hx
      rcases hx with rfl | hx
      · omega
      · have := ih _ za za x hx
        omega
theorem Jpq {sw:List XSwitch} {zn:List Int} {rp s:Int} {x:Int} (hx:x∈Jjh sw zn rp s):0≤x∧x≤s∧s < sw.length:=by
  rw [Jjh] at hx
  split at hx
  · cases hx
  · have hok := Jdt (sw := sw) (zn := zn) (rp := rp) za
    have:=J1v hok.up _ s za (Nat.le_refl _) x hx
    omega
theorem Jvw {sw:List XSwitch} {zn:List Int} {rp s:Int}:(Jjh sw zn rp s).length≤32:=by
  rw [Jjh]
  split
  · simp
  · have hok := Jdt (sw := sw) (zn := zn) (rp := rp) za
    have h1:=hok.sn
    have:=Jvl hok.up _ s za (Nat.le_refl _)
    omega
theorem Jp2 (f g:XFeeder) (L:List Blk) (R:List Sl) (hf:FeederR f R) (hg:FeederR g R) (h1:f.switches.l=g.switches.l) (h2:f.zones.l=g.zones.l) (h3:f.reply=g.reply):
    Tri Tryz.prog 68 [f.val,g.val].toArray L R (fun v L' R'=>v=.bool true∧L=L'∧R=R'):=by
  have hsR:=hf.sw
  have hzR:=hf.zn
  have hsR2:=hg.sw
  have hzR2:=hg.zn
  have hl1:f.switches.l.length=g.switches.l.length:=by rw [h1]
  have hl2:f.zones.l.length=g.zones.l.length:=by rw [h2]
  refine Jgv Tryz.call68 hsR fun hcap=>?_
  refine Jgv Tryz.call68 hzR fun hcap2=>?_
  refine Jad 66 Tryz.call68 Tryz.func68 rfl rfl rfl ?_
  refine Xaf ?_
  intro b2
  refine qax ?_
  intro b3
  refine qaz ?_
  refine qaw ?_
  refine Xa1 ?_
  refine Xbu ?_
  apply Ja7 (G:=[_,_,_,_,_,_,_]) (j:=5) (cj:=12) rfl rfl zb rfl (show _=Value.bool _ from rfl) rfl
  ·
   intro hg6
   replace hg6:=qb hg6
   refine Xab ?_
   refine Xab ?_
   refine qbq ?_
   exact qai
  intro junk6
  refine qah ?_
  apply Ja7 (G:=[_,_,_,_,_,_,_]) (j:=14) (cj:=21) rfl rfl zb rfl (show _=Value.bool _ from rfl) rfl
  ·
   intro hg15
   replace hg15:=qb hg15
   refine Xab ?_
   refine Xab ?_
   refine qbq ?_
   exact qai
  intro junk15
  refine qaf ?_
  refine q_c (fun hc0=>?_) (fun hc0=>?_)
  ·
   refine Xch ?_
   refine q_b (L':=L) (R':=R) ?_
   exact absurd h3 za
  refine qbo ?_
  refine Xb2 ?_
  refine Jan [(2,Value.pointer _),(3,Value.pointer _),(5,Value.int _ _)] zh fun tq0=>?_
  refine q_s [4,5,30,31,32,33,34,35,36,37,38,39,40,41,42,43,44,45,46,47] (fun g:{k:Nat // k≤f.switches.l.length}=>[(5,.int .i64 ((g.1:Nat):Int))]) (fun g=>f.switches.l.length - g.1) (⟨0,by omega⟩) ?_
  rintro ⟨k,hk⟩ junk
  try dsimp only
  refine Xbn ?_
  refine Xab ?_
  refine Xbe ?_
  refine q_c (fun hc1=>?_) (fun hc1=>?_)
  ·
   have hxg:=Jau (l:=f.switches.l) (k:=k) default za
   have hyg:g.switches.l[k]?=some (f.switches.l.getD k default):=by rw [← h1];exact hxg
   refine Ja4 (Jab (Jam (Jbd (Jam ?_))))
   refine Jbf tb [0,1,2,3,4,5,6,7,8,9,10] _ Jby zc (List.Sublist.refl _) ?_
   refine Xbo ?_
   refine qds ?_
   refine Ka5 ?_
   refine Xbo ?_
   refine qds ?_
   refine Ka5 ?_
   refine Jbu (Jfj J5r rfl rfl zD zD rfl) rfl rfl rfl ?_
   refine qbu ?_
   refine q_c (fun hc2=>?_) (fun hc2=>?_)
   ·
    refine Xca ?_
    refine q_b (L':=L) (R':=R) ?_
    exact absurd hc2 zO
   refine Xdb ?_
   exact q_k (⟨k + 1,by omega⟩)
  refine qcf ?_
  refine Xb2 ?_
  refine Jan [(2,Value.pointer _),(3,Value.pointer _),(6,Value.int _ _)] zh fun tq1=>?_
  refine q_s [4,6,48,49,50,51,52,53,54,55,56,57,58,59,60,61,62,63,64,65] (fun g:{k:Nat // k≤f.zones.l.length}=>[(6,.int .i64 ((g.1:Nat):Int))]) (fun g=>f.zones.l.length - g.1) (⟨0,by omega⟩) ?_
  rintro ⟨k,hk⟩ junk
  try dsimp only
  refine Xbn ?_
  refine Xab ?_
  refine Xbe ?_
  refine q_c (fun hc3=>?_) (fun hc3=>?_)
  ·
   have hxg:=Jau (l:=f.zones.l) (k:=k) 0 za
   have hyg:g.zones.l[k]?=some (f.zones.l.getD k 0):=by rw [← h2];exact hxg
   refine Ja4 (Jab (Jam (Jbd (Jam ?_))))
   refine Jbf tb [0,1,2,3,4,5,6,7,8,9,10] _ Jby zc (List.Sublist.refl _) ?_
   refine Xbo ?_
   refine qds ?_
   refine qbl ?_
   refine Xbo ?_
   refine qds ?_
   refine qbl ?_
   refine Jbu (Jou rfl rfl) rfl rfl rfl ?_
   refine qbu ?_
   refine q_c (fun hc4=>?_) (fun hc4=>?_)
   ·
    refine Xca ?_
    refine q_b (L':=L) (R':=R) ?_
    exact absurd hc4 zo
   refine Xdb ?_
   exact q_k (⟨k + 1,by omega⟩)
  refine Xdf ?_
  refine q_b (L':=L) (R':=R) ?_
  exact ⟨rfl,rfl,rfl⟩
end Go.Proofs.YtchfclmokpbldaaGreat
end
section
/-
  Restoring power: the switch that is closed next, and whether that gives power to others. By an AI agent; no person has read it.
-/
namespace Go.Proofs.YtchfclmokpbldaaGreat
open Go.Aw Go
set_option maxRecDepth 20000
attribute [local irreducible] CJ LJ DJ Tri YV Gives Jcj Ja1 Jbg Jci RV Ja2 OwL.L
section
variable {A9 B9:Prop}
theorem Kb0 (a:A9) (h:A9→B9:=by exact Jax zC rfl):B9:=h a
theorem Kbs (a:A9) (h:A9→B9:=by exact Jax zKa rfl):B9:=h a
end
theorem Jr2 (x:Arr Int) (g:Int→Bool) (fid:FuncId) (cap:Array Value) (L:List Blk) (R:List Sl) (hx:InR (isl x) R) (hc:∀y∈x.l,Tri Tryz.prog fid (.int .i64 y :: cap.toList).toArray L R (fun v L' R'=>v=.bool (g y)∧L=L'∧R=R')):
    Tri Tryz.prog 234 [x.val,.func (.func fid) #[] cap].toArray L R (fun v L' R'=>∃r:Int,v=.int .i64 r∧(0≤r↔∃y∈x.l,g y=true)∧L=L'∧R=R'):=by
  refine Jgv Tryz.call234 hx fun hcap=>?_
  refine Jad 19 Tryz.call234 Tryz.func234 rfl rfl rfl ?_
  refine Xac ?_
  refine qaw ?_
  refine Xbv ?_
  refine Jan [(0,Value.slice _ _ _),(1,_),(7,Value.int _ _),(8,Value.int _ _)] zh fun tq0=>?_
  refine q_s [4,5,8,9,10,11,12,13,14,15,16,17,18] (fun g:{k:Nat // k≤x.l.length∧∀j:Nat,j < k→g (x.l.getD j 0)=false}=>[(8,.int .i64 ((g.1:Nat):Int))]) (fun g=>x.l.length - g.1) (⟨0,by omega,fun j hj=>by omega⟩) ?_
  rintro ⟨k,hk,hal⟩ junk
  try dsimp only
  refine Xak ?_
  refine q_c (fun hc0=>?_) (fun hc0=>?_)
  ·
   have hg:=Jau (l:=x.l) (k:=k) 0 za
   refine Xa6 ?_
   refine Xag ?_
   refine Jax (Jav rfl) rfl ?_
   refine Xau ?_
   refine Kb0 ?_
   refine qa7 ?_
   refine Js1 (Jfs rfl rfl (hc (x.l.getD k 0) (List.mem_of_getElem? hg))) rfl rfl ?_
   rintro v L' R' ⟨rfl,rfl,rfl⟩
   refine qaf ?_
   refine q_c (fun hc1=>?_) (fun hc1=>?_)
   ·
    refine Xdj ?_
    refine qbt ?_
    refine q_i (L':=L) (R':=R) ?_
    exact ⟨k,rfl,⟨fun _=>⟨_,List.mem_of_getElem? hg,hc1⟩,fun _=>by omega⟩,rfl,rfl⟩
   refine Xay ?_
   exact Jbl (⟨k + 1,by omega,fun j hj=>by
   rcases Nat.lt_or_ge j k with h | h
   · exact hal j h
   · obtain rfl : j = k := by omega
     simpa using hc1⟩) zm zh zi (Jac _) zy
  refine Xb9 ?_
  refine q_i (L':=L) (R':=R) ?_
  refine ⟨-1,rfl,⟨fun h=>by omega,fun ⟨y,hy,hgy⟩=>?_⟩,rfl,rfl⟩
  obtain ⟨j,hj,rfl⟩:=List.getElem_of_mem hy
  have:=hal j za
  rw [List.getD_eq_getElem?_getD,List.getElem?_eq_getElem hj] at this
  rw [show (some x.l[j]).getD 0=x.l[j] from rfl,hgy] at this
  cases this
theorem Jnk (x:Arr Int) (g:Int→Bool) (fid:FuncId) (cap:Array Value) (L:List Blk) (R:List Sl) (hx:InR (isl x) R) (hc:∀y∈x.l,Tri Tryz.prog fid (.int .i64 y :: cap.toList).toArray L R (fun v L' R'=>v=.bool (g y)∧L=L'∧R=R')):
    Tri Tryz.prog 167 [x.val,.func (.func fid) #[] cap].toArray L R (fun v L' R'=>v=.bool (decide (∃y∈x.l,g y=true))∧L=L'∧R=R'):=by
  refine Jad 9 Tryz.call167 Tryz.func167 rfl rfl rfl ?_
  refine Xax ?_
  refine Xcy ?_
  refine Jax (Jav rfl) rfl ?_
  refine Jaw rfl (Jr2 x g fid cap _ _ hx hc) rfl ?_
  rintro v L' R' ⟨r,rfl,hr,rfl,rfl⟩
  refine qbz ?_
  refine Xa3 ?_
  refine q_b (L':=L) (R':=R) ?_
  exact ⟨congrArg Value.bool (decide_eq_decide.2 hr),rfl,rfl⟩
def Jyg (sw:List XSwitch) (a y:Int):Bool:=decide (y≠a∧(sw.getD y.toNat default).shown= -1)
theorem Jzx (f:XFeeder) (a y:Int) (b9 b4:Nat) (L:List Blk) (R:List Sl) (hf:FeederR f R) (hy:0≤y∧y < f.switches.l.length):
    Tri Tryz.prog 168 [.int .i64 y,.pointer (some ⟨b9,0,none⟩),.pointer (some ⟨b4,0,none⟩)].toArray (⟨b9,[.int .i64 a],3⟩ :: ⟨b4,f.cells,42⟩ :: L) R (fun v L' R'=>v=.bool (Jyg f.switches.l a y)∧(⟨b9,[.int .i64 a],3⟩ :: ⟨b4,f.cells,42⟩ :: L)=L'∧R=R'):=by
  have hsR:=hf.sw
  have hg:=Jau (l:=f.switches.l) (k:=y.toNat) default za
  refine Jad 17 Tryz.call168 Tryz.func168 rfl rfl rfl ?_
  refine Xax ?_
  refine Xdi ?_
  refine qac ?_
  refine Xbu ?_
  apply Jb7 (G:=[_,_,_,_,_,_,_]) (j:=3) (cj:=8) rfl rfl zb rfl (show _=Value.bool _ from rfl) rfl
  ·
   intro hg4
   replace hg4:=qb hg4
   refine Xal ?_
   refine Jax (by first | exact Jae tb rfl rfl rfl rfl zt (i:=y.toNat) zj za | exact Jak tb rfl rfl rfl rfl (i:=y.toNat) zj za) rfl ?_
   refine Xb4 ?_
   refine qbn ?_
   exact qai
  intro junk4
  refine Xa3 ?_
  refine q_b (L':=⟨b9,[.int .i64 a],3⟩ :: ⟨b4,f.cells,42⟩ :: L) (R':=R) ?_
  exact ⟨by refine congrArg Value.bool ?_;rw [Bool.eq_iff_iff,Jyg,decide_eq_true_iff];simp,rfl,rfl⟩
def J50 (sw:List XSwitch) (l:List Int):Int:=l.foldl (fun a x=>if (sw.getD x.toNat default).shown≠1 then x else a) (l.getD 0 0)
def J1e (sw:List XSwitch) (l:List Int) (k:Nat):Int:=(l.take k).foldl (fun a x=>if (sw.getD x.toNat default).shown≠1 then x else a) (l.getD 0 0)
theorem Jqw {sw:List XSwitch} {l:List Int} {k:Nat} (h:k < l.length):J1e sw l (k + 1)=if (sw.getD (l.getD k 0).toNat default).shown≠1 then l.getD k 0 else J1e sw l k:=by
  have hg:=Jau (l:=l) (k:=k) 0 h
  rw [J1e,List.take_add_one,hg,Option.toList_some,List.foldl_append];rfl
def Jlm (c:List XCut) (sw:List XSwitch) (zn:List Int) (rp zone a:Int) (k:Nat):Prop:=
  ((k:Int)≠zone∧(c.getD k default).off=true)∧a∈Jjh sw zn rp (zn.getD k 0)∧¬∃y∈Jjh sw zn rp (zn.getD k 0),Jyg sw a y=true
instance (c:List XCut) (sw:List XSwitch) (zn:List Int) (rp zone a:Int) (k:Nat):Decidable (Jlm c sw zn rp zone a k):=by unfold Jlm;infer_instance
def Jrq (c:List XCut) (sw:List XSwitch) (zn:List Int) (rp zone a:Int):Prop:=∃k:Nat,k < zn.length∧Jlm c sw zn rp zone a k
instance (c:List XCut) (sw:List XSwitch) (zn:List Int) (rp zone a:Int):Decidable (Jrq c sw zn rp zone a):=by unfold Jrq;infer_instance
theorem Jyo (c:Arr XCut) (f:XFeeder) (zone:Int) (L:List Blk) (R:List Sl) (hcR:InR (Jp3 c) R) (hf:FeederR f R) (hfe:feedE f.switches.l f.zones.l f.reply=0) (hz:0≤zone∧zone < f.zones.l.length) (hcl:c.l.length=f.zones.l.length):
    Tri Tryz.prog 88 [c.val,f.val,.int .i64 zone].toArray L R (fun v L' R'=>v=.tuple #[.int .i64 (J50 f.switches.l (Jjh f.switches.l f.zones.l f.reply (f.zones.l.getD zone.toNat 0))),.bool (decide (Jrq c.l f.switches.l f.zones.l f.reply zone (J50 f.switches.l (Jjh f.switches.l f.zones.l f.reply (f.zones.l.getD zone.toNat 0)))))]∧L=L'∧∀r∈R,InR r R'):=by
  have hsR:=hf.sw
  have hzR:=hf.zn
  have hok:=Jdt hfe
  have hsn:=hok.sn
  have hzl:=hok.zl
  have hzg:=Jau (l:=f.zones.l) (k:=zone.toNat) 0 za
  have hzr:=hok.zr zone.toNat za
  refine Jad 76 Tryz.call88 Tryz.func88 rfl rfl rfl ?_
  refine Xaf ?_
  intro b4
  refine Xbm ?_
  refine qa4 ?_
  refine Jbf tb [0,1,2,3,4,5,6,7] _ Jby zc (List.Sublist.refl _) ?_
  refine Jbu (Jal (row:=[_,_,_]) tb rfl rfl rfl zf zb zb) rfl rfl rfl ?_
  refine Xbo ?_
  refine Jbu (by first | exact Jae tb rfl rfl rfl rfl zt (i:=zone.toNat) zj za | exact Jak tb rfl rfl rfl rfl (i:=zone.toNat) zj za) rfl rfl rfl ?_
  refine qbl ?_
  refine Jei rfl (Js6 f (f.zones.l.getD zone.toNat 0) _ _ hf) rfl rfl ?_
  rintro v L' R' ⟨q,rfl,hqk,hql,rfl,rfl⟩
  refine ⟨zi,zx,?_⟩
  refine Jbu (Jca (show _=Value.slice _ _ _ from rfl)) rfl rfl rfl ?_
  refine qb9 ?_
  have hqn:=Jvw (sw:=f.switches.l) (zn:=f.zones.l) (rp:=f.reply) (s:=f.zones.l.getD zone.toNat 0)
  rw [← hql] at hqn
  have hq0:0 < q.l.length:=by
    rw [hql,Jjh,if_neg za,Jj2 hok.up za za,List.length_cons];omega
  have hqm:∀x∈q.l,0≤x∧x < f.switches.l.length:=fun x hx=>by
    have:=Jpq (sw:=f.switches.l) (zn:=f.zones.l) (rp:=f.reply) (s:=f.zones.l.getD zone.toNat 0) (x:=x) (by rw [← hql];exact hx)
    omega
  have hqg0:=Jau (l:=q.l) (k:=0) 0 hq0
  refine Jiw (A:=[]) (wd:=1) [] (fun _=>rfl) ze hqk (fun s hs=>by cases hs) ?_
  refine Jcy zva ?_
  obtain ⟨R2,hR2e⟩:∃R2,R2=isl q.arr :: R:=⟨_,rfl⟩
  have hR2:∀r∈R,InR r R2:=fun r hr=>Jaa (by rw [hR2e];exact .tail _ hr)
  have hqR:InR (isl q.arr) R2:=Jaa zoa
  have hcR2:=hcR.mono hR2
  have hf2:=hf.mono hR2
  have hsR2:=hf2.sw
  have hzR2:=hf2.zn
  refine Jsd (show _=R2 by rw [hR2e]) ?_
  refine Xdv ?_
  refine qdt ?_
  refine qa7 ?_
  refine qaq ?_
  intro b9
  refine qcn ?_
  refine qaw ?_
  refine Xbv ?_
  refine Jan [(0,Value.slice _ _ _),(2,Value.int _ _),(4,Value.pointer _),(9,Value.pointer _),(26,Value.slice _ _ _),(27,Value.int _ _),(28,Value.int _ _)] zh fun tq0=>?_
  refine q_p [11,28,29,30,31,32,33,34,35,36,37,38,39,40] ((⟨fun g=>[(28,.int .i64 ((g.1.1:Nat):Int))],fun g=>⟨b9,[.int .i64 g.1.2],3⟩ :: ⟨b4,f.cells,42⟩ :: L,fun _=>R2,fun g=>q.l.length - g.1.1⟩:Head {g:Nat×Int // g.1≤q.l.length∧g.2=J1e f.switches.l q.l g.1})) (⟨(0,q.l.getD 0 0),by dsimp only;omega,rfl⟩) ?_
  rintro ⟨⟨k,a⟩,hk,ha⟩ junk
  try dsimp only
  dsimp only at hk ha
  refine Xak ?_
  refine q_c (fun hc0=>?_) (fun hc0=>?_)
  ·
   have hqg:=Jau (l:=q.l) (k:=k) 0 za
   have hqr:=hqm _ (List.mem_of_getElem? hqg)
   have hsg:=Jau (l:=f.switches.l) (k:=(q.l.getD k 0).toNat) default za
   refine qbb ?_
   refine Kb0 ?_
   refine qa7 ?_
   refine Xag ?_
   refine Xal ?_
   refine Jax zUa rfl ?_
   refine Xb4 ?_
   refine Xaq ?_
   refine q_c (fun hc1=>?_) (fun hc1=>?_)
   ·
    refine Xa4 ?_
    refine qcn ?_
    refine Xbb ?_
    exact q_k ⟨(k + 1,q.l.getD k 0),by dsimp only;omega,by dsimp only;rw [Jqw za,if_pos hc1]⟩
   refine Xay ?_
   exact q_k ⟨(k + 1,a),by dsimp only;omega,by dsimp only;rw [Jqw za,if_neg hc1];exact ha⟩
  obtain rfl:k=q.l.length:=by omega
  have hat:(J50 f.switches.l (Jjh f.switches.l f.zones.l f.reply (f.zones.l.getD zone.toNat 0)))=a:=by rw [ha,J1e,List.take_length,← hql];rfl
  refine qcf ?_
  refine Xaw ?_
  refine Jan [(0,Value.slice _ _ _),(2,Value.int _ _),(4,Value.pointer _),(9,Value.pointer _),(42,Value.slice _ _ _),(43,Value.int _ _),(44,Value.int _ _)] zh fun tq1=>?_
  refine q_p [6,7,12,13,14,15,44,45,46,47,48,49,50,51,52,53,54,55,56,57,58,59,60,61,62,63,64,65,66,67,68,69,70,71,72,73,74] ((⟨fun g=>[(44,.int .i64 ((g.1:Nat):Int))],fun g=>⟨b9,[.int .i64 a],3⟩ :: ⟨b4,f.cells,42⟩ :: L,fun _=>R2,fun g=>f.zones.l.length - g.1⟩:Head {i:Nat // i≤f.zones.l.length∧∀j:Nat,j < i→¬ Jlm c.l f.switches.l f.zones.l f.reply zone a j})) (⟨0,by omega,fun j hj=>by omega⟩) ?_
  rintro ⟨i,hi,hal⟩ junk
  try dsimp only
  refine Xak ?_
  refine q_c (fun hc2=>?_) (fun hc2=>?_)
  ·
   have hig:=Jau (l:=f.zones.l) (k:=i) 0 za
   have hcg:=Jau (l:=c.l) (k:=i) default za
   refine Xa6 ?_
   refine Kbs ?_
   refine qa7 ?_
   refine qad ?_
   refine Xas ?_
   refine Xbw ?_
   refine Xb7 ?_
   apply Ja7 (G:=[_,_,_,_,_,_]) (j:=3) (cj:=52) rfl rfl zb rfl (show _=Value.bool _ from rfl) rfl
   ·
    intro hg4
    replace hg4:=qb hg4
    refine Xau ?_
    refine Kbs ?_
    refine Xb4 ?_
    refine qb4 ?_
    exact qai
   intro junk4
   refine qaf ?_
   refine q_c (fun hc3=>?_) (fun hc3=>?_)
   ·
    refine Jcc (Jbt (Jbb (Jab (Jah ?_))))
    refine Xae ?_
    exact Jbl ⟨i + 1,by omega,fun j hj=>by
    rcases Nat.lt_or_ge j i with h | h
    · exact hal j h
    · obtain rfl : j = i := by omega
      rintro ⟨⟨h1,h2⟩,_⟩
      rcases hc3 with h3 | h3
      · exact h1 h3
      · rw [h2] at h3;cases h3⟩ zm zh zi (Jac _) zy
   refine qbv ?_
   refine Jax (Jal (row:=[_,_,_]) tb rfl rfl rfl zf zb zb) rfl ?_
   refine qaa ?_
   refine Jaw rfl (Js6 f (f.zones.l.getD i 0) _ _ hf2) rfl ?_
   rintro v L' R' ⟨q2,rfl,hq2k,hq2l,rfl,rfl⟩
   refine Xc4 ?_
   have hq2m:∀x∈q2.l,0≤x∧x < f.switches.l.length:=fun x hx=>by
     have:=Jpq (sw:=f.switches.l) (zn:=f.zones.l) (rp:=f.reply) (s:=f.zones.l.getD i 0) (x:=x) (by rw [← hq2l];exact hx)
     omega
   refine Jiw (A:=[]) (wd:=1) [] (fun _=>rfl) ze hq2k (fun s hs=>by cases hs) ?_
   refine Jcy zva ?_
   obtain ⟨R3,hR3e⟩:∃R3,R3=isl q2.arr :: R2:=⟨_,rfl⟩
   have hR3:∀r∈R2,InR r R3:=fun r hr=>Jaa (by rw [hR3e];exact .tail _ hr)
   have hq2R:InR (isl q2.arr) R3:=Jaa (by rw [hR3e];exact .head _)
   have hf3:=hf2.mono hR3
   refine Jsd (show _=R3 by rw [hR3e]) ?_
   refine Xdv ?_
   refine Jax (Jr9 rfl) rfl ?_
   refine q_l rfl (Jnk q2.arr (Jyg f.switches.l a) 168 #[.pointer (some ⟨b9,0,none⟩),.pointer (some ⟨b4,0,none⟩)] _ _ hq2R (fun y hy=>Jzx f a y b9 b4 L _ hf3 (hq2m y hy))) ?_
   refine qaz ?_
   refine Xcy ?_
   refine qac ?_
   refine q_l rfl (Jum q2.arr a _ _ hq2R) ?_
   refine qah ?_
   apply Jb7 (G:=[_,_]) (j:=3) (cj:=69) rfl rfl zb rfl (show _=Value.bool _ from rfl) rfl
   ·
    intro hg4
    replace hg4:=qb hg4
    refine qah ?_
    refine qb4 ?_
    exact qai
   intro junk4
   refine qaf ?_
   refine q_c (fun hc4=>?_) (fun hc4=>?_)
   ·
    have hpa:Jlm c.l f.switches.l f.zones.l f.reply zone a i:=⟨hc3,by rw [← hq2l];exact hc4⟩
    refine qae ?_
    refine qac ?_
    refine Xbm ?_
    refine qbt ?_
    refine q_r (L':=L) (R':=R3) (Jcf rfl (Jaf (show _=Value.int _ _ from rfl)) (Jaf (show _=Value.bool _ from rfl))) ?_
    exact ⟨by rw [hat,decide_eq_true (p:=Jrq c.l f.switches.l f.zones.l f.reply zone a) ⟨i,by omega,hpa⟩],rfl,fun r hr=>(hR2 r hr).mono hR3⟩
   refine Xay ?_
   exact Jbl ⟨i + 1,by omega,fun j hj=>by
   rcases Nat.lt_or_ge j i with h | h
   · exact hal j h
   · obtain rfl : j = i := by omega
     rintro ⟨_,h2⟩
     rw [← hq2l] at h2
     rcases hc4 with h4 | h4
     · exact h4 h2.1
     · exact h2.2 h4⟩ zm zh zi hR3 zy
  refine qbk ?_
  refine qac ?_
  refine qad ?_
  refine Xa3 ?_
  refine q_r (L':=L) (R':=R2) (Jcf rfl (Jaf (show _=Value.int _ _ from rfl)) (Jaf (show _=Value.bool _ from rfl))) ?_
  exact ⟨by rw [hat,decide_eq_false (p:=Jrq c.l f.switches.l f.zones.l f.reply zone a)];rintro ⟨j,hj,hpa⟩;exact hal j za hpa,rfl,hR2⟩
end Go.Proofs.YtchfclmokpbldaaGreat
end
