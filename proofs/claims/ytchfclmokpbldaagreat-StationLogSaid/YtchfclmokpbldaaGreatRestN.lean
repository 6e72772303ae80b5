/-
  Texts of one chapter, merged. By an AI agent; no person has read it.
-/
import Derived.Test.YtchfclmokpbldaaGreatStrEq
import Derived.Test.YtchfclmokpbldaaGreatRuleD
import Derived.Test.YtchfclmokpbldaaGreatLaw11b
set_option maxRecDepth 20000
namespace Go.Proofs.YtchfclmokpbldaaGreat
open Go.Aw Go
section
attribute [local irreducible] CJ LJ DJ Tri YV Gives Uh J0 Ke Ui RV J2 OwL.L
section
variable {A9 B9:Prop}
theorem Vdd (a:A9) (h:A9→B9:=by exact Jx (Jl (row:=[_,_,_]) tb rfl rfl rfl zf zb zb) rfl):B9:=h a
theorem Ugf (h:B9:=by exact ⟨.nil,.nil,0,by rw [he];rfl,⟨OwL.nil_ok,OwL.nil_ok⟩,fun h=>by omega,by rw [Kh,Kh];rfl,rfl⟩):B9:=h
end
def Vda (sw:List XSwitch) (t:Int):Prop:=(0≤t∧t≤2147483648)∧∀x∈sw,x.since≤t
instance (sw:List XSwitch) (t:Int):Decidable (Vda sw t):=by unfold Vda;infer_instance
def Jvc (sw:List XSwitch) (zn:List Int) (rp s t:Int):Int:=if feedE sw zn rp≠0 then feedE sw zn rp else if s < 0∨(sw.length:Int)≤s then 16 else if Vda sw t then 0 else 8
theorem Y7b (f:XFeeder) (t:Int) (L:List Blk) (R:List Sl) (hf:FeederR f R):
    Tri Tryz.prog 227 [f.val,.int .i64 t].toArray L R (fun v L' R'=>v=.bool (decide (Vda f.switches.l t))∧L=L'∧R=R'):=by
  have hsR:=hf.sw
  refine V8a Tryz.call227 hsR fun hcap=>?_
  refine Jg 25 Tryz.call227 Tryz.func227 rfl rfl rfl ?_
  refine Xag ?_
  intro b2
  refine qaz ?_
  refine qaw ?_
  refine Xb5 ?_
  apply J8 (G:=[_,_]) (j:=2) (cj:=9) rfl rfl zb rfl (show _=Value.bool _ from rfl) rfl
  ·
   intro hg3
   replace hg3:=qb hg3
   refine Xbz ?_
   exact qai
  intro junk3
  refine qaf ?_
  refine q_c (fun hc0=>?_) (fun hc0=>?_)
  ·
   refine Xbb ?_
   refine qbh ?_
   refine q_b (L':=L) (R':=R) ?_
   exact ⟨by rw [decide_eq_false (fun h=>by have:=h.1;omega)],rfl,rfl⟩
  refine Xcl ?_
  refine Jo [(1,Value.int _ _),(14,Value.slice _ _ _),(15,Value.int _ _),(16,Value.int _ _)] zg fun tq0=>?_
  refine q_s [4,6,16,17,18,19,20,21,22,23,24] (fun g:{k:Nat // k≤f.switches.l.length∧∀j:Nat,j < k→(f.switches.l.getD j default).since≤t}=>[(16,.int .i64 ((g.1:Nat):Int))]) (fun g=>f.switches.l.length - g.1) (⟨0,by omega,fun j hj=>by omega⟩) ?_
  rintro ⟨k,hk,hal⟩ junk
  try dsimp only
  refine Xak ?_
  refine q_c (fun hc1=>?_) (fun hc1=>?_)
  ·
   have hg:=Jw (l:=f.switches.l) (k:=k) default za
   refine qbb ?_
   refine Jx zC rfl ?_
   refine qdw ?_
   refine qaq ?_
   intro b6
   refine Xa0 ?_
   refine qaa ?_
   refine Xaa ?_
   refine Xbo ?_
   refine q_c (fun hc2=>?_) (fun hc2=>?_)
   ·
    refine Xbb ?_
    refine qbt ?_
    refine q_b (L':=L) (R':=R) ?_
    exact ⟨by rw [decide_eq_false (fun h=>by have:=h.2 _ (List.mem_of_getElem? hg);omega)],rfl,rfl⟩
   refine Xax ?_
   exact Kg (⟨k + 1,by omega,fun j hj=>by
   rcases Nat.lt_or_ge j k with h | h
   · exact hal j h
   · obtain rfl : j = k := by omega
     omega⟩) zm zg zi (Jc _) zw
  refine qbk ?_
  refine Xba ?_
  refine q_b (L':=L) (R':=R) ?_
  refine ⟨by rw [decide_eq_true (p:=Vda f.switches.l t)];refine ⟨by omega,fun x hx=>?_⟩;obtain ⟨j,hj,rfl⟩:=List.getElem_of_mem hx;have:=hal j za;rwa [List.getD_eq_getElem?_getD,List.getElem?_eq_getElem hj] at this,rfl,rfl⟩
theorem U3b (f:XFeeder) (s t:Int) (L:List Blk) (R:List Sl) (hf:FeederR f R):
    Tri Tryz.prog 150 [f.val,.int .i64 s,.int .i64 t].toArray L R (fun v L' R'=>v=.int .i64 (Jvc f.switches.l f.zones.l f.reply s t)∧L=L'∧R=R'):=by
  refine Jg 26 Tryz.call150 Tryz.func150 rfl rfl rfl ?_
  refine Xag ?_
  intro b3
  refine Xas ?_
  refine Vdd ?_
  refine q_l rfl (Vt f _ _ hf) ?_
  refine Xa7 ?_
  refine q_c (fun hc0=>?_) (fun hc0=>?_)
  ·
   refine Xdl ?_
   refine q_i (L':=L) (R':=R) ?_
   exact ⟨by rw [Jvc,if_pos hc0],rfl,rfl⟩
  refine qbo ?_
  refine Xb5 ?_
  apply J8 (G:=[_,_,_,_,_]) (j:=2) (cj:=15) rfl rfl zb rfl (show _=Value.bool _ from rfl) rfl
  ·
   intro hg3
   replace hg3:=qb hg3
   refine qaa ?_
   refine Xac ?_
   refine qbz ?_
   exact qai
  intro junk3
  refine qaf ?_
  refine q_c (fun hc1=>?_) (fun hc1=>?_)
  ·
   refine Xa5 ?_
   refine q_i (L':=L) (R':=R) ?_
   exact ⟨by rw [Jvc,if_neg za,if_pos za],rfl,rfl⟩
  refine qbo ?_
  refine Vdd ?_
  refine qaa ?_
  refine q_l rfl (Y7b f t _ _ hf) ?_
  refine Xbd ?_
  refine q_c (fun hc2=>?_) (fun hc2=>?_)
  ·
   refine Xa5 ?_
   refine q_i (L':=L) (R':=R) ?_
   exact ⟨by rw [Jvc,if_neg za,if_neg za,if_neg zK],rfl,rfl⟩
  refine Xcf ?_
  refine q_i (L':=L) (R':=R) ?_
  exact ⟨by rw [Jvc,if_neg za,if_neg za,if_pos zK],rfl,rfl⟩
theorem Zza (f:XFeeder) (L:List Blk) (R:List Sl) (hf:FeederR f R) (hn:f.switches.l.length≤1000∧f.zones.l.length≤1000):
    Tri Tryz.prog 151 [f.val].toArray L R (fun v L' R'=>∃(p:OwL XSwitch) (q:OwL Int),v=.agg #[p.val,q.val,.int .i64 f.reply]∧(p.ok 5 XSwitch.cells∧q.ok 1 Jq)∧p.l=f.switches.l∧q.l=f.zones.l∧q.L 3 Jq ++ (p.L 76 XSwitch.cells ++ L)=L'∧R=R'):=by
  have hsR:=hf.sw
  have hzR:=hf.zn
  refine Jg 12 Tryz.call151 Tryz.func151 rfl rfl rfl ?_
  refine Xag ?_
  intro b1
  refine qaq ?_
  intro b2
  refine Xch ?_
  refine Y9 (Km (f:=XSwitch.cells) (xs:=f.switches) tb rfl rfl rfl zc rfl rfl (hsR) (fun _=>rfl) za) rfl ?_
  rintro v L' R' ⟨o5,rfl,hok5,rfl,rfl⟩
  refine Xbp ?_
  refine Xch ?_
  refine Y9 (Km (f:=Jq) (xs:=f.zones) tb rfl rfl rfl zc rfl rfl (hzR) (fun _=>rfl) za) rfl ?_
  rintro v L' R' ⟨o9,rfl,hok9,rfl,rfl⟩
  refine Xbp ?_
  refine qam ?_
  refine Vdd ?_
  refine Xbr ?_
  refine q_r (L':=(⟨o9,f.zones.l⟩:OwL Int).L 3 Jq ++ ((⟨o5,f.switches.l⟩:OwL XSwitch).L 76 XSwitch.cells ++ L)) (R':=R) (Ya rfl (Jm (row:=[_,_,_]) tb rfl rfl rfl zf zb zb)) ?_
  exact ⟨⟨o5,f.switches.l⟩,⟨o9,f.zones.l⟩,rfl,⟨hok5,hok9⟩,rfl,rfl,rfl,rfl⟩
def Vna (sw:List XSwitch) (zn:List Int) (rp s t:Int):Int:=
  if Jvc sw zn rp s t≠0 then Jvc sw zn rp s t
  else if (sw.getD s.toNat default).shown≠-1∨(0≤(sw.getD s.toNat default).above∧(sw.getD (sw.getD s.toNat default).above.toNat default).shown≠1) then 10 else 0
def U7b (sw:List XSwitch) (s t:Int):List XSwitch:=sw.set s.toNat ⟨(sw.getD s.toNat default).above,t,0,true,false⟩
theorem Jkc (f:XFeeder) (s t:Int) (L:List Blk) (R:List Sl) (hf:FeederR f R):
    Tri Tryz.prog 166 [f.val,.int .i64 s,.int .i64 t].toArray L R (fun v L' R'=>∃(p:OwL XSwitch) (q:OwL Int) (r:Int),v=.tuple #[.agg #[p.val,q.val,.int .i64 r],.int .i64 (Vna f.switches.l f.zones.l f.reply s t)]∧(p.ok 5 XSwitch.cells∧q.ok 1 Jq)∧
      (Vna f.switches.l f.zones.l f.reply s t=0→p.l=U7b f.switches.l s t∧q.l=f.zones.l∧r=f.reply)∧q.L 3 Jq ++ (p.L 76 XSwitch.cells ++ L)=L'∧R=R'):=by
  have hsR:=hf.sw
  refine Jg 54 Tryz.call166 Tryz.func166 rfl rfl rfl ?_
  refine Xag ?_
  intro b3
  refine qaq ?_
  intro b6
  refine Xas ?_
  refine Vdd ?_
  refine Xbh ?_
  refine q_l rfl (U3b f s t _ _ hf) ?_
  refine Xa7 ?_
  refine q_c (fun hc0=>?_) (fun hc0=>?_)
  ·
   refine qae ?_
   refine Jx (Kb (qs:=[]) (out:=[_,_,_]) tb rfl rfl rfl rfl) rfl ?_
   refine Xby ?_
   refine q_r (L':=L) (R':=R) (Ug rfl (Jm (row:=[_,_,_]) tb rfl rfl rfl zf zb zb) (Je (show _=Value.int _ _ from rfl))) ?_
   have he:Vna f.switches.l f.zones.l f.reply s t=Jvc f.switches.l f.zones.l f.reply s t:=by rw [Vna,if_pos hc0]
   exact Ugf
  have hcan:Jvc f.switches.l f.zones.l f.reply s t=0:=by omega
  have hfe:feedE f.switches.l f.zones.l f.reply=0:=by
    rw [Jvc] at hcan
    split at hcan <;> omega
  have hok:=Vx hfe
  have hsn:=hok.sn
  have hzl:=hok.zl
  have hsr:0≤s∧s < f.switches.l.length:=by
    rw [Jvc,if_neg za] at hcan
    split at hcan <;> omega
  have hg:=Jw (l:=f.switches.l) (k:=s.toNat) default za
  have hup:=hok.up s.toNat za
  obtain ⟨x,hx⟩:∃x,x=f.switches.l.getD s.toNat default:=⟨_,rfl⟩
  rw [← hx] at hg hup
  refine qbv ?_
  refine Xam ?_
  refine Jx zHa rfl ?_
  refine qdw ?_
  refine qaq ?_
  intro b9
  refine Xa9 ?_
  refine Xaa ?_
  refine Xbx ?_
  apply J8 (G:=[_,_,_,_,_,_,_,_,_,_,_,_,_]) (j:=3) (cj:=27) rfl rfl zb rfl (show _=Value.bool _ from rfl) rfl
  ·
   intro hg4
   replace hg4:=qb hg4
   refine Xaa ?_
   refine qbz ?_
   refine qah ?_
   apply Up (G:=[_,_,_,_,_,_,_,_]) (j:=7) (cj:=31) rfl rfl zb rfl (show _=Value.bool _ from rfl) rfl
   ·
    intro hg8
    replace hg8:=qb hg8
    have hga:=Jw (l:=f.switches.l) (k:=x.above.toNat) default za
    refine Xbe ?_
    refine Jx (by first | exact Jf tb rfl rfl rfl rfl zt (i:=x.above.toNat) zk za | exact Jk tb rfl rfl rfl rfl (i:=x.above.toNat) zk za) rfl ?_
    refine Xbv ?_
    refine qbq ?_
    exact qai
   intro junk8
   exact qai
  intro junk4
  refine qaf ?_
  refine q_c (fun hc1=>?_) (fun hc1=>?_)
  ·
   refine qae ?_
   refine Jx (Kb (qs:=[]) (out:=[_,_,_]) tb rfl rfl rfl rfl) rfl ?_
   refine Xaz ?_
   refine q_r (L':=L) (R':=R) (Ug rfl (Jm (row:=[_,_,_]) tb rfl rfl rfl zf zb zb) (Je (show _=Value.int _ _ from rfl))) ?_
   have he:Vna f.switches.l f.zones.l f.reply s t=10:=by rw [Vna,if_neg za,← hx,if_pos za]
   exact Ugf
  have he:Vna f.switches.l f.zones.l f.reply s t=0:=by rw [Vna,if_neg za,← hx,if_neg za]
  refine qbv ?_
  refine Vdd ?_
  refine Js rfl (Zza f _ _ hf za) rfl ?_
  rintro v L' R' ⟨p,q,rfl,⟨hpk,hqk⟩,hpl,hql,rfl,rfl⟩
  refine qaq ?_
  intro b10
  refine Xc2 ?_
  have hpg:p.l[s.toNat]?=some x:=by rw [hpl];exact hg
  have hpn:p.l.length=f.switches.l.length:=by rw [hpl]
  refine qay ?_
  refine Xam ?_
  refine Xam ?_
  refine Jx (Kb (qs:=[(0,(Value.int _ _).cells.toList),(1,(Value.int _ _).cells.toList),(3,(Value.bool _).cells.toList)]) (out:=[_,_,_,_,_]) tb rfl rfl rfl rfl) rfl ?_
  refine Jx (Ju tb (p) _ rfl rfl rfl rfl zh (i:=s.toNat) zk zu) rfl ?_
  refine Yc (Ul tb (p) (⟨x.above,t,0,true,false⟩) rfl rfl rfl rfl zj zh (fun _=>rfl) zh (Nat.le_of_ble_eq_true rfl) zb zb) ?_
  rintro v L' R' ⟨rfl,rfl⟩
  refine qa4 ?_
  have hpk2:=OwL.set_ok (f:=XSwitch.cells) (wd:=5) (p:=p) (i:=s.toNat) (x:=⟨x.above,t,0,true,false⟩) (fun _=>rfl) hpk
  refine qay ?_
  refine Vdd ?_
  refine Xbl ?_
  refine q_r (L':=q.L 3 Jq ++ ((⟨p.o,p.l.set s.toNat ⟨x.above,t,0,true,false⟩⟩:OwL XSwitch).L 76 XSwitch.cells ++ L)) (R':=R) (Ug rfl (Jm (row:=[_,_,_]) tb rfl rfl rfl zf zb zb) (Je (show _=Value.int _ _ from rfl))) ?_
  exact ⟨⟨p.o,p.l.set s.toNat ⟨x.above,t,0,true,false⟩⟩,q,f.reply,by simp only [he,OwL.val,List.length_set],⟨hpk2,hqk⟩,fun _=>⟨by rw [U7b,← hx,hpl],hql,rfl⟩,rfl,rfl⟩
end
section
attribute [local irreducible] CJ LJ DJ Tri YV Gives Uh J0 Ke Ui RV J2 OwL.L
def V3 (sw:List XSwitch) (zn:List Int) (rp s t:Int):Int:=
  if feedE sw zn rp≠0 then feedE sw zn rp else if s < 0∨(sw.length:Int)≤s then 16 else if t≠1∧t≠-1 then 10 else 0
def Zj (sw:List XSwitch) (s t:Int):List XSwitch:=
  sw.set s.toNat ⟨(sw.getD s.toNat default).above,(sw.getD s.toNat default).since,t,(sw.getD s.toNat default).closed,if t= -1 then false else (sw.getD s.toNat default).late⟩
theorem Z1d {sw:List XSwitch} (h:V8e sw):∀(n:Nat) (s:Int),s < sw.length→(s + 1).toNat≤n→∀x∈Y0a sw s,0≤x∧x≤s:=by
  intro n
  induction n with
  | zero=>intro s _ hn;rw [V9a za];intro x hx;cases hx
  | succ n ih=>
    intro s hs hn x hx
    by_cases h0:s < 0
    · rw [V9a h0] at hx;cases hx
    · have ha := h s.toNat za
      rw [Yna h za hs,List.mem_cons] at hx
      rcases hx with rfl | hx
      · omega
      · have := ih _ za za x hx
        omega
theorem U8b {sw:List XSwitch} {zn:List Int} {rp s:Int} {x:Int} (hx:x∈Vsa sw zn rp s):0≤x∧x≤s∧s < sw.length:=by
  rw [Vsa] at hx
  split at hx
  · cases hx
  · have hok := Vx (sw := sw) (zn := zn) (rp := rp) za
    have:=Z1d hok.up _ s za (Nat.le_refl _) x hx
    omega
theorem U9c {sw:List XSwitch} {zn:List Int} {rp s:Int}:(Vsa sw zn rp s).length≤32:=by
  rw [Vsa]
  split
  · simp
  · have hok := Vx (sw := sw) (zn := zn) (rp := rp) za
    have h1:=hok.sn
    have:=Uac hok.up _ s za (Nat.le_refl _)
    omega
end
section
attribute [local irreducible] CJ LJ DJ Tri YV Gives Uh J0 Ke Ui RV J2 OwL.L
section
variable {A9 B9:Prop}
theorem Uwf (a:A9) (h:A9→B9:=by exact Jx zC rfl):B9:=h a
theorem Uvf (a:A9) (h:A9→B9:=by exact Jx zKa rfl):B9:=h a
end
theorem Jpc (x:Arr Int) (g:Int→Bool) (fid:FuncId) (cap:Array Value) (L:List Blk) (R:List Sl) (hx:InR (isl x) R) (hc:∀y∈x.l,Tri Tryz.prog fid (.int .i64 y :: cap.toList).toArray L R (fun v L' R'=>v=.bool (g y)∧L=L'∧R=R')):
    Tri Tryz.prog 234 [x.val,.func (.func fid) #[] cap].toArray L R (fun v L' R'=>∃r:Int,v=.int .i64 r∧(0≤r↔∃y∈x.l,g y=true)∧L=L'∧R=R'):=by
  refine V8a Tryz.call234 hx fun hcap=>?_
  refine Jg 19 Tryz.call234 Tryz.func234 rfl rfl rfl ?_
  refine Xab ?_
  refine qaw ?_
  refine Xbt ?_
  refine Jo [(0,Value.slice _ _ _),(1,_),(7,Value.int _ _),(8,Value.int _ _)] zg fun tq0=>?_
  refine q_s [4,5,8,9,10,11,12,13,14,15,16,17,18] (fun g:{k:Nat // k≤x.l.length∧∀j:Nat,j < k→g (x.l.getD j 0)=false}=>[(8,.int .i64 ((g.1:Nat):Int))]) (fun g=>x.l.length - g.1) (⟨0,by omega,fun j hj=>by omega⟩) ?_
  rintro ⟨k,hk,hal⟩ junk
  try dsimp only
  refine Xak ?_
  refine q_c (fun hc0=>?_) (fun hc0=>?_)
  ·
   have hg:=Jw (l:=x.l) (k:=k) 0 za
   refine Xa2 ?_
   refine Xaf ?_
   refine Jx (Jy rfl) rfl ?_
   refine Xau ?_
   refine Uwf ?_
   refine qa7 ?_
   refine Jnc (Z3 rfl rfl (hc (x.l.getD k 0) (List.mem_of_getElem? hg))) rfl rfl ?_
   rintro v L' R' ⟨rfl,rfl,rfl⟩
   refine qaf ?_
   refine q_c (fun hc1=>?_) (fun hc1=>?_)
   ·
    refine Xdj ?_
    refine qbt ?_
    refine q_i (L':=L) (R':=R) ?_
    exact ⟨k,rfl,⟨fun _=>⟨_,List.mem_of_getElem? hg,hc1⟩,fun _=>by omega⟩,rfl,rfl⟩
   refine Xax ?_
   exact Kg (⟨k + 1,by omega,fun j hj=>by
   rcases Nat.lt_or_ge j k with h | h
   · exact hal j h
   · obtain rfl : j = k := by omega
     simpa using hc1⟩) zm zg zi (Jc _) zw
  refine Xb7 ?_
  refine q_i (L':=L) (R':=R) ?_
  refine ⟨-1,rfl,⟨fun h=>by omega,fun ⟨y,hy,hgy⟩=>?_⟩,rfl,rfl⟩
  obtain ⟨j,hj,rfl⟩:=List.getElem_of_mem hy
  have:=hal j za
  rw [List.getD_eq_getElem?_getD,List.getElem?_eq_getElem hj] at this
  rw [show (some x.l[j]).getD 0=x.l[j] from rfl,hgy] at this
  cases this
theorem K5b (x:Arr Int) (g:Int→Bool) (fid:FuncId) (cap:Array Value) (L:List Blk) (R:List Sl) (hx:InR (isl x) R) (hc:∀y∈x.l,Tri Tryz.prog fid (.int .i64 y :: cap.toList).toArray L R (fun v L' R'=>v=.bool (g y)∧L=L'∧R=R')):
    Tri Tryz.prog 167 [x.val,.func (.func fid) #[] cap].toArray L R (fun v L' R'=>v=.bool (decide (∃y∈x.l,g y=true))∧L=L'∧R=R'):=by
  refine Jg 9 Tryz.call167 Tryz.func167 rfl rfl rfl ?_
  refine Xbb ?_
  refine Xc4 ?_
  refine Jx (Jy rfl) rfl ?_
  refine Js rfl (Jpc x g fid cap _ _ hx hc) rfl ?_
  rintro v L' R' ⟨r,rfl,hr,rfl,rfl⟩
  refine qbz ?_
  refine Xba ?_
  refine q_b (L':=L) (R':=R) ?_
  exact ⟨congrArg Value.bool (decide_eq_decide.2 hr),rfl,rfl⟩
def Ked (sw:List XSwitch) (a y:Int):Bool:=decide (y≠a∧(sw.getD y.toNat default).shown= -1)
theorem Vld (f:XFeeder) (a y:Int) (b9 b4:Nat) (L:List Blk) (R:List Sl) (hf:FeederR f R) (hy:0≤y∧y < f.switches.l.length):
    Tri Tryz.prog 168 [.int .i64 y,.pointer (some ⟨b9,0,none⟩),.pointer (some ⟨b4,0,none⟩)].toArray (⟨b9,[.int .i64 a],3⟩ :: ⟨b4,f.cells,42⟩ :: L) R (fun v L' R'=>v=.bool (Ked f.switches.l a y)∧(⟨b9,[.int .i64 a],3⟩ :: ⟨b4,f.cells,42⟩ :: L)=L'∧R=R'):=by
  have hsR:=hf.sw
  have hg:=Jw (l:=f.switches.l) (k:=y.toNat) default za
  refine Jg 17 Tryz.call168 Tryz.func168 rfl rfl rfl ?_
  refine Xbb ?_
  refine Xde ?_
  refine qac ?_
  refine Xbx ?_
  apply Up (G:=[_,_,_,_,_,_,_]) (j:=3) (cj:=8) rfl rfl zb rfl (show _=Value.bool _ from rfl) rfl
  ·
   intro hg4
   replace hg4:=qb hg4
   refine Xam ?_
   refine Jx (by first | exact Jf tb rfl rfl rfl rfl zt (i:=y.toNat) zk za | exact Jk tb rfl rfl rfl rfl (i:=y.toNat) zk za) rfl ?_
   refine Xbv ?_
   refine qbn ?_
   exact qai
  intro junk4
  refine Xba ?_
  refine q_b (L':=⟨b9,[.int .i64 a],3⟩ :: ⟨b4,f.cells,42⟩ :: L) (R':=R) ?_
  exact ⟨by refine congrArg Value.bool ?_;rw [Bool.eq_iff_iff,Ked,decide_eq_true_iff];simp,rfl,rfl⟩
def Uhe (sw:List XSwitch) (l:List Int):Int:=l.foldl (fun a x=>if (sw.getD x.toNat default).shown≠1 then x else a) (l.getD 0 0)
def Zbd (sw:List XSwitch) (l:List Int) (k:Nat):Int:=(l.take k).foldl (fun a x=>if (sw.getD x.toNat default).shown≠1 then x else a) (l.getD 0 0)
theorem Y8b {sw:List XSwitch} {l:List Int} {k:Nat} (h:k < l.length):Zbd sw l (k + 1)=if (sw.getD (l.getD k 0).toNat default).shown≠1 then l.getD k 0 else Zbd sw l k:=by
  have hg:=Jw (l:=l) (k:=k) 0 h
  rw [Zbd,List.take_add_one,hg,Option.toList_some,List.foldl_append];rfl
def Jhb (c:List XCut) (sw:List XSwitch) (zn:List Int) (rp zone a:Int) (k:Nat):Prop:=
  ((k:Int)≠zone∧(c.getD k default).off=true)∧a∈Vsa sw zn rp (zn.getD k 0)∧¬∃y∈Vsa sw zn rp (zn.getD k 0),Ked sw a y=true
instance (c:List XCut) (sw:List XSwitch) (zn:List Int) (rp zone a:Int) (k:Nat):Decidable (Jhb c sw zn rp zone a k):=by unfold Jhb;infer_instance
def Y4b (c:List XCut) (sw:List XSwitch) (zn:List Int) (rp zone a:Int):Prop:=∃k:Nat,k < zn.length∧Jhb c sw zn rp zone a k
instance (c:List XCut) (sw:List XSwitch) (zn:List Int) (rp zone a:Int):Decidable (Y4b c sw zn rp zone a):=by unfold Y4b;infer_instance
theorem J1d (c:Arr XCut) (f:XFeeder) (zone:Int) (L:List Blk) (R:List Sl) (hcR:InR (Kyc c) R) (hf:FeederR f R) (hfe:feedE f.switches.l f.zones.l f.reply=0) (hz:0≤zone∧zone < f.zones.l.length) (hcl:c.l.length=f.zones.l.length):
    Tri Tryz.prog 88 [c.val,f.val,.int .i64 zone].toArray L R (fun v L' R'=>v=.tuple #[.int .i64 (Uhe f.switches.l (Vsa f.switches.l f.zones.l f.reply (f.zones.l.getD zone.toNat 0))),.bool (decide (Y4b c.l f.switches.l f.zones.l f.reply zone (Uhe f.switches.l (Vsa f.switches.l f.zones.l f.reply (f.zones.l.getD zone.toNat 0)))))]∧L=L'∧∀r∈R,InR r R'):=by
  have hsR:=hf.sw
  have hzR:=hf.zn
  have hok:=Vx hfe
  have hsn:=hok.sn
  have hzl:=hok.zl
  have hzg:=Jw (l:=f.zones.l) (k:=zone.toNat) 0 za
  have hzr:=hok.zr zone.toNat za
  refine Jg 76 Tryz.call88 Tryz.func88 rfl rfl rfl ?_
  refine Xag ?_
  intro b4
  refine Xbn ?_
  refine qa4 ?_
  refine Kn tb [0,1,2,3,4,5,6,7] _ K1 ze (List.Sublist.refl _) ?_
  refine Kv (Jl (row:=[_,_,_]) tb rfl rfl rfl zf zb zb) rfl rfl rfl ?_
  refine Xb1 ?_
  refine Kv (by first | exact Jf tb rfl rfl rfl rfl zt (i:=zone.toNat) zk za | exact Jk tb rfl rfl rfl rfl (i:=zone.toNat) zk za) rfl rfl rfl ?_
  refine qbl ?_
  refine Yu rfl (Jlc f (f.zones.l.getD zone.toNat 0) _ _ hf) rfl rfl ?_
  rintro v L' R' ⟨q,rfl,hqk,hql,rfl,rfl⟩
  refine ⟨zi,zy,?_⟩
  refine Kv (Uc (show _=Value.slice _ _ _ from rfl)) rfl rfl rfl ?_
  refine qb9 ?_
  have hqn:=U9c (sw:=f.switches.l) (zn:=f.zones.l) (rp:=f.reply) (s:=f.zones.l.getD zone.toNat 0)
  rw [← hql] at hqn
  have hq0:0 < q.l.length:=by
    rw [hql,Vsa,if_neg za,Yna hok.up za za,List.length_cons];omega
  have hqm:∀x∈q.l,0≤x∧x < f.switches.l.length:=fun x hx=>by
    have:=U8b (sw:=f.switches.l) (zn:=f.zones.l) (rp:=f.reply) (s:=f.zones.l.getD zone.toNat 0) (x:=x) (by rw [← hql];exact hx)
    omega
  have hqg0:=Jw (l:=q.l) (k:=0) 0 hq0
  refine Ura (A:=[]) (wd:=1) [] (fun _=>rfl) zc hqk (fun s hs=>by cases hs) ?_
  refine Uv zwa ?_
  obtain ⟨R2,hR2e⟩:∃R2,R2=isl q.arr :: R:=⟨_,rfl⟩
  have hR2:∀r∈R,InR r R2:=fun r hr=>Ja (by rw [hR2e];exact .tail _ hr)
  have hqR:InR (isl q.arr) R2:=Ja zaa
  have hcR2:=hcR.mono hR2
  have hf2:=hf.mono hR2
  have hsR2:=hf2.sw
  have hzR2:=hf2.zn
  refine Ysb (show _=R2 by rw [hR2e]) ?_
  refine Xcy ?_
  refine qdt ?_
  refine qa7 ?_
  refine qaq ?_
  intro b9
  refine qcn ?_
  refine qaw ?_
  refine Xbt ?_
  refine Jo [(0,Value.slice _ _ _),(2,Value.int _ _),(4,Value.pointer _),(9,Value.pointer _),(26,Value.slice _ _ _),(27,Value.int _ _),(28,Value.int _ _)] zg fun tq0=>?_
  refine q_p [11,28,29,30,31,32,33,34,35,36,37,38,39,40] ((⟨fun g=>[(28,.int .i64 ((g.1.1:Nat):Int))],fun g=>⟨b9,[.int .i64 g.1.2],3⟩ :: ⟨b4,f.cells,42⟩ :: L,fun _=>R2,fun g=>q.l.length - g.1.1⟩:Head {g:Nat×Int // g.1≤q.l.length∧g.2=Zbd f.switches.l q.l g.1})) (⟨(0,q.l.getD 0 0),by dsimp only;omega,rfl⟩) ?_
  rintro ⟨⟨k,a⟩,hk,ha⟩ junk
  try dsimp only
  dsimp only at hk ha
  refine Xak ?_
  refine q_c (fun hc0=>?_) (fun hc0=>?_)
  ·
   have hqg:=Jw (l:=q.l) (k:=k) 0 za
   have hqr:=hqm _ (List.mem_of_getElem? hqg)
   have hsg:=Jw (l:=f.switches.l) (k:=(q.l.getD k 0).toNat) default za
   refine qbb ?_
   refine Uwf ?_
   refine qa7 ?_
   refine Xaf ?_
   refine Xam ?_
   refine Jx zVa rfl ?_
   refine Xbv ?_
   refine Xaq ?_
   refine q_c (fun hc1=>?_) (fun hc1=>?_)
   ·
    refine Xa3 ?_
    refine qcn ?_
    refine Xa8 ?_
    exact q_k ⟨(k + 1,q.l.getD k 0),by dsimp only;omega,by dsimp only;rw [Y8b za,if_pos hc1]⟩
   refine Xax ?_
   exact q_k ⟨(k + 1,a),by dsimp only;omega,by dsimp only;rw [Y8b za,if_neg hc1];exact ha⟩
  obtain rfl:k=q.l.length:=by omega
  have hat:(Uhe f.switches.l (Vsa f.switches.l f.zones.l f.reply (f.zones.l.getD zone.toNat 0)))=a:=by rw [ha,Zbd,List.take_length,← hql];rfl
  refine qcf ?_
  refine Xaw ?_
  refine Jo [(0,Value.slice _ _ _),(2,Value.int _ _),(4,Value.pointer _),(9,Value.pointer _),(42,Value.slice _ _ _),(43,Value.int _ _),(44,Value.int _ _)] zg fun tq1=>?_
  refine q_p [6,7,12,13,14,15,44,45,46,47,48,49,50,51,52,53,54,55,56,57,58,59,60,61,62,63,64,65,66,67,68,69,70,71,72,73,74] ((⟨fun g=>[(44,.int .i64 ((g.1:Nat):Int))],fun g=>⟨b9,[.int .i64 a],3⟩ :: ⟨b4,f.cells,42⟩ :: L,fun _=>R2,fun g=>f.zones.l.length - g.1⟩:Head {i:Nat // i≤f.zones.l.length∧∀j:Nat,j < i→¬ Jhb c.l f.switches.l f.zones.l f.reply zone a j})) (⟨0,by omega,fun j hj=>by omega⟩) ?_
  rintro ⟨i,hi,hal⟩ junk
  try dsimp only
  refine Xak ?_
  refine q_c (fun hc2=>?_) (fun hc2=>?_)
  ·
   have hig:=Jw (l:=f.zones.l) (k:=i) 0 za
   have hcg:=Jw (l:=c.l) (k:=i) default za
   refine Xa2 ?_
   refine Uvf ?_
   refine qa7 ?_
   refine qad ?_
   refine Xas ?_
   refine Xbh ?_
   refine qbn ?_
   refine qah ?_
   apply J8 (G:=[_,_,_,_,_,_]) (j:=3) (cj:=52) rfl rfl zb rfl (show _=Value.bool _ from rfl) rfl
   ·
    intro hg4
    replace hg4:=qb hg4
    refine Xau ?_
    refine Uvf ?_
    refine Xbv ?_
    refine qb4 ?_
    exact qai
   intro junk4
   refine qaf ?_
   refine q_c (fun hc3=>?_) (fun hc3=>?_)
   ·
    refine K9 (Kq (Kc (Jb (Jh ?_))))
    refine Xae ?_
    exact Kg ⟨i + 1,by omega,fun j hj=>by
    rcases Nat.lt_or_ge j i with h | h
    · exact hal j h
    · obtain rfl : j = i := by omega
      rintro ⟨⟨h1,h2⟩,_⟩
      rcases hc3 with h3 | h3
      · exact h1 h3
      · rw [h2] at h3;cases h3⟩ zm zg zi (Jc _) zw
   refine qbv ?_
   refine Jx (Jl (row:=[_,_,_]) tb rfl rfl rfl zf zb zb) rfl ?_
   refine qaa ?_
   refine Js rfl (Jlc f (f.zones.l.getD i 0) _ _ hf2) rfl ?_
   rintro v L' R' ⟨q2,rfl,hq2k,hq2l,rfl,rfl⟩
   refine Xcm ?_
   have hq2m:∀x∈q2.l,0≤x∧x < f.switches.l.length:=fun x hx=>by
     have:=U8b (sw:=f.switches.l) (zn:=f.zones.l) (rp:=f.reply) (s:=f.zones.l.getD i 0) (x:=x) (by rw [← hq2l];exact hx)
     omega
   refine Ura (A:=[]) (wd:=1) [] (fun _=>rfl) zc hq2k (fun s hs=>by cases hs) ?_
   refine Uv zwa ?_
   obtain ⟨R3,hR3e⟩:∃R3,R3=isl q2.arr :: R2:=⟨_,rfl⟩
   have hR3:∀r∈R2,InR r R3:=fun r hr=>Ja (by rw [hR3e];exact .tail _ hr)
   have hq2R:InR (isl q2.arr) R3:=Ja (by rw [hR3e];exact .head _)
   have hf3:=hf2.mono hR3
   refine Ysb (show _=R3 by rw [hR3e]) ?_
   refine Xcy ?_
   refine Jx (Kqc rfl) rfl ?_
   refine q_l rfl (K5b q2.arr (Ked f.switches.l a) 168 #[.pointer (some ⟨b9,0,none⟩),.pointer (some ⟨b4,0,none⟩)] _ _ hq2R (fun y hy=>Vld f a y b9 b4 L _ hf3 (hq2m y hy))) ?_
   refine qaz ?_
   refine Xc4 ?_
   refine qac ?_
   refine q_l rfl (V4c q2.arr a _ _ hq2R) ?_
   refine qah ?_
   apply Up (G:=[_,_]) (j:=3) (cj:=69) rfl rfl zb rfl (show _=Value.bool _ from rfl) rfl
   ·
    intro hg4
    replace hg4:=qb hg4
    refine qah ?_
    refine qb4 ?_
    exact qai
   intro junk4
   refine qaf ?_
   refine q_c (fun hc4=>?_) (fun hc4=>?_)
   ·
    have hpa:Jhb c.l f.switches.l f.zones.l f.reply zone a i:=⟨hc3,by rw [← hq2l];exact hc4⟩
    refine qae ?_
    refine qac ?_
    refine Xbn ?_
    refine qbt ?_
    refine q_r (L':=L) (R':=R3) (Ug rfl (Je (show _=Value.int _ _ from rfl)) (Je (show _=Value.bool _ from rfl))) ?_
    exact ⟨by rw [hat,decide_eq_true (p:=Y4b c.l f.switches.l f.zones.l f.reply zone a) ⟨i,by omega,hpa⟩],rfl,fun r hr=>(hR2 r hr).mono hR3⟩
   refine Xax ?_
   exact Kg ⟨i + 1,by omega,fun j hj=>by
   rcases Nat.lt_or_ge j i with h | h
   · exact hal j h
   · obtain rfl : j = i := by omega
     rintro ⟨_,h2⟩
     rw [← hq2l] at h2
     rcases hc4 with h4 | h4
     · exact h4 h2.1
     · exact h2.2 h4⟩ zm zg zi hR3 zw
  refine qbk ?_
  refine qac ?_
  refine qad ?_
  refine Xba ?_
  refine q_r (L':=L) (R':=R2) (Ug rfl (Je (show _=Value.int _ _ from rfl)) (Je (show _=Value.bool _ from rfl))) ?_
  exact ⟨by rw [hat,decide_eq_false (p:=Y4b c.l f.switches.l f.zones.l f.reply zone a)];rintro ⟨j,hj,hpa⟩;exact hal j za hpa,rfl,hR2⟩
end
end Go.Proofs.YtchfclmokpbldaaGreat
