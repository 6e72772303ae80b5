/-
  Texts of one chapter, merged. By an AI agent; no person has read it.
-/
import Derived.Test.YtchfclmokpbldaaGreatStrEq
import Derived.Test.YtchfclmokpbldaaGreatRuleD
import Derived.Test.YtchfclmokpbldaaGreatLaw11b
set_option linter.unusedVariables false
set_option linter.unusedSimpArgs false
set_option maxRecDepth 20000
namespace Go.Proofs.YtchfclmokpbldaaGreat
open Go.Aw Go
section
attribute [local irreducible] CJ LJ DJ Tri YV Gives Ui J0 Ke Uh RV J2 OwL.L
section
variable {A9 B9:Prop}
theorem Vpd (a:A9) (h:A9→B9:=by exact Jx zkb rfl):B9:=h a
theorem Kef (h:B9:=by exact ⟨.nil,.nil,0,by rw [he];rfl,⟨OwL.nil_ok,OwL.nil_ok⟩,fun h=>by omega,by rw [Kh,Kh];rfl,rfl⟩):B9:=h
end
def Vba (sw:List XSwitch) (t:Int):Prop:=(0≤t∧t≤2147483648)∧∀x∈sw,x.since≤t
instance (sw:List XSwitch) (t:Int):Decidable (Vba sw t):=by unfold Vba;infer_instance
def Jpc (sw:List XSwitch) (zn:List Int) (rp s t:Int):Int:=if feedE sw zn rp≠0 then feedE sw zn rp else if s < 0∨(sw.length:Int)≤s then 16 else if Vba sw t then 0 else 8
theorem Zrb (f:XFeeder) (t:Int) (L:List Blk) (R:List Sl) (hf:FeederR f R):
    Tri Tryz.prog 227 [f.val,.int .i64 t].toArray L R (fun v L' R'=>v=.bool (decide (Vba f.switches.l t))∧L=L'∧R=R'):=by
  have hsR:=hf.sw
  refine V3a Tryz.call227 hsR fun hcap=>?_
  refine Jg 25 Tryz.call227 Tryz.func227 rfl rfl rfl ?_
  refine Xag ?_
  intro b2
  refine qaz ?_
  refine qaw ?_
  refine Xb5 ?_
  apply J9 (G:=[_,_]) (j:=2) (cj:=9) rfl rfl zb rfl zdb rfl
  ·
   exact zdd
  intro junk3
  refine qaf ?_
  refine q_c (fun hc0=>?_) (fun hc0=>?_)
  ·
   refine Xbb ?_
   refine qbh ?_
   refine q_b (L':=L) (R':=R) ?_
   exact ⟨by rw [decide_eq_false (fun h=>by have:=h.1;omega)],rfl,rfl⟩
  refine Xcl ?_
  refine Jo [(1,Value.int _ _),(14,Value.slice _ _ _),(15,Value.int _ _),(16,Value.int _ _)] zg fun tq0=>?_
  refine q_s [4,6,16,17,18,19,20,21,22,23,24] (fun g:{k:Nat // k≤f.switches.l.length∧∀j:Nat,j < k→(f.switches.l.getD j default).since≤t}=>[(16,.int .i64 ((g.1:Nat):Int))]) (fun g=>f.switches.l.length - g.1) (⟨0,by omega,fun j hj=>by omega⟩) ?_
  rintro ⟨k,hk,hal⟩ junk
  try dsimp only
  refine Xak ?_
  refine q_c (fun hc1=>?_) (fun hc1=>?_)
  ·
   have hg:=Jw (l:=f.switches.l) (k:=k) default za
   refine qbb ?_
   refine Jx zB rfl ?_
   refine qdw ?_
   refine qaq ?_
   intro b6
   refine Xa0 ?_
   refine qaa ?_
   refine Xaa ?_
   refine Xbo ?_
   refine q_c (fun hc2=>?_) (fun hc2=>?_)
   ·
    refine Xbb ?_
    refine qbt ?_
    refine q_b (L':=L) (R':=R) ?_
    exact ⟨by rw [decide_eq_false (fun h=>by have:=h.2 _ (List.mem_of_getElem? hg);omega)],rfl,rfl⟩
   refine Xax ?_
   exact Kf (⟨k + 1,by omega,fun j hj=>by
   rcases Nat.lt_or_ge j k with h | h
   · exact hal j h
   · obtain rfl : j = k := by omega
     omega⟩) zm zg zi zqb zx
  refine qbk ?_
  refine Xba ?_
  refine q_b (L':=L) (R':=R) ?_
  refine ⟨by rw [decide_eq_true (p:=Vba f.switches.l t)];refine ⟨by omega,fun x hx=>?_⟩;obtain ⟨j,hj,rfl⟩:=List.getElem_of_mem hx;have:=hal j za;rwa [List.getD_eq_getElem?_getD,List.getElem?_eq_getElem hj] at this,rfl,rfl⟩
theorem Usb (f:XFeeder) (s t:Int) (L:List Blk) (R:List Sl) (hf:FeederR f R):
    Tri Tryz.prog 150 [f.val,.int .i64 s,.int .i64 t].toArray L R (fun v L' R'=>v=.int .i64 (Jpc f.switches.l f.zones.l f.reply s t)∧L=L'∧R=R'):=by
  refine Jg 26 Tryz.call150 Tryz.func150 rfl rfl rfl ?_
  refine Xag ?_
  intro b3
  refine Xas ?_
  refine Vpd ?_
  refine q_l rfl (Vu f _ _ hf) ?_
  refine Xa7 ?_
  refine q_c (fun hc0=>?_) (fun hc0=>?_)
  ·
   refine Xdl ?_
   refine q_i (L':=L) (R':=R) ?_
   exact ⟨by rw [Jpc,if_pos hc0],rfl,rfl⟩
  refine qbo ?_
  refine Xb5 ?_
  apply J9 (G:=[_,_,_,_,_]) (j:=2) (cj:=15) rfl rfl zb rfl zdb rfl
  ·
   exact zRd
  intro junk3
  refine qaf ?_
  refine q_c (fun hc1=>?_) (fun hc1=>?_)
  ·
   refine Xa5 ?_
   refine q_i (L':=L) (R':=R) ?_
   exact ⟨by rw [Jpc,if_neg za,if_pos za],rfl,rfl⟩
  refine qbo ?_
  refine Vpd ?_
  refine qaa ?_
  refine q_l rfl (Zrb f t _ _ hf) ?_
  refine Xbd ?_
  refine q_c (fun hc2=>?_) (fun hc2=>?_)
  ·
   refine Xa5 ?_
   refine q_i (L':=L) (R':=R) ?_
   exact ⟨by rw [Jpc,if_neg za,if_neg za,if_neg zJ],rfl,rfl⟩
  refine Xcf ?_
  refine q_i (L':=L) (R':=R) ?_
  exact ⟨by rw [Jpc,if_neg za,if_neg za,if_pos zJ],rfl,rfl⟩
theorem Z8a (f:XFeeder) (L:List Blk) (R:List Sl) (hf:FeederR f R) (hn:f.switches.l.length≤1000∧f.zones.l.length≤1000):
    Tri Tryz.prog 151 [f.val].toArray L R (fun v L' R'=>∃(p:OwL XSwitch) (q:OwL Int),v=.agg #[p.val,q.val,.int .i64 f.reply]∧(p.ok 5 XSwitch.cells∧q.ok 1 Jp)∧p.l=f.switches.l∧q.l=f.zones.l∧q.L 3 Jp ++ (p.L 76 XSwitch.cells ++ L)=L'∧R=R'):=by
  have hsR:=hf.sw
  have hzR:=hf.zn
  refine Jg 12 Tryz.call151 Tryz.func151 rfl rfl rfl ?_
  refine Xag ?_
  intro b1
  refine qaq ?_
  intro b2
  refine Xch ?_
  refine Y9 zcc rfl ?_
  rintro v L' R' ⟨o5,rfl,hok5,rfl,rfl⟩
  refine Xbp ?_
  refine Xch ?_
  refine Y9 zqc rfl ?_
  rintro v L' R' ⟨o9,rfl,hok9,rfl,rfl⟩
  refine Xbp ?_
  refine qam ?_
  refine Vpd ?_
  refine Xbr ?_
  refine q_r (L':=(⟨o9,f.zones.l⟩:OwL Int).L 3 Jp ++ ((⟨o5,f.switches.l⟩:OwL XSwitch).L 76 XSwitch.cells ++ L)) (R':=R) (Ya rfl zib) ?_
  exact ⟨⟨o5,f.switches.l⟩,⟨o9,f.zones.l⟩,rfl,⟨hok5,hok9⟩,rfl,rfl,rfl,rfl⟩
def Vqa (sw:List XSwitch) (zn:List Int) (rp s t:Int):Int:=
  if Jpc sw zn rp s t≠0 then Jpc sw zn rp s t
  else if (sw.getD s.toNat default).shown≠-1∨(0≤(sw.getD s.toNat default).above∧(sw.getD (sw.getD s.toNat default).above.toNat default).shown≠1) then 10 else 0
def Uxb (sw:List XSwitch) (s t:Int):List XSwitch:=sw.set s.toNat ⟨(sw.getD s.toNat default).above,t,0,true,false⟩
theorem J4c (f:XFeeder) (s t:Int) (L:List Blk) (R:List Sl) (hf:FeederR f R):
    Tri Tryz.prog 166 [f.val,.int .i64 s,.int .i64 t].toArray L R (fun v L' R'=>∃(p:OwL XSwitch) (q:OwL Int) (r:Int),v=.tuple #[.agg #[p.val,q.val,.int .i64 r],.int .i64 (Vqa f.switches.l f.zones.l f.reply s t)]∧(p.ok 5 XSwitch.cells∧q.ok 1 Jp)∧
      (Vqa f.switches.l f.zones.l f.reply s t=0→p.l=Uxb f.switches.l s t∧q.l=f.zones.l∧r=f.reply)∧q.L 3 Jp ++ (p.L 76 XSwitch.cells ++ L)=L'∧R=R'):=by
  have hsR:=hf.sw
  refine Jg 54 Tryz.call166 Tryz.func166 rfl rfl rfl ?_
  refine Xag ?_
  intro b3
  refine qaq ?_
  intro b6
  refine Xas ?_
  refine Vpd ?_
  refine Xbh ?_
  refine q_l rfl (Usb f s t _ _ hf) ?_
  refine Xa7 ?_
  refine q_c (fun hc0=>?_) (fun hc0=>?_)
  ·
   refine qae ?_
   refine Jx zHb rfl ?_
   refine Xby ?_
   refine q_r (L':=L) (R':=R) zNc ?_
   have he:Vqa f.switches.l f.zones.l f.reply s t=Jpc f.switches.l f.zones.l f.reply s t:=by rw [Vqa,if_pos hc0]
   exact Kef
  have hcan:Jpc f.switches.l f.zones.l f.reply s t=0:=by omega
  have hfe:feedE f.switches.l f.zones.l f.reply=0:=by
    rw [Jpc] at hcan
    split at hcan <;> omega
  have hok:=Vy hfe
  have hsn:=hok.sn
  have hzl:=hok.zl
  have hsr:0≤s∧s < f.switches.l.length:=by
    rw [Jpc,if_neg za] at hcan
    split at hcan <;> omega
  have hg:=Jw (l:=f.switches.l) (k:=s.toNat) default za
  have hup:=hok.up s.toNat za
  obtain ⟨x,hx⟩:∃x,x=f.switches.l.getD s.toNat default:=⟨_,rfl⟩
  rw [← hx] at hg hup
  refine qbv ?_
  refine Xam ?_
  refine Jx zGa rfl ?_
  refine qdw ?_
  refine qaq ?_
  intro b9
  refine Xa9 ?_
  refine Xaa ?_
  refine Xbx ?_
  apply J9 (G:=[_,_,_,_,_,_,_,_,_,_,_,_,_]) (j:=3) (cj:=27) rfl rfl zb rfl zdb rfl
  ·
   intro hg4
   replace hg4:=qb hg4
   refine Xaa ?_
   refine qbz ?_
   refine qah ?_
   apply Ur (G:=[_,_,_,_,_,_,_,_]) (j:=7) (cj:=31) rfl rfl zb rfl zdb rfl
   ·
    intro hg8
    replace hg8:=qb hg8
    have hga:=Jw (l:=f.switches.l) (k:=x.above.toNat) default za
    refine Xbe ?_
    refine Jx (by first | exact Jf tb rfl rfl rfl rfl zt (i:=x.above.toNat) zk za | exact Jk tb rfl rfl rfl rfl (i:=x.above.toNat) zk za) rfl ?_
    refine Xbv ?_
    exact zfd
   intro junk8
   exact qai
  intro junk4
  refine qaf ?_
  refine q_c (fun hc1=>?_) (fun hc1=>?_)
  ·
   refine qae ?_
   refine Jx zHb rfl ?_
   refine Xaz ?_
   refine q_r (L':=L) (R':=R) zNc ?_
   have he:Vqa f.switches.l f.zones.l f.reply s t=10:=by rw [Vqa,if_neg za,← hx,if_pos za]
   exact Kef
  have he:Vqa f.switches.l f.zones.l f.reply s t=0:=by rw [Vqa,if_neg za,← hx,if_neg za]
  refine qbv ?_
  refine Vpd ?_
  refine Js rfl (Z8a f _ _ hf za) rfl ?_
  rintro v L' R' ⟨p,q,rfl,⟨hpk,hqk⟩,hpl,hql,rfl,rfl⟩
  refine qaq ?_
  intro b10
  refine Xc2 ?_
  have hpg:p.l[s.toNat]?=some x:=by rw [hpl];exact hg
  have hpn:p.l.length=f.switches.l.length:=by rw [hpl]
  refine qay ?_
  refine Xam ?_
  refine Xam ?_
  refine Jx (Kb (qs:=[(0,(Value.int _ _).cells.toList),(1,(Value.int _ _).cells.toList),(3,(Value.bool _).cells.toList)]) (out:=[_,_,_,_,_]) tb rfl rfl rfl rfl) rfl ?_
  refine Jx zXb rfl ?_
  refine Ye (Um tb (p) (⟨x.above,t,0,true,false⟩) rfl rfl rfl rfl zj zh (fun _=>rfl) zh (Nat.le_of_ble_eq_true rfl) zb zb) ?_
  rintro v L' R' ⟨rfl,rfl⟩
  refine qa4 ?_
  have hpk2:=OwL.set_ok (f:=XSwitch.cells) (wd:=5) (p:=p) (i:=s.toNat) (x:=⟨x.above,t,0,true,false⟩) (fun _=>rfl) hpk
  refine qay ?_
  refine Vpd ?_
  refine Xbl ?_
  refine q_r (L':=q.L 3 Jp ++ ((⟨p.o,p.l.set s.toNat ⟨x.above,t,0,true,false⟩⟩:OwL XSwitch).L 76 XSwitch.cells ++ L)) (R':=R) zNc ?_
  exact ⟨⟨p.o,p.l.set s.toNat ⟨x.above,t,0,true,false⟩⟩,q,f.reply,by simp only [he,OwL.val,List.length_set],⟨hpk2,hqk⟩,fun _=>⟨by rw [Uxb,← hx,hpl],hql,rfl⟩,rfl,rfl⟩
end
section
attribute [local irreducible] CJ LJ DJ Tri YV Gives Ui J0 Ke Uh RV J2 OwL.L
def V2 (sw:List XSwitch) (zn:List Int) (rp s t:Int):Int:=
  if feedE sw zn rp≠0 then feedE sw zn rp else if s < 0∨(sw.length:Int)≤s then 16 else if t≠1∧t≠-1 then 10 else 0
def Zl (sw:List XSwitch) (s t:Int):List XSwitch:=
  sw.set s.toNat ⟨(sw.getD s.toNat default).above,(sw.getD s.toNat default).since,t,(sw.getD s.toNat default).closed,if t= -1 then false else (sw.getD s.toNat default).late⟩
theorem Ybd {sw:List XSwitch} (h:V2e sw):∀(n:Nat) (s:Int),s < sw.length→(s + 1).toNat≤n→∀x∈Yra sw s,0≤x∧x≤s:=by
  intro n
  induction n with
  | zero=>intro s _ hn;rw [V9a za];intro x hx;cases hx
  | succ n ih=>
    intro s hs hn x hx
    by_cases h0:s < 0
    · rw [V9a h0] at hx;cases hx
    · have ha := h s.toNat za
      rw [Ypa h za hs,List.mem_cons] at hx
      rcases hx with rfl | hx
      · omega
      · have := ih _ za za x hx
        omega
theorem Yab {sw:List XSwitch} {zn:List Int} {rp s:Int} {x:Int} (hx:x∈V1a sw zn rp s):0≤x∧x≤s∧s < sw.length:=by
  rw [V1a] at hx
  split at hx
  · cases hx
  · have hok := Vy (sw := sw) (zn := zn) (rp := rp) za
    have:=Ybd hok.up _ s za (Nat.le_refl _) x hx
    omega
theorem Vtc {sw:List XSwitch} {zn:List Int} {rp s:Int}:(V1a sw zn rp s).length≤32:=by
  rw [V1a]
  split
  · simp
  · have hok := Vy (sw := sw) (zn := zn) (rp := rp) za
    have h1:=hok.sn
    have:=Ulc hok.up _ s za (Nat.le_refl _)
    omega
end
section
attribute [local irreducible] CJ LJ DJ Tri YV Gives Ui J0 Ke Uh RV J2 OwL.L
section
variable {A9 B9:Prop}
theorem Uif (a:A9) (h:A9→B9:=by exact Jx zB rfl):B9:=h a
theorem Vjf (a:A9) (h:A9→B9:=by exact Jx zJa rfl):B9:=h a
end
theorem Jdc (x:Arr Int) (g:Int→Bool) (fid:FuncId) (cap:Array Value) (L:List Blk) (R:List Sl) (hx:InR (isl x) R) (hc:∀y∈x.l,Tri Tryz.prog fid (.int .i64 y :: cap.toList).toArray L R (fun v L' R'=>v=.bool (g y)∧L=L'∧R=R')):
    Tri Tryz.prog 234 [x.val,.func (.func fid) #[] cap].toArray L R (fun v L' R'=>∃r:Int,v=.int .i64 r∧(0≤r↔∃y∈x.l,g y=true)∧L=L'∧R=R'):=by
  refine V3a Tryz.call234 hx fun hcap=>?_
  refine Jg 19 Tryz.call234 Tryz.func234 rfl rfl rfl ?_
  refine Xab ?_
  refine qaw ?_
  refine Xbt ?_
  refine Jo [(0,Value.slice _ _ _),(1,_),(7,Value.int _ _),(8,Value.int _ _)] zg fun tq0=>?_
  refine q_s [4,5,8,9,10,11,12,13,14,15,16,17,18] (fun g:{k:Nat // k≤x.l.length∧∀j:Nat,j < k→g (x.l.getD j 0)=false}=>[(8,.int .i64 ((g.1:Nat):Int))]) (fun g=>x.l.length - g.1) (⟨0,by omega,fun j hj=>by omega⟩) ?_
  rintro ⟨k,hk,hal⟩ junk
  try dsimp only
  refine Xak ?_
  refine q_c (fun hc0=>?_) (fun hc0=>?_)
  ·
   have hg:=Jw (l:=x.l) (k:=k) 0 za
   refine Xa2 ?_
   refine Xaf ?_
   refine Jx zDb rfl ?_
   refine Xau ?_
   refine Uif ?_
   refine qa7 ?_
   refine K1c (Z6 rfl rfl (hc (x.l.getD k 0) (List.mem_of_getElem? hg))) rfl rfl ?_
   rintro v L' R' ⟨rfl,rfl,rfl⟩
   refine qaf ?_
   refine q_c (fun hc1=>?_) (fun hc1=>?_)
   ·
    refine Xdj ?_
    refine qbt ?_
    refine q_i (L':=L) (R':=R) ?_
    exact ⟨k,rfl,⟨fun _=>⟨_,List.mem_of_getElem? hg,hc1⟩,fun _=>by omega⟩,rfl,rfl⟩
   refine Xax ?_
   exact Kf (⟨k + 1,by omega,fun j hj=>by
   rcases Nat.lt_or_ge j k with h | h
   · exact hal j h
   · obtain rfl : j = k := by omega
     simpa using hc1⟩) zm zg zi zqb zx
  refine Xb7 ?_
  refine q_i (L':=L) (R':=R) ?_
  refine ⟨-1,rfl,⟨fun h=>by omega,fun ⟨y,hy,hgy⟩=>?_⟩,rfl,rfl⟩
  obtain ⟨j,hj,rfl⟩:=List.getElem_of_mem hy
  have:=hal j za
  rw [List.getD_eq_getElem?_getD,List.getElem?_eq_getElem hj] at this
  rw [show (some x.l[j]).getD 0=x.l[j] from rfl,hgy] at this
  cases this
theorem K6b (x:Arr Int) (g:Int→Bool) (fid:FuncId) (cap:Array Value) (L:List Blk) (R:List Sl) (hx:InR (isl x) R) (hc:∀y∈x.l,Tri Tryz.prog fid (.int .i64 y :: cap.toList).toArray L R (fun v L' R'=>v=.bool (g y)∧L=L'∧R=R')):
    Tri Tryz.prog 167 [x.val,.func (.func fid) #[] cap].toArray L R (fun v L' R'=>v=.bool (decide (∃y∈x.l,g y=true))∧L=L'∧R=R'):=by
  refine Jg 9 Tryz.call167 Tryz.func167 rfl rfl rfl ?_
  refine Xbb ?_
  refine Xc4 ?_
  refine Jx zDb rfl ?_
  refine Js rfl (Jdc x g fid cap _ _ hx hc) rfl ?_
  exact zwd
def Kxd (sw:List XSwitch) (a y:Int):Bool:=decide (y≠a∧(sw.getD y.toNat default).shown= -1)
theorem Vid (f:XFeeder) (a y:Int) (b9 b4:Nat) (L:List Blk) (R:List Sl) (hf:FeederR f R) (hy:0≤y∧y < f.switches.l.length):
    Tri Tryz.prog 168 [.int .i64 y,.pointer (some ⟨b9,0,none⟩),.pointer (some ⟨b4,0,none⟩)].toArray (⟨b9,[.int .i64 a],3⟩ :: ⟨b4,f.cells,42⟩ :: L) R (fun v L' R'=>v=.bool (Kxd f.switches.l a y)∧(⟨b9,[.int .i64 a],3⟩ :: ⟨b4,f.cells,42⟩ :: L)=L'∧R=R'):=by
  have hsR:=hf.sw
  have hg:=Jw (l:=f.switches.l) (k:=y.toNat) default za
  refine Jg 17 Tryz.call168 Tryz.func168 rfl rfl rfl ?_
  refine Xbb ?_
  refine Xde ?_
  refine qac ?_
  refine Xbx ?_
  apply Ur (G:=[_,_,_,_,_,_,_]) (j:=3) (cj:=8) rfl rfl zb rfl zdb rfl
  ·
   intro hg4
   replace hg4:=qb hg4
   refine Xam ?_
   refine Jx (by first | exact Jf tb rfl rfl rfl rfl zt (i:=y.toNat) zk za | exact Jk tb rfl rfl rfl rfl (i:=y.toNat) zk za) rfl ?_
   refine Xbv ?_
   refine qbn ?_
   exact qai
  intro junk4
  refine Xba ?_
  refine q_b (L':=⟨b9,[.int .i64 a],3⟩ :: ⟨b4,f.cells,42⟩ :: L) (R':=R) ?_
  exact ⟨by refine congrArg Value.bool ?_;rw [Bool.eq_iff_iff,Kxd,decide_eq_true_iff];simp,rfl,rfl⟩
def Vfe (sw:List XSwitch) (l:List Int):Int:=l.foldl (fun a x=>if (sw.getD x.toNat default).shown≠1 then x else a) (l.getD 0 0)
def Zsd (sw:List XSwitch) (l:List Int) (k:Nat):Int:=(l.take k).foldl (fun a x=>if (sw.getD x.toNat default).shown≠1 then x else a) (l.getD 0 0)
theorem Z5b {sw:List XSwitch} {l:List Int} {k:Nat} (h:k < l.length):Zsd sw l (k + 1)=if (sw.getD (l.getD k 0).toNat default).shown≠1 then l.getD k 0 else Zsd sw l k:=by
  have hg:=Jw (l:=l) (k:=k) 0 h
  rw [Zsd,List.take_add_one,hg,Option.toList_some,List.foldl_append];rfl
def Jmb (c:List XCut) (sw:List XSwitch) (zn:List Int) (rp zone a:Int) (k:Nat):Prop:=
  ((k:Int)≠zone∧(c.getD k default).off=true)∧a∈V1a sw zn rp (zn.getD k 0)∧¬∃y∈V1a sw zn rp (zn.getD k 0),Kxd sw a y=true
instance (c:List XCut) (sw:List XSwitch) (zn:List Int) (rp zone a:Int) (k:Nat):Decidable (Jmb c sw zn rp zone a k):=by unfold Jmb;infer_instance
def Ztb (c:List XCut) (sw:List XSwitch) (zn:List Int) (rp zone a:Int):Prop:=∃k:Nat,k < zn.length∧Jmb c sw zn rp zone a k
instance (c:List XCut) (sw:List XSwitch) (zn:List Int) (rp zone a:Int):Decidable (Ztb c sw zn rp zone a):=by unfold Ztb;infer_instance
theorem J1d (c:Arr XCut) (f:XFeeder) (zone:Int) (L:List Blk) (R:List Sl) (hcR:InR (Kwc c) R) (hf:FeederR f R) (hfe:feedE f.switches.l f.zones.l f.reply=0) (hz:0≤zone∧zone < f.zones.l.length) (hcl:c.l.length=f.zones.l.length):
    Tri Tryz.prog 88 [c.val,f.val,.int .i64 zone].toArray L R (fun v L' R'=>v=.tuple #[.int .i64 (Vfe f.switches.l (V1a f.switches.l f.zones.l f.reply (f.zones.l.getD zone.toNat 0))),.bool (decide (Ztb c.l f.switches.l f.zones.l f.reply zone (Vfe f.switches.l (V1a f.switches.l f.zones.l f.reply (f.zones.l.getD zone.toNat 0)))))]∧L=L'∧∀r∈R,InR r R'):=by
  have hsR:=hf.sw
  have hzR:=hf.zn
  have hok:=Vy hfe
  have hsn:=hok.sn
  have hzl:=hok.zl
  have hzg:=Jw (l:=f.zones.l) (k:=zone.toNat) 0 za
  have hzr:=hok.zr zone.toNat za
  refine Jg 76 Tryz.call88 Tryz.func88 rfl rfl rfl ?_
  refine Xag ?_
  intro b4
  refine Xbn ?_
  refine qa4 ?_
  refine Kn tb [0,1,2,3,4,5,6,7] _ K1 ze (List.Sublist.refl _) ?_
  refine Kv zkb rfl rfl rfl ?_
  refine Xb1 ?_
  refine Kv (by first | exact Jf tb rfl rfl rfl rfl zt (i:=zone.toNat) zk za | exact Jk tb rfl rfl rfl rfl (i:=zone.toNat) zk za) rfl rfl rfl ?_
  refine qbl ?_
  refine Yt rfl (Jrc f (f.zones.l.getD zone.toNat 0) _ _ hf) rfl rfl ?_
  rintro v L' R' ⟨q,rfl,hqk,hql,rfl,rfl⟩
  refine ⟨zi,zw,?_⟩
  refine Kv (Ud zfb) rfl rfl rfl ?_
  refine qb9 ?_
  have hqn:=Vtc (sw:=f.switches.l) (zn:=f.zones.l) (rp:=f.reply) (s:=f.zones.l.getD zone.toNat 0)
  rw [← hql] at hqn
  have hq0:0 < q.l.length:=by
    rw [hql,V1a,if_neg za,Ypa hok.up za za,List.length_cons];omega
  have hqm:∀x∈q.l,0≤x∧x < f.switches.l.length:=fun x hx=>by
    have:=Yab (sw:=f.switches.l) (zn:=f.zones.l) (rp:=f.reply) (s:=f.zones.l.getD zone.toNat 0) (x:=x) (by rw [← hql];exact hx)
    omega
  have hqg0:=Jw (l:=q.l) (k:=0) 0 hq0
  refine Uka (A:=[]) (wd:=1) [] (fun _=>rfl) zc hqk (fun s hs=>by cases hs) ?_
  refine Uv zva ?_
  obtain ⟨R2,hR2e⟩:∃R2,R2=isl q.arr :: R:=⟨_,rfl⟩
  have hR2:∀r∈R,InR r R2:=fun r hr=>Ja (by rw [hR2e];exact .tail _ hr)
  have hqR:InR (isl q.arr) R2:=Ja zZ
  have hcR2:=hcR.mono hR2
  have hf2:=hf.mono hR2
  have hsR2:=hf2.sw
  have hzR2:=hf2.zn
  refine Ymb zyc ?_
  refine Xcy ?_
  refine qdt ?_
  refine qa7 ?_
  refine qaq ?_
  intro b9
  refine qcn ?_
  refine qaw ?_
  refine Xbt ?_
  refine Jo [(0,Value.slice _ _ _),(2,Value.int _ _),(4,Value.pointer _),(9,Value.pointer _),(26,Value.slice _ _ _),(27,Value.int _ _),(28,Value.int _ _)] zg fun tq0=>?_
  refine q_p [11,28,29,30,31,32,33,34,35,36,37,38,39,40] ((⟨fun g=>[(28,.int .i64 ((g.1.1:Nat):Int))],fun g=>⟨b9,[.int .i64 g.1.2],3⟩ :: ⟨b4,f.cells,42⟩ :: L,fun _=>R2,fun g=>q.l.length - g.1.1⟩:Head {g:Nat×Int // g.1≤q.l.length∧g.2=Zsd f.switches.l q.l g.1})) (⟨(0,q.l.getD 0 0),by dsimp only;omega,rfl⟩) ?_
  rintro ⟨⟨k,a⟩,hk,ha⟩ junk
  try dsimp only
  dsimp only at hk ha
  refine Xak ?_
  refine q_c (fun hc0=>?_) (fun hc0=>?_)
  ·
   have hqg:=Jw (l:=q.l) (k:=k) 0 za
   have hqr:=hqm _ (List.mem_of_getElem? hqg)
   have hsg:=Jw (l:=f.switches.l) (k:=(q.l.getD k 0).toNat) default za
   refine qbb ?_
   refine Uif ?_
   refine qa7 ?_
   refine Xaf ?_
   refine Xam ?_
   refine Jx zUa rfl ?_
   refine Xbv ?_
   refine Xaq ?_
   refine q_c (fun hc1=>?_) (fun hc1=>?_)
   ·
    refine Xa3 ?_
    refine qcn ?_
    refine Xa8 ?_
    exact q_k ⟨(k + 1,q.l.getD k 0),by dsimp only;omega,by dsimp only;rw [Z5b za,if_pos hc1]⟩
   refine Xax ?_
   exact q_k ⟨(k + 1,a),by dsimp only;omega,by dsimp only;rw [Z5b za,if_neg hc1];exact ha⟩
  obtain rfl:k=q.l.length:=by omega
  have hat:(Vfe f.switches.l (V1a f.switches.l f.zones.l f.reply (f.zones.l.getD zone.toNat 0)))=a:=by rw [ha,Zsd,List.take_length,← hql];rfl
  refine qcf ?_
  refine Xaw ?_
  refine Jo [(0,Value.slice _ _ _),(2,Value.int _ _),(4,Value.pointer _),(9,Value.pointer _),(42,Value.slice _ _ _),(43,Value.int _ _),(44,Value.int _ _)] zg fun tq1=>?_
  refine q_p [6,7,12,13,14,15,44,45,46,47,48,49,50,51,52,53,54,55,56,57,58,59,60,61,62,63,64,65,66,67,68,69,70,71,72,73,74] ((⟨fun g=>[(44,.int .i64 ((g.1:Nat):Int))],fun g=>⟨b9,[.int .i64 a],3⟩ :: ⟨b4,f.cells,42⟩ :: L,fun _=>R2,fun g=>f.zones.l.length - g.1⟩:Head {i:Nat // i≤f.zones.l.length∧∀j:Nat,j < i→¬ Jmb c.l f.switches.l f.zones.l f.reply zone a j})) (⟨0,by omega,fun j hj=>by omega⟩) ?_
  rintro ⟨i,hi,hal⟩ junk
  try dsimp only
  refine Xak ?_
  refine q_c (fun hc2=>?_) (fun hc2=>?_)
  ·
   have hig:=Jw (l:=f.zones.l) (k:=i) 0 za
   have hcg:=Jw (l:=c.l) (k:=i) default za
   refine Xa2 ?_
   refine Vjf ?_
   refine qa7 ?_
   refine qad ?_
   refine Xas ?_
   refine Xbh ?_
   refine qbn ?_
   refine qah ?_
   apply J9 (G:=[_,_,_,_,_,_]) (j:=3) (cj:=52) rfl rfl zb rfl zdb rfl
   ·
    intro hg4
    replace hg4:=qb hg4
    refine Xau ?_
    refine Vjf ?_
    refine Xbv ?_
    refine qb4 ?_
    exact qai
   intro junk4
   refine qaf ?_
   refine q_c (fun hc3=>?_) (fun hc3=>?_)
   ·
    refine K8 (Kq (Kc (Jb (Jh ?_))))
    refine Xae ?_
    exact Kf ⟨i + 1,by omega,fun j hj=>by
    rcases Nat.lt_or_ge j i with h | h
    · exact hal j h
    · obtain rfl : j = i := by omega
      rintro ⟨⟨h1,h2⟩,_⟩
      rcases hc3 with h3 | h3
      · exact h1 h3
      · rw [h2] at h3;cases h3⟩ zm zg zi zqb zx
   refine qbv ?_
   refine Jx zkb rfl ?_
   refine qaa ?_
   refine Js rfl (Jrc f (f.zones.l.getD i 0) _ _ hf2) rfl ?_
   rintro v L' R' ⟨q2,rfl,hq2k,hq2l,rfl,rfl⟩
   refine Xcm ?_
   have hq2m:∀x∈q2.l,0≤x∧x < f.switches.l.length:=fun x hx=>by
     have:=Yab (sw:=f.switches.l) (zn:=f.zones.l) (rp:=f.reply) (s:=f.zones.l.getD i 0) (x:=x) (by rw [← hq2l];exact hx)
     omega
   refine Uka (A:=[]) (wd:=1) [] (fun _=>rfl) zc hq2k (fun s hs=>by cases hs) ?_
   refine Uv zva ?_
   obtain ⟨R3,hR3e⟩:∃R3,R3=isl q2.arr :: R2:=⟨_,rfl⟩
   have hR3:∀r∈R2,InR r R3:=fun r hr=>Ja (by rw [hR3e];exact .tail _ hr)
   have hq2R:InR (isl q2.arr) R3:=Ja (by rw [hR3e];exact .head _)
   have hf3:=hf2.mono hR3
   refine Ymb (show _=R3 by rw [hR3e]) ?_
   refine Xcy ?_
   refine Jx (Kec rfl) rfl ?_
   refine q_l rfl (K6b q2.arr (Kxd f.switches.l a) 168 #[.pointer (some ⟨b9,0,none⟩),.pointer (some ⟨b4,0,none⟩)] _ _ hq2R (fun y hy=>Vid f a y b9 b4 L _ hf3 (hq2m y hy))) ?_
   refine qaz ?_
   refine Xc4 ?_
   refine qac ?_
   refine q_l rfl (V8c q2.arr a _ _ hq2R) ?_
   refine qah ?_
   apply Ur (G:=[_,_]) (j:=3) (cj:=69) rfl rfl zb rfl zdb rfl
   ·
    intro hg4
    replace hg4:=qb hg4
    refine qah ?_
    refine qb4 ?_
    exact qai
   intro junk4
   refine qaf ?_
   refine q_c (fun hc4=>?_) (fun hc4=>?_)
   ·
    have hpa:Jmb c.l f.switches.l f.zones.l f.reply zone a i:=⟨hc3,by rw [← hq2l];exact hc4⟩
    refine qae ?_
    refine qac ?_
    refine Xbn ?_
    refine qbt ?_
    refine q_r (L':=L) (R':=R3) zTc ?_
    exact ⟨by rw [hat,decide_eq_true (p:=Ztb c.l f.switches.l f.zones.l f.reply zone a) ⟨i,by omega,hpa⟩],rfl,fun r hr=>(hR2 r hr).mono hR3⟩
   refine Xax ?_
   exact Kf ⟨i + 1,by omega,fun j hj=>by
   rcases Nat.lt_or_ge j i with h | h
   · exact hal j h
   · obtain rfl : j = i := by omega
     rintro ⟨_,h2⟩
     rw [← hq2l] at h2
     rcases hc4 with h4 | h4
     · exact h4 h2.1
     · exact h2.2 h4⟩ zm zg zi hR3 zx
  refine qbk ?_
  refine qac ?_
  refine qad ?_
  refine Xba ?_
  refine q_r (L':=L) (R':=R2) zTc ?_
  exact ⟨by rw [hat,decide_eq_false (p:=Ztb c.l f.switches.l f.zones.l f.reply zone a)];rintro ⟨j,hj,hpa⟩;exact hal j za hpa,rfl,hR2⟩
end
end Go.Proofs.YtchfclmokpbldaaGreat
