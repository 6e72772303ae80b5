/-
  Texts of one chapter, merged. By an AI agent; no person has read it.
-/
import Derived.Test.YtchfclmokpbldaaGreatFeedT
import Derived.Test.YtchfclmokpbldaaGreatFits
set_option linter.unusedVariables false
set_option linter.unusedSimpArgs false
set_option maxRecDepth 20000
namespace Go.Proofs.YtchfclmokpbldaaGreat
open Go.Aw Go
section
attribute [local irreducible] CJ LJ DJ Tri YV Gives Ui J0 Ke Uh RV J2 OwL.L
section
variable {A9 B9:Prop}
theorem Kbe (a:A9) (h:A9→B9:=by exact Jx zkb rfl):B9:=h a
end
theorem Kvf {sw:List XSwitch} {zn:List Int} {rp s t:Int} (h:Jpc sw zn rp s t=0):feedE sw zn rp=0∧(0≤s∧s < sw.length)∧Vba sw t:=by
  rw [Jpc] at h
  split at h
  · omega
  split at h
  · omega
  split at h
  · exact ⟨by omega,by omega,by assumption⟩
  · omega
theorem Krb (p:OwL XSwitch) (zv:Value) (rp s t:Int) (R:List Sl) (hpk:p.ok 5 XSwitch.cells) (hs:0≤s∧s < p.l.length):
    Tri Tryz.prog 152 [.agg #[p.val,zv,.int .i64 rp],.int .i64 s,.int .i64 t].toArray (p.L 76 XSwitch.cells) R (fun v L' R'=>v=.bool (p.l.getD s.toNat default).closed∧(⟨p.o,Vl p.l s t⟩:OwL XSwitch).ok 5 XSwitch.cells∧(⟨p.o,Vl p.l s t⟩:OwL XSwitch).L 76 XSwitch.cells=L'∧R=R'):=by
  have hg:=Jw (l:=p.l) (k:=s.toNat) default za
  obtain ⟨x,hx⟩:∃x,x=p.l.getD s.toNat default:=⟨_,rfl⟩
  rw [← hx] at hg
  refine Jg 30 Tryz.call152 Tryz.func152 rfl rfl rfl ?_
  refine Xag ?_
  intro b3
  refine qaz ?_
  refine qam ?_
  refine Xam ?_
  refine Jx zXb rfl ?_
  refine qc1 ?_
  refine qaw ?_
  refine qa6 ?_
  refine Jx zIb rfl ?_
  refine qb0 ?_
  refine Jx zub rfl ?_
  refine Xbd ?_
  refine q_c (fun hc0=>?_) (fun hc0=>?_)
  ·
   refine Xbb ?_
   refine qbh ?_
   refine q_b (L':=p.L 76 XSwitch.cells) (R':=R) ?_
   have h0:x.closed=false:=by simpa using hc0
   have h1:Vl p.l s t=p.l:=by rw [Vl,← hx,h0,if_neg zc]
   exact ⟨by rw [← hx,h0],by rw [h1];exact hpk,by rw [h1],rfl⟩
  refine qcl ?_
  have h0:x.closed=true:=by simpa using hc0
  have hk1:=OwL.set_ok (f:=XSwitch.cells) (wd:=5) (p:=p) (i:=s.toNat) (x:=⟨x.above,x.since,x.shown,false,x.late⟩) (fun _=>rfl) hpk
  have hg1:(p.l.set s.toNat ⟨x.above,x.since,x.shown,false,x.late⟩)[s.toNat]?=some ⟨x.above,x.since,x.shown,false,x.late⟩:=List.getElem?_set_self za
  have hk2:=OwL.set_ok (f:=XSwitch.cells) (wd:=5) (p:=⟨p.o,(p.l.set s.toNat ⟨x.above,x.since,x.shown,false,x.late⟩)⟩) (i:=s.toNat) (x:=⟨x.above,t,x.shown,false,x.late⟩) (fun _=>rfl) hk1
  have hg2:((p.l.set s.toNat ⟨x.above,x.since,x.shown,false,x.late⟩).set s.toNat ⟨x.above,t,x.shown,false,x.late⟩)[s.toNat]?=some ⟨x.above,t,x.shown,false,x.late⟩:=List.getElem?_set_self (by rw [List.length_set];omega)
  have hk3:=OwL.set_ok (f:=XSwitch.cells) (wd:=5) (p:=⟨p.o,((p.l.set s.toNat ⟨x.above,x.since,x.shown,false,x.late⟩).set s.toNat ⟨x.above,t,x.shown,false,x.late⟩)⟩) (i:=s.toNat) (x:=⟨x.above,t,0,false,x.late⟩) (fun _=>rfl) hk2
  have hg3:(((p.l.set s.toNat ⟨x.above,x.since,x.shown,false,x.late⟩).set s.toNat ⟨x.above,t,x.shown,false,x.late⟩).set s.toNat ⟨x.above,t,0,false,x.late⟩)[s.toNat]?=some ⟨x.above,t,0,false,x.late⟩:=List.getElem?_set_self (by rw [List.length_set,List.length_set];omega)
  have hk4:=OwL.set_ok (f:=XSwitch.cells) (wd:=5) (p:=⟨p.o,(((p.l.set s.toNat ⟨x.above,x.since,x.shown,false,x.late⟩).set s.toNat ⟨x.above,t,x.shown,false,x.late⟩).set s.toNat ⟨x.above,t,0,false,x.late⟩)⟩) (i:=s.toNat) (x:=⟨x.above,t,0,false,false⟩) (fun _=>rfl) hk3
  refine qay ?_
  iterate 4 refine qa6 ?_
  refine qaa ?_
  refine Jx zIb rfl ?_
  refine qb0 ?_
  refine Ye (Jr tb (p) (⟨x.above,x.since,x.shown,false,x.late⟩) rfl rfl rfl rfl zj zh (fun _=>rfl) zh zc zb zb) ?_
  rintro v L' R' ⟨rfl,rfl⟩
  refine Jx zIb rfl ?_
  refine qb0 ?_
  refine Ye (Jr tb ((⟨p.o,(p.l.set s.toNat ⟨x.above,x.since,x.shown,false,x.late⟩)⟩:OwL XSwitch)) (⟨x.above,t,x.shown,false,x.late⟩) rfl rfl rfl rfl zj zh (fun _=>rfl) zh zc zb zb) ?_
  rintro v L' R' ⟨rfl,rfl⟩
  refine Jx zIb rfl ?_
  refine qb0 ?_
  refine Ye (Jr tb ((⟨p.o,((p.l.set s.toNat ⟨x.above,x.since,x.shown,false,x.late⟩).set s.toNat ⟨x.above,t,x.shown,false,x.late⟩)⟩:OwL XSwitch)) (⟨x.above,t,0,false,x.late⟩) rfl rfl rfl rfl zj zh (fun _=>rfl) zh zc zb zb) ?_
  rintro v L' R' ⟨rfl,rfl⟩
  refine Jx zIb rfl ?_
  refine qb0 ?_
  refine Ye (Jr tb ((⟨p.o,(((p.l.set s.toNat ⟨x.above,x.since,x.shown,false,x.late⟩).set s.toNat ⟨x.above,t,x.shown,false,x.late⟩).set s.toNat ⟨x.above,t,0,false,x.late⟩)⟩:OwL XSwitch)) (⟨x.above,t,0,false,false⟩) rfl rfl rfl rfl zj zh (fun _=>rfl) zh zc zb zb) ?_
  rintro v L' R' ⟨rfl,rfl⟩
  refine qam ?_
  refine Xba ?_
  refine q_b (L':=(⟨p.o,(((p.l.set s.toNat ⟨x.above,x.since,x.shown,false,x.late⟩).set s.toNat ⟨x.above,t,x.shown,false,x.late⟩).set s.toNat ⟨x.above,t,0,false,x.late⟩).set s.toNat ⟨x.above,t,0,false,false⟩⟩:OwL XSwitch).L 76 XSwitch.cells) (R':=R) ?_
  have h1:Vl p.l s t=(((p.l.set s.toNat ⟨x.above,x.since,x.shown,false,x.late⟩).set s.toNat ⟨x.above,t,x.shown,false,x.late⟩).set s.toNat ⟨x.above,t,0,false,x.late⟩).set s.toNat ⟨x.above,t,0,false,false⟩:=by rw [Vl,← hx,h0,if_pos rfl,List.set_set,List.set_set,List.set_set];rfl
  exact ⟨by rw [← hx,h0],by rw [h1];exact hk4,by rw [h1],rfl⟩
theorem Kyb (f:XFeeder) (s t:Int) (L:List Blk) (R:List Sl) (hf:FeederR f R):
    Tri Tryz.prog 78 [f.val,.int .i64 s,.int .i64 t].toArray L R (fun v L' R'=>∃(p:OwL XSwitch) (q:OwL Int) (r:Int),v=.tuple #[.agg #[p.val,q.val,.int .i64 r],.int .i64 (Jpc f.switches.l f.zones.l f.reply s t)]∧(p.ok 5 XSwitch.cells∧q.ok 1 Jp)∧(Jpc f.switches.l f.zones.l f.reply s t=0→p.l=Vl f.switches.l s t∧q.l=f.zones.l∧r=f.reply)∧q.L 3 Jp ++ (p.L 76 XSwitch.cells ++ L)=L'∧R=R'):=by
  refine Jg 25 Tryz.call78 Tryz.func78 rfl rfl rfl ?_
  refine Xag ?_
  intro b3
  refine qaq ?_
  intro b6
  refine Xas ?_
  refine Kbe ?_
  refine Xbh ?_
  refine q_l rfl (Usb f s t _ _ hf) ?_
  refine Xa7 ?_
  refine q_c (fun hc0=>?_) (fun hc0=>?_)
  ·
   refine qae ?_
   refine Jx zHb rfl ?_
   refine Xby ?_
   refine q_r (L':=L) (R':=R) zNc ?_
   exact ⟨.nil,.nil,0,rfl,⟨OwL.nil_ok,OwL.nil_ok⟩,fun h=>absurd h hc0,by rw [Kh,Kh];rfl,rfl⟩
  have hcan:=Kvf (Decidable.not_not.1 hc0)
  have hok:=Vy hcan.1
  have hsn:=hok.sn
  have hzl:=hok.zl
  refine qbv ?_
  refine Kbe ?_
  refine Js rfl (Z8a f _ _ hf za) rfl ?_
  rintro v L' R' ⟨p,q,rfl,⟨hpk,hqk⟩,hpl,hql,rfl,rfl⟩
  refine qaq ?_
  intro b9
  refine Xa0 ?_
  refine Kbe ?_
  refine Xbh ?_
  refine Js rfl (Tri.at (.cons (.app .here)) (Krb p q.val f.reply s t _ hpk (by rw [hpl];exact hcan.2.1))) rfl ?_
  rintro v L' R' ⟨_,rfl,rfl,hpk2,rfl,rfl⟩
  refine qam ?_
  refine Kbe ?_
  refine Xbl ?_
  refine q_r (L':=q.L 3 Jp ++ ((⟨p.o,Vl p.l s t⟩:OwL XSwitch).L 76 XSwitch.cells ++ L)) (R':=R) zNc ?_
  exact ⟨⟨p.o,Vl p.l s t⟩,q,f.reply,by rw [Decidable.not_not.1 hc0];simp only [OwL.val,Yma],⟨hpk2,hqk⟩,fun _=>⟨by rw [hpl],hql,rfl⟩,rfl,rfl⟩
theorem Yzd (x:XSwitch) (L:List Blk) (R:List Sl):
    Tri Tryz.prog 104 [x.val].toArray L R (fun v L' R'=>v=.bool (Ked x)∧L=L'∧R=R'):=by
  refine Jg 16 Tryz.call104 Tryz.func104 rfl rfl rfl ?_
  refine Xag ?_
  intro b1
  refine qaz ?_
  refine Xch ?_
  refine Xcc ?_
  apply Ur (G:=[_,_,_]) (j:=3) (cj:=6) rfl rfl zb rfl zdb rfl
  ·
   intro hg4
   replace hg4:=qb hg4
   refine Xaa ?_
   exact zfd
  intro junk4
  refine qah ?_
  apply Ur (G:=[_,_,_]) (j:=8) (cj:=11) rfl rfl zb rfl zdb rfl
  ·
   intro hg9
   replace hg9:=qb hg9
   refine Xaa ?_
   refine qb4 ?_
   exact qai
  intro junk9
  refine Xba ?_
  refine q_b (L':=L) (R':=R) ?_
  exact ⟨by rw [Ked];try simp [Bool.and_assoc],rfl,rfl⟩
end
section
attribute [local irreducible] CJ LJ DJ Tri YV Gives Ui J0 Ke Uh RV J2 OwL.L
section
variable {A9 B9:Prop}
theorem Uhc (a:A9) (h:A9→B9:=by exact Jx zkb rfl):B9:=h a
theorem Jge (a:A9) (h:A9→B9:=by exact Jx zHb rfl):B9:=h a
theorem Zoe (h:B9:=by exact ⟨.nil,.nil,0,by rw [he];rfl,⟨OwL.nil_ok,OwL.nil_ok⟩,fun h=>by omega,by rw [Kh,Kh];rfl,rfl⟩):B9:=h
theorem Zbe (a:A9) (h:A9→B9:=by exact Kx (Ju tb ((⟨p.o,p.l.set s.toNat ⟨x.above,x.since,t,x.closed,x.late⟩⟩:OwL XSwitch)) _ rfl rfl ((show _=Value.slice _ _ _ from rfl).trans (by simp only [OwL.val,List.length_set])) rfl zh (i:=s.toNat) zk zu) rfl rfl rfl rfl):B9:=h a
theorem Jkf (a:A9) (h:A9→B9:=by exact Kcb (Jr tb ((⟨p.o,p.l.set s.toNat ⟨x.above,x.since,t,x.closed,x.late⟩⟩:OwL XSwitch)) (⟨x.above,x.since,t,x.closed,lt⟩) rfl rfl rfl rfl zj zh (fun _=>rfl) zh zc zb zb) rfl rfl):B9:=h a
theorem J1f (h:B9:=by exact ⟨⟨p.o,(p.l.set s.toNat ⟨x.above,x.since,t,x.closed,x.late⟩).set s.toNat ⟨x.above,x.since,t,x.closed,lt⟩⟩,q,f.reply,by simp only [he,OwL.val,List.length_set],⟨hpk2,hqk⟩,fun _=>⟨by rw [Zl,← hx,← hpl,← hlt,List.set_set],hql,rfl⟩,rfl,rfl⟩):B9:=h
theorem Vdf (h:B9:=by exact ⟨.nil,.nil,0,.nil,.nil,by rw [he];rfl,⟨OwL.nil_ok,OwL.nil_ok,OwL.nil_ok,OwL.nil_ok⟩,fun h=>by omega,by rw [Kh,Kh];rfl,rfl⟩):B9:=h
theorem Juf (a:A9) (h:A9→B9:=by exact Kx (Kk tb ((⟨p.o,(sw.set z.toNat ⟨x.above,x.since,x.shown,x.closed,true⟩)⟩:OwL XSwitch)) rfl rfl rfl zj zh (fun _=>rfl) zh zb) rfl rfl rfl rfl):B9:=h a
end
theorem Ytb (f:XFeeder) (s t:Int) (L:List Blk) (R:List Sl) (hf:FeederR f R):
    Tri Tryz.prog 153 [f.val,.int .i64 s,.int .i64 t].toArray L R (fun v L' R'=>∃(p:OwL XSwitch) (q:OwL Int) (r:Int),v=.tuple #[.agg #[p.val,q.val,.int .i64 r],.int .i64 (V2 f.switches.l f.zones.l f.reply s t)]∧(p.ok 5 XSwitch.cells∧q.ok 1 Jp)∧
      (V2 f.switches.l f.zones.l f.reply s t=0→p.l=Zl f.switches.l s t∧q.l=f.zones.l∧r=f.reply)∧q.L 3 Jp ++ (p.L 76 XSwitch.cells ++ L)=L'∧R=R'):=by
  have hsR:=hf.sw
  refine Jg 57 Tryz.call153 Tryz.func153 rfl rfl rfl ?_
  refine Xag ?_
  intro b3
  refine qaq ?_
  intro b6
  refine Xas ?_
  refine Uhc ?_
  refine q_l rfl (Vu f _ _ hf) ?_
  refine Xa7 ?_
  refine q_c (fun hc0=>?_) (fun hc0=>?_)
  ·
   refine qae ?_
   refine Jge ?_
   refine Xby ?_
   refine q_r (L':=L) (R':=R) zNc ?_
   have he:V2 f.switches.l f.zones.l f.reply s t=feedE f.switches.l f.zones.l f.reply:=by rw [V2,if_pos hc0]
   exact Zoe
  refine qbo ?_
  refine Xb5 ?_
  apply J9 (G:=[_,_,_,_,_]) (j:=2) (cj:=18) rfl rfl zb rfl zdb rfl
  ·
   exact zRd
  intro junk3
  refine qaf ?_
  refine q_c (fun hc1=>?_) (fun hc1=>?_)
  ·
   refine qae ?_
   refine Jge ?_
   refine Xaz ?_
   refine q_r (L':=L) (R':=R) zNc ?_
   have he:V2 f.switches.l f.zones.l f.reply s t=16:=by rw [V2,if_neg za,if_pos za]
   exact Zoe
  refine qbo ?_
  refine qaa ?_
  refine Xbx ?_
  apply Ur (G:=[_,_]) (j:=2) (cj:=28) rfl rfl zb rfl zdb rfl
  ·
   intro hg3
   replace hg3:=qb hg3
   refine qaa ?_
   exact zfd
  intro junk3
  refine qaf ?_
  refine q_c (fun hc2=>?_) (fun hc2=>?_)
  ·
   refine qae ?_
   refine Jge ?_
   refine Xaz ?_
   refine q_r (L':=L) (R':=R) zNc ?_
   have he:V2 f.switches.l f.zones.l f.reply s t=10:=by rw [V2,if_neg za,if_neg za,if_pos za]
   exact Zoe
  have he:V2 f.switches.l f.zones.l f.reply s t=0:=by rw [V2,if_neg za,if_neg za,if_neg za]
  have hok:=Vy (sw:=f.switches.l) (zn:=f.zones.l) (rp:=f.reply) za
  have hsn:=hok.sn
  have hzl:=hok.zl
  have hg:=Jw (l:=f.switches.l) (k:=s.toNat) default za
  obtain ⟨x,hx⟩:∃x,x=f.switches.l.getD s.toNat default:=⟨_,rfl⟩
  rw [← hx] at hg
  refine qbv ?_
  refine Uhc ?_
  refine Js rfl (Z8a f _ _ hf za) rfl ?_
  rintro v L' R' ⟨p,q,rfl,⟨hpk,hqk⟩,hpl,hql,rfl,rfl⟩
  refine qaq ?_
  intro b9
  refine Xc2 ?_
  have hpg:p.l[s.toNat]?=some x:=by rw [hpl];exact hg
  have hpn:p.l.length=f.switches.l.length:=by rw [hpl]
  refine qay ?_
  refine Xam ?_
  refine qaa ?_
  refine Jx zXb rfl ?_
  refine qb0 ?_
  refine Ye (Jr tb (p) (⟨x.above,x.since,t,x.closed,x.late⟩) rfl rfl rfl rfl zj zh (fun _=>rfl) zh zc zb zb) ?_
  rintro v L' R' ⟨rfl,rfl⟩
  refine qa4 ?_
  have hpk1:=OwL.set_ok (f:=XSwitch.cells) (wd:=5) (p:=p) (i:=s.toNat) (x:=⟨x.above,x.since,t,x.closed,x.late⟩) (fun _=>rfl) hpk
  have hpg1:(p.l.set s.toNat ⟨x.above,x.since,t,x.closed,x.late⟩)[s.toNat]?=some ⟨x.above,x.since,t,x.closed,x.late⟩:=List.getElem?_set_self za
  refine Kj tb [] [0,1,2,3,4,5,6,7,8,9,10,11,12,13,14] [15] (_) _ K1 ze zi (List.nil_sublist _) ?_
  refine Xc8 ?_
  refine Xc8 ?_
  refine Zbe ?_
  refine qcv ?_
  refine Kx (Kk tb ((⟨p.o,p.l.set s.toNat ⟨x.above,x.since,t,x.closed,x.late⟩⟩:OwL XSwitch)) rfl rfl rfl zj zh (fun _=>rfl) zh zb) rfl rfl rfl rfl ?_
  refine Kx (Jy zdb) rfl rfl rfl rfl ?_
  refine K3d (k:=50) zdb (fun hg9=>?_) (fun hg9=>?_)
  ·
   replace hg9:=qb hg9
   let lt:Bool:=decide (¬ t= -1)
   have hlt:lt=(if t= -1 then false else x.late):=by simp only [lt,hg9];split <;> simp_all
   have hpk2:=OwL.set_ok (f:=XSwitch.cells) (wd:=5) (p:=⟨p.o,p.l.set s.toNat ⟨x.above,x.since,t,x.closed,x.late⟩⟩) (i:=s.toNat) (x:=⟨x.above,x.since,t,x.closed,lt⟩) (fun _=>rfl) hpk1
   refine qbf ?_
   refine Kx zwc rfl rfl rfl rfl ?_
   exact zed
  replace hg9:=qb hg9
  let lt:Bool:=false
  have hlt:lt=(if t= -1 then false else x.late):=by simp only [lt,hg9];split <;> rfl
  have hpk2:=OwL.set_ok (f:=XSwitch.cells) (wd:=5) (p:=⟨p.o,p.l.set s.toNat ⟨x.above,x.since,t,x.closed,x.late⟩⟩) (i:=s.toNat) (x:=⟨x.above,x.since,t,x.closed,lt⟩) (fun _=>rfl) hpk1
  refine Jzc rfl rfl rfl ?_
  refine Jzc rfl rfl rfl ?_
  exact zed
def Yyb (sw:List XSwitch) (zn:List Int) (rp t:Int):Int:=if feedE sw zn rp≠0 then feedE sw zn rp else if Vba sw t then 0 else 8
theorem Zhc {sw:List XSwitch} {rp t z:Int} {y:XTick} (hz:0≤z∧z < sw.length) (h:K7a sw rp t (sw.length - 1 - z).toNat=y):K7a sw rp t (sw.length - 1 - (z - 1)).toNat=Y5a rp t y z.toNat:=by
  have e:((sw.length:Int) - 1 - (z - 1)).toNat=((sw.length:Int) - 1 - z).toNat + 1:=by omega
  have e2:sw.length - 1 - ((sw.length:Int) - 1 - z).toNat=z.toNat:=by omega
  rw [e,K7a,h,e2]
theorem J4e {sw sw':List XSwitch} {zn:List Int} {rp t:Int} (h:feedE sw zn rp=0) (k:SwKeep sw sw' t) {i:Nat} (hi:i < sw.length):-1≤(sw'.getD i default).above∧(sw'.getD i default).above < i:=by
  rw [(k.at_ i hi).1];exact (Vy h).up i hi
theorem V8d {sw:List XSwitch} {a t:Int} {i:Nat} (h:a.toNat≠i):(Vl sw a t)[i]?=sw[i]?:=by
  rw [Vl];split
  · rw [List.getElem?_set_ne h]
  · rfl
theorem Ucc (f:XFeeder) (t:Int) (L:List Blk) (R:List Sl) (hf:FeederR f R):
    Tri Tryz.prog 158 [f.val,.int .i64 t].toArray L R (fun v L' R'=>∃(p:OwL XSwitch) (q:OwL Int) (r:Int) (la op:OwL Int),v=.tuple #[.agg #[p.val,q.val,.int .i64 r],la.val,op.val,.int .i64 (Yyb f.switches.l f.zones.l f.reply t)]∧(p.ok 5 XSwitch.cells∧q.ok 1 Jp∧la.ok 1 Jp∧op.ok 1 Jp)∧(Yyb f.switches.l f.zones.l f.reply t=0→p.l=(Yg f.switches.l f.reply t).sw∧q.l=f.zones.l∧r=f.reply∧la.l=(Yg f.switches.l f.reply t).late∧op.l=(Yg f.switches.l f.reply t).opened)∧op.L 3 Jp ++ (la.L 3 Jp ++ (q.L 3 Jp ++ (p.L 76 XSwitch.cells ++ L)))=L'∧R=R'):=by
  refine Jg 86 Tryz.call158 Tryz.func158 rfl rfl rfl ?_
  refine Xag ?_
  intro b2
  refine qaq ?_
  intro b4
  refine Xbs ?_
  refine Xas ?_
  refine Uhc ?_
  refine q_l rfl (Vu f _ _ hf) ?_
  refine Xa7 ?_
  refine q_c (fun hc0=>?_) (fun hc0=>?_)
  ·
   refine qae ?_
   refine Jge ?_
   refine qaa ?_
   refine qak ?_
   refine Xbs ?_
   refine Xai ?_
   refine q_r (L':=L) (R':=R) (Jff rfl zib zAc zAc zzc) ?_
   have he:Yyb f.switches.l f.zones.l f.reply t=feedE f.switches.l f.zones.l f.reply:=by rw [Yyb,if_pos hc0]
   exact Vdf
  refine qbo ?_
  refine Uhc ?_
  refine qaa ?_
  refine q_l rfl (Zrb f t _ _ hf) ?_
  refine Xbd ?_
  refine q_c (fun hc1=>?_) (fun hc1=>?_)
  ·
   refine qae ?_
   refine Jge ?_
   refine qak ?_
   refine Xbs ?_
   refine Xai ?_
   refine q_r (L':=L) (R':=R) (Jff rfl zib zAc zAc zzc) ?_
   have he:Yyb f.switches.l f.zones.l f.reply t=8:=by rw [Yyb,if_neg hc0,if_neg zH]
   exact Vdf
  have hfe:feedE f.switches.l f.zones.l f.reply=0:=by omega
  have htm:Vba f.switches.l t:=by simpa using hc1
  have he:Yyb f.switches.l f.zones.l f.reply t=0:=by rw [Yyb,if_neg hc0,if_pos htm]
  have hok:=Vy hfe
  have hsn:=hok.sn
  have hzl:=hok.zl
  have hrp:=hok.rp
  refine qbv ?_
  refine Uhc ?_
  refine Js rfl (Z8a f _ _ hf za) rfl ?_
  rintro v L' R' ⟨p,q,rfl,⟨hpk,hqk⟩,hpl,hql,rfl,rfl⟩
  refine qaq ?_
  intro b9
  refine Xa0 ?_
  refine Xbs ?_
  refine qco ?_
  have hpn:p.l.length=f.switches.l.length:=by rw [hpl]
  refine qay ?_
  refine Xac ?_
  refine qa9 ?_
  refine Xb4 ?_
  refine Jo [(1,Value.int _ _),(2,Value.pointer _),(4,Value.pointer _),(9,Value.pointer _),(10,Value.slice _ _ _),(11,Value.slice _ _ _),(12,Value.int _ _)] zg fun tq0=>?_
  refine Vm [10,11,12,13,31,32,33,34,35,36,37,38,39,40,41,42,43,44,45,46,47,48,49,50,51,52,53,54,55,56,57,58,59,60,61,62,63,64,65,66,67,68,69,70,71,72,73,74,75,76,77,78,79,80,81,82] ((⟨fun g=>[(12,.int .i64 g.1.1),(10,g.1.2.1.1.val),(11,g.1.2.1.2.val)],fun g=>g.1.2.1.2.L 3 Jp ++ (g.1.2.1.1.L 3 Jp ++ (⟨b9,[p.val,q.val,.int .i64 f.reply],42⟩ :: (q.L 3 Jp ++ ((⟨p.o,g.1.2.2⟩:OwL XSwitch).L 76 XSwitch.cells ++ (⟨b4,[.slice none 0 0,.slice none 0 0,.int .i64 0],42⟩ :: ⟨b2,f.cells,42⟩ :: L))))),fun _=>R,fun g=>(g.1.1 + 1).toNat⟩:Head {g:Int×(OwL Int×OwL Int)×List XSwitch // (-1≤g.1∧g.1 < f.switches.l.length)∧K7a f.switches.l f.reply t (f.switches.l.length - 1 - g.1).toNat=⟨g.2.2,g.2.1.1.l,g.2.1.2.l⟩∧(g.2.1.1.ok 1 Jp∧g.2.1.2.ok 1 Jp)})) (⟨((p.l.length:Int) - 1,(OwL.nil,OwL.nil),p.l),by dsimp only;omega,by dsimp only;rw [show ((f.switches.l.length:Int) - 1 - ((p.l.length:Int) - 1)).toNat=0 by omega,K7a,hpl],OwL.nil_ok,OwL.nil_ok⟩) zg (by simp only [Kh,List.nil_append];exact zi) zqb ?_
  rintro ⟨⟨z,⟨la,op⟩,sw⟩,hz,hT,hlk,hok2⟩ junk
  try dsimp only
  dsimp only at hz hT hlk hok2
  have hkeep:SwKeep f.switches.l sw t:=by have:=Uha (rp:=f.reply) (t:=t) hfe (f.switches.l.length - 1 - z).toNat za;rw [hT] at this;exact this
  have hsl:=hkeep.len
  have htln:=Yha (sw:=f.switches.l) (rp:=f.reply) (t:=t) (f.switches.l.length - 1 - z).toNat
  rw [hT] at htln
  dsimp only at htln
  have hkS:(⟨p.o,sw⟩:OwL XSwitch).ok 5 XSwitch.cells:=OwL.len_ok (fun _=>rfl) hpk (hsl.trans hpn.symm)
  refine Xce ?_
  refine Xcj ?_
  refine q_c (fun hc2=>?_) (fun hc2=>?_)
  ·
   have hsu:=Zhc (rp:=f.reply) (t:=t) (z:=z) za hT
   have hg:=Jw (l:=sw) (k:=z.toNat) default za
   have hab:=J4e hfe hkeep (i:=z.toNat) za
   have hsi:=hkeep.at_ z.toNat za
   have hsi0:=hok.since z.toNat za
   have htm0:=htm.1
   rw [Y5a] at hsu
   dsimp only at hsu
   obtain ⟨x,hx⟩:∃x,x=sw.getD z.toNat default:=⟨_,rfl⟩
   rw [← hx] at hg hab hsi hsu
   rw [show Ynd x=⟨x.above,x.since,x.shown,x.closed,true⟩ from rfl] at hsu
   have hsi1:=hsi.2.1
   refine qbb ?_
   refine Xam ?_
   refine Jx (Ju tb ((⟨p.o,sw⟩:OwL XSwitch)) _ rfl rfl ((show _=Value.slice _ _ _ from rfl).trans (by simp only [OwL.val,hsl,hpn])) rfl zh (i:=z.toNat) zk zu) rfl ?_
   refine qc1 ?_
   refine qco ?_
   refine Kn tb [0,1,2,3,4,5,6,7,8,9,10,11,12,13,14,15] _ K1 ze (List.Sublist.refl _) ?_
   refine Xbq ?_
   refine Kv (Vgb (row:=[_,_,_,_,_]) tb ((⟨p.o,sw⟩:OwL XSwitch)) rfl rfl rfl zj zh (fun _=>rfl) zh zb zb) rfl rfl rfl ?_
   refine q_d rfl (Yzd x _ _) ?_
   refine Kv (Jnb rfl) rfl rfl rfl ?_
   refine qb2 ?_
   refine Vd (k:=44) zdb (fun hg5=>?_) (fun hg5=>?_)
   ·
    replace hg5:=qb hg5
    iterate 9 refine qap ?_
    refine Xbu ?_
    refine K3 rfl ?_
    exact zzd
   replace hg5:=qb hg5
   refine qao ?_
   refine Xbq ?_
   refine qce ?_
   refine Kv (Kk tb ((⟨p.o,sw⟩:OwL XSwitch)) rfl rfl rfl zj zh (fun _=>rfl) zh zb) rfl rfl rfl ?_
   refine qb7 ?_
   refine Xan ?_
   refine Kv zlc rfl rfl rfl ?_
   refine Xbu ?_
   refine q_c (fun hc3=>?_) (fun hc3=>?_)
   ·
    exact zzd
   rw [if_pos ⟨by simpa using hg5,by omega⟩] at hsu
   refine qbv ?_
   refine qa6 ?_
   refine Jx zIb rfl ?_
   refine qb0 ?_
   refine Ye (Jr tb ((⟨p.o,sw⟩:OwL XSwitch)) (⟨x.above,x.since,x.shown,x.closed,true⟩) rfl rfl rfl rfl zj zh (fun _=>rfl) zh zc zb zb) ?_
   rintro v L' R' ⟨rfl,rfl⟩
   refine qa4 ?_
   have hk1:(⟨p.o,(sw.set z.toNat ⟨x.above,x.since,x.shown,x.closed,true⟩)⟩:OwL XSwitch).ok 5 XSwitch.cells:=OwL.set_ok (f:=XSwitch.cells) (wd:=5) (p:=(⟨p.o,sw⟩:OwL XSwitch)) (i:=z.toNat) (x:=⟨x.above,x.since,x.shown,x.closed,true⟩) (fun _=>rfl) hkS
   have hg1:(sw.set z.toNat ⟨x.above,x.since,x.shown,x.closed,true⟩)[z.toNat]?=some ⟨x.above,x.since,x.shown,x.closed,true⟩:=List.getElem?_set_self za
   have hl1:(sw.set z.toNat ⟨x.above,x.since,x.shown,x.closed,true⟩).length=f.switches.l.length:=by rw [List.length_set];exact hsl
   obtain ⟨S2,hS2⟩:∃S2,S2=if 0≤x.above then Vl (sw.set z.toNat ⟨x.above,x.since,x.shown,x.closed,true⟩) x.above t else (sw.set z.toNat ⟨x.above,x.since,x.shown,x.closed,true⟩):=⟨_,rfl⟩
   refine Xca ?_
   refine qcx ?_
   rintro v L' R' ⟨b60,rfl,rfl,hR60⟩
   replace hR60:=hR60.symm;subst hR60
   refine Y9 (J8 (f:=Jp) (p:=la) (a:=z) tb rfl rfl rfl rfl (hlk) zj zsb rfl zy) rfl ?_
   rintro v L' R' ⟨o61,rfl,hok61,rfl,rfl⟩
   refine Xcm ?_
   refine Kj tb [] [0,1,2,3,4,5,6,7,8,9,10,11] [12,13] (_) _ K1 ze zi (List.nil_sublist _) ?_
   refine qb3 ?_
   refine Kx zIb rfl rfl rfl rfl ?_
   refine qcv ?_
   refine Juf ?_
   refine Kx (Zob rfl rfl) rfl rfl rfl rfl ?_
   refine Kx (Jy zdb) rfl rfl rfl rfl ?_
   refine K3d (k:=67) zdb (fun hg5=>?_) (fun hg5=>?_)
   ·
    replace hg5:=qb hg5
    have eS:Vl (sw.set z.toNat ⟨x.above,x.since,x.shown,x.closed,true⟩) x.above t=S2:=by rw [hS2,if_pos hg5]
    have hop:=Krb (⟨p.o,(sw.set z.toNat ⟨x.above,x.since,x.shown,x.closed,true⟩)⟩:OwL XSwitch) q.val f.reply x.above t R hk1 zx
    have hpv:(⟨p.o,(sw.set z.toNat ⟨x.above,x.since,x.shown,x.closed,true⟩)⟩:OwL XSwitch).val=p.val:=by simp only [OwL.val,hl1,hpn]
    rw [hpv] at hop
    dsimp only at hop
    rw [eS] at hop
    refine Kx zkb rfl rfl rfl rfl ?_
    refine qb3 ?_
    refine Kx zIb rfl rfl rfl rfl ?_
    refine qcv ?_
    refine Juf ?_
    refine qbf ?_
    refine qba ?_
    refine Yt rfl (Tri.at (by repeat (first | apply Seg.here | apply Seg.cons | apply Seg.app)) hop) rfl rfl ?_
    rintro v L' R' ⟨_,rfl,rfl,hk2,rfl,rfl⟩
    refine ⟨zi,zw,?_⟩
    refine Xbu ?_
    refine q_c (fun hc4=>?_) (fun hc4=>?_)
    ·
     have hg2:S2[z.toNat]?=some ⟨x.above,x.since,x.shown,x.closed,true⟩:=by rw [← eS,V8d za];exact hg1
     refine Xcy ?_
     refine qa6 ?_
     refine Jx zIb rfl ?_
     refine qb0 ?_
     refine Jx (Kk tb ((⟨p.o,S2⟩:OwL XSwitch)) rfl rfl rfl zj zh (fun _=>rfl) zh zb) rfl ?_
     refine qcx ?_
     rintro v L' R' ⟨b81,rfl,rfl,hR81⟩
     replace hR81:=hR81.symm;subst hR81
     refine Y9 (J8 (f:=Jp) (p:=op) (a:=x.above) tb rfl rfl rfl rfl (hok2) zj zsb rfl zy) rfl ?_
     rintro v L' R' ⟨o82,rfl,hok82,rfl,rfl⟩
     refine qc4 ?_
     refine qcs ?_
     refine Xci ?_
     exact q_k ⟨(z - 1,(⟨o61,la.l ++ [z]⟩,⟨o82,op.l ++ [x.above]⟩),S2),by dsimp only;omega,by dsimp only;rw [hsu,if_pos ⟨hg5,hc4⟩,← eS,Int.toNat_of_nonneg za],hok61,hok82⟩
    refine qbj ?_
    refine Xci ?_
    exact Kf ⟨(z - 1,(⟨o61,la.l ++ [z]⟩,op),S2),by dsimp only;omega,by
    dsimp only
    have hn4:¬ (0≤x.above∧((sw.set z.toNat ⟨x.above,x.since,x.shown,x.closed,true⟩).getD x.above.toNat default).closed=true):=by
      rintro ⟨h1,h2⟩
      first | omega | exact hc4 h2 | (rw [h2] at hc4;cases hc4)
    have e2:S2=(sw.set z.toNat ⟨x.above,x.since,x.shown,x.closed,true⟩):=by
      rcases Classical.em (0≤x.above) with h1 | h1
      · rw [hS2,if_pos h1,Vl,if_neg (fun h2=>hn4 ⟨h1,h2⟩)]
      · rw [hS2,if_neg h1]
    rw [hsu,if_neg hn4,e2,Int.toNat_of_nonneg za],hok61,hok2⟩ zm zg zi zqb zx
   replace hg5:=qb hg5
   have eS:(sw.set z.toNat ⟨x.above,x.since,x.shown,x.closed,true⟩)=S2:=by rw [hS2,if_neg hg5]
   have hk2:(⟨p.o,S2⟩:OwL XSwitch).ok 5 XSwitch.cells:=by rw [← eS];exact hk1
   rw [eS]
   iterate 6 refine Jzc rfl rfl rfl ?_
   refine qba ?_
   refine qap ?_
   refine Xbu ?_
   refine Zj rfl ?_
   refine qbj ?_
   refine Xci ?_
   exact Kf ⟨(z - 1,(⟨o61,la.l ++ [z]⟩,op),S2),by dsimp only;omega,by
   dsimp only
   have hn4:¬ (0≤x.above∧((sw.set z.toNat ⟨x.above,x.since,x.shown,x.closed,true⟩).getD x.above.toNat default).closed=true):=by
     rintro ⟨h1,h2⟩
     first | omega | exact hc4 h2 | (rw [h2] at hc4;cases hc4)
   have e2:S2=(sw.set z.toNat ⟨x.above,x.since,x.shown,x.closed,true⟩):=by
     rcases Classical.em (0≤x.above) with h1 | h1
     · rw [hS2,if_pos h1,Vl,if_neg (fun h2=>hn4 ⟨h1,h2⟩)]
     · rw [hS2,if_neg h1]
   rw [hsu,if_neg hn4,e2,Int.toNat_of_nonneg za],hok61,hok2⟩ zm zg zi zqb zx
  obtain rfl:z= -1:=by omega
  have hTS:Yg f.switches.l f.reply t=⟨sw,la.l,op.l⟩:=by rw [Yg,← hT];congr 1;omega
  refine qbk ?_
  refine Uhc ?_
  refine qbm ?_
  refine qbm ?_
  refine qak ?_
  refine Xbs ?_
  refine Xah ?_
  refine q_r (L':=op.L 3 Jp ++ (la.L 3 Jp ++ (q.L 3 Jp ++ ((⟨p.o,sw⟩:OwL XSwitch).L 76 XSwitch.cells ++ L)))) (R':=R) (Jff rfl zib zAc zAc zzc) ?_
  exact ⟨(⟨p.o,sw⟩:OwL XSwitch),q,f.reply,la,op,by rw [he];simp only [OwL.val,hsl,hpn],⟨hkS,hqk,hlk,hok2⟩,fun _=>⟨by rw [hTS],hql,rfl,by rw [hTS],by rw [hTS]⟩,rfl,rfl⟩
end
end Go.Proofs.YtchfclmokpbldaaGreat
section
/-
  What an append to a full read-only slice gives. By an AI agent; no person has read it.
-/
namespace Go.Aw
open Go
section
variable {P:Program} {ρ:Operand→Value} {L:List Blk} {R:List Sl} {dst:Option Tmp} {ty:TypeId} {pos:String} {after:Array Edge} {guard:Option (Nat×Bool)} (tb:Tabs P) {T:TypeId} {x y:Operand}
theorem Jyd {n : Nat} : ∀ {rows : List (List Value)}, (∀ r ∈ rows, r.length = n) → rows.flatten.length = rows.length * n
  | [],_=>by simp
  | r :: rows,h=>by rw [List.flatten_cons,List.length_append,Jyd fun r hr=>h r (by simp [hr]),h r zo,List.length_cons,Nat.succ_mul];omega
end
end Go.Aw
end
namespace Go.Proofs.YtchfclmokpbldaaGreat
open Go.Aw Go
end Go.Proofs.YtchfclmokpbldaaGreat
