/-
  Merged texts. By an AI agent.
-/
import Derived.Test.YtchfclmokpbldaaGreatCircR
import Derived.Test.YtchfclmokpbldaaGreatData
set_option linter.all false
set_option maxHeartbeats 4000000
set_option maxRecDepth 20000
namespace Go.Proofs.YtchfclmokpbldaaGreat
open Go.Aw Go
section
attribute [local irreducible] CJ LJ DJ Tri YV Gives Uq J2 Kj Ut RV J3 OwL.L
def Vbe (m:XMine) (fl:Arr XSpan) (L:LB) (R:LS) (hm:MineR m R) (hfl:InR (Jkc fl) R) (hv:Ul m=0) (hn:fl.l.length=m.roads.l.length):
 Tri Tryz.prog 143 [m.val,fl.val].toArray L R (fun w U J=>∃p:OwL Int,w=p.val∧p.ok 1 Jj∧(∀x∈p.l,0≤x∧x < m.places.l.length)∧p.l.length≤m.places.l.length∧p.L 3 Jj ++ L=U∧∀r∈R,InR r J):=by
 have hok:=U6a hv;have hnp:=hok.places;have hnr:=hok.roads;refine Je 59 Tryz.call143 Tryz.func143 rfl rfl rfl ?_;apply (Xaf);intro b2;apply Xb8∘qbe∘qbm;refine Jv rfl (Y6d m fl _ _ hm hfl hv hn) rfl ?_;rintro v U J ⟨p,rfl,hpk,hpl,rfl,rfl⟩;refine Jw zRb rfl ?_;apply Xd3∘qaz∘qco;refine Vg (A:=[]) (wd:=3) [] yf ze hpk yg ?_;refine U2 zFa ?_;obtain ⟨R1,hR1⟩:∃R1,R1=Vff p.arr :: R:=⟨_,rfl⟩;have hRR:∀r∈R,InR r R1:=fun r hr=>Ja (by rw [hR1];exact .tail _ hr);have har:InR (Vff p.arr) R1:=Ja (by rw [hR1];exact .head _);refine Jic (show _=R1 by rw [hR1]) ?_;have hm1:MineR m R1:=⟨hm.places.mono hRR,hm.roads.mono hRR⟩;have hin:Vfb m.places.l.length p.arr.l:=by show Vfb _ p.l;rw [hpl];exact Jdd hok
 have hpn:p.l.length≤2 * m.roads.l.length:=by rw [hpl];exact Zna _
 apply qay∘qah∘Xbj;refine q_c ?_ ?_<;>intro hc0;·(exfalso;simp at hc0)
 apply qbv∘Xab∘qc7;rintro v U J ⟨b24,rfl,rfl,hR24⟩;replace hR24:=hR24.symm;subst hR24;apply (Xdd);refine U2 zUb ?_;apply qay∘qbe∘qbm;refine Jv rfl (Uld m p.arr _ _ hm1 har hin hnp (by show p.l.length≤1000;omega)) rfl ?_;rintro v U J ⟨q,rfl,hqk,hqO,rfl,rfl⟩;have hqn:q.l.length≤256:=by have h:=hqO.sub.length_le;rw [yHa] at h;have h2:p.arr.l.length=p.l.length:=rfl;omega
 have hqin:Vfb m.places.l.length q.l:=fun a ha=>hin a (yrb (hqO.sub.subset ha));apply (Xc1);refine Jm [(2,.pointer _),(5,.slice _ _ _),(7,.slice _ _ _),(27,.slice _ _ _),(28,.int _ _),(29,.int _ _)] zh fun tq0=>?_;refine q_p ([9]++rg 29 13) ((⟨fun g=>[(29,.int .i64 ((g.1.1:Nat):Int))],fun g=>q.L 234 XArc.cells ++ ((⟨.own b24 m.places.l.length [],g.1.2⟩:OwL Bool).L 4 blc ++ (⟨b2,m.cells,28⟩ :: L)),fun _=>R1,fun g=>q.l.length - g.1.1⟩:Head {g:Nat×List Bool // g.1≤q.l.length∧g.2.length=m.places.l.length})) (⟨(0,List.replicate m.places.l.length false),yS _,by simp⟩) ?_;rintro ⟨⟨k,l0⟩,w1,hl0n⟩ junk;try dsimp only
 dsimp only at w1 hl0n;have hQ1:(⟨.own b24 m.places.l.length [],l0⟩:OwL Bool).ok 1 blc:=by have:=U0 (f:=blc) (wd:=1) (b:=b24) (n:=m.places.l.length) (x:=false) V5 zB;exact OwL.len_ok V5 this (by simp;exact hl0n)
 apply (Xaj);refine q_c ?_ ?_<;>intro hc1;·have hr0:=Jp (l:=q.l) (k:=k) default za;obtain ⟨a,haa⟩:∃a,a=q.l.getD k default:=⟨_,rfl⟩;rw [← haa] at hr0;have hai:=hqin a (yh hr0);have hQ2:=Jp (l:=l0) (k:=a.fr.toNat) false za;have hQ3:=Jp (l:=l0.set a.fr.toNat true) (k:=a.to.toNat) false zE;have hQ2k:(⟨.own b24 m.places.l.length [],l0.set a.fr.toNat true⟩:OwL Bool).ok 1 blc:=OwL.len_ok V5 hQ1 zo;apply (qbb);refine Jw (Jo tb (q) _ rfl rfl rfl rfl zg (i:=k) zk zp) rfl ?_;refine Jw (K2a (row:=[_,_,_]) tb (q) rfl rfl rfl zj zg yf zg zb zb) rfl ?_;apply (qaq);intro b9;apply qak∘qaf;refine J7 tb [36,37,38] [0,1,2,3,4,5,6] [7,8,9] ([Blk.mk b9 _ _,Blk.mk b2 _ _]) _ Ko zc zi zWa ?_;apply (Xcw);refine Vd zZc rfl rfl rfl rfl ?_;apply (Xc3);refine Ku (Jo tb ((⟨.own b24 m.places.l.length [],l0⟩:OwL Bool)) _ rfl rfl ((show _=Value.slice _ _ _ from rfl).trans (K6 hl0n)) rfl zg (i:=a.fr.toNat) zk zp) rfl rfl rfl rfl ?_;apply (qba);refine Ywa (Jn tb ((⟨.own b24 m.places.l.length [],l0⟩:OwL Bool)) (true) rfl rfl rfl rfl zj zg yf zg ze zb zb) rfl rfl ?_;rintro v U J ⟨rfl,rfl⟩;apply (qa1);refine Ks (Jo tb ((⟨.own b24 m.places.l.length [],l0.set a.fr.toNat true⟩:OwL Bool)) _ rfl rfl ((show _=Value.slice _ _ _ from rfl).trans (K6 (show (l0.set a.fr.toNat true).length=m.places.l.length by simp [hl0n]))) rfl zg (i:=a.to.toNat) zk zp) rfl rfl rfl ?_;refine Ywa (Jn tb ((⟨.own b24 m.places.l.length [],l0.set a.fr.toNat true⟩:OwL Bool)) (true) rfl rfl rfl rfl zj zg yf zg ze zb zb) rfl rfl ?_;rintro v U J ⟨rfl,rfl⟩;apply qa1∘Xc4;exact q_k ⟨(k + 1,(l0.set a.fr.toNat true).set a.to.toNat true),by dsimp only;omega,by simp [hl0n]⟩
 obtain rfl:k=q.l.length:=by omega
 apply qbk∘Xdd;have hQ1:(⟨.own b24 m.places.l.length [],l0⟩:OwL Bool).ok 1 blc:=by have:=U0 (f:=blc) (wd:=1) (b:=b24) (n:=m.places.l.length) (x:=false) V5 zB;exact OwL.len_ok V5 this (by simp;exact hl0n)
 apply qay∘qbe∘qbm∘qbm;refine Jv rfl (Tri.cast (Zgb (A:=_) (p:=(⟨.own b24 m.places.l.length [],l0⟩:OwL Bool)) (w:= -1) zG hQ1 hm1 har hin hl0n hnp (by show p.l.length≤1000;omega)) (by show #[_,_,Value.slice _ (List.length _) _,_]=_;rw [hl0n];rfl)) rfl ?_;rintro v U J ⟨z,rfl,hzk,hzS,rfl,rfl⟩;simp only [yn,yr,yv];try simp only [yn,yr]
 have hzl:z.l.length=m.places.l.length:=hzS.len.trans hl0n;apply (Xc1);refine Jm [(10,.slice _ _ _),(45,.slice _ _ _),(46,.int _ _),(47,.int _ _)] zh fun tq1=>?_;refine Up ([10,11,12]++rg 47 11) ((⟨fun g=>[(47,.int .i64 ((g.1.1:Nat):Int)),(10,g.1.2.val)],fun g=>g.1.2.L 3 Jj ++ (⟨b2,m.cells,28⟩ :: (L ++ z.L 4 blc)),fun _=>R1,fun g=>z.l.length - g.1.1⟩:Head {g:Nat×OwL Int // g.1≤z.l.length∧g.2.ok 1 Jj∧g.2.l.length≤g.1∧∀x∈g.2.l,0≤x∧x < m.places.l.length})) (⟨(0,OwL.nil),yS _,OwL.nil_ok,ym _,fun x hx=>by cases hx⟩) zh zS zAb ?_;rintro ⟨⟨i,r⟩,hi,hrk,hrl,hrx⟩ junk;try dsimp only
 dsimp only at hi hrk hrl hrx;apply (Xaj);refine q_c ?_ ?_<;>intro hc2;·
  have hzg:=Jp (l:=z.l) (k:=i) false za;apply (Xa1);refine Jw (Jo tb (z) _ rfl rfl rfl rfl zg (i:=i) zk zp) rfl ?_;refine Jw (J4 tb (z) rfl rfl rfl zj zg yf zg zb) rfl ?_;apply Xa7∘qam∘Xds;refine q_c ?_ ?_<;>intro hc3;·
   apply Xb3∘qcx;rintro v U J ⟨b55,rfl,rfl,hR55⟩;replace hR55:=hR55.symm;subst hR55;refine Za (Jy (f:=Jj) (p:=r) (a:=(i:Int)) tb rfl rfl rfl rfl (hrk) zj zwb rfl zy) rfl ?_;rintro v U J ⟨o56,rfl,hok56,rfl,rfl⟩;apply (Xdr);exact Ka ⟨(i + 1,⟨_,_⟩),by dsimp only;omega,by assumption,by dsimp only;simp only [yl,yA,yda];omega,fun x hx=>by
   rcases List.mem_append.1 hx with h | h;·exact hrx x h
   ·rw [List.mem_singleton.1 h];omega⟩ zm zh zi zAb zx
  apply (Xaw);exact q_k ⟨(i + 1,r),by dsimp only;omega,hrk,by dsimp only;omega,hrx⟩
 apply Xch∘Xci;refine K2 (U:=r.L 3 Jj ++ L) (J:=R1) zhd ?hp ?hL ?hR;case hp=>exact ⟨r,rfl,hrk,hrx,by omega,rfl,hRR⟩
 case hL=>exact (yt _).append (List.Sublist.cons _ (yGa _ _))
 case hR=>exact Jc _
end
section
variable {P:Program} {ρ:Operand→Value} {L:LB} {R:LS} {dst:Option Tmp} {ty:TypeId} {pos:String} {after:Array Edge} {guard:Option (Nat×Bool)} (tb:Tabs P) {T:TypeId} {x y:Operand}
def Jaf {e n n2 bt bt2 len b o i : Nat} {k2 : TK} {z z2 : List Value} {fl fl2 : List (Nat × Nat)} {k : IntKind} {a : Int} (hT : Yy tb.tab T = some ⟨.array len e, n, fl, bt, z⟩) (hE : Yy tb.tab e = some ⟨k2, n2, fl2, bt2, z2⟩)
 (hx:ρ x=.pointer (some ⟨b,o,none⟩)) (hy:ρ y=.int k a) (hi:a=(i:Int)) (hlt:i < len):
 YV P ⟨dst,.indexAddr T x y,ty,pos,after,guard⟩ ρ L R (.pointer (some ⟨b,o + i * n2,none⟩)):=fun _ w _=>by
 have hu:=Yyb (tb.ok _ _ hT) rfl
 have hs:=fun w=>Go.Aw.run_sizeOf (tb.ok _ _ hE) w
 try simp only at hs
 subst hi
 simp [execOp,hx,hy,Instr.indexAt,asIntOf,run_underlying hu,hs,hlt,Kja,Instr.sureAddr]
def V1f {e n bt bt2 : Nat} {k2 : TK} {z0 z1 : Value} {z2 : List Value} {fl fl2 : List (Nat × Nat)} {ka kb : IntKind} {a b : Int} (hT : Yy tb.tab T = some ⟨.array 2 e, n, fl, bt, [z0, z1]⟩) (hE : Yy tb.tab e = some ⟨k2, 1, fl2, bt2, z2⟩)
 (hx:ρ x=.int ka a) (hy:ρ y=.int kb b):YV P ⟨dst,.build T #[(0,x),(1,y)],ty,pos,after,guard⟩ ρ L R (.agg #[.int ka a,.int kb b]):=fun _ w _=>by
 have hu:=Yyb (tb.ok _ _ hT) rfl
 obtain ⟨zv,hz1,hz2⟩:=Y8 (tb.ok _ _ hT) w
 have hs:=fun w=>Go.Aw.run_sizeOf (tb.ok _ _ hE) w
 try simp only at hs hz2
 have hzc:zv.cells=#[z0,z1]:=by rw [← hz2]
 simp [execOp,hx,hy,Instr.build,run_underlying hu,hs,hz1,hzc,Instr.fill,show (Value.int ka a).cells=#[.int ka a] from rfl,show (Value.int kb b).cells=#[.int kb b] from rfl]
end
section
structure XWay where
 fr:Int
 to:Int
 deriving Inhabited
def XWay.cells (a:XWay):List Value:=[.int .i64 a.fr,.int .i64 a.to]
attribute [local irreducible] CJ LJ DJ Tri YV Gives Uq J2 Kj Ut RV J3 OwL.L
def Zqe (m:XMine) (fl:Arr XSpan) (L:LB) (R:LS) (hm:MineR m R) (hfl:InR (Jkc fl) R) (hv:Ul m=0) (hn:fl.l.length=m.roads.l.length):
 Tri Tryz.prog 142 [m.val,fl.val].toArray L R (fun w U J=>∃p:OwL XWay,w=p.val∧p.ok 2 XWay.cells∧(∀x∈p.l,0≤x.to∧x.to < m.places.l.length)∧p.l.length≤256∧p.L 243 XWay.cells ++ L=U∧∀r∈R,InR r J):=by
 have hok:=U6a hv;have hnp:=hok.places;have hnr:=hok.roads;refine Je 32 Tryz.call142 Tryz.func142 rfl rfl rfl ?_;apply (Xaf);intro b2;apply Xb8∘qbe∘qbm;refine Jv rfl (Y6d m fl _ _ hm hfl hv hn) rfl ?_;rintro v U J ⟨p,rfl,hpk,hpl,rfl,rfl⟩;refine Jw zRb rfl ?_;apply Xd3∘qaz∘qa4;refine Vg (A:=[]) (wd:=3) [] yf ze hpk yg ?_;refine U2 zFa ?_;obtain ⟨R1,hR1⟩:∃R1,R1=Vff p.arr :: R:=⟨_,rfl⟩;have hRR:∀r∈R,InR r R1:=fun r hr=>Ja (by rw [hR1];exact .tail _ hr);have har:InR (Vff p.arr) R1:=Ja (by rw [hR1];exact .head _);refine Jic (show _=R1 by rw [hR1]) ?_;have hin:Vfb m.places.l.length p.l:=by rw [hpl];exact Jdd hok
 have hpn:p.l.length≤2 * m.roads.l.length:=by rw [hpl];exact Zna _
 apply qay∘Xb5∘Xbr;refine Jm [(7,.slice _ _ _),(16,.slice _ _ _),(17,.int _ _),(18,.int _ _)] zh fun tq0=>?_;refine Up ([7,9]++rg 18 13) ((⟨fun g=>[(18,.int .i64 ((g.1.1:Nat):Int)),(7,g.1.2.val)],fun g=>g.1.2.L 243 XWay.cells ++ (⟨b2,m.cells,28⟩ :: L),fun _=>R1,fun g=>p.l.length - g.1.1⟩:Head {g:Nat×OwL XWay // g.1≤p.l.length∧g.2.ok 2 XWay.cells∧g.2.l.length=g.1∧∀x∈g.2.l,0≤x.to∧x.to < m.places.l.length})) (⟨(0,OwL.nil),yS _,OwL.nil_ok,rfl,fun x hx=>by cases hx⟩) zh zW zAb ?_;rintro ⟨⟨k,q⟩,hk,hqk,hql,hqx⟩ junk;try dsimp only
 dsimp only at hk hqk hql hqx;apply (Xaj);refine q_c ?_ ?_<;>intro hc0;·
  have hr0:=Jp (l:=p.l) (k:=k) default za;obtain ⟨a,haa⟩:∃a,a=p.l.getD k default:=⟨_,rfl⟩;rw [← haa] at hr0;have hai:=hin a (yh hr0);apply (qbb);refine Jw zD rfl ?_;apply (Xc7);intro b9;apply (qak);refine J9 (Jb (Jg ?_));apply qbm∘Xa0;refine Jw (V1f tb rfl rfl rfl rfl) rfl ?_;refine Za zKb rfl ?_;rintro v U J ⟨b28,rfl,rfl,hR28⟩;replace hR28:=hR28.symm;subst hR28;refine Za (Jy (f:=XWay.cells) (p:=q) (a:=⟨a.fr,a.to⟩) tb rfl rfl rfl rfl (hqk) zj zwb rfl zy) rfl ?_;rintro v U J ⟨o29,rfl,hok29,rfl,rfl⟩;apply (Xdr);exact Ka ⟨(k + 1,⟨_,_⟩),by dsimp only;omega,by assumption,by dsimp only;rw [yl,hql];rfl,fun x hx=>by
  rcases List.mem_append.1 hx with h | h;·exact hqx x h
  ·rw [List.mem_singleton.1 h];exact hai.2⟩ zm zh zi zAb zx
 apply Xch∘Xci;refine q_r (q.L 243 XWay.cells ++ L) R1 zhd ?_;exact ⟨q,rfl,hqk,hqx,by omega,rfl,hRR⟩
end
end Go.Proofs.YtchfclmokpbldaaGreat
