/-
  recirculate.Circles whole, and the reference's circles. By an AI agent; no person has read it.
-/
import Derived.Test.YtchfclmokpbldaaGreatCircW
set_option linter.all false
set_option maxHeartbeats 4000000
namespace Go.Proofs.YtchfclmokpbldaaGreat
open Go.Aw Go
section
variable {A B:Prop}
def J0f(h:A→B:=by exact K0 zR rfl rfl rfl):=h
def Vzf(h:A→B:=by exact K0 zrd rfl rfl rfl):=h
def Vdf(h:A→B:=by exact Jy zR rfl):=h
def Vig(h:A→B:=by exact Yv (Jx (f:=Jk) (p:=r) (a:=a.road) tb rfl rfl rfl rfl (w2) zj zDb rfl zy) rfl):=h
def Jog(h:A→B:=by exact Ki tb [0,1,2,3,4,5,6,7,8,9,10,11,12,13] ([Blk.mk b3 _ _]) Kq zc zi):=h
def Vlg(h:A→B:=by exact Jy (J9 tb ((⟨o16,l⟩:OwL Bool)) rfl rfl rfl zj zg yf zg zb) rfl):=h
def Kwg(h:A→B:=by exact Jy (Js tb ((⟨o16,l⟩:OwL Bool)) _ rfl rfl ((show _=Value.slice _ _ _ from rfl).trans zua) rfl zg (i:=(Zea m i b).toNat) zk zt) rfl):=h
end
def Tri.post_perm {P:Program} {f:FuncId} {args:Array Value} {L:LB} {R:LS} {Post Post':Y3} (h:Tri P f args L R Post) (k:∀v U J,Post v U J→∃L'',U.Perm L''∧Post' v L'' J):Tri P f args L R Post':=
 ⟨h.1,fun w G hh=>(h.2 w G hh).mono fun _ _ ⟨v,U,J,e,p,s⟩=>let ⟨L'',hp,p'⟩:=k v U J p;⟨v,L'',J,e,p',s.perm hp⟩⟩
set_option maxRecDepth 20000
attribute [local irreducible] CJ LJ DJ Tri YV Gives U5 J2 Kn U6 RV J4 OwL.L
def J9b {l:List Int} (h:0 < l.length):l.getLast?=some (l.getD (l.length - 1) 0):=by rw [List.getLast?_eq_getElem?,Jn (l:=l) (k:=l.length - 1) 0 za]
def Jpf (m:XMine) (fl:Arr XSpan) (L:LB) (R:LS) (hm:MineR m R) (hfl:InR (Yob fl) R) (hv:Ua m=0) (hn:fl.l.length=m.roads.l.length):
 Tri Tryz.prog 47 [m.val,fl.val].toArray L R (fun w U J=>∃(p:OwL Int) (S:LS),w=p.val∧p.ok 1 Jk∧CircIs m fl.l p.l∧p.L 3 Jk ++ L=U∧S ++ R=J):=by
 have hok:=Zqa hv;have hnp:=hok.places;have hnr:=hok.roads;refine Je 45 Tryz.call47 Tryz.func47 rfl rfl rfl ?_;apply (Xaf);intro b2;apply Xcb∘qbe∘qbm;refine Jw rfl (Jvf m fl _ _ hm hfl hv hn) rfl ?_;rintro v U J ⟨p,rfl,hpk,hpl,rfl,rfl⟩;refine Jy zSb rfl ?_;apply Xdf∘qaz∘qa4;refine U9 (A:=[]) (wd:=3) [] yf ze hpk yg ?_;refine U4 zQ ?_;obtain ⟨R1,hR1⟩:∃R1,R1=Vff p.arr :: R:=⟨_,rfl⟩;have hRR:∀r∈R,InR r R1:=fun r hr=>Ja (by rw [hR1];exact .tail _ hr);have har:InR (Vff p.arr) R1:=Ja (by rw [hR1];exact .head _);refine J9c (show _=R1 by rw [hR1]) ?_;have hm1:MineR m R1:=⟨hm.places.mono hRR,hm.roads.mono hRR⟩;have hin:Ulc m.places.l.length p.arr.l:=by show Ulc _ p.l;rw [hpl];exact K2e hok
 have hpn:p.l.length≤2 * m.roads.l.length:=by rw [hpl];exact Uub _
 apply qay∘Xbr∘qbe∘qbm;refine Jw rfl (K8d m p.arr _ _ hm1 har hin hnp (by show p.l.length≤1000;omega)) rfl ?_;rintro v U J ⟨q,rfl,hqk,hqO,rfl,rfl⟩;have hqO':OnTo m (Vda m fl.l) (Vda m fl.l).length q.l:=by have:=hqO;rw [show p.arr.l=Vda m fl.l from hpl] at this;exact this
 have hqs:=hqO'.sorted;have hqn:=hqO.sub.length_le;rw [yJa] at hqn;apply (Xdg);refine Jm [(7,.slice _ _ _),(18,.slice _ _ _),(19,.int _ _),(20,.int _ _)] zh fun tq0=>?_;refine Uh ([7,9]++rg 20 24) ((⟨fun g=>[(20,.int .i64 ((g.1.1:Nat):Int)),(7,g.1.2.val)],fun g=>g.1.2.L 3 Jk ++ (q.L 234 XArc.cells ++ (⟨b2,m.cells,28⟩ :: L)),fun _=>R1,fun g=>q.l.length - g.1.1⟩:Head {g:Nat×OwL Int // g.1≤q.l.length∧g.2.ok 1 Jk∧RdsTo q.l g.1 g.2.l})) (⟨(0,OwL.nil),by dsimp only;omega,OwL.nil_ok,RdsTo.zero⟩) zh zU zLb ?_;rintro ⟨⟨k,r⟩,w1,w2,w3⟩ junk;try dsimp only
 dsimp only at w1 w2 w3;have hrl:=w3.len;have hpn':p.arr.l.length≤256:=by show p.l.length≤256;omega
 apply (Xam);refine q_c ?_ ?_<;>intro hc0;·
  have hr0:=Jn (l:=q.l) (k:=k) default za;obtain ⟨a,haa⟩:∃a,a=q.l.getD k default:=⟨_,rfl⟩;rw [← haa] at hr0;apply (qbb);refine Jy (Js tb (q) _ rfl rfl rfl rfl zg (i:=k) zk zt) rfl ?_;refine Jy (Uka (row:=[_,_,_]) tb (q) rfl rfl rfl zj zg yf zg zb zb) rfl ?_;apply (qaq);intro b9;apply (Xct);refine Ki tb [0,1,2,3,4,5,6,7,8,9,10,11,12,13] ([Blk.mk b9 _ _] ++ (r.L 3 Jk ++ [])) Kq zc zi ?_;apply (Vzf);refine K0 zVb rfl rfl rfl ?_;refine K0 zsc rfl rfl rfl ?_;apply (qb2);refine Vx (k:=27) zsb (fun hg3=>?_) (fun hg3=>?_);·replace hg3:=qb hg3;(iterate 9 apply (qap));apply (Xbv);refine Uf rfl ?_;exact uar
  replace hg3:=qb hg3;have hgl:=Jn (l:=r.l) (k:=r.l.length - 1) 0 za;apply Vzf∘Vzf;refine K0 zVb rfl rfl rfl ?_;apply (qb7);refine K0 (Js tb (r) _ rfl rfl rfl rfl zg (i:=r.l.length - 1) zk zt) rfl rfl rfl ?_;refine K0 (J9 tb (r) rfl rfl rfl zj zg yf zg zb) rfl rfl rfl ?_;apply (Xai);refine K0 (Jxc rfl rfl) rfl rfl rfl ?_;apply (Xbv);refine q_c ?_ ?_<;>intro hc1;·exact uar
  apply (Xaw);exact q_k ⟨(k + 1,r),by dsimp only;omega,w2,w3.no hr0 (by rw [J9b za];exact congrArg some za)⟩
 obtain rfl:k=q.l.length:=by omega
 apply (Xdu);refine Kx (U:=r.L 3 Jk ++ L) (J:=Vff p.arr :: R) zxd ?hp ?hL ?hR;case hp=>exact ⟨r,[Vff p.arr],rfl,w2,RdsTo.done hqO' w3,rfl,rfl⟩
 case hL=>exact zi
 case hR=>exact fun x hx=>Ja (by rw [hR1];exact hx)
def Kkc (m:XMine) (fl:Arr XSpan) (L:LB) (R:LS) (hm:MineR m R):
 Tri Tryz.prog 198 [m.val,fl.val].toArray L R (fun v U J=>v=.bool (decide (Ua m=0) && decide ((fl.l.length:Int)=m.roads.l.length))∧L=U∧R=J):=by
 refine Je 16 Tryz.call198 Tryz.func198 rfl rfl rfl ?_;apply (Xaf);intro b2;apply Xbn∘qbe;refine q_l rfl (Kgc m _ _ hm) ?_;apply (Xcn);apply K9 (G:=[_,_,_,_,_,_]) (j:=3) (cj:=8) rfl rfl zb rfl zsb rfl;·intro hg4;replace hg4:=qb hg4;exact (Xaq∘Xab) zee
 intro junk4;apply (Xbb);refine q_b L R ?_;exact zbe
def U5e (m:XMine) (fl:Arr XSpan) (i:Nat) (back:Bool) (L:LB) (R:LS) (hm:MineR m R) (hfl:InR (Yob fl) R) (hi:i < m.roads.l.length) (hn:fl.l.length=m.roads.l.length):
 Tri Tryz.prog 200 [m.val,fl.val,.int .i64 (i:Int),.bool back].toArray L R (fun v U J=>v=.bool (Kne m fl.l i back)∧L=U∧R=J):=by
 have hmr:=hm.roads;have hrg:=Jn (l:=m.roads.l) (k:=i) default hi;have hsg:=Jn (l:=fl.l) (k:=i) default za;refine Je 28 Tryz.call200 Tryz.func200 rfl rfl rfl ?_;apply (Xaf);intro b4;apply Xdv∘Xah∘Vdf∘Xa9∘qaf;refine q_c ?_ ?_<;>intro hc0;·apply Xcc∘qbh;refine q_b L R ?_;exact ⟨by rw [Kne,hc0];rfl,rfl,rfl⟩
 apply qbo∘Xdw;refine q_c ?_ ?_<;>intro hc1;·apply qae∘Xap∘Vdf∘Xa9∘qaj∘qaz∘qbh;refine q_b L R ?_;exact ⟨by rw [Kne,hc0,hc1];rfl,rfl,rfl⟩
 apply qbv∘Xap∘Vdf∘Xa9∘qa5∘Xbb;refine q_b L R ?_;exact ⟨by rw [Kne,hc0,hc1];rfl,rfl,rfl⟩
def Znd (m:XMine) (i:Nat) (back:Bool) (L:LB) (R:LS) (hm:MineR m R) (hi:i < m.roads.l.length):
 Tri Tryz.prog 199 [m.val,.int .i64 (i:Int),.bool back].toArray L R (fun v U J=>v=.tuple #[.int .i64 (Upb m i back),.int .i64 (Zea m i back)]∧L=U∧R=J):=by
 have hmr:=hm.roads;have hrg:=Jn (l:=m.roads.l) (k:=i) default hi;refine Je 33 Tryz.call199 Tryz.func199 rfl rfl rfl ?_;apply (Xaf);intro b3;apply qad∘Xar∘Xdw;refine q_c ?_ ?_<;>intro hc0;·refine Jq ?_;apply Jog∘Xbs∘J0f∘Xdx∘Xbs∘J0f∘Xdx∘Xc7;refine J1 (Jb (Uq (Kg ?_)));refine q_r L R zzd ?_;exact ⟨by rw [Upb,Zea,hc0];rfl,rfl,rfl⟩
 apply qcl∘Jog∘Xbs∘J0f∘Xdx∘Xbs∘J0f∘Xdx∘Xc7;refine J1 (Jb (Uq ?_));refine q_r L R zzd ?_;exact ⟨by rw [Upb,Zea,hc0];rfl,rfl,rfl⟩
def Ync (d:Nat):Bool:=decide ((d:Int)=1)
def bn (b:Bool):Nat:=if b=true then 1 else 0
def J6g {b:Bool} {d:Nat} (h:bn b < d + 1) (hd:d < 2):bn b < d∨b=Ync d:=by
 cases b with
 | false=>simp only [bn,Ync] at h ⊢;by_cases e:d=0 <;> simp_all;omega
 | true=>simp only [bn,Ync] at h ⊢;by_cases e:d=1 <;> simp_all;omega
def U8f {d:Nat} (hd:d < 2):bn (Ync d) < d + 1:=by
 rcases yk d 1 with h | h;·
  obtain rfl : d = 0 := by omega
  decide
 ·
  obtain rfl : d = 1 := by omega
  decide
def K3e {m:XMine} (hok:MineOk m) {i:Nat} (hi:i < m.roads.l.length) (b:Bool):(0≤Upb m i b∧Upb m i b < m.places.l.length)∧0≤Zea m i b∧Zea m i b < m.places.l.length:=by
 have hr:=hok.road i _ (Jn (l:=m.roads.l) (k:=i) default hi);have h1:=hr.fr;have h2:=hr.to;cases b with
 | false=>exact ⟨h1,h2⟩
 | true=>exact ⟨h2,h1⟩
def Vwg (m:XMine) (fl:List XSpan) (w:Int) (l:List Bool) (j:Nat) (b:Bool):Prop:=Kne m fl j b=true→(j:Int)≠w→(m.places.l.getD (Zea m j b).toNat default).surface=false→l.getD (Upb m j b).toNat false=true→l.getD (Zea m j b).toNat false=true
def Uzd (m:XMine) (fl:Arr XSpan) (seen:Arr Bool) (w:Int) (L:LB) (R:LS) (hm:MineR m R) (hfl:InR (Yob fl) R) (hs:InR (Zwf seen) R) (hok:MineOk m) (hn:fl.l.length=m.roads.l.length) (hl:seen.l.length=m.places.l.length) (hs0:∀j:Nat,seen.l.getD j false=true→(m.places.l.getD j default).surface=false):
 Tri Tryz.prog 201 [m.val,fl.val,seen.val,.int .i64 w].toArray L R (fun v U J=>∃p:OwL Bool,v=p.val∧p.ok 1 blc∧SprIs m (Vda m fl.l) w seen.l p.l∧p.L 4 blc ++ L=U∧R=J):=by
 have hmp:=hm.places;have hnp:=hok.places;have hnr:=hok.roads;refine Je 83 Tryz.call201 Tryz.func201 rfl rfl rfl ?_;apply (Xaf);intro b4;apply Xcb∘qbm;refine Yv zXc rfl ?_;rintro v U J ⟨o16,rfl,hok16,rfl,rfl⟩;apply Xbr∘qaz∘qa2;refine Jm [(1,.slice _ _ _),(3,.int _ _),(4,.pointer _),(9,.slice _ _ _),(10,.bool _)] zh fun tq0=>?_;refine q_p ([10,11,12,13,14]++rg 17 65) ((⟨fun q=>[(10,.bool q.1.1)],fun q=>(⟨o16,q.1.2⟩:OwL Bool).L 4 blc ++ (⟨b4,m.cells,28⟩ :: L),fun _=>R,fun q=>Z4 q.1.2 * 2 + (if q.1.1=true then 1 else 0)⟩:Head {q:Bool×List Bool // (⟨o16,q.2⟩:OwL Bool).ok 1 blc∧SprTo m (Vda m fl.l) w seen.l q.2∧(∀j:Nat,q.2.getD j false=true→(m.places.l.getD j default).surface=false)∧(q.1=false→∀(j:Nat) (b:Bool),j < m.roads.l.length→Vwg m fl.l w q.2 j b)})) (⟨(true,seen.l),hok16,SprTo.init,hs0,fun h=>by cases h⟩) ?_;rintro ⟨⟨again,l0⟩,q1,q2,q4,q3⟩ junk;try dsimp only
 dsimp only at q1 q2 q3 q4;apply qbi∘Xdw;refine q_c ?_ ?_<;>intro hc0;·
  refine J5 (Jb (Kk (Jq (Jh ?_))));apply Xbn∘Xbf;refine Ve ([10,11,12,13,14]++rg 17 65) zJ [(10,.bool _),(11,.int _ _)] zh fun tq1=>?_;refine q_p ([10,11,12,13,14]++rg 18 64) ((⟨fun q=>[(11,.int .i64 ((q.1.1:Nat):Int)),(10,.bool q.1.2.1)],fun q=>(⟨o16,q.1.2.2⟩:OwL Bool).L 4 blc ++ (⟨b4,m.cells,28⟩ :: L),fun _=>R,fun q=>m.roads.l.length - q.1.1⟩:Head {q:Nat×Bool×List Bool // q.1≤m.roads.l.length∧(⟨o16,q.2.2⟩:OwL Bool).ok 1 blc∧SprTo m (Vda m fl.l) w seen.l q.2.2∧(∀j:Nat,q.2.2.getD j false=true→(m.places.l.getD j default).surface=false)∧(q.2.1=true→Z4 q.2.2 < Z4 l0)∧(q.2.1=false→q.2.2=l0∧∀(j:Nat) (b:Bool),j < q.1→Vwg m fl.l w l0 j b)})) (⟨(0,false,l0),by dsimp only;omega,q1,q2,q4,(fun h=>by cases h),fun _=>⟨rfl,fun j b hj=>by omega⟩⟩) ?_;rintro ⟨⟨i,ch1,l1⟩,w1,w2,w3,w6,w4,w5⟩ junk;try dsimp only
  dsimp only at w1 w2 w3 w4 w5 w6;apply Xa3∘Xdi;refine q_c ?_ ?_<;>intro hc1;·
   apply qbb∘Xbf;refine Ve ([10,11,12,13,14]++rg 18 64) zJ [(10,.bool _),(11,.int _ _),(12,.int _ _)] zh fun tq2=>?_;refine q_p ([10,12,13,14]++rg 25 57) ((⟨fun q=>[(12,.int .i64 ((q.1.1:Nat):Int)),(10,.bool q.1.2.1)],fun q=>(⟨o16,q.1.2.2⟩:OwL Bool).L 4 blc ++ (⟨b4,m.cells,28⟩ :: L),fun _=>R,fun q=>2 - q.1.1⟩:Head {q:Nat×Bool×List Bool // q.1≤2∧(⟨o16,q.2.2⟩:OwL Bool).ok 1 blc∧SprTo m (Vda m fl.l) w seen.l q.2.2∧(∀j:Nat,q.2.2.getD j false=true→(m.places.l.getD j default).surface=false)∧(q.2.1=true→Z4 q.2.2 < Z4 l0)∧(q.2.1=false→q.2.2=l0∧(∀(j:Nat) (b:Bool),j < i→Vwg m fl.l w l0 j b)∧∀b:Bool,bn b < q.1→Vwg m fl.l w l0 i b)})) (⟨(0,ch1,l1),by dsimp only;omega,w2,w3,w6,w4,fun h=>⟨(w5 h).1,(w5 h).2,fun b hb=>by dsimp only at hb;omega⟩⟩) ?_;rintro ⟨⟨d,ch,l⟩,v1,v2,v3,v6,v4,v5⟩ junk;(try dsimp only);dsimp only at v1 v2 v3 v4 v5 v6;have hll:=v3.len;apply Xa3∘Xa5;refine q_c ?_ ?_<;>intro hc2;·
    (have hi:i < m.roads.l.length:=by omega);obtain ⟨b,hb⟩:∃b,b=Ync d:=⟨_,rfl⟩;have her:=K3e hok hi b;have hgf:=Jn (l:=l) (k:=(Upb m i b).toNat) false za;have hgt:=Jn (l:=l) (k:=(Zea m i b).toNat) false za;have hpf:=Jn (l:=m.places.l) (k:=(Upb m i b).toNat) default za;have hpt:=Jn (l:=m.places.l) (k:=(Zea m i b).toNat) default za;apply qbb∘qbe∘Xbw∘qbn;refine q_l rfl (Tri.cast (Znd m i b _ _ hm hi) (by rw [hb];rfl)) ?_;refine Jy zSb rfl ?_;apply Xa7∘qad∘Xas∘qaa∘Xb7;apply K9 (G:=[_,_,_,_,_,_]) (j:=3) (cj:=40) rfl rfl zb rfl zsb rfl;·intro hg4;replace hg4:=qb hg4;apply qbe∘Xap∘qaa∘qbn;refine q_l rfl (Tri.cast (U5e m fl i b _ _ hm hfl hi hn) (by rw [hb];rfl)) ?_;exact qai
    intro junk4;apply (qah);apply K9 (G:=[_,_,_,_]) (j:=11) (cj:=48) rfl rfl zb rfl zsb rfl;·intro hg12;replace hg12:=qb hg12;apply (Xap);refine Jy (Js tb ((⟨o16,l⟩:OwL Bool)) _ rfl rfl ((show _=Value.slice _ _ _ from rfl).trans zua) rfl zg (i:=(Upb m i b).toNat) zk zt) rfl ?_;exact (Vlg) qai
    intro junk12;apply (qah);apply K9 (G:=[_,_,_,_,_]) (j:=17) (cj:=54) rfl rfl zb rfl zsb rfl;·intro hg18;replace hg18:=qb hg18;exact (Xap∘Kwg∘Vlg) zge
    intro junk18;apply (qah);apply K9 (G:=[_,_,_,_,_,_,_]) (j:=24) (cj:=61) rfl rfl zb rfl zsb rfl;·intro hg25;replace hg25:=qb hg25;apply (Xah);refine Jy zfb rfl ?_;exact (Xa9) zge
    intro junk25;apply (qah);apply K9 (G:=[_,_,_,_,_,_,_]) (j:=33) (cj:=70) rfl rfl zb rfl zsb rfl;·intro hg34;replace hg34:=qb hg34;apply (Xah);refine Jy zgb rfl ?_;exact (Xa9) zge
    intro junk34;apply (qaf);refine q_c ?_ ?_<;>intro hc3;·
     apply Xb5∘Kwg;refine V6 (Ju tb ((⟨o16,l⟩:OwL Bool)) (true) rfl rfl rfl rfl zj zg yf zg ze zb zb) ?_;rintro v U J ⟨rfl,rfl⟩;apply qaz∘Xc9;have hf:l.getD (Zea m i b).toNat false=false:=hc3.1.1.2;have hlt:=Uxc (l:=l) (i:=(Zea m i b).toNat) za hf;have hle:Z4 l≤Z4 l0:=by
      cases ch with
      | true=>have:=v4 rfl;omega
      | false=>rw [(v5 rfl).1];exact ym _
     have hwy:Wy m (Vda m fl.l) w (Upb m i b).toNat (Zea m i b).toNat:=⟨⟨i,Upb m i b,Zea m i b⟩,Uha.2 ⟨i,b,hi,hc3.1.1.1.1.2,rfl⟩,hc3.1.1.1.1.1,by show Upb m i b=_;omega,by show Zea m i b=_;omega,hc3.2⟩;exact Kd ⟨(d + 1,true,l.set (Zea m i b).toNat true),by dsimp only;omega,OwL.len_ok Y4 v2 zo,v3.next hwy hc3.1.1.1.2 za,(fun j hj=>by
      dsimp only at hj;rw [Vea za] at hj;split at hj;·rename_i e;rw [e];exact hc3.2
      ·exact v6 j hj),(fun _=>by dsimp only;omega),fun h=>by cases h⟩ zm zh zi zLb zx
    apply (Xcz);exact Kd ⟨(d + 1,ch,l),by dsimp only;omega,v2,v3,v6,v4,fun h=>⟨(v5 h).1,(v5 h).2.1,fun b' hb'=>by
     rcases J6g hb' za with h1 | h1;·exact (v5 h).2.2 b' h1
     ·
      rw [← hb] at h1;subst h1;intro g1 g2 g3 g4;rw [← (v5 h).1] at g4 ⊢;rcases hc3 with ((((h1 | h1) | h1) | h1) | h1) | h1;·exact absurd g2 h1
      ·rw [g1] at h1;cases h1
      ·rw [g4] at h1;cases h1
      ·exact h1
      ·rw [v6 _ g4] at h1;cases h1
      ·rw [g3] at h1;cases h1⟩⟩ zm zh zi zLb zx
   (obtain rfl:d=2:=by omega);refine K5 (Kj (K7 (J3 (Ji (Jb (Jh ?_))))));apply (Xbd);exact Kd ⟨(i + 1,ch,l),by dsimp only;omega,v2,v3,v6,v4,fun h=>⟨(v5 h).1,fun j b hj=>by
   rcases yk j i with h1 | h1;·exact (v5 h).2.1 j b h1
   ·(obtain rfl : j = i := by dsimp only at hj; omega);exact (v5 h).2.2 b (by cases b <;> decide)⟩⟩ zm zh zi zLb zx
  obtain rfl:i=m.roads.l.length:=by omega
  have hmeas:Z4 l1 * 2 + (if ch1=true then 1 else 0) < Z4 l0 * 2 + (if again=true then 1 else 0):=by
   rw [if_pos hc0];cases ch1 with
   | true=>have:=w4 rfl;simp;omega
   | false=>rw [(w5 rfl).1];simp
  refine K5 (Kj (K7 (J3 (Ji ?_))));exact Kd ⟨(ch1,l1),w2,w3,w6,fun h j b hj=>by rw [(w5 h).1];exact (w5 h).2 j b hj⟩ zm zh zi zLb hmeas
 have hll:=q2.len;apply (Xdu);refine q_r ((⟨o16,l0⟩:OwL Bool).L 4 blc ++ L) R zxd ?_;exact ⟨⟨o16,l0⟩,by simp only [OwL.val,hll],q1,q2.done (fun u v hw hu=>by
 obtain ⟨a,ha,h1,h2,h3,h4⟩:=hw;obtain ⟨i,b,hi,hc,rfl⟩:=Uha.1 ha;dsimp only at h1 h2 h3;have:=q3 hc0 i b hi hc h1 (by rw [h3,yy];exact h4) (by rw [h2,yy];exact hu);rw [h3,yy] at this;exact this),rfl,rfl⟩
end Go.Proofs.YtchfclmokpbldaaGreat
