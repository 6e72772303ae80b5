/-
  Merged texts. By an AI agent.
-/
import Derived.Test.YtchfclmokpbldaaGreatSeqS
set_option linter.all false
set_option maxHeartbeats 4000000
set_option maxRecDepth 20000
namespace Go.Proofs.YtchfclmokpbldaaGreat
open Go.Aw Go
section
def Jid (f:XFan):XFan:=⟨f.road,f.back,f.aux,⟨none,0,f.curve.l⟩⟩
def Jab (d:XDoor):XDoor:=⟨d.road,d.other,⟨none,0,d.rests.l⟩⟩
def Ygc (m:XMine):XMine:=⟨⟨none,0,m.places.l⟩,⟨none,0,m.roads.l⟩⟩
def Zn (a:XAir):XAir:=⟨Ygc a.mine,⟨none,0,a.fans.l.map Jid⟩,⟨none,0,a.doors.l.map Jab⟩⟩
abbrev Zbc (s:XSetting):XSetting:=mkS (Kpc s)
def Yrb {α β:Type} {f:α→β} {l:List α} {k:Nat} {d:α} {e:β} (h:f d=e):(l.map f).getD k e=f (l.getD k d):=by
 rw [yh,yh,yr];cases l[k]? with
 | none=>exact h.symm
 | some x=>rfl
def K6f (a:XAir) (k:Nat):(Zn a).fans.l.getD k default=Jid (a.fans.l.getD k default):=Yrb rfl
def J2c (a:XAir) (k:Nat):(Zn a).doors.l.getD k default=Jab (a.doors.l.getD k default):=Yrb rfl
def Ztb (a : XAir) (s : XSetting) (r : Int) : ∀ k, Vf (Zn a) (Zbc s) r k = Vf a s r k
 | 0=>rfl
 | k + 1=>by rw [Vf,Vf,Ztb a s r k,J2c];rfl
def V2b (a : XAir) (s : XSetting) (r q : Int) : ∀ k, innerTo (Zn a) (Zbc s) r q k = innerTo a s r q k
 | 0=>by rw [innerTo,innerTo,Ztb,show (Zn a).doors.l.length=a.doors.l.length from yE _];rfl
 | k + 1=>by rw [innerTo,innerTo,V2b a s r q k,K6f];rfl
def Jke (a:XAir) (s:XSetting):Kz (Zn a) (Zbc s)=Kz a s:=by funext r q;rw [Kz,Kz,V2b,show (Zn a).fans.l.length=a.fans.l.length from yE _]
def Khd (l:List XDoor):Jva (l.map Jab)=Jva l:=by
 funext i;rw [Jva,Jva,yr];cases l[i]? with
 | none=>rfl
 | some d=>
  have hp:U8b (l.map Jab) i (Jab d)↔U8b l i d:=by unfold U8b;simp only [yE,Yrb (f:=Jab) (l:=l) (d:=default) (e:=default) rfl];exact Iff.rfl
  simp only [yEa,hp];rfl
def Ywc (l:List XDoor):Vz (l.map Jab)=Vz l:=by rw [Vz,Vz,Khd,yE]
def Z7b (a:XAir):Ky (Zn a)=Ky a:=by have h1:(Zn a).fans.l=a.fans.l.map Jid:=rfl;have h2:(Zn a).doors.l=a.doors.l.map Jab:=rfl;have h3:(Zn a).mine=Ygc a.mine:=rfl;have h4:Ua (Ygc a.mine)=Ua a.mine:=rfl;rw [Ky,Ky,h1,h2,h3,h4,Ywc,yE,yac,yac];rfl
def Uke (a:XAir) (s:XSetting):Una (Zn a) (Zbc s)=Una a s:=by
 have h1:(Zn a).fans.l.length=a.fans.l.length:=yE _;have h2:(Zn a).doors.l.length=a.doors.l.length:=yE _;have h3:Zq (Zn a).doors.l (Zbc s).doors.l=Zq a.doors.l s.doors.l:=by funext i;show Zq (a.doors.l.map Jab) s.doors.l i=_;rw [Zq,Zq,yr];cases s.doors.l[i]? <;> cases a.doors.l[i]? <;> rfl
 rw [Una,Una,h1,h2,h3];rfl
section
variable {a a':XAir} {s s':XSetting}
structure AirE (a a':XAir) (s s':XSetting):Prop where
 mine:a.mine.places.l=a'.mine.places.l∧a.mine.roads.l=a'.mine.roads.l
 inner:Kz a s=Kz a' s'
 err:Ky a=Ky a'
 fit:Una a s=Una a' s'
variable (h:AirE a a' s s')
include h
def AirE.term (F G:(Int→XSpan)→Int→Int):Upa F G a s=Upa F G a' s':=by funext ps v k;rw [Upa,Upa,Ur,Ur,h.inner,h.mine.2]
def AirE.sum (F G : (Int → XSpan) → Int → Int) (ps : List Int) (v : Int) : ∀ k, Zkb F G a s ps v k = Zkb F G a' s' ps v k
 | 0=>rfl
 | k + 1=>by rw [Zkb,Zkb,AirE.sum F G ps v k,h.term]
def AirE.low:K1c a s=K1c a' s':=by funext ps v;rw [K1c,K1c,h.sum,h.mine.2]
def AirE.high:U9a a s=U9a a' s':=by funext ps v;rw [U9a,U9a,h.sum,h.mine.2]
def AirE.test (up:Bool) (l:List Int):Yoc a s up l=Yoc a' s' up l:=by funext v q;rw [Yoc,Yoc];unfold U7f Vpd;rw [h.low,h.high]
def AirE.next (up:Bool):Uaa a s up=Uaa a' s' up:=by funext l k;rw [Uaa,Uaa,h.test]
def AirE.fix (A:List Bool):Yhb a A=Yhb a' A:=by funext k;rw [Yhb,Yhb,h.mine.1]
def AirE.sweep (A : List Bool) (up : Bool) (l : List Int) : ∀ k, Um a s A up l k = Um a' s' A up l k
 | 0=>rfl
 | k + 1=>by rw [Um,Um,AirE.sweep A up l k,h.fix,h.next]
def AirE.rounds (A : List Bool) (up : Bool) : ∀ n l, Vn a s A up n l = Vn a' s' A up n l
 | 0,_=>rfl
 | n + 1,l=>by
  rw [Vn,Vn,h.sweep,h.mine.1]
  cases Um a' s' A up l a'.mine.places.l.length with
  | none=>rfl
  | some m=>dsimp only;rw [AirE.rounds A up n m]
def AirE.start (ps:List Int) (A:List Bool):V2 a s ps A=V2 a' s' ps A:=by
 have e:Y6 a ps A=Y6 a' ps A:=by funext i;rw [Y6,Y6,h.fix]
 rw [V2,V2,h.err,h.fit,h.mine.1,e]
def AirE.relax (A:List Bool) (up:Bool) (ps:List Int):Ug a s A up ps=Ug a' s' A up ps:=by rw [Ug,Ug,h.start,h.rounds]
def AirE.solve (A:List Bool):Yu a s A=Yu a' s' A:=by
 have e:Ug a s A=Ug a' s' A:=by funext up ps;exact h.relax A up ps
 rw [Yu,Yu,e,h.mine.1]
def AirE.check (b:XBounds) (A:List Bool):Y9 a s b A=Y9 a' s' b A:=by
 have e:Vq a s b A=Vq a' s' b A:=by funext i;rw [Vq,Vq,h.low,h.high,h.mine.1]
 rw [Y9,Y9,h.err,h.fit,h.mine.1,e]
def AirE.flows (b:XBounds) (A:List Bool):U7 a s b A=U7 a' s' b A:=by
 have e:Ui a s b A=Ui a' s' b A:=by funext k;rw [Ui,Ui,h.inner,h.mine.2]
 rw [U7,U7,h.check,h.mine.2,e]
def AirE.ana (A:List Bool):Uyb a s A=Uyb a' s' A:=by
 have e:Jea a=Jea a':=by funext k;rw [Jea,Jea,h.mine.2]
 rw [Uyb,Uyb,h.err,h.fit,Yta,Yta,h.solve,h.flows,h.mine.2,e]
end
def AirE.bare (a:XAir) (s:XSetting):AirE (Zn a) a (Zbc s) s:=⟨⟨rfl,rfl⟩,Jke a s,Z7b a,Uke a s⟩
def AirE.symm {a a':XAir} {s s':XSetting} (h:AirE a a' s s'):AirE a' a s' s:=⟨⟨h.mine.1.symm,h.mine.2.symm⟩,h.inner.symm,h.err.symm,h.fit.symm⟩
def AirE.trans {a a' a'':XAir} {s s' s'':XSetting} (h:AirE a a' s s') (k:AirE a' a'' s' s''):AirE a a'' s s'':=⟨⟨h.mine.1.trans k.mine.1,h.mine.2.trans k.mine.2⟩,h.inner.trans k.inner,h.err.trans k.err,h.fit.trans k.fit⟩
def AirE.of {a a':XAir} {s s':XSetting} (h1:Zn a=Zn a') (h2:Kpc s=Kpc s'):AirE a a' s s':=by have e1:=(AirE.bare a s).symm;have e2:=AirE.bare a' s';rw [h1,show Zbc s=Zbc s' from congrArg mkS h2] at e1;exact e1.trans e2
def Vlf (a:XAir) {s s':XSetting} (A:List Bool) (h:Kpc s=Kpc s'):Uyb a s A=Uyb a s' A:=(AirE.of rfl h).ana A
def Ytf (a:XAir) {s s':XSetting} (h:Kpc s=Kpc s'):Una a s=Una a s':=(AirE.of rfl h).fit
def Kmg (a:XAir) (s:XSetting) (A:List Bool):flS a A (Kpc s)=(Uyb a s A).2:=by rw [flS,Vlf a (s:=mkS (Kpc s)) (s':=s) A rfl]
end
section
attribute [local irreducible] CJ LJ DJ Tri YV Gives U5 J2 Kn U6 RV J4 OwL.L
section
variable {A B:Prop}
def Uvd(h:A→B:=by exact Jy zK rfl):=h
def Jof(h:A→B:=by exact K8 zOb rfl rfl):=h
def Vfg(h:A→B:=by exact Jy zC rfl):=h
end
structure XSens where
 address:Int
 kind:Int
 target:Int
 offset:Int
 scale:Int
 error:Int
 drift:Int
 life:Int
 deriving Inhabited
def XSens.cells (s:XSens):List Value:=[.int .i64 s.address,.int .i64 s.kind,.int .i64 s.target,.int .i64 s.offset,.int .i64 s.scale,.int .i64 s.error,.int .i64 s.drift,.int .i64 s.life]
abbrev XSens.val (s:XSens):Value:=.agg #[.int .i64 s.address,.int .i64 s.kind,.int .i64 s.target,.int .i64 s.offset,.int .i64 s.scale,.int .i64 s.error,.int .i64 s.drift,.int .i64 s.life]
structure XMeas where
 sensor:Int
 time:Int
 span:XSpan
 deriving Inhabited
def XMeas.cells (m:XMeas):List Value:=[.int .i64 m.sensor,.int .i64 m.time,.int .i64 m.span.low,.int .i64 m.span.high]
abbrev XMeas.val (m:XMeas):Value:=.agg #[.int .i64 m.sensor,.int .i64 m.time,.int .i64 m.span.low,.int .i64 m.span.high]
abbrev Zbd (x:Arr XSens):Sl:=x.sl 8 XSens.cells []
abbrev Yy (x:Arr XMeas):Sl:=x.sl 4 XMeas.cells []
def Vpa (lo hi:Int) (x:Arr Int) (L:LB) (R:LS) (hx:InR (isl x) R) (hn:x.l.length≤100):
 Tri Tryz.prog 174 [.int .i64 lo,.int .i64 hi,x.val].toArray L R (fun v U J=>v=.bool (decide (∀n∈x.l,lo≤n∧n≤hi))∧L=U∧R=J):=by
 refine Je 24 Tryz.call174 Tryz.func174 rfl rfl rfl ?_;apply Xcc∘qaw∘Xbz;refine Jm [(0,.int _ _),(1,.int _ _),(9,.slice _ _ _),(10,.int _ _),(11,.int _ _)] zh fun tq0=>?_;refine q_s ([6,8]++rg 11 13) (fun g:{k:Nat // k≤x.l.length∧∀n∈x.l.take k,lo≤n∧n≤hi}=>[(11,.int .i64 ((g.1:Nat):Int))]) (fun g=>x.l.length - g.1) (⟨0,by omega,by simp⟩) ?_;rintro ⟨k,hk,hal⟩ junk;try dsimp only
 apply (Xam);refine q_c ?_ ?_<;>intro hc0;·
  have h1:=Jn (l:=x.l) (k:=k) 0 za;apply qbb∘Vfg∘qa7∘Xas∘qaa∘Xav;apply J6 (G:=[_,_,_]) (j:=3) (cj:=18) rfl rfl zb rfl zsb rfl;·intro hg4;replace hg4:=qb hg4;exact (Xbw∘qa5) qai
  intro junk4;apply (qaf);refine q_c ?_ ?_<;>intro hc1;·apply Xcc∘qbt;refine q_b L R ?_;exact ⟨by rw [decide_eq_false (fun h=>by have:=h _ (yi h1);omega)],rfl,rfl⟩
  apply (Xaw);exact Kd (⟨k + 1,by omega,fun n hn=>by
  rw [yha,h1] at hn;simp only [Option.toList_some,yba,yxa] at hn;rcases hn with h | h;·exact hal n h
  ·omega⟩) zm zh zi zLb zx
 apply qbk∘Xbb;refine q_b L R ?_;exact ⟨by rw [decide_eq_true (fun n hn=>by rw [yS za] at hal;exact hal n hn)],rfl,rfl⟩
def Jba (s:XSens):Prop:=(0≤s.address∧s.address≤255)∧0≤s.target∧(-1000000≤s.offset∧s.offset≤1000000)∧(-1000000≤s.scale∧s.scale≤1000000)∧(0≤s.error∧s.error≤1000000)∧(0≤s.drift∧s.drift≤1000000)∧(1≤s.life∧s.life≤1000000)
instance (s:XSens):Decidable (Jba s):=by unfold Jba;infer_instance
def Uv (s:XSens):Int:=if ¬ (1≤s.kind∧s.kind≤6) then 5 else if Jba s then 0 else 1
def Kza (s:XSens) (L:LB) (R:LS):
 Tri Tryz.prog 97 [s.val].toArray L R (fun v U J=>v=.int .i64 (Uv s)∧L=U∧R=J):=by
 refine Je 44 Tryz.call97 Tryz.func97 rfl rfl rfl ?_;apply (Xaf);intro b1;apply (qad);refine Kc (Jb (Jq (Kk (Jq (Jh ?_)))));apply Xaa∘qcx;rintro v U J ⟨b6,rfl,rfl,hR6⟩;replace hR6:=hR6.symm;subst hR6;refine Uga (wd:=1) (len:=1) (cap:=1) (rows:=[Jk s.kind]) (subs:=[]) rfl ze ze (fun r hr=>by rw [List.mem_singleton.1 hr];rfl) ze rfl yg ?_;refine q_l rfl (Vpa 1 6 ⟨some ⟨b6,0,none⟩,1,[s.kind]⟩ _ _ zJb zo) ?_;apply qb4∘Xau;refine q_c ?_ ?_<;>intro hc0;·
  apply (Xbi);refine Kx (U:=L) (J:=R) zBd ?hp ?hL ?hR;case hp=>exact ⟨by simp at hc0;rw [Uv,if_pos za],rfl,rfl⟩
  case hL=>exact zi
  case hR=>exact fun r h=>Ja (by simp [h])
 apply Xcw∘qcx;rintro v U J ⟨b12,rfl,rfl,hR12⟩;replace hR12:=hR12.symm;subst hR12;refine Uga (wd:=1) (len:=1) (cap:=1) (rows:=[Jk s.address]) (subs:=[]) rfl ze ze (fun r hr=>by rw [List.mem_singleton.1 hr];rfl) ze rfl yg ?_;refine q_l rfl (Vpa 0 255 ⟨some ⟨b12,0,none⟩,1,[s.address]⟩ _ _ zJb zo) ?_;apply (Xcq);refine Yl (k:=15) zsb (fun hg6=>?_) (fun hg6=>?_);·
  replace hg6:=qb hg6;iterate 3 refine Jma rfl rfl ?_
  apply Uvd∘qah;·
   skip
   (iterate 7 refine Jma rfl rfl ?_);apply Uvd∘Xau;refine Uf rfl ?_;apply (Xbi);refine Kx (U:=L) (J:=R) zBd ?hp ?hL ?hR;case hp=>exact ⟨by rw [Uv,if_neg zja,if_neg zBa],rfl,rfl⟩
   case hL=>exact zi
   case hR=>exact fun r h=>Ja (by simp [h])
 replace hg6:=qb hg6;refine K8 zEb rfl rfl ?_;apply (Jof);refine K8 zdd rfl rfl ?_;apply Uvd∘qah;refine Yl (k:=20) zsb (fun hg11=>?_) (fun hg11=>?_);·
  replace hg11:=qb hg11;iterate 7 refine Jma rfl rfl ?_
  apply Uvd∘Xau;refine Uf rfl ?_;apply (Xbi);refine Kx (U:=L) (J:=R) zBd ?hp ?hL ?hR;case hp=>exact ⟨by rw [Uv,if_neg zja,if_neg zBa],rfl,rfl⟩
  case hL=>exact zi
  case hR=>exact fun r h=>Ja (by simp [h])
 replace hg11:=qb hg11;refine K8 zEb rfl rfl ?_;apply (Jof);refine K8 zEb rfl rfl ?_;apply (Jof);refine Vwc zCb rfl rfl ?_;rintro v U J ⟨b25,rfl,rfl,hR25⟩;replace hR25:=hR25.symm;subst hR25;refine Uga (wd:=1) (len:=2) (cap:=2) (rows:=[Jk s.offset,Jk s.scale]) (subs:=[]) rfl ze ze (fun r hr=>by simp only [yR,yM,or_false] at hr;rcases hr with rfl | rfl <;> rfl) ze rfl yg ?_;refine Kwa rfl (Vpa (-1000000) 1000000 ⟨some ⟨b25,0,none⟩,2,[s.offset,s.scale]⟩ _ _ zJb zo) rfl rfl ?_;rintro v U J ⟨rfl,rfl,rfl⟩;refine K8 (Ywa rfl) rfl rfl ?_;apply Uvd∘Xau;refine q_c ?_ ?_<;>intro hc1;·
  apply (Xbi);refine Kx (U:=L) (J:=R) zBd ?hp ?hL ?hR;case hp=>exact ⟨by rw [Uv,if_neg zja,if_neg zBa],rfl,rfl⟩
  case hL=>exact zi
  case hR=>exact fun r h=>Ja (by simp [h])
 apply qae∘Xa2;refine Yv zCb rfl ?_;rintro v U J ⟨b34,rfl,rfl,hR34⟩;replace hR34:=hR34.symm;subst hR34;refine Uga (wd:=1) (len:=2) (cap:=2) (rows:=[Jk s.error,Jk s.drift]) (subs:=[]) rfl ze ze (fun r hr=>by simp only [yR,yM,or_false] at hr;rcases hr with rfl | rfl <;> rfl) ze rfl yg ?_;refine q_l rfl (Vpa 0 1000000 ⟨some ⟨b34,0,none⟩,2,[s.error,s.drift]⟩ _ _ zJb zo) ?_;apply (Xcq);refine Yl (k:=37) zsb (fun hg8=>?_) (fun hg8=>?_);·
  replace hg8:=qb hg8;iterate 5 refine Jma rfl rfl ?_
  apply Uvd∘Xau;refine Uf rfl ?_;apply (Xbi);refine Kx (U:=L) (J:=R) zBd ?hp ?hL ?hR;case hp=>exact ⟨by rw [Uv,if_neg zja,if_neg zYa],rfl,rfl⟩
  case hL=>exact zi
  case hR=>exact fun r h=>Ja (by simp [h])
 replace hg8:=qb hg8;refine K8 zEb rfl rfl ?_;apply (Jof);refine Vwc zQb rfl rfl ?_;rintro v U J ⟨b40,rfl,rfl,hR40⟩;replace hR40:=hR40.symm;subst hR40;refine Uga (wd:=1) (len:=1) (cap:=1) (rows:=[Jk s.life]) (subs:=[]) rfl ze ze (fun r hr=>by rw [List.mem_singleton.1 hr];rfl) ze rfl yg ?_;refine Kwa rfl (Vpa 1 1000000 ⟨some ⟨b40,0,none⟩,1,[s.life]⟩ _ _ zJb zo) rfl rfl ?_;rintro v U J ⟨rfl,rfl,rfl⟩;refine K8 (Ywa rfl) rfl rfl ?_;apply Uvd∘Xau;refine q_c ?_ ?_<;>intro hc2;·
  apply (Xbi);refine Kx (U:=L) (J:=R) zBd ?hp ?hL ?hR;case hp=>exact ⟨by rw [Uv,if_neg zja,if_neg zYa],rfl,rfl⟩
  case hL=>exact zi
  case hR=>exact fun r h=>Ja (by simp [h])
 refine J5 (Ji (Jb (Jq (Jh ?_))));apply (Xak);refine Kx (U:=L) (J:=R) zBd ?hp ?hL ?hR;case hp=>exact ⟨by simp at hc0 hg6 hc1 hg8 hc2;rw [Uv,if_neg za,if_pos (by rw [Jba];omega)],rfl,rfl⟩
 case hL=>exact zi
 case hR=>exact fun r h=>Ja (by simp [h])
def Vke (k:Int) (L:LB) (R:LS):
 Tri Tryz.prog 98 [.int .i64 k].toArray L R (fun v U J=>v=.bool (decide (k=4∨k=5∨k=6))∧L=U∧R=J):=by
 refine Je 13 Tryz.call98 Tryz.func98 rfl rfl rfl ?_;apply Xdz∘qaa∘Xcn;apply J6 (G:=[_,_]) (j:=2) (cj:=5) rfl rfl zb rfl zsb rfl;·intro hg3;replace hg3:=qb hg3;exact (qaa) zee
 intro junk3;apply (qah);apply J6 (G:=[_,_]) (j:=6) (cj:=9) rfl rfl zb rfl zsb rfl;·intro hg7;replace hg7:=qb hg7;exact (qaa) zee
 intro junk7;apply (Xbb);refine q_b L R ?_;exact ⟨by refine congrArg Value.bool ?_;rw [yzb];simp;omega,rfl,rfl⟩
def Zud (s:XSens) (m:XMeas) (t:Int):Int:=(s.drift * (t - m.time) + 999).tdiv 1000
def Yxc (s:XSens) (m:XMeas) (t:Int):Prop:=Uv s≠0∨m.sensor < 0∨m.span=nothingS∨t < m.time∨s.life < t - m.time
instance (s:XSens) (m:XMeas) (t:Int):Decidable (Yxc s m t):=by unfold Yxc;infer_instance
def Jxf (s:XSens) (m:XMeas) (t:Int):XSpan:=⟨m.span.low - Zud s m t,m.span.high + Zud s m t⟩
def atS (s:XSens) (m:XMeas) (t:Int):XSpan:=
 if Yxc s m t then nothingS else if s.kind=4∨s.kind=5∨s.kind=6 then m.span
 else if s.kind=1∨s.kind=2 then ⟨max (Jxf s m t).low 0,max (Jxf s m t).high 0⟩ else Jxf s m t
def K9a (m:XMeas):Prop:=(0≤m.time∧m.time≤2147483648)∧(-1125899906842624≤m.span.low∧m.span.low≤1125899906842624)∧(-1125899906842624≤m.span.high∧m.span.high≤1125899906842624)
def Joc {s:XSens} {m:XMeas} {t:Int} (h:¬ Yxc s m t):(0≤s.drift * (t - m.time)∧s.drift * (t - m.time)≤1000000000000)∧0≤Zud s m t∧Zud s m t≤1000000001:=by
 rw [Yxc] at h;have he:Uv s=0:=by omega
 rw [Uv] at he;split at he;·omega
 split at he;·
  rename_i hs;rw [Jba] at hs;have h1:0≤t - m.time∧t - m.time≤1000000:=by omega
  have h2:0≤s.drift∧s.drift≤1000000:=by omega
  have h3:0≤s.drift * (t - m.time):=yT h2.1 h1.1;have h4:s.drift * (t - m.time)≤1000000 * 1000000:=yka h2.2 h1.2 h1.1 ze;refine ⟨⟨h3,by omega⟩,?_⟩;rw [Zud,yda za];omega
 ·omega
def Vtc {a b:XSpan}:a=b↔a.low=b.low∧a.high=b.high:=by cases a;cases b;simp
def Ulf (s:XSens) (m:XMeas) (t:Int) (L:LB) (R:LS) (hm:K9a m) (ht:0≤t∧t≤2147483648):
 Tri Tryz.prog 33 [s.val,m.val,.int .i64 t].toArray L R (fun v U J=>v=(atS s m t).val∧L=U∧R=J):=by
 rw [K9a] at hm;refine Je 83 Tryz.call33 Tryz.func33 rfl rfl rfl ?_;apply (Xaf);intro b3;apply (qax);intro b4;apply (qaq);intro b6;apply (qam);refine q_l rfl (Ud _ _) ?_;apply (qaq);intro b7;apply (Xbe);refine Jy zAb rfl ?_;refine q_l rfl (Kza s _ _) ?_;apply (Xb7);apply J6 (G:=[_,_,_]) (j:=3) (cj:=14) rfl rfl zb rfl zsb rfl;·intro hg4;replace hg4:=qb hg4;exact zYd
 intro junk4;apply (qah);apply J6 (G:=[_,_,_,_]) (j:=8) (cj:=19) rfl rfl zb rfl zsb rfl;·intro hg9;replace hg9:=qb hg9;apply Xc6∘qbe;refine Jy (Jbc Vde rfl rfl) rfl ?_;exact qai
 intro junk9;apply (qah);apply J6 (G:=[_,_,_,_]) (j:=14) (cj:=25) rfl rfl zb rfl zsb rfl;·intro hg15;replace hg15:=qb hg15;exact (qaa) zYd
 intro junk15;apply (qah);apply J6 (G:=[_,_,_,_,_,_,_]) (j:=20) (cj:=31) rfl rfl zb rfl zsb rfl;·intro hg21;replace hg21:=qb hg21;exact (qaa∘Xaa∘qa9) zOd
 intro junk21;apply (qaf);refine q_c ?_ ?_<;>intro hc0;·
  apply qae∘qbe∘Xdp;refine q_r L R zhd ?_;have hgo:Yxc s m t:=by simp [nothingS] at hc0;rw [Yxc,Vtc];simp only [nothingS];omega
  exact ⟨by rw [atS,if_pos hgo];try rfl,rfl,rfl⟩
 have hgo:¬ Yxc s m t:=by simp [nothingS] at hc0;rw [Yxc,Vtc];simp only [nothingS];omega
 obtain ⟨hb1,hb2⟩:=Joc hgo;rw [Zud] at hb2;apply (Xc1);refine q_l rfl (Vke _ _ _) ?_;apply (qaf);refine q_c ?_ ?_<;>intro hc1;·apply qae∘Xc6∘Xdp;refine q_r L R zhd ?_;exact ⟨by rw [atS,if_neg hgo,if_pos zM],rfl,rfl⟩
 apply qbv∘Xah∘Xaa∘qa9∘qcm∘qar∘qdd∘Xag∘qab∘Xd4∘qab∘Xah∘qar∘qcd∘qaq;intro b9;apply Xbe∘Xaa∘Xcn;apply J6 (G:=[_,_,_]) (j:=3) (cj:=69) rfl rfl zb rfl zsb rfl;·exact zRe
 intro junk4;apply (qaf);refine q_c ?_ ?_<;>intro hc2;·apply qay∘Xaa;refine Jy ztc rfl ?_;apply (Xaa);refine Jy ztc rfl ?_;apply Xbm∘Xbm∘qam∘Xc5;refine q_r L R zhd ?_;exact ⟨by rw [atS,if_neg hgo,if_neg zM,if_pos za];try rfl,rfl,rfl⟩
 apply qbv∘Xc5;refine q_r L R zhd ?_;exact ⟨by rw [atS,if_neg hgo,if_neg zM,if_neg za];try rfl,rfl,rfl⟩
def Vsb (l:List XSpan) (z:XSpan) (k:Nat):XSpan:=(l.take k).foldl (fun o x=>⟨max o.low x.low,min o.high x.high⟩) z
def Kud {l:List XSpan} {z:XSpan} {k:Nat} {x:XSpan} (h:l[k]?=some x):Vsb l z (k + 1)=⟨max (Vsb l z k).low x.low,min (Vsb l z k).high x.high⟩:=by rw [Vsb,yha,h,yCa];rfl
def Vra (x y:XSpan):XSpan:=⟨max x.low y.low,min x.high y.high⟩
def Vvd (x y:XSpan):XSpan:=if (Vra x y).high < (Vra x y).low then nothingS else Vra x y
def K2f {x y:XSpan}:Vsb [x,y] x 2=Vra x y:=by simp [Vsb,Vra]
def K3f (x y:XSpan) (p:Arr XSpan) (L:LB) (R:LS) (hp:InR (Yob p) R) (he:p.l=[x,y]):
 Tri Tryz.prog 195 [p.val].toArray L R (fun v U J=>v=.tuple #[(Vvd x y).val,.bool (decide ((Vra x y).low≤(Vra x y).high))]∧L=U∧R=J):=by
 have hpl:p.l.length=2:=by rw [he];rfl
 have hp0:p.l[0]?=some x:=by rw [he];rfl
 refine Je 40 Tryz.call195 Tryz.func195 rfl rfl rfl ?_;apply (Xd9);intro b2;apply Xdv∘Xaq∘Xbu;refine q_c ?_ ?_<;>intro hc0;·apply (qae);refine q_l rfl (Ud _ _) ?_;apply qak∘qaz∘qbh;refine q_r L R (U1 rfl zvb zjd) ?_;exact absurd hc0 za
 apply qbv∘qbm∘qdt∘Xds;intro b4;apply Xbe∘Xbz;refine Jm [(2,.pointer _),(4,.pointer _),(14,.slice _ _ _),(15,.int _ _),(16,.int _ _)] zh fun tq0=>?_;refine q_p ([6]++rg 16 17) ((⟨fun g=>[(16,.int .i64 ((g.1:Nat):Int))],fun g=>⟨b4,(Vsb p.l x g.1).cells,90⟩ :: ⟨b2,[.int .i64 0,.int .i64 0],90⟩ :: L,fun _=>R,fun g=>p.l.length - g.1⟩:Head {g:Nat // g≤p.l.length})) (⟨0,by omega⟩) ?_;rintro ⟨k,hk⟩ junk;try dsimp only
 apply (Xam);refine q_c ?_ ?_<;>intro hc1;·have h1:=Jn (l:=p.l) (k:=k) default za;have hms:=Kud (z:=x) h1;apply qbb∘Vfg∘Xds;intro b6;apply qak∘qaf;refine J7 tb [27,28,29] [0,1,2,3,4,5,6,7,8,9,10] [11,12,13] (_) _ Kq zc zi zS ?_;apply Xaj∘Xaj;refine Kt ztc rfl rfl rfl rfl ?_;apply Xaj∘Xdd;refine Vo (Jsc rfl rfl) rfl rfl rfl rfl ?_;apply qan∘qba∘qb6∘qal∘qb6∘Xde;exact Kd ⟨k + 1,by omega⟩ zm zh (by dsimp only;rw [hms];exact zs3 (zs2 (zs0 _))) zLb zx
 obtain rfl:k=p.l.length:=by omega
 have hmm:Vsb p.l x p.l.length=Vra x y:=by rw [hpl,he];exact K2f
 rw [hmm];apply qcf∘Xa2∘Xcp;refine q_c ?_ ?_<;>intro hc2;·apply (qae);refine q_l rfl (Ud _ _) ?_;apply qak∘qaz∘qbh;refine q_r L R (U1 rfl zvb zjd) ?_;exact ⟨by rw [Vvd,if_pos za,decide_eq_false za],rfl,rfl⟩
 apply qbv∘qbe∘qak∘Xbb;refine q_r L R (U1 rfl zvb zjd) ?_;exact ⟨by rw [Vvd,if_neg za,decide_eq_true za],rfl,rfl⟩
end
end Go.Proofs.YtchfclmokpbldaaGreat
