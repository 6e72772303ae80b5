/-
  Merged texts. By an AI agent.
-/
import Derived.Test.YtchfclmokpbldaaGreatTelF
import Derived.Test.YtchfclmokpbldaaGreatCircS
import Derived.Test.YtchfclmokpbldaaGreatCloneS
import Derived.Test.YtchfclmokpbldaaGreatAwakeP
import Derived.Test.YtchfclmokpbldaaGreatStaG
import Derived.Test.YtchfclmokpbldaaGreatEasy
import Derived.Test.YtchfclmokpbldaaGreatStaE
import Derived.Test.YtchfclmokpbldaaGreatOwn
set_option linter.all false
set_option maxHeartbeats 4000000
set_option maxRecDepth 20000
namespace Go.Proofs.YtchfclmokpbldaaGreat
open Go.Aw Go
section
attribute [local irreducible] CJ LJ DJ Tri YV Gives Uq J2 Kj Ut RV J3 OwL.L
def U2e {a:Int}:a.fdiv (2 ^ (min (8:Int).toNat IntKind.i64.bits))=a / 256:=by show a.fdiv (2 ^ 8)=_;rw [yUa _ ze];rfl
def u8m {a:Int} (h:0≤a∧a < 1048576):IntKind.u8.wrap a=a % 256:=by obtain ⟨n,rfl⟩:∃n:Nat,a=(n:Int):=⟨a.toNat,by omega⟩;unfold IntKind.wrap;simp [IntKind.bits,IntKind.signed]
def u8w {a:Int} (h:0≤a∧a≤255):IntKind.u8.wrap a=a:=by obtain ⟨n,rfl⟩:∃n:Nat,a=(n:Int):=⟨a.toNat,by omega⟩;exact Jhg za
def Tri.lendD {P : Program} {f : FuncId} {args : Array Value} {A : LB} {R : LS} {p : OwL Int} {T : TypeId} {u : Value} (hin : InB (p.L T Z9) A) (hok : p.ok 1 Z9) (h1 : 1 ≤ p.l.length)
 (h:Tri P f args [] (bsl (Zi p.arr 1 1) :: R) (fun v U J=>v=u∧[]=U∧bsl (Zi p.arr 1 1) :: R=J)):Tri P f args A R (fun v U J=>v=u∧A=U∧R=J):=by
 refine Go.Proofs.YtchfclmokpbldaaGreat.Tri.lendU (S:=[bsl (Zi p.arr 1 1)]) (fun w G hh s hs=>?_) h;rw [List.mem_singleton.1 hs];have h0:=Yw hh hin hok yf ze (subs:=[]) yg;have h2:=Y4c h0 (m:=1) ze h1 ze;have e1:p.arr.l.length - 1=(p.arr.l.drop 1).length:=by rw [yV]
 have e2:(p.arr.l.map Z9).drop 1=(p.arr.l.drop 1).map Z9:=by rw [List.map_drop]
 rw [e1,e2] at h2;exact h2
def U2a (f:XTele):Int:=if (f.address < 0∨255 < f.address)∨f.kind < 0∨255 < f.kind then 1 else if 64 < f.data.length then 2 else 0
def Yfc (f:XFrame) (L:LB) (R:LS) (hf:InR (bsl f.data) R) (hb:BytesOk f.data.l):
 Tri Tryz.prog 83 [f.val].toArray L R (fun v U J=>∃q:OwL Int,v=.tuple #[q.val,.int .i64 (U2a f.tele)]∧q.ok 1 Z9∧q.l=(if U2a f.tele=0 then Zc f.tele else [])∧q.L 5 Z9 ++ L=U∧∀r∈R,InR r J):=by
 refine Je 53 Tryz.call83 Tryz.func83 rfl rfl rfl ?_;apply (Xaf);intro b1;apply qc4∘Xar∘Xbm;apply Kf (G:=[_,_,_]) (j:=3) (cj:=9) rfl rfl zb rfl zmb rfl;·exact zpd
 intro junk4;apply (qah);apply Kf (G:=[_,_,_]) (j:=8) (cj:=14) rfl rfl zb rfl zmb rfl;·exact zre
 intro junk9;apply (qah);apply Kf (G:=[_,_,_]) (j:=13) (cj:=19) rfl rfl zb rfl zmb rfl;·exact zte
 intro junk14;apply (qaf);refine q_c ?_ ?_<;>intro hc0;·
  apply qae∘qc4∘Xao;refine K2 (U:=L) (J:=R) zed ?hp ?hL ?hR;case hp=>(have he:U2a f.tele=1:=by rw [U2a,if_pos zga]);exact ubh
  case hL=>exact zi
  case hR=>exact fun r hr=>Ja hr
 apply qbo∘Xab∘Xb6;refine q_c ?_ ?_<;>intro hc1;·
  apply qae∘qc4∘Xao;refine q_r L R zed ?_;have he:U2a f.tele=2:=by rw [U2a,if_neg zga,if_pos zga]
  exact ubh
 apply qbv∘Xab∘qdg∘Xaa∘qdg∘Xaa∘qdg;refine Za (Ju (qs:=[(0,(Value.int _ _).cells.toList),(1,(Value.int _ _).cells.toList),(2,(Value.int _ _).cells.toList),(3,(Value.int _ _).cells.toList)]) (out:=[_,_,_,_]) tb rfl rfl rfl rfl rfl rfl rfl) rfl ?_;rintro v U J ⟨b38,rfl,rfl,hR38⟩;replace hR38:=hR38.symm;subst hR38;apply (Xaa);have e1:IntKind.u8.wrap (f.data.l.length:Int)=f.data.l.length:=u8w za;have e2:IntKind.u8.wrap f.address=f.address:=u8w za;have e3:IntKind.u8.wrap f.kind=f.kind:=u8w za;rw [e1,e2,e3];have hok38:(⟨.own b38 4 [],[126,(f.data.l.length:Int),f.address,f.kind]⟩:OwL Int).ok 1 Z9:=⟨rfl,ym _,by decide,rfl⟩;refine Vkg (show _=(⟨.own b38 4 [],[126,(f.data.l.length:Int),f.address,f.kind]⟩:OwL Int).L 5 Z9 ++ (⟨b1,f.cells,118⟩ :: L) by (simp [OwL.L,Ow.L,Z9,XFrame.cells,Arr.val];rfl)) ?_;refine Za (V7a tb (⟨.own b38 4 [],[126,(f.data.l.length:Int),f.address,f.kind]⟩:OwL Int) f.data rfl rfl rfl ze rfl rfl hok38 hf zj yf (by simp only [yA,yda];omega)) rfl ?_;rintro v U J ⟨o41,rfl,hok41,rfl,rfl⟩;apply (Xc0);have hwl:(⟨o41,[126,(f.data.l.length:Int),f.address,f.kind] ++ f.data.l⟩:OwL Int).l=Zx f.tele:=rfl;have hwb:BytesOk (Zx f.tele):=fun x hx=>by
  rw [← hwl] at hx;simp only [yr,yv,yca] at hx;rcases hx with h | h | h | h | h;·omega
  ·omega
  ·omega
  ·omega
  ·exact hb x h
 have hcr:=Voc (Zx f.tele).tail;rw [Crc] at hcr;apply (Xcj);refine Jw (Ywb (m:=1) (wd:=1) (u:=(⟨o41,[126,(f.data.l.length:Int),f.address,f.kind] ++ f.data.l⟩:OwL Int).arr) tb rfl rfl rfl rfl rfl ze zo rfl) rfl ?_;refine q_l rfl (Tri.lendD zG hok41 zo (Ypb (Zi (⟨o41,[126,(f.data.l.length:Int),f.address,f.kind] ++ f.data.l⟩:OwL Int).arr 1 1) _ _ zFb (fun x hx=>hwb x (ywa hx)))) ?_;apply (Xca);have ecr:(Zi (⟨o41,[126,(f.data.l.length:Int),f.address,f.kind] ++ f.data.l⟩:OwL Int).arr 1 1).l=(Zx f.tele).tail:=List.drop_one;rw [ecr];obtain ⟨cr,hcre⟩:∃cr,cr=Zza (Zx f.tele).tail:=⟨_,rfl⟩;rw [← hcre] at hcr ⊢;have e4:IntKind.u8.wrap (cr / 256)=cr / 256:=u8w za;have e5:IntKind.u8.wrap cr=cr % 256:=u8m za;apply (Xb3);refine Jw (K8b rfl rfl ze U2e) rfl ?_;apply qdg∘qaa∘qdg;refine Za zxb rfl ?_;rintro v U J ⟨b51,rfl,rfl,hR51⟩;replace hR51:=hR51.symm;subst hR51;rw [e4,e5];refine Kwa (wd:=1) (len:=2) (cap:=2) (rows:=[Z9 (cr / 256),Z9 (cr % 256)]) (subs:=[]) rfl ze ze (fun r hr=>by rcases List.mem_cons.1 hr with rfl | hr;rfl;rw [List.mem_singleton.1 hr];rfl) ze rfl yg ?_;have h51:InR (bsl (⟨some ⟨b51,0,none⟩,2,[cr / 256,cr % 256]⟩:Arr Int)) (bsl (⟨some ⟨b51,0,none⟩,2,[cr / 256,cr % 256]⟩:Arr Int) :: R):=Ja (.head _);refine Za (V7a tb (⟨o41,[126,(f.data.l.length:Int),f.address,f.kind] ++ f.data.l⟩:OwL Int) (⟨some ⟨b51,0,none⟩,2,[cr / 256,cr % 256]⟩:Arr Int) rfl rfl rfl ze rfl rfl hok41 h51 zj yf (by simp only [yA,yda,yl];omega)) rfl ?_;rintro v U J ⟨o52,rfl,hok52,rfl,rfl⟩;apply qc4∘Xam;refine q_r ((⟨o52,([126,(f.data.l.length:Int),f.address,f.kind] ++ f.data.l) ++ [cr / 256,cr % 256]⟩:OwL Int).L 5 Z9 ++ L) (bsl (⟨some ⟨b51,0,none⟩,2,[cr / 256,cr % 256]⟩:Arr Int) :: R) zed ?_;have he:U2a f.tele=0:=by rw [U2a,if_neg zga,if_neg zga]
 exact ⟨(⟨o52,([126,(f.data.l.length:Int),f.address,f.kind] ++ f.data.l) ++ [cr / 256,cr % 256]⟩:OwL Int),by rw [he];rfl,hok52,by rw [he,if_pos rfl,hcre];rfl,rfl,fun r hr=>Ja (.tail _ hr)⟩
def Vjf (address raw:Int):XTele:=⟨address,1,[raw / 256,raw % 256]⟩
def V2f (address raw:Int):List Int:=Zc (Vjf address raw)
def V0e {address raw:Int} (ha:0≤address∧address≤255):U2a (Vjf address raw)=0:=by rw [U2a,if_neg (by simp only [Vjf];omega),if_neg (by simp [Vjf])]
def Yvc {f:XTele} (h:U2a f=0) (hb:BytesOk f.data):BytesOk (Zc f):=by
 have hcr:=Voc (Zx f).tail;rw [Crc] at hcr;rw [U2a] at h;split at h;·cases h
 split at h;·cases h
 intro x hx;rw [Zc,Zx] at hx;rw [Zx] at hcr;simp only [yr,yca,yna,yY,or_false] at hx;rcases hx with h | h | h | h | h | h | h;·omega
 ·omega
 ·omega
 ·omega
 ·exact hb x h
 ·omega
 ·omega
def Kic {address raw:Int} (ha:0≤address∧address≤255) (hr:0≤raw∧raw≤65535):BytesOk (V2f address raw):=Yvc (V0e ha) (fun x hx=>by
 simp only [Vjf,yca,yY,or_false] at hx
 rcases hx with h | h <;> omega)
def Yvf (address raw:Int) (L:LB) (R:LS) (ha:0≤address∧address≤255) (hr:0≤raw∧raw≤65535):
 Tri Tryz.prog 19 [.int .i64 address,.int .i64 raw].toArray L R (fun v U J=>∃q:Arr Int,v=q.val∧q.l=V2f address raw∧InR (bsl q) J∧(∀r∈R,InR r J)∧L=U):=by
 refine Je 20 Tryz.call19 Tryz.func19 rfl rfl rfl ?_;apply qae∘Xb8∘Xb4;refine Jw (K8b rfl rfl ze U2e) rfl ?_;apply qdg∘qaa∘qdg;refine Za zxb rfl ?_;rintro v U J ⟨b14,rfl,rfl,hR14⟩;replace hR14:=hR14.symm;subst hR14;have e4:IntKind.u8.wrap (raw / 256)=raw / 256:=u8w za;have e5:IntKind.u8.wrap raw=raw % 256:=u8m za;rw [e4,e5];refine Kwa (wd:=1) (len:=2) (cap:=2) (rows:=[Z9 (raw / 256),Z9 (raw % 256)]) (subs:=[]) rfl ze ze (fun r hr=>by rcases List.mem_cons.1 hr with rfl | hr;rfl;rw [List.mem_singleton.1 hr];rfl) ze rfl yg ?_;refine Jw zIb rfl ?_;refine Jv rfl (Yfc (⟨address,1,⟨some ⟨b14,0,none⟩,2,[raw / 256,raw % 256]⟩⟩:XFrame) _ (bsl (⟨some ⟨b14,0,none⟩,2,[raw / 256,raw % 256]⟩:Arr Int) :: R) zFb (fun x hx=>by
 simp only [yca,yY,or_false] at hx;rcases hx with h | h <;> omega)) rfl ?_
 rintro v U J ⟨q,rfl,hqk,hql,rfl,hR1⟩;refine Jw zRb rfl ?_;apply Xd3∘Xca;have hE:U2a (XFrame.tele ⟨address,1,⟨some ⟨b14,0,none⟩,2,[raw / 256,raw % 256]⟩⟩)=0:=V0e (raw:=raw) ha;rw [if_pos hE] at hql;refine Kp (T:=5) (f:=Z9) (wd:=1) q [] zj yf ze hqk yg ?_;refine U2 zq ?_;apply Xcj∘Xci;refine q_r L (bsl q.arr :: J) zhd ?_;exact ⟨q.arr,rfl,hql,Ja (.head _),fun r hr=>(hR1 r (.tail _ hr)).mono fun r hr=>Ja (.tail _ hr),rfl⟩
end
section
def Y7 (len:Int):XAir:=⟨⟨⟨none,0,[⟨0,true⟩,⟨0,true⟩]⟩,⟨none,0,[Vvb len]⟩⟩,⟨none,0,[]⟩,⟨none,0,[]⟩⟩
def Ywf (ho:Int):XZone:=⟨⟨none,0,[⟨1,0,0,0⟩]⟩,ho,⟨none,0,[0]⟩,1⟩
def Ywe (len dl ho:Int):XSite:=⟨Y7 len,⟨none,0,[easySens]⟩,⟨none,0,[Kbb dl]⟩,⟨none,0,[Ywf ho]⟩,⟨none,0,[1,2]⟩⟩
def Kwe {s:XSite} {len dl ho:Int} (h:EasyD s len dl ho):SiteE s (Ywe len dl ho):=by
 obtain ⟨z,h7,z1,z2,z3,z4⟩:=h.zone;show K1 s=K1 (Ywe len dl ho);rw [K1,Zf,Vpc,h.places,h.roads,h.fans,h.doors,h.sens,h.conds,h7,h.pers];show _=(⟨_,_,_,⟨none,0,[Kob (Ywf ho)]⟩,_⟩:XSite);have e:Kob z=Kob (Ywf ho):=by rw [Kob,z1,z2,z3,z4];rfl
 rw [yI,e];rfl
def Yfb:Ksc (Y7 1) U4=true:=by rfl
def Ure (p:Int):LowIs (Ky (Y7 1) U4 0) p (Ud (Ky (Y7 1) U4 0) p):=
 Ksa (Vrc (Yfb)).1 ⟨by decide,by show (0:Int) < 1;decide⟩ p
def Jhe (p:Int):HighIs (Ky (Y7 1) U4 0) p (K3 (Ky (Y7 1) U4 0) p):=
 Jea (Vrc (Yfb)).1 ⟨by decide,by show (0:Int) < 1;decide⟩ p
def Y1d:Ky (Y7 1) U4 0 300=⟨0,0⟩:=by rfl
def Z2e:Ky (Y7 1) U4 0 301=⟨601,601⟩:=by rfl
def Zme:Ky (Y7 1) U4 0 299=⟨-599,-599⟩:=by rfl
def Z1d:Ud (Ky (Y7 1) U4 0) 0=300:=by
 have h1:=Ure 0;have e0:=Y1d;have e1:=Z2e;generalize Ud (Ky (Y7 1) U4 0) 0=z at *;rcases Int.lt_trichotomy z 300 with h | h | h;·have:=h1.gt 300 h za;rw [e0] at this;dsimp only at this;omega
 ·exact h
 ·have:=h1.le 301 za za;rw [e1] at this;dsimp only at this;omega
def J7d:K3 (Ky (Y7 1) U4 0) 0=300:=by
 have h1:=Jhe 0;have e0:=Y1d;have e1:=Zme;generalize K3 (Ky (Y7 1) U4 0) 0=z at *;rcases Int.lt_trichotomy z 300 with h | h | h;·have:=h1.ge 299 za za;rw [e1] at this;dsimp only at this;omega
 ·exact h
 ·have:=h1.lt 300 za h;rw [e0] at this;dsimp only at this;omega
def Jne:AiryIs (Y7 1).mine [true,true]:=by
 have hs:surf (Y7 1).mine=[true,true]:=rfl;refine ⟨rfl,fun i hi=>?_⟩;rw [hs] at hi ⊢;simp only [yA,yda] at hi ⊢;rcases yk i 1 with h | h;·
  obtain rfl : i = 0 := by omega
  exact ⟨fun _=>⟨0,by decide,rfl,.refl⟩,fun _=>rfl⟩
 ·
  obtain rfl : i = 1 := by omega
  exact ⟨fun _=>⟨1,by decide,rfl,.refl⟩,fun _=>rfl⟩
def Kwd (up:Bool):Um (Y7 1) U4 [true,true] up [0,0] (Y7 1).mine.places.l.length=some [0,0]:=by have h0:V3b (Y7 1) [true,true] 0=true:=rfl;have h1:V3b (Y7 1) [true,true] 1=true:=rfl;show Um (Y7 1) U4 [true,true] up [0,0] (0 + 1 + 1)=_;rw [Um,Um,Um,yJa,if_pos h0,yJa,if_pos h1]
def Upd:StartOk (Y7 1) U4 [0,0] [true,true]:=by
 refine ⟨by rfl,by rfl,rfl,fun p hp=>?_,fun i hi hf=>?_⟩;·simp only [yca, yY, or_false] at hp;omega
 ·
  rcases yk i 1 with h1 | h1;·(obtain rfl : i = 0 := by omega);rfl
  ·(obtain rfl : i = 1 := by have : i < 2 := hi; omega);rfl
def Jsb (up:Bool):Ug (Y7 1) U4 [true,true] up [0,0]=(0,[0,0]):=by have r:Vi (Y7 1) U4 [true,true] up 200 [0,0]=some [0,0]:=Zkb (n:=199) (Kwd up);rw [Ug,if_neg (by rw [Uia.2 (Upd)];decide),r]
def Zfb:Yl (Y7 1) U4 [true,true]=(0,[0,0],[0,0]):=by have h0:List.replicate (Y7 1).mine.places.l.length (0:Int)=[0,0]:=rfl;rw [Yl,h0,Jsb];dsimp only;rw [if_neg ze,Jsb,if_neg ze,Jsb,if_neg ze]
abbrev U1e:XBounds:=⟨⟨none,0,[0,0]⟩,⟨none,0,[0,0]⟩⟩
def Ufd:Y4 (Y7 1) U4 U1e [true,true]=0:=by
 refine Koc.2 ⟨⟨by rfl,by rfl,rfl,rfl,fun p hp=>?_,fun p hp=>?_⟩,fun i hi hf=>?_,fun i hi hf=>?_⟩;·simp only [yca, yY, or_false] at hp;omega
 ·simp only [yca, yY, or_false] at hp;omega
 ·
  rcases yk i 1 with h | h;·(obtain rfl : i = 0 := by omega);exact ⟨rfl,rfl⟩
  ·(obtain rfl : i = 1 := by have : i < 2 := hi; omega);exact ⟨rfl,rfl⟩
 ·
  rcases yk i 1 with h | h;·(obtain rfl : i = 0 := by omega);exact absurd rfl hf
  ·(obtain rfl : i = 1 := by have : i < 2 := hi; omega);exact absurd rfl hf
def Kue:K3b (Y7 1) U4 [true,true]=(0,[⟨300,300⟩]):=by
 have h1:Kx (Y7 1)=0:=by rfl
 have h2:Uka (Y7 1) U4=true:=by rfl
 have h3:Yda (Y7 1) U4 [true,true]=U1e:=by rw [Yda,Zfb]
 rw [K3b,if_neg (by rw [h1];decide),if_neg (by rw [h2];decide),Zfb,if_pos rfl,h3,U5,if_pos (Ufd)];have h4:Ua (Y7 1) U4 U1e [true,true] 0=⟨300,300⟩:=by have e:Ua (Y7 1) U4 U1e [true,true] 0=⟨Ud (Ky (Y7 1) U4 0) 0,K3 (Ky (Y7 1) U4 0) 0⟩:=rfl;rw [e,Z1d,J7d]
 show (0,[Ua (Y7 1) U4 U1e [true,true] 0])=_;rw [h4]
abbrev easyG:PSite:=⟨Ywe 1 1 1,[0],3,[true,true]⟩
abbrev Uma:List XSpan:=[⟨300,300⟩]
def Yrd {n : Nat} {lost : XSpan} {t : Int} {l : List XSens} (h : ∀ i : Nat, (l.getD i default).kind ≠ 3) : ∀ (m : List XMeas) (st : NarSt), m.foldl (Zn n 3 lost t l) st = st
 | [],_=>rfl
 | x :: m,st=>by
  rw [List.foldl_cons,Zn,if_pos (fun k=>h _ k.1.2.1)]
  exact Yrd h m st
def Z2d : ∀ i : Nat, (([easySens] : List XSens).getD i default).kind ≠ 3
 | 0=>by decide
 | k + 1=>by show (0:Int)≠3;decide
def Vac (p:PSta):flP easyG p=Uma:=by have h1:Yme easyG.site p.meas p.time=([],[]):=rfl;have h2:easyG.site.sensors.l=[easySens]:=rfl;have h3:flS easyG.site.air easyG.air ([],[])=Uma:=congrArg Prod.snd Kue;rw [flP,Yga,Ycc,Jcc,h1,h2,h3,Yrd Z2d]
def Y2 (p0:PSta) (t:Int):PSta:=
 let p:={ p0 with time:=t }
 let v:=valuesV easyG.site p.meas p.watches Uma t
 let q:=settleB easyG (Kqb easyG { p with watches:=valuesW easyG.site p.meas p.watches Uma t,cuts:=cutsC easyG.site v p.cuts t } (cutsN easyG.site v p.cuts t))
 darkTo easyG v q q.cuts.length
def Jra (p:PSta) (t:Int):Jk easyG p t=Y2 p t:=by rw [Jk,settleA,Yxb,Vac];rfl
def Jde:XTele:=Vjf 0 9
def Zpb (t:Int) (p:PSta):PSta:=Y2 { p with meas:=Yha [easySens] t p.meas Jde } t
def Kie {p:PSta} {t:Int} (h1:p.held=[]) (h2:p.dropped=0) (hl:¬ Jda p t):Jtc easyG p (V2f 0 9) t=(Zpb t p,0):=by
 have e:Vc (p.held ++ V2f 0 9) p.dropped=⟨[],0,[Jde]⟩:=by have:=Z5d (f:=Vjf 0 9) ze [] 0;rw [yaa,Y1a] at this;rw [h1,h2];exact this
 have e2:({ p with held:=[],dropped:=0,meas:=Yha [easySens] t p.meas Jde }:PSta)={ p with meas:=Yha [easySens] t p.meas Jde }:=by cases p;dsimp only at h1 h2;subst h1;subst h2;rfl
 rw [Jtc,if_neg hl,Jra,feedR,e,Zpb];show (Y2 { p with held:=[],dropped:=0,meas:=Yha [easySens] t p.meas Jde } t,(0:Int))=_;rw [e2]
def Koa : Nat → PSta
 | 0=>pAw 0
 | k + 1=>Zpb (1 + 6 * (k:Int)) (Koa k)
def easyQ:PSta:=Y2 { Koa 10 with sw:=Jsa (Koa 10).sw 0 (-1) } 60
def easyQ2:PSta:=Y2 easyQ 61
def easyQ3:PSta:=Jma { easyQ2 with rest:=askR easyG.site easyQ2.cuts Uma easyQ2.rest 0 0 61 } 4 0 0
def easyQ4:PSta:=Y2 easyQ3 62
def easyQ5:PSta:=Jma { easyQ4 with rest:=confirmR easyG.site easyQ4.cuts Uma easyQ4.rest 1 62 } 5 easyQ4.rest.zone 1
def easyQ6:PSta:=Y2 easyQ5 63
def Y0f:Ya (Koa 10).sw [0] 3 0 (-1)=0:=by kernel_rfl
def V0f:askE easyG.site easyQ2.cuts Uma easyQ2.rest 0 0 61=0:=by kernel_rfl
def V7f:confirmE easyG.site easyQ4.cuts Uma easyQ4.rest 1 62=0:=by kernel_rfl
def Uuf:Vt easyG.site easyQ6.cuts Uma easyQ6.rest (mkF easyG easyQ6) 63=0:=by kernel_rfl
def easyC:List XCut:=Kca easyG.site easyQ6.cuts Uma easyQ6.rest (mkF easyG easyQ6) 63
def easySw:List XSwitch:=Zj easyG.site easyQ6.cuts Uma easyQ6.rest (mkF easyG easyQ6) 63
def Uie:easyC.length=1∧(easyC.getD 0 default).off=false:=⟨by kernel_rfl,by kernel_rfl⟩
def Vse:easySw.length=1∧(easySw.getD 0 default).closed=true:=⟨by kernel_rfl,by kernel_rfl⟩
def Vua : ∀ k, (Koa k).held = [] ∧ (Koa k).dropped = 0
 | 0=>⟨rfl,rfl⟩
 | k + 1=>by
  have h:=Vua k
  rw [Koa,Zpb,← Jra]
  have e:=U6d (g:=easyG) (p:={ Koa k with meas:=Yha [easySens] (1 + 6 * (k:Int)) (Koa k).meas Jde }) (1 + 6 * (k:Int))
  exact ⟨e.held.trans h.1,e.dropped.trans h.2⟩
def Kkc : ∀ k : Nat, (Koa k).time ≤ 6 * (k : Int) ∧ 0 ≤ (Koa k).time
 | 0=>⟨by decide,by decide⟩
 | k + 1=>by
  rw [Koa,Zpb,← Jra,V6a]
  omega
def Y5c (k:Nat) (hk:k < 100):Jtc easyG (Koa k) (V2f 0 9) (1 + 6 * (k:Int))=(Koa (k + 1),0):=by have ht:=Kkc k;exact Kie (Vua k).1 (Vua k).2 (by rw [Jda];omega)
def Vcb:K7a easyG (Koa 10) 0 (-1) 60=(easyQ,0):=by have ht:=Kkc 10;rw [K7a,if_neg (by rw [Jda];omega),if_neg (by rw [show Ya (Koa 10).sw easyG.zn easyG.rp 0 (-1)=0 from Y0f];decide),Jra];rfl
def J1e:easyQ.time=60:=by rw [easyQ,← Jra,V6a]
def Ydc:U3e easyG easyQ 0 0 61=(easyQ3,0):=by rw [U3e,if_neg (by rw [Jda,J1e];decide)];dsimp only;rw [Jra,Vac,show askE easyG.site (Y2 easyQ 61).cuts Uma (Y2 easyQ 61).rest 0 0 61=0 from V0f,if_neg ze];rfl
def Vdd:easyQ3.time=61:=by show (Y2 easyQ 61).time=61;rw [← Jra,V6a]
def J4b:Zv easyG easyQ3 1 62=(easyQ5,0):=by rw [Zv,if_neg (by rw [Jda,Vdd];decide)];dsimp only;rw [Jra,Vac,show confirmE easyG.site (Y2 easyQ3 62).cuts Uma (Y2 easyQ3 62).rest 1 62=0 from V7f,if_neg ze];rfl
def J4d:easyQ5.time=62:=by show (Y2 easyQ3 62).time=62;rw [← Jra,V6a]
def K9d:(Yya easyG easyQ5 63).2=0∧(Yya easyG easyQ5 63).1.cuts=easyC∧(Yya easyG easyQ5 63).1.sw=easySw:=by rw [Yya,if_neg (by rw [Jda,J4d];decide)];dsimp only;rw [Jra,Vac,show Vt easyG.site (Y2 easyQ5 63).cuts Uma (Y2 easyQ5 63).rest (mkF easyG (Y2 easyQ5 63)) 63=0 from Uuf,if_neg ze];exact zDd
end
section
attribute [local irreducible] CJ LJ DJ Tri YV Gives Uq J2 Kj Ut RV J3 OwL.L
structure EasyN (f:XFeeder) (n:Nat):Prop where
 rng:1≤n∧n≤3
 sw:f.switches.l=Jab n
 zn:f.zones.l=[(n:Int) - 1]
 rp:f.reply=3
def Vne (c:Nat) (x:Arr Int) (k:Nat) (R:LS) (hx:CodesR x R) (hk:k≤x.l.length):
 Tri Tryz.prog 15 [.pointer (some ⟨c, 0, none⟩)].toArray [cblk c x k] R
  (fun v U J=>∃(s:XSite) (len dl ho:Int) (f:XFeeder) (n k':Nat),v=.tuple #[s.val,f.val]∧EasyD s len dl ho∧EasyN f n∧(k'≤x.l.length∧(x.l.length≤k→len=1∧dl=1∧ho=1∧n=1∧k'=k))∧(SiteR s J∧FeederR f J∧∀r∈R,InR r J)∧cblk c x k' :: []=U):=by refine Tri.postW (Z6c c x k R hx hk) ?_;rintro v U J c w ⟨s,len,dl,ho,sw,zn,n,k',rfl,hE,⟨hsk,hzk⟩,hn,hsl,hzl,hk',⟨hs,hR⟩,rfl⟩ hst;have h1:=hst.frzO (subs:=[]) hsk yf ze yg;have h2:=h1.frzO (subs:=[]) hzk yf ze yg;have h3:∀r∈J,InR r (isl zn.arr :: Zeb sw.arr :: J):=fun r hr=>Ja (.tail _ (.tail _ hr));exact ⟨_,_,h2,s,len,dl,ho,⟨sw.arr,zn.arr,3⟩,n,k',rfl,hE,⟨hn,hsl,hzl,rfl⟩,hk',⟨hs.mono h3,⟨Ja (.tail _ (.head _)),Ja (.head _)⟩,fun r hr=>(hR r hr).mono h3⟩,rfl⟩
end
section
section
variable {A B:Prop}
def Khf(h:A→B:=by exact Jw zub rfl):=h
end
abbrev Jog:XFeeder:=⟨⟨none,0,Jab 1⟩,⟨none,0,[0]⟩,3⟩
attribute [local irreducible] Y2 Koa easyQ easyQ3 easyQ5
def Zmd:Inv easyG (pAw 0):=Yhd (s:=Ywe 1 1 1) (f:=Jog) (A:=[true,true]) zc Jne
def Kpb : ∀ k, k ≤ 100 → Inv easyG (Koa k)
 | 0,_=>by rw [Koa];exact Zmd
 | k + 1,h=>by
  have e:=congrArg Prod.fst (Y5c k za)
  have:=(Kpb k za).feed (b:=V2f 0 9) (Kic ⟨by decide,by decide⟩ ⟨by decide,by decide⟩) (1 + 6 * (k:Int))
  rw [e] at this;exact this
def easyQ_inv:Inv easyG easyQ:=by have:=(Kpb 10 ze).answer 0 (-1) 60;rw [Vcb] at this;exact this
def easyQ3_inv:Inv easyG easyQ3:=by have:=easyQ_inv.ask 0 0 61;rw [Ydc] at this;exact this
def Zed:Inv easyG easyQ5:=by have:=easyQ3_inv.confirm 1 62;rw [J4b] at this;exact this
attribute [local irreducible] CJ LJ DJ Tri YV Gives Uq J2 Kj Ut RV J3 OwL.L
def Y9c (L:LB) (R:LS):Tri Tryz.prog 29 ([]:List Value).toArray L R (fun v U J=>v=.bool true∧L=U∧R=J):=by
 refine Je 81 Tryz.call29 Tryz.func29 rfl rfl rfl ?_;apply Xbt∘qa4;refine Kqe 1 ?_;apply (qay);refine Jv rfl (Vye ⟨none,0,[]⟩ _ _ ⟨Ja (.head _),fun i q hq=>by simp at hq⟩) rfl ?_;rintro v U J ⟨c,rfl,hx,rfl,rfl⟩;refine Jv rfl (Tri.spl (.consL .rest) (Vne c _ 0 _ hx (yS _))) rfl ?_;rintro v U J ⟨_,rfl,s,len,dl,ho,f,n,k1,rfl,hE,hN,⟨hk1,he0⟩,⟨hs,hf,hR0⟩,rfl⟩;refine Jw zRb rfl ?_;apply Xba∘qaq;intro b1;apply (qaq);intro b2;apply qak∘Xcp;obtain ⟨rfl,rfl,rfl,rfl,_⟩:=he0 (yS _);have hRR:∀r∈R,InR r J:=fun r hr=>hR0 r (.tail _ (.tail _ hr));obtain ⟨A,hA⟩:=K4e s.air.mine;refine Vv (U:=⟨b2,f.cells,42⟩ :: ⟨b1,s.cells,38⟩ :: L) (yGa _ _) zAb ?_;have h0:=Jae (f:=f) hE hN.rng hN.sw hN.zn hN.rp;have hI:=Yhd (A:=A) h0 hA;apply (qay);refine Jw zvb rfl ?_;refine Jw zrb rfl ?_;refine Jv rfl (U7d s f A _ _ hs hf hA) rfl ?_;rintro v U J ⟨x,S1,rfl,hxR,hx0,_,rfl,rfl⟩;rw [h0];have hx:=hx0 h0;rw [Zyd hE hN.sw] at hx;have hxG:StaIs easyG (Koa 0) x:=by rw [Koa];exact { hx with site:=hx.site.trans (Kwe hE),zn:=hx.zn.trans hN.zn,rp:=hx.rp.trans hN.rp }
 refine Jw zRb rfl ?_;apply Xba∘qaq;intro b3;apply qak∘Xc5∘Xat;refine q_c ?_ ?_<;>intro hc0;·
  apply Xbt∘qbh;refine K2 (U:=L) (J:=R) (Vs rfl zTc) ?hp ?hL ?hR;case hp=>exact absurd hc0 zo
  case hL=>exact zi
  case hR=>exact fun r hr=>(hRR r hr).mono fun r hr=>Ja (yj _ hr)
 apply qbo∘Xbq;refine Jm [(3,.pointer _),(5,.int _ _)] zh fun tq0=>?_;refine q_p ([5]++rg 19 11) ((⟨fun g=>[(5,.int .i64 (1 + 6 * ((g.1.1:Nat):Int)))],fun g=>⟨b3,g.1.2.1.cells,54⟩ :: L,fun g=>g.1.2.2,fun g=>10 - g.1.1⟩:Head {g:Nat×XSta×LS // g.1≤10∧StaIs easyG (Koa g.1) g.2.1∧StaR g.2.1 g.2.2∧∀r∈R,InR r g.2.2})) (⟨(0,x,S1 ++ J),by dsimp only;omega,hxG,hxR,fun r hr=>(hRR r hr).mono fun r hr=>Ja (yj _ hr)⟩) ?_;rintro ⟨⟨k,u,S⟩,hk,hu,huR,hsub⟩ junk;try dsimp only
 dsimp only at hk hu huR hsub;apply Xa6∘Xbd;refine q_c ?_ ?_<;>intro hc1;·have hIk:=Kpb k za;have hst:=Y5c k za;have hpf:=Vua k;refine J5 (Jb (Jq (Ki ?_)));refine J7 tb [29] [0,2,1,3,4,5,6] [7] ([Blk.mk b3 _ _]) _ Ko zc zi (by (repeat (first | apply List.Sublist.cons (a:=Blk.mk b3 _ _) | apply List.Sublist.cons_cons));exact yt _) ?_;refine Ku zub rfl rfl rfl rfl ?_;apply (qbf);refine K7 rfl (Yvf 0 9 _ _ ⟨by decide,by decide⟩ ⟨by decide,by decide⟩) rfl rfl ?_;rintro v U J ⟨q,rfl,hql,hqR,hSR,rfl⟩;refine ⟨zi,zt,?_⟩;refine K7 rfl (Uxd easyG (Koa k) u q (1 + 6 * (k:Int)) _ _ hIk hu (huR.mono hSR) hqR (by rw [hql];exact Kic ⟨by decide,by decide⟩ ⟨by decide,by decide⟩) (by rw [hql,V2f,Uib];show (2:Nat) + 6≤_;decide) (by rw [hpf.2];decide)) rfl rfl ?_;rintro v U J ⟨w,S3,rfl,hw,hwR,rfl,rfl⟩;refine ⟨zi,zt,?_⟩;rw [hql,hst] at hw;refine Ku zRb rfl rfl rfl rfl ?_;refine Ku zXb rfl rfl rfl rfl ?_;refine Vd zXb rfl rfl rfl rfl ?_;apply Xcs∘qby∘Xbw;exact q_k ⟨(k + 1,w,_),by dsimp only;omega,hw,hwR,fun r hr=>((hsub r hr).mono hSR).mono fun r hr=>Ja (yj _ hr)⟩
 obtain rfl:k=10:=by omega
 apply qbk∘Khf;refine Jv rfl (Vzc easyG (Koa 10) u 0 (-1) 60 _ _ (Kpb 10 ze) hu huR) rfl ?_;rintro v U J ⟨w1,Sa,rfl,hw1,hw1R,rfl,rfl⟩;rw [Vcb] at hw1;refine Jw zRb rfl ?_;apply Xba∘Xaz∘Khf;refine Jv rfl (Zcd easyG easyQ w1 0 0 61 _ _ easyQ_inv hw1 hw1R) rfl ?_;rintro v U J ⟨w2,Sb,rfl,hw2,hw2R,rfl,rfl⟩;rw [Ydc] at hw2;refine Jw zRb rfl ?_;apply Xba∘Xaz∘Khf;refine Jv rfl (Jsc easyG easyQ3 w2 1 62 _ _ easyQ3_inv hw2 hw2R) rfl ?_;rintro v U J ⟨w3,Sc,rfl,hw3,hw3R,rfl,rfl⟩;rw [J4b] at hw3;refine Jw zRb rfl ?_;apply Xba∘Xaz∘Khf;refine Jv rfl (Zzc easyG easyQ5 w3 63 _ _ Zed hw3 hw3R) rfl ?_;rintro v U J ⟨w4,Sd,rfl,hw4,hw4R,rfl,rfl⟩;refine Jw zRb rfl ?_;apply Xba∘qak∘Xca;obtain ⟨e1,e2,e3⟩:=K9d;rw [e1];have hcl:w4.cuts.l=easyC:=hw4.cuts.trans e2;have hsl:w4.feeder.switches.l=easySw:=hw4.sw.trans e3;have hcn:w4.cuts.l.length=1:=by rw [hcl];exact Uie.1
 have hsn:w4.feeder.switches.l.length=1:=by rw [hsl];exact Vse.1
 have hcg:=Jp (l:=w4.cuts.l) (k:=0) default za;have hsg:=Jp (l:=w4.feeder.switches.l) (k:=0) default za;have hco:(w4.cuts.l.getD 0 default).off=false:=by rw [hcl];exact Uie.2
 have hso:(w4.feeder.switches.l.getD 0 default).closed=true:=by rw [hsl];exact Vse.2
 obtain ⟨cc,hce⟩:∃cc,cc=w4.cuts.l.getD 0 default:=⟨_,rfl⟩;obtain ⟨ss,hse⟩:∃ss,ss=w4.feeder.switches.l.getD 0 default:=⟨_,rfl⟩;rw [← hce] at hcg hco;rw [← hse] at hsg hso;have hcR:=hw4R.cuts;have hsR:=hw4R.feeder.sw;apply Xa5∘Xcl;apply Ui (G:=[_,_,_,_]) (j:=2) (cj:=52) rfl rfl zb rfl zmb rfl;·intro hg3;replace hg3:=qb hg3;exact (Xab) zLd
 intro junk3;apply (qah);apply Ui (G:=[_,_,_,_,_,_]) (j:=8) (cj:=58) rfl rfl zb rfl zmb rfl;·intro hg9;replace hg9:=qb hg9;exact (Xaa∘qdt∘Xbc) zNd
 intro junk9;apply (qah);apply Ui (G:=[_,_,_,_,_]) (j:=16) (cj:=66) rfl rfl zb rfl zmb rfl;·intro hg17;replace hg17:=qb hg17;exact (Xce) zLd
 intro junk17;apply (qah);apply Ui (G:=[_,_,_,_,_,_]) (j:=23) (cj:=73) rfl rfl zb rfl zmb rfl;·intro hg24;replace hg24:=qb hg24;exact (Xdc∘qdt∘Xbc) qai
 intro junk24;apply (Xbs);refine K2 (U:=L) (J:=R) (Vs rfl zTc) ?hp ?hL ?hR;case hp=>exact ⟨by simp [hco,hso,hcn,hsn],rfl,rfl⟩
 case hL=>exact zi
 case hR=>exact fun r hr=>(hsub r hr).mono fun r hr=>Ja zI
end
end Go.Proofs.YtchfclmokpbldaaGreat
section
/-
  A call that makes a block of its caller read-only. No program is named here. By an AI agent; no person has read it.
-/
namespace Go.Aw
open Go
def Tri.frz {P : Program} {f : FuncId} {args : Array Value} {L : LB} {R : LS} {Post : Ys} {b : Nat} {cs : List Value} {T : TypeId} {wd len cap : Nat} {rows : List (List Value)} {subs : LS}
 (hl:rows.length=len) (hc:len≤cap) (hm:cap < 9223372036854775808) (hw:∀r∈rows,r.length=wd) (hp:0 < wd) (hcs:cs.take (len * wd)=rows.flatten) (hsub:∀s∈subs,InR s R)
 (h:Tri P f args L (.mk wd (some ⟨b,0,none⟩) len cap rows subs :: R) Post):Tri P f args (⟨b,cs,T⟩ :: L) R Post:=by refine ⟨h.1,fun w G hh=>?_⟩;have s:=(St.init hh).frz hl hc hm hw hp hcs hsub;obtain ⟨G',hh',hg⟩:=s.G;exact (h.2 w G' hh').mono fun e w' ⟨v,U,J,he,hpost,hst⟩=>⟨v,U,J,he,hpost,St.trans s hg hst⟩
end Go.Aw
end
namespace Go.Proofs.YtchfclmokpbldaaGreat
open Go.Aw Go
end Go.Proofs.YtchfclmokpbldaaGreat
