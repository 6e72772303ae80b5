/-
  Merged texts. By an AI agent.
-/
import Derived.Test.YtchfclmokpbldaaGreatTelF
import Derived.Test.YtchfclmokpbldaaGreatMadeB
import Derived.Test.YtchfclmokpbldaaGreatCloneS
import Derived.Test.YtchfclmokpbldaaGreatCongrS
import Derived.Test.YtchfclmokpbldaaGreatAwakeP
import Derived.Test.YtchfclmokpbldaaGreatStaG
import Derived.Test.YtchfclmokpbldaaGreatEasy
import Derived.Test.YtchfclmokpbldaaGreatStaE
import Derived.Test.YtchfclmokpbldaaGreatRuleP
set_option linter.all false
set_option maxHeartbeats 4000000
set_option maxRecDepth 20000
namespace Go.Proofs.YtchfclmokpbldaaGreat
open Go.Aw Go
section
attribute [local irreducible] CJ LJ DJ Tri YV Gives U0 J3 Kj Uz RV J5 OwL.L
def Vne {a:Int}:a.fdiv (2 ^ (min (8:Int).toNat IntKind.i64.bits))=a / 256:=by show a.fdiv (2 ^ 8)=_;rw [yOa _ ze];rfl
def u8m {a:Int} (h:0≤a∧a < 1048576):IntKind.u8.wrap a=a % 256:=by obtain ⟨n,rfl⟩:∃n:Nat,a=(n:Int):=⟨a.toNat,by omega⟩;unfold IntKind.wrap;simp [IntKind.bits,IntKind.signed]
def u8w {a:Int} (h:0≤a∧a≤255):IntKind.u8.wrap a=a:=by obtain ⟨n,rfl⟩:∃n:Nat,a=(n:Int):=⟨a.toNat,by omega⟩;exact Zqf za
def Tri.lendD {P : Program} {f : FuncId} {args : Array Value} {A : LB} {R : LS} {p : OwL Int} {T : TypeId} {u : Value} (hin : InB (p.L T Jea) A) (hok : p.ok 1 Jea) (h1 : 1 ≤ p.l.length)
 (h:Tri P f args [] (bsl (Ze p.arr 1 1) :: R) (fun v M U=>v=u∧[]=M∧bsl (Ze p.arr 1 1) :: R=U)):Tri P f args A R (fun v M U=>v=u∧A=M∧R=U):=by
 refine Go.Proofs.YtchfclmokpbldaaGreat.Tri.lendU (S:=[bsl (Ze p.arr 1 1)]) (fun w G hh s hs=>?_) h;rw [List.mem_singleton.1 hs];have h0:=Jtb hh hin hok yf ze (subs:=[]) yg;have h2:=Y1c h0 (m:=1) ze h1 ze;have e1:p.arr.l.length - 1=(p.arr.l.drop 1).length:=by rw [yP]
 have e2:(p.arr.l.map Jea).drop 1=(p.arr.l.drop 1).map Jea:=by rw [List.map_drop]
 rw [e1,e2] at h2;exact h2
def Uya (f:XTele):Int:=if (f.address < 0∨255 < f.address)∨f.kind < 0∨255 < f.kind then 1 else if 64 < f.data.length then 2 else 0
def Ztc (f:XFrame) (L:LB) (R:LS) (hf:InR (bsl f.data) R) (hb:BytesOk f.data.l):
 Tri Tryz.prog 83 [f.val].toArray L R (fun v M U=>∃q:OwL Int,v=.tuple #[q.val,.int .i64 (Uya f.tele)]∧q.ok 1 Jea∧q.l=(if Uya f.tele=0 then Za f.tele else [])∧q.L 5 Jea ++ L=M∧∀r∈R,InR r U):=by
 refine Jj 53 Tryz.call83 Tryz.func83 rfl rfl rfl ?_;apply (Xaf);intro b1;apply qc4∘Xap∘Xbc;apply J9 (G:=[_,_,_]) (j:=3) (cj:=9) rfl rfl zb rfl zfb rfl;·exact zcd
 intro junk4;apply (qah);apply J9 (G:=[_,_,_]) (j:=8) (cj:=14) rfl rfl zb rfl zfb rfl;·exact zee
 intro junk9;apply (qah);apply J9 (G:=[_,_,_]) (j:=13) (cj:=19) rfl rfl zb rfl zfb rfl;·exact zDd
 intro junk14;apply (qaf);refine q_c ?_ ?_<;>intro hc0;·
  apply Xck∘Xai;refine Kq (M:=L) (U:=R) zRc ?hp ?hL ?hR;case hp=>(have he:Uya f.tele=1:=by rw [Uya,if_pos zca]);exact ubb
  case hL=>exact zi
  case hR=>exact fun r hr=>Ja hr
 apply qbo∘Xcp∘qaf;refine q_c ?_ ?_<;>intro hc1;·
  apply Xck∘Xai;refine q_r L R zRc ?_;have he:Uya f.tele=2:=by rw [Uya,if_neg zca,if_pos zca]
  exact ubb
 apply qbv∘Xab∘qdg∘Xaa∘qdg∘Xaa∘qdg;refine Jqa (J0 (qs:=[(0,(Value.int _ _).cells.toList),(1,(Value.int _ _).cells.toList),(2,(Value.int _ _).cells.toList),(3,(Value.int _ _).cells.toList)]) (out:=[_,_,_,_]) tb rfl rfl rfl rfl rfl rfl rfl) rfl ?_;rintro v M U ⟨b38,rfl,rfl,hR38⟩;replace hR38:=hR38.symm;subst hR38;apply (Xaa);have e1:IntKind.u8.wrap (f.data.l.length:Int)=f.data.l.length:=u8w za;have e2:IntKind.u8.wrap f.address=f.address:=u8w za;have e3:IntKind.u8.wrap f.kind=f.kind:=u8w za;rw [e1,e2,e3];have hok38:(⟨.own b38 4 [],[126,(f.data.l.length:Int),f.address,f.kind]⟩:OwL Int).ok 1 Jea:=⟨rfl,yl _,by decide,rfl⟩;refine Kgg (show _=(⟨.own b38 4 [],[126,(f.data.l.length:Int),f.address,f.kind]⟩:OwL Int).L 5 Jea ++ (⟨b1,f.cells,118⟩ :: L) by (simp [OwL.L,Ow.L,Jea,XFrame.cells,Arr.val];rfl)) ?_;refine Jqa (Vsa tb (⟨.own b38 4 [],[126,(f.data.l.length:Int),f.address,f.kind]⟩:OwL Int) f.data rfl rfl rfl ze rfl rfl hok38 hf zj yf (by simp only [yw,yea];omega)) rfl ?_;rintro v M U ⟨o41,rfl,hok41,rfl,rfl⟩;apply (Xcx);have hwl:(⟨o41,[126,(f.data.l.length:Int),f.address,f.kind] ++ f.data.l⟩:OwL Int).l=Zv f.tele:=rfl;have hwb:BytesOk (Zv f.tele):=fun x hx=>by
  rw [← hwl] at hx;simp only [yp,yv,yaa] at hx;rcases hx with h | h | h | h | h;·omega
  ·omega
  ·omega
  ·omega
  ·exact hb x h
 have hcr:=Urc (Zv f.tele).tail;rw [Crc] at hcr;apply (Xcy);refine Jx (V1b (m:=1) (wd:=1) (u:=(⟨o41,[126,(f.data.l.length:Int),f.address,f.kind] ++ f.data.l⟩:OwL Int).arr) tb rfl rfl rfl rfl rfl ze zo rfl) rfl ?_;refine q_l rfl (Tri.lendD zQ hok41 zo (Ywb (Ze (⟨o41,[126,(f.data.l.length:Int),f.address,f.kind] ++ f.data.l⟩:OwL Int).arr 1 1) _ _ zsb (fun x hx=>hwb x (yta hx)))) ?_;apply (Xb5);have ecr:(Ze (⟨o41,[126,(f.data.l.length:Int),f.address,f.kind] ++ f.data.l⟩:OwL Int).arr 1 1).l=(Zv f.tele).tail:=List.drop_one;rw [ecr];obtain ⟨cr,hcre⟩:∃cr,cr=Zxa (Zv f.tele).tail:=⟨_,rfl⟩;rw [← hcre] at hcr ⊢;have e4:IntKind.u8.wrap (cr / 256)=cr / 256:=u8w za;have e5:IntKind.u8.wrap cr=cr % 256:=u8m za;apply (Xb3);refine Jx (Jab rfl rfl ze Vne) rfl ?_;apply qdg∘qaa∘qdg;refine Jqa zpb rfl ?_;rintro v M U ⟨b51,rfl,rfl,hR51⟩;replace hR51:=hR51.symm;subst hR51;rw [e4,e5];refine Uxa (wd:=1) (len:=2) (cap:=2) (rows:=[Jea (cr / 256),Jea (cr % 256)]) (subs:=[]) rfl ze ze (fun r hr=>by rcases List.mem_cons.1 hr with rfl | hr;rfl;rw [List.mem_singleton.1 hr];rfl) ze rfl yg ?_;have h51:InR (bsl (⟨some ⟨b51,0,none⟩,2,[cr / 256,cr % 256]⟩:Arr Int)) (bsl (⟨some ⟨b51,0,none⟩,2,[cr / 256,cr % 256]⟩:Arr Int) :: R):=Ja (.head _);refine Jqa (Vsa tb (⟨o41,[126,(f.data.l.length:Int),f.address,f.kind] ++ f.data.l⟩:OwL Int) (⟨some ⟨b51,0,none⟩,2,[cr / 256,cr % 256]⟩:Arr Int) rfl rfl rfl ze rfl rfl hok41 h51 zj yf (by simp only [yw,yea,yo];omega)) rfl ?_;rintro v M U ⟨o52,rfl,hok52,rfl,rfl⟩;apply qc4∘Xah;refine q_r ((⟨o52,([126,(f.data.l.length:Int),f.address,f.kind] ++ f.data.l) ++ [cr / 256,cr % 256]⟩:OwL Int).L 5 Jea ++ L) (bsl (⟨some ⟨b51,0,none⟩,2,[cr / 256,cr % 256]⟩:Arr Int) :: R) zRc ?_;have he:Uya f.tele=0:=by rw [Uya,if_neg zca,if_neg zca]
 exact ⟨(⟨o52,([126,(f.data.l.length:Int),f.address,f.kind] ++ f.data.l) ++ [cr / 256,cr % 256]⟩:OwL Int),by rw [he];rfl,hok52,by rw [he,if_pos rfl,hcre];rfl,rfl,fun r hr=>Ja (.tail _ hr)⟩
def Udf (address raw:Int):XTele:=⟨address,1,[raw / 256,raw % 256]⟩
def Jhf (address raw:Int):List Int:=Za (Udf address raw)
def Jpe {address raw:Int} (ha:0≤address∧address≤255):Uya (Udf address raw)=0:=by rw [Uya,if_neg (by simp only [Udf];omega),if_neg (by simp [Udf])]
def Zkc {f:XTele} (h:Uya f=0) (hb:BytesOk f.data):BytesOk (Za f):=by
 have hcr:=Urc (Zv f).tail;rw [Crc] at hcr;rw [Uya] at h;split at h;·cases h
 split at h;·cases h
 intro x hx;rw [Za,Zv] at hx;rw [Zv] at hcr;simp only [yp,yaa,yUa,yY,or_false] at hx;rcases hx with h | h | h | h | h | h | h;·omega
 ·omega
 ·omega
 ·omega
 ·exact hb x h
 ·omega
 ·omega
def Zja {address raw:Int} (ha:0≤address∧address≤255) (hr:0≤raw∧raw≤65535):BytesOk (Jhf address raw):=Zkc (Jpe ha) (fun x hx=>by
 simp only [Udf,yaa,yY,or_false] at hx
 rcases hx with h | h <;> omega)
def Kld (address raw:Int) (L:LB) (R:LS) (ha:0≤address∧address≤255) (hr:0≤raw∧raw≤65535):
 Tri Tryz.prog 19 [.int .i64 address,.int .i64 raw].toArray L R (fun v M U=>∃q:Arr Int,v=q.val∧q.l=Jhf address raw∧InR (bsl q) U∧(∀r∈R,InR r U)∧L=M):=by
 refine Jj 20 Tryz.call19 Tryz.func19 rfl rfl rfl ?_;apply Xck∘qam∘Xbg;refine Jx (Jab rfl rfl ze Vne) rfl ?_;apply qdg∘qaa∘qdg;refine Jqa zpb rfl ?_;rintro v M U ⟨b14,rfl,rfl,hR14⟩;replace hR14:=hR14.symm;subst hR14;have e4:IntKind.u8.wrap (raw / 256)=raw / 256:=u8w za;have e5:IntKind.u8.wrap raw=raw % 256:=u8m za;rw [e4,e5];refine Uxa (wd:=1) (len:=2) (cap:=2) (rows:=[Jea (raw / 256),Jea (raw % 256)]) (subs:=[]) rfl ze ze (fun r hr=>by rcases List.mem_cons.1 hr with rfl | hr;rfl;rw [List.mem_singleton.1 hr];rfl) ze rfl yg ?_;refine Jx zPb rfl ?_;refine Jy rfl (Ztc (⟨address,1,⟨some ⟨b14,0,none⟩,2,[raw / 256,raw % 256]⟩⟩:XFrame) _ (bsl (⟨some ⟨b14,0,none⟩,2,[raw / 256,raw % 256]⟩:Arr Int) :: R) zsb (fun x hx=>by
 simp only [yaa,yY,or_false] at hx;rcases hx with h | h <;> omega)) rfl ?_
 rintro v M U ⟨q,rfl,hqk,hql,rfl,hR1⟩;refine Jx zCb rfl ?_;apply Xa3∘qc4∘Xb5;have hE:Uya (XFrame.tele ⟨address,1,⟨some ⟨b14,0,none⟩,2,[raw / 256,raw % 256]⟩⟩)=0:=Jpe (raw:=raw) ha;rw [if_pos hE] at hql;refine Kg (T:=5) (f:=Jea) (wd:=1) q [] zj yf ze hqk yg ?_;refine Vf zp ?_;apply Xcy∘Xcl;refine q_r L (bsl q.arr :: U) zUc ?_;exact ⟨q.arr,rfl,hql,Ja (.head _),fun r hr=>(hR1 r (.tail _ hr)).mono fun r hr=>Ja (.tail _ hr),rfl⟩
end
section
def Y3 (len:Int):XAir:=⟨⟨⟨none,0,[⟨0,true⟩,⟨0,true⟩]⟩,⟨none,0,[Vrb len]⟩⟩,⟨none,0,[]⟩,⟨none,0,[]⟩⟩
def Vqf (ho:Int):XZone:=⟨⟨none,0,[⟨1,0,0,0⟩]⟩,ho,⟨none,0,[0]⟩,1⟩
def Jsf (len dl ho:Int):XSite:=⟨Y3 len,⟨none,0,[easySens]⟩,⟨none,0,[Kmb dl]⟩,⟨none,0,[Vqf ho]⟩,⟨none,0,[1,2]⟩⟩
def Vje {s:XSite} {len dl ho:Int} (h:EasyD s len dl ho):SiteE s (Jsf len dl ho):=by
 obtain ⟨z,h7,z1,z2,z3,z4⟩:=h.zone;show Kx s=Kx (Jsf len dl ho);rw [Kx,Zb,Uxc,h.places,h.roads,h.fans,h.doors,h.sens,h.conds,h7,h.pers];show _=(⟨_,_,_,⟨none,0,[Kpb (Vqf ho)]⟩,_⟩:XSite);have e:Kpb z=Kpb (Vqf ho):=by rw [Kpb,z1,z2,z3,z4];rfl
 rw [yJ,e];rfl
def V8b:Vwe (Y3 1) Uv=true:=by rfl
def Uve (p:Int):LowIs (K5 (Y3 1) Uv 0) p (Vd (K5 (Y3 1) Uv 0) p):=
 Zia (V3d (V8b)).1 ⟨by decide,by show (0:Int) < 1;decide⟩ p
def Yvd (p:Int):HighIs (K5 (Y3 1) Uv 0) p (Uj (K5 (Y3 1) Uv 0) p):=
 Vka (V3d (V8b)).1 ⟨by decide,by show (0:Int) < 1;decide⟩ p
def Uxd:K5 (Y3 1) Uv 0 300=⟨0,0⟩:=by rfl
def Yce:K5 (Y3 1) Uv 0 301=⟨601,601⟩:=by rfl
def Z6e:K5 (Y3 1) Uv 0 299=⟨-599,-599⟩:=by rfl
def Y7d:Vd (K5 (Y3 1) Uv 0) 0=300:=by
 have h1:=Uve 0;have e0:=Uxd;have e1:=Yce;generalize Vd (K5 (Y3 1) Uv 0) 0=z at *;rcases Int.lt_trichotomy z 300 with h | h | h;·have:=h1.gt 300 h za;rw [e0] at this;dsimp only at this;omega
 ·exact h
 ·have:=h1.le 301 za za;rw [e1] at this;dsimp only at this;omega
def Kmd:Uj (K5 (Y3 1) Uv 0) 0=300:=by
 have h1:=Yvd 0;have e0:=Uxd;have e1:=Z6e;generalize Uj (K5 (Y3 1) Uv 0) 0=z at *;rcases Int.lt_trichotomy z 300 with h | h | h;·have:=h1.ge 299 za za;rw [e1] at this;dsimp only at this;omega
 ·exact h
 ·have:=h1.lt 300 za h;rw [e0] at this;dsimp only at this;omega
def Ysd:AiryIs (Y3 1).mine [true,true]:=by
 have hs:V7e (Y3 1).mine=[true,true]:=rfl;refine ⟨rfl,fun i hi=>?_⟩;rw [hs] at hi ⊢;simp only [yw,yea] at hi ⊢;rcases yk i 1 with h | h;·
  obtain rfl : i = 0 := by omega
  exact ⟨fun _=>⟨0,by decide,rfl,.refl⟩,fun _=>rfl⟩
 ·
  obtain rfl : i = 1 := by omega
  exact ⟨fun _=>⟨1,by decide,rfl,.refl⟩,fun _=>rfl⟩
def K8d (up:Bool):Uf (Y3 1) Uv [true,true] up [0,0] (Y3 1).mine.places.l.length=some [0,0]:=by have h0:Vub (Y3 1) [true,true] 0=true:=rfl;have h1:Vub (Y3 1) [true,true] 1=true:=rfl;show Uf (Y3 1) Uv [true,true] up [0,0] (0 + 1 + 1)=_;rw [Uf,Uf,Uf,yFa,if_pos h0,yFa,if_pos h1]
def Jdd:StartOk (Y3 1) Uv [0,0] [true,true]:=by
 refine ⟨by rfl,by rfl,rfl,fun p hp=>?_,fun i hi hf=>?_⟩;·simp only [yaa, yY, or_false] at hp;omega
 ·
  rcases yk i 1 with h1 | h1;·(obtain rfl : i = 0 := by omega);rfl
  ·(obtain rfl : i = 1 := by have : i < 2 := hi; omega);rfl
def Jpb (up:Bool):K9 (Y3 1) Uv [true,true] up [0,0]=(0,[0,0]):=by have r:Va (Y3 1) Uv [true,true] up 200 [0,0]=some [0,0]:=Ypb (n:=199) (K8d up);rw [K9,if_neg (by rw [Uga.2 (Jdd)];decide),r]
def Zeb:Yf (Y3 1) Uv [true,true]=(0,[0,0],[0,0]):=by have h0:List.replicate (Y3 1).mine.places.l.length (0:Int)=[0,0]:=rfl;rw [Yf,h0,Jpb];dsimp only;rw [if_neg ze,Jpb,if_neg ze,Jpb,if_neg ze]
abbrev Kie:XBounds:=⟨⟨none,0,[0,0]⟩,⟨none,0,[0,0]⟩⟩
def Jrd:Yz (Y3 1) Uv Kie [true,true]=0:=by
 refine Kjc.2 ⟨⟨by rfl,by rfl,rfl,rfl,fun p hp=>?_,fun p hp=>?_⟩,fun i hi hf=>?_,fun i hi hf=>?_⟩;·simp only [yaa, yY, or_false] at hp;omega
 ·simp only [yaa, yY, or_false] at hp;omega
 ·
  rcases yk i 1 with h | h;·(obtain rfl : i = 0 := by omega);exact ⟨rfl,rfl⟩
  ·(obtain rfl : i = 1 := by have : i < 2 := hi; omega);exact ⟨rfl,rfl⟩
 ·
  rcases yk i 1 with h | h;·(obtain rfl : i = 0 := by omega);exact absurd rfl hf
  ·(obtain rfl : i = 1 := by have : i < 2 := hi; omega);exact absurd rfl hf
def Kee:Uzb (Y3 1) Uv [true,true]=(0,[⟨300,300⟩]):=by
 have h1:K1 (Y3 1)=0:=by rfl
 have h2:Yfa (Y3 1) Uv=true:=by rfl
 have h3:Yra (Y3 1) Uv [true,true]=Kie:=by rw [Yra,Zeb]
 rw [Uzb,if_neg (by rw [h1];decide),if_neg (by rw [h2];decide),Zeb,if_pos rfl,h3,Uw,if_pos (Jrd)];have h4:Ut (Y3 1) Uv Kie [true,true] 0=⟨300,300⟩:=by have e:Ut (Y3 1) Uv Kie [true,true] 0=⟨Vd (K5 (Y3 1) Uv 0) 0,Uj (K5 (Y3 1) Uv 0) 0⟩:=rfl;rw [e,Y7d,Kmd]
 show (0,[Ut (Y3 1) Uv Kie [true,true] 0])=_;rw [h4]
abbrev easyG:PSite:=⟨Jsf 1 1 1,[0],3,[true,true]⟩
abbrev Uja:List XSpan:=[⟨300,300⟩]
def Ved {n : Nat} {lost : XSpan} {t : Int} {l : List XSens} (h : ∀ i : Nat, (l.getD i default).kind ≠ 3) : ∀ (m : List XMeas) (st : NarSt), m.foldl (Jha n 3 lost t l) st = st
 | [],_=>rfl
 | x :: m,st=>by
  rw [yNb,Jha,if_pos (fun k=>h _ k.1.2.1)]
  exact Ved h m st
def Ymd : ∀ i : Nat, (([easySens] : List XSens).getD i default).kind ≠ 3
 | 0=>by decide
 | k + 1=>by show (0:Int)≠3;decide
def U1c (p:PSta):flP easyG p=Uja:=by have h1:V3e easyG.site p.meas p.time=([],[]):=rfl;have h2:easyG.site.sensors.l=[easySens]:=rfl;have h3:flS easyG.site.air easyG.air ([],[])=Uja:=congrArg Prod.snd Kee;rw [flP,V9a,V4e,Yob,h1,h2,h3,Ved Ymd]
def Yt (p0:PSta) (t:Int):PSta:=
 let p:={ p0 with time:=t }
 let v:=valuesV easyG.site p.meas p.watches Uja t
 let q:=settleB easyG (Vda easyG { p with watches:=valuesW easyG.site p.meas p.watches Uja t,cuts:=cutsC easyG.site v p.cuts t } (cutsN easyG.site v p.cuts t))
 darkTo easyG v q q.cuts.length
def Jwa (p:PSta) (t:Int):Je easyG p t=Yt p t:=by rw [Je,settleA,Uwa,U1c];rfl
def Jde:XTele:=Udf 0 9
def Ykb (t:Int) (p:PSta):PSta:=Yt { p with meas:=Una [easySens] t p.meas Jde } t
def Joe {p:PSta} {t:Int} (h1:p.held=[]) (h2:p.dropped=0) (hl:¬ V7 p t):Yda easyG p (Jhf 0 9) t=(Ykb t p,0):=by
 have e:U3 (p.held ++ Jhf 0 9) p.dropped=⟨[],0,[Jde]⟩:=by have:=Ytd (f:=Udf 0 9) ze [] 0;rw [yZ,Y0a] at this;rw [h1,h2];exact this
 have e2:({ p with held:=[],dropped:=0,meas:=Una [easySens] t p.meas Jde }:PSta)={ p with meas:=Una [easySens] t p.meas Jde }:=by cases p;dsimp only at h1 h2;subst h1;subst h2;rfl
 rw [Yda,if_neg hl,Jwa,feedR,e,Ykb];show (Yt { p with held:=[],dropped:=0,meas:=Una [easySens] t p.meas Jde } t,(0:Int))=_;rw [e2]
def Koa : Nat → PSta
 | 0=>pAw 0
 | k + 1=>Ykb (1 + 6 * (k:Int)) (Koa k)
def easyQ:PSta:=Yt { Koa 10 with sw:=Ud (Koa 10).sw 0 (-1) } 60
def easyQ2:PSta:=Yt easyQ 61
def easyQ3:PSta:=Zg { easyQ2 with rest:=askR easyG.site easyQ2.cuts Uja easyQ2.rest 0 0 61 } 4 0 0
def easyQ4:PSta:=Yt easyQ3 62
def easyQ5:PSta:=Zg { easyQ4 with rest:=confirmR easyG.site easyQ4.cuts Uja easyQ4.rest 1 62 } 5 easyQ4.rest.zone 1
def easyQ6:PSta:=Yt easyQ5 63
def Usf:Us (Koa 10).sw [0] 3 0 (-1)=0:=by kernel_rfl
def Vff:askE easyG.site easyQ2.cuts Uja easyQ2.rest 0 0 61=0:=by kernel_rfl
def Uyf:confirmE easyG.site easyQ4.cuts Uja easyQ4.rest 1 62=0:=by kernel_rfl
def Vef:Uk easyG.site easyQ6.cuts Uja easyQ6.rest (mkF easyG easyQ6) 63=0:=by kernel_rfl
def easyC:List XCut:=V4 easyG.site easyQ6.cuts Uja easyQ6.rest (mkF easyG easyQ6) 63
def easySw:List XSwitch:=Ve easyG.site easyQ6.cuts Uja easyQ6.rest (mkF easyG easyQ6) 63
def Vse:easyC.length=1∧(easyC.getD 0 default).off=false:=⟨by kernel_rfl,by kernel_rfl⟩
def K2e:easySw.length=1∧(easySw.getD 0 default).closed=true:=⟨by kernel_rfl,by kernel_rfl⟩
def Vna : ∀ k, (Koa k).held = [] ∧ (Koa k).dropped = 0
 | 0=>⟨rfl,rfl⟩
 | k + 1=>by
  have h:=Vna k
  rw [Koa,Ykb,← Jwa]
  have e:=V9 (g:=easyG) (p:={ Koa k with meas:=Una [easySens] (1 + 6 * (k:Int)) (Koa k).meas Jde }) (1 + 6 * (k:Int))
  exact ⟨e.held.trans h.1,e.dropped.trans h.2⟩
def Jmc : ∀ k : Nat, (Koa k).time ≤ 6 * (k : Int) ∧ 0 ≤ (Koa k).time
 | 0=>⟨by decide,by decide⟩
 | k + 1=>by
  rw [Koa,Ykb,← Jwa,Vy]
  omega
def Zbc (k:Nat) (hk:k < 100):Yda easyG (Koa k) (Jhf 0 9) (1 + 6 * (k:Int))=(Koa (k + 1),0):=by have ht:=Jmc k;exact Joe (Vna k).1 (Vna k).2 zM
def U0b:Jpa easyG (Koa 10) 0 (-1) 60=(easyQ,0):=by have ht:=Jmc 10;rw [Jpa,if_neg zM,if_neg (by rw [show Us (Koa 10).sw easyG.zn easyG.rp 0 (-1)=0 from Usf];decide),Jwa];rfl
def Y5d:easyQ.time=60:=by rw [easyQ,← Jwa,Vy]
def Yhc:U0c easyG easyQ 0 0 61=(easyQ3,0):=by rw [U0c,if_neg (by rw [V7,Y5d];decide)];dsimp only;rw [Jwa,U1c,show askE easyG.site (Yt easyQ 61).cuts Uja (Yt easyQ 61).rest 0 0 61=0 from Vff,if_neg ze];rfl
def Krd:easyQ3.time=61:=by show (Yt easyQ 61).time=61;rw [← Jwa,Vy]
def Jsb:Vb easyG easyQ3 1 62=(easyQ5,0):=by rw [Vb,if_neg (by rw [V7,Krd];decide)];dsimp only;rw [Jwa,U1c,show confirmE easyG.site (Yt easyQ3 62).cuts Uja (Yt easyQ3 62).rest 1 62=0 from Uyf,if_neg ze];rfl
def Uld:easyQ5.time=62:=by show (Yt easyQ3 62).time=62;rw [← Jwa,Vy]
def K6d:(Ye easyG easyQ5 63).2=0∧(Ye easyG easyQ5 63).1.cuts=easyC∧(Ye easyG easyQ5 63).1.sw=easySw:=by rw [Ye,if_neg (by rw [V7,Uld];decide)];dsimp only;rw [Jwa,U1c,show Uk easyG.site (Yt easyQ5 63).cuts Uja (Yt easyQ5 63).rest (mkF easyG (Yt easyQ5 63)) 63=0 from Vef,if_neg ze];exact zrd
end
section
attribute [local irreducible] CJ LJ DJ Tri YV Gives U0 J3 Kj Uz RV J5 OwL.L
structure EasyN (f:XFeeder) (n:Nat):Prop where
 rng:1≤n∧n≤3
 sw:f.switches.l=Kga n
 zn:f.zones.l=[(n:Int) - 1]
 rp:f.reply=3
def Z0c (c:Nat) (x:Arr Int) (k:Nat) (R:LS) (hx:CodesR x R) (hk:k≤x.l.length):
 Tri Tryz.prog 15 [.pointer (some ⟨c, 0, none⟩)].toArray [cblk c x k] R
  (fun v M U=>∃(s:XSite) (len dl ho:Int) (f:XFeeder) (n k':Nat),v=.tuple #[s.val,f.val]∧EasyD s len dl ho∧EasyN f n∧(k'≤x.l.length∧(x.l.length≤k→len=1∧dl=1∧ho=1∧n=1∧k'=k))∧(SiteR s U∧FeederR f U∧∀r∈R,InR r U)∧cblk c x k' :: []=M):=by refine Tri.postW (Yec c x k R hx hk) ?_;rintro v M U c w ⟨s,len,dl,ho,sw,zn,n,k',rfl,hE,⟨hsk,hzk⟩,hn,hsl,hzl,hk',⟨hs,hR⟩,rfl⟩ hst;have h1:=hst.frzO (subs:=[]) hsk yf ze yg;have h2:=h1.frzO (subs:=[]) hzk yf ze yg;have h3:∀r∈U,InR r (isl zn.arr :: Vcb sw.arr :: U):=fun r hr=>Ja (.tail _ (.tail _ hr));exact ⟨_,_,h2,s,len,dl,ho,⟨sw.arr,zn.arr,3⟩,n,k',rfl,hE,⟨hn,hsl,hzl,rfl⟩,hk',⟨hs.mono h3,⟨Ja (.tail _ (.head _)),Ja (.head _)⟩,fun r hr=>(hR r hr).mono h3⟩,rfl⟩
end
section
section
variable {A B:Prop}
def Zue(h:A→B:=by exact Jx zlb rfl):=h
end
abbrev V0f:XFeeder:=⟨⟨none,0,Kga 1⟩,⟨none,0,[0]⟩,3⟩
attribute [local irreducible] Yt Koa easyQ easyQ3 easyQ5
def Zfd:Inv easyG (pAw 0):=Vec (s:=Jsf 1 1 1) (f:=V0f) (A:=[true,true]) zc Ysd
def Jyb : ∀ k, k ≤ 100 → Inv easyG (Koa k)
 | 0,_=>by rw [Koa];exact Zfd
 | k + 1,h=>by
  have e:=congrArg Prod.fst (Zbc k za)
  have:=(Jyb k za).feed (b:=Jhf 0 9) (Zja ⟨by decide,by decide⟩ ⟨by decide,by decide⟩) (1 + 6 * (k:Int))
  rw [e] at this;exact this
def easyQ_inv:Inv easyG easyQ:=by have:=(Jyb 10 ze).answer 0 (-1) 60;rw [U0b] at this;exact this
def easyQ3_inv:Inv easyG easyQ3:=by have:=easyQ_inv.ask 0 0 61;rw [Yhc] at this;exact this
def Zed:Inv easyG easyQ5:=by have:=easyQ3_inv.confirm 1 62;rw [Jsb] at this;exact this
attribute [local irreducible] CJ LJ DJ Tri YV Gives U0 J3 Kj Uz RV J5 OwL.L
def Uba (L:LB) (R:LS):Tri Tryz.prog 29 ([]:List Value).toArray L R (fun v M U=>v=.bool true∧L=M∧R=U):=by
 refine Jj 81 Tryz.call29 Tryz.func29 rfl rfl rfl ?_;apply Xbe∘qa4;refine Kxe 1 ?_;apply (qay);refine Jy rfl (Jxe ⟨none,0,[]⟩ _ _ ⟨Ja (.head _),fun i q hq=>by simp at hq⟩) rfl ?_;rintro v M U ⟨c,rfl,hx,rfl,rfl⟩;refine Jy rfl (Tri.spl (.consL .rest) (Z0c c _ 0 _ hx (yT _))) rfl ?_;rintro v M U ⟨_,rfl,s,len,dl,ho,f,n,k1,rfl,hE,hN,⟨hk1,he0⟩,⟨hs,hf,hR0⟩,rfl⟩;refine Jx zCb rfl ?_;apply (Xdr);intro b1;apply (qaq);intro b2;apply qak∘Xc3;obtain ⟨rfl,rfl,rfl,rfl,_⟩:=he0 (yT _);have hRR:∀r∈R,InR r U:=fun r hr=>hR0 r (.tail _ (.tail _ hr));obtain ⟨A,hA⟩:=Uue s.air.mine;refine Vn (M:=⟨b2,f.cells,42⟩ :: ⟨b1,s.cells,38⟩ :: L) (List.sublist_append_left _ _) ztb ?_;have h0:=J2c (f:=f) hE hN.rng hN.sw hN.zn hN.rp;have hI:=Vec (A:=A) h0 hA;apply (qay);refine Jx zob rfl ?_;refine Jx zkb rfl ?_;refine Jy rfl (V4b s f A _ _ hs hf hA) rfl ?_;rintro v M U ⟨x,S1,rfl,hxR,hx0,_,rfl,rfl⟩;rw [h0];have hx:=hx0 h0;rw [Zzd hE hN.sw] at hx;have hxG:StaIs easyG (Koa 0) x:=by rw [Koa];exact { hx with site:=hx.site.trans (Vje hE),zn:=hx.zn.trans hN.zn,rp:=hx.rp.trans hN.rp }
 refine Jx zCb rfl ?_;apply (Xdr);intro b3;apply qak∘Xb2∘Xao;refine q_c ?_ ?_<;>intro hc0;·
  apply Xbe∘qbh;refine Kq (M:=L) (U:=R) zVc ?hp ?hL ?hR;case hp=>exact absurd hc0 zo
  case hL=>exact zi
  case hR=>exact fun r hr=>(hRR r hr).mono fun r hr=>Ja (yi _ hr)
 apply qbo∘Xcc;refine Jp [(3,.pointer _),(5,.int _ _)] zh fun tq0=>?_;refine q_p ([5]++rg 19 11) ((⟨fun g=>[(5,.int .i64 (1 + 6 * ((g.1.1:Nat):Int)))],fun g=>⟨b3,g.1.2.1.cells,54⟩ :: L,fun g=>g.1.2.2,fun g=>10 - g.1.1⟩:Head {g:Nat×XSta×LS // g.1≤10∧StaIs easyG (Koa g.1) g.2.1∧StaR g.2.1 g.2.2∧∀r∈R,InR r g.2.2})) (⟨(0,x,S1 ++ U),by dsimp only;omega,hxG,hxR,fun r hr=>(hRR r hr).mono fun r hr=>Ja (yi _ hr)⟩) ?_;rintro ⟨⟨k,u,S⟩,hk,hu,huR,hsub⟩ junk;try dsimp only
 dsimp only at hk hu huR hsub;apply Xb1∘Xbm;refine q_c ?_ ?_<;>intro hc1;·have hIk:=Jyb k za;have hst:=Zbc k za;have hpf:=Vna k;refine Ka (Jc (Jr (Km ?_)));refine Kh tb [29] [0,2,1,3,4,5,6] [7] ([Blk.mk b3 _ _]) _ K3 zc zi (by (repeat (first | apply List.Sublist.cons (a:=Blk.mk b3 _ _) | apply List.Sublist.cons_cons));exact yx _) ?_;refine Ku zlb rfl rfl rfl rfl ?_;apply (qbf);refine Up rfl (Kld 0 9 _ _ ⟨by decide,by decide⟩ ⟨by decide,by decide⟩) rfl rfl ?_;rintro v M U ⟨q,rfl,hql,hqR,hSR,rfl⟩;refine ⟨zi,zw,?_⟩;refine Up rfl (Jbb easyG (Koa k) u q (1 + 6 * (k:Int)) _ _ hIk hu (huR.mono hSR) hqR (by rw [hql];exact Zja ⟨by decide,by decide⟩ ⟨by decide,by decide⟩) (by rw [hql,Jhf,Uta];show (2:Nat) + 6≤_;decide) (by rw [hpf.2];decide)) rfl rfl ?_;rintro v M U ⟨w,S3,rfl,hw,hwR,rfl,rfl⟩;refine ⟨zi,zw,?_⟩;rw [hql,hst] at hw;refine Ku zCb rfl rfl rfl rfl ?_;refine Ku zJb rfl rfl rfl rfl ?_;refine V2 zJb rfl rfl rfl rfl ?_;apply Xch∘qby∘Xdf;exact q_k ⟨(k + 1,w,_),by dsimp only;omega,hw,hwR,fun r hr=>((hsub r hr).mono hSR).mono fun r hr=>Ja (yi _ hr)⟩
 obtain rfl:k=10:=by omega
 apply qbk∘Zue;refine Jy rfl (J0b easyG (Koa 10) u 0 (-1) 60 _ _ (Jyb 10 ze) hu huR) rfl ?_;rintro v M U ⟨w1,Sa,rfl,hw1,hw1R,rfl,rfl⟩;rw [U0b] at hw1;refine Jx zCb rfl ?_;apply Xa3∘Xay∘Zue;refine Jy rfl (Khc easyG easyQ w1 0 0 61 _ _ easyQ_inv hw1 hw1R) rfl ?_;rintro v M U ⟨w2,Sb,rfl,hw2,hw2R,rfl,rfl⟩;rw [Yhc] at hw2;refine Jx zCb rfl ?_;apply Xa3∘Xay∘Zue;refine Jy rfl (Z0a easyG easyQ3 w2 1 62 _ _ easyQ3_inv hw2 hw2R) rfl ?_;rintro v M U ⟨w3,Sc,rfl,hw3,hw3R,rfl,rfl⟩;rw [Jsb] at hw3;refine Jx zCb rfl ?_;apply Xa3∘Xay∘Zue;refine Jy rfl (Uob easyG easyQ5 w3 63 _ _ Zed hw3 hw3R) rfl ?_;rintro v M U ⟨w4,Sd,rfl,hw4,hw4R,rfl,rfl⟩;refine Jx zCb rfl ?_;apply Xa3∘qak∘Xb5;obtain ⟨e1,e2,e3⟩:=K6d;rw [e1];have hcl:w4.cuts.l=easyC:=hw4.cuts.trans e2;have hsl:w4.feeder.switches.l=easySw:=hw4.sw.trans e3;have hcn:w4.cuts.l.length=1:=by rw [hcl];exact Vse.1
 have hsn:w4.feeder.switches.l.length=1:=by rw [hsl];exact K2e.1
 have hcg:=Jw (l:=w4.cuts.l) (k:=0) default za;have hsg:=Jw (l:=w4.feeder.switches.l) (k:=0) default za;have hco:(w4.cuts.l.getD 0 default).off=false:=by rw [hcl];exact Vse.2
 have hso:(w4.feeder.switches.l.getD 0 default).closed=true:=by rw [hsl];exact K2e.2
 obtain ⟨cc,hce⟩:∃cc,cc=w4.cuts.l.getD 0 default:=⟨_,rfl⟩;obtain ⟨ss,hse⟩:∃ss,ss=w4.feeder.switches.l.getD 0 default:=⟨_,rfl⟩;rw [← hce] at hcg hco;rw [← hse] at hsg hso;have hcR:=hw4R.cuts;have hsR:=hw4R.feeder.sw;apply Xa1∘qbn∘qah;apply Ui (G:=[_,_,_,_]) (j:=2) (cj:=52) rfl rfl zb rfl zfb rfl;·intro hg3;replace hg3:=qb hg3;exact (Xab∘qbn) qai
 intro junk3;apply (qah);apply Ui (G:=[_,_,_,_,_,_]) (j:=8) (cj:=58) rfl rfl zb rfl zfb rfl;·intro hg9;replace hg9:=qb hg9;exact (Xaa∘qdt∘Xbv) zLd
 intro junk9;apply (qah);apply Ui (G:=[_,_,_,_,_]) (j:=16) (cj:=66) rfl rfl zb rfl zfb rfl;·intro hg17;replace hg17:=qb hg17;exact (Xb6∘qbn) qai
 intro junk17;apply (qah);apply Ui (G:=[_,_,_,_,_,_]) (j:=23) (cj:=73) rfl rfl zb rfl zfb rfl;·intro hg24;replace hg24:=qb hg24;exact (Xdm∘qdt∘Xbv) qai
 intro junk24;apply (Xa2);refine Kq (M:=L) (U:=R) zVc ?hp ?hL ?hR;case hp=>exact ⟨by simp [hco,hso,hcn,hsn],rfl,rfl⟩
 case hL=>exact zi
 case hR=>exact fun r hr=>(hsub r hr).mono fun r hr=>Ja (by simp [hr])
end
section
def Wd (x y:XSpan):Prop:=x.low≤x.high∧y.low≤x.low∧x.high≤y.high
structure MLoose (m m':XMeas):Prop where
 sensor:m'.sensor=m.sensor
 time:m'.time=m.time
 span:m'=m∨(Wd m.span m'.span∧(-1000000000≤m'.span.low∧m'.span.high≤1000000000))
section
variable {S:List XSens} {m m':List XMeas} {fl fl':List XSpan} {c:XCond} {w:XWatch} {t:Int} (hl:m'.length=m.length) (h:∀i:Nat,i < m.length→MLoose (m.getD i default) (m'.getD i default)) (hfl:fl'.length=fl.length) (hf:∀i:Nat,i < fl.length→Wd (fl.getD i default) (fl'.getD i default))
include hl h
include hfl hf
end
def V2b {s : XSite} {v : List Int} {c : List XCut} {i : Int} : ∀ n, i ∈ K7a s v c n ↔ ∃ k : Nat, k < n ∧ i = (k : Int) ∧ Kia (s.zones.l.getD k default).rule.l v ≠ -1 ∧ (c.getD k default).off = false
 | 0=>by rw [K7a];simp
 | n + 1=>by
  have ih:=V2b (s:=s) (v:=v) (c:=c) (i:=i) n
  rw [K7a]
  constructor
  ·intro hi
   split at hi
   ·rename_i hc
    rcases List.mem_append.1 hi with hi | hi
    ·obtain ⟨k, k1, k2⟩ := ih.1 hi
     exact ⟨k,by omega,k2⟩
    ·exact ⟨n,by omega,List.mem_singleton.1 hi,hc⟩
   ·obtain ⟨k, k1, k2⟩ := ih.1 hi
    exact ⟨k,by omega,k2⟩
  ·rintro ⟨k, k1, k2, k3⟩
   rcases yk k n with hk | hk
   ·split
    ·exact ym _ (ih.2 ⟨k,hk,k2,k3⟩)
    ·exact ih.2 ⟨k,hk,k2,k3⟩
   ·obtain rfl : k = n := by omega
    rw [if_pos k3]
    exact yi _ (List.mem_singleton.2 k2)
end
section
section
variable {g:PSite} {p:PSta}
def Kef {α:Type} {f:Nat→α} {n i:Nat} (d:α) (h:i < n):((List.range n).map f).getD i d=f i:=by rw [yh,yt,yN h];rfl
def Ucb {z:Int}:(Vfb g p z).sw=U5 p.sw (g.zn.getD z.toNat 0) p.time:=by rw [Vfb];split <;> rfl
end
end
end Go.Proofs.YtchfclmokpbldaaGreat
