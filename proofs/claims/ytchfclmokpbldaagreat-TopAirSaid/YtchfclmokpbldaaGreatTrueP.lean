/-
  Merged texts. By an AI agent.
-/
import Derived.Test.YtchfclmokpbldaaGreatTelF
import Derived.Test.YtchfclmokpbldaaGreatLaw12a
import Derived.Test.YtchfclmokpbldaaGreatCloneS
import Derived.Test.YtchfclmokpbldaaGreatAwakeP
import Derived.Test.YtchfclmokpbldaaGreatStaG
import Derived.Test.YtchfclmokpbldaaGreatEasy
import Derived.Test.YtchfclmokpbldaaGreatStaE
import Derived.Test.YtchfclmokpbldaaGreatWinR
import Derived.Test.YtchfclmokpbldaaGreatSeqS
import Derived.Test.YtchfclmokpbldaaGreatSiteS
set_option linter.all false
set_option maxHeartbeats 4000000
set_option maxRecDepth 20000
namespace Go.Proofs.YtchfclmokpbldaaGreat
open Go.Aw Go
section
attribute [local irreducible] CJ LJ DJ Tri YV Gives U5 J2 Kn U6 RV J4 OwL.L
def V2c {a:Int}:a.fdiv (2 ^ (min (8:Int).toNat IntKind.i64.bits))=a / 256:=by show a.fdiv (2 ^ 8)=_;rw [yYa _ ze];rfl
def u8m {a:Int} (h:0≤a∧a < 1048576):IntKind.u8.wrap a=a % 256:=by obtain ⟨n,rfl⟩:∃n:Nat,a=(n:Int):=⟨a.toNat,by omega⟩;unfold IntKind.wrap;simp [IntKind.bits,IntKind.signed]
def u8w {a:Int} (h:0≤a∧a≤255):IntKind.u8.wrap a=a:=by obtain ⟨n,rfl⟩:∃n:Nat,a=(n:Int):=⟨a.toNat,by omega⟩;exact K5g za
def Tri.lendD {P : Program} {f : FuncId} {args : Array Value} {A : LB} {R : LS} {p : OwL Int} {T : TypeId} {u : Value} (hin : InB (p.L T Yb) A) (hok : p.ok 1 Yb) (h1 : 1 ≤ p.l.length)
 (h:Tri P f args [] (bsl (Zh p.arr 1 1) :: R) (fun v U J=>v=u∧[]=U∧bsl (Zh p.arr 1 1) :: R=J)):Tri P f args A R (fun v U J=>v=u∧A=U∧R=J):=by
 refine Go.Proofs.YtchfclmokpbldaaGreat.Tri.lendU (S:=[bsl (Zh p.arr 1 1)]) (fun w G hh s hs=>?_) h;rw [List.mem_singleton.1 hs];have h0:=Ya hh hin hok yf ze (subs:=[]) yg;have h2:=Zmc h0 (m:=1) ze h1 ze;have e1:p.arr.l.length - 1=(p.arr.l.drop 1).length:=by rw [yY]
 have e2:(p.arr.l.map Yb).drop 1=(p.arr.l.drop 1).map Yb:=by rw [List.map_drop]
 rw [e1,e2] at h2;exact h2
def Zf (f:XTele):Int:=if (f.address < 0∨255 < f.address)∨f.kind < 0∨255 < f.kind then 1 else if 64 < f.data.length then 2 else 0
def Zzc (f:XFrame) (L:LB) (R:LS) (hf:InR (bsl f.data) R) (hb:BytesOk f.data.l):
 Tri Tryz.prog 83 [f.val].toArray L R (fun v U J=>∃q:OwL Int,v=.tuple #[q.val,.int .i64 (Zf f.tele)]∧q.ok 1 Yb∧q.l=(if Zf f.tele=0 then V0 f.tele else [])∧q.L 5 Yb ++ L=U∧∀r∈R,InR r J):=by
 refine Je 53 Tryz.call83 Tryz.func83 rfl rfl rfl ?_;apply (Xaf);intro b1;apply qc4∘Xar∘Xbj;apply J6 (G:=[_,_,_]) (j:=3) (cj:=9) rfl rfl zb rfl zsb rfl;·exact zHd
 intro junk4;apply (qah);apply J6 (G:=[_,_,_]) (j:=8) (cj:=14) rfl rfl zb rfl zsb rfl;·exact zTd
 intro junk9;apply (qah);apply J6 (G:=[_,_,_]) (j:=13) (cj:=19) rfl rfl zb rfl zsb rfl;·exact zMe
 intro junk14;apply (qaf);refine q_c ?_ ?_<;>intro hc0;·
  apply Xea∘Xao;refine Kx (U:=L) (J:=R) zvd ?hp ?hL ?hR;case hp=>(have he:Zf f.tele=1:=by rw [Zf,if_pos zL]);exact zXd
  case hL=>exact zi
  case hR=>exact fun r hr=>Ja hr
 apply Xec∘Xcp;refine q_c ?_ ?_<;>intro hc1;·exact zSe
 apply qbv∘Xab∘qdg∘Xaa∘qdg∘Xaa∘qdg;refine Yv zbc rfl ?_;rintro v U J ⟨b38,rfl,rfl,hR38⟩;replace hR38:=hR38.symm;subst hR38;apply (Xaa);have e1:IntKind.u8.wrap (f.data.l.length:Int)=f.data.l.length:=u8w za;have e2:IntKind.u8.wrap f.address=f.address:=u8w za;have e3:IntKind.u8.wrap f.kind=f.kind:=u8w za;rw [e1,e2,e3];have hok38:(⟨.own b38 4 [],[126,(f.data.l.length:Int),f.address,f.kind]⟩:OwL Int).ok 1 Yb:=⟨rfl,ym _,by decide,rfl⟩;refine Vxg zdc ?_;refine Yv zac rfl ?_;rintro v U J ⟨o41,rfl,hok41,rfl,rfl⟩;apply (Xcy);have hwl:(⟨o41,[126,(f.data.l.length:Int),f.address,f.kind] ++ f.data.l⟩:OwL Int).l=V8 f.tele:=rfl;have hwb:BytesOk (V8 f.tele):=fun x hx=>by exact ua7
 have hcr:=Uxb (V8 f.tele).tail;rw [Crc] at hcr;apply (Xcs);refine Jy zmc rfl ?_;refine q_l rfl (Tri.lendD zG hok41 zo (J4c (Zh (⟨o41,[126,(f.data.l.length:Int),f.address,f.kind] ++ f.data.l⟩:OwL Int).arr 1 1) _ _ zJb (fun x hx=>hwb x (yqa hx)))) ?_;exact zJe
def V4f (address raw:Int):XTele:=⟨address,1,[raw / 256,raw % 256]⟩
def Vjf (address raw:Int):List Int:=V0 (V4f address raw)
def Uxe {address raw:Int} (ha:0≤address∧address≤255):Zf (V4f address raw)=0:=by rw [Zf,if_neg (by simp only [V4f];omega),if_neg (by simp [V4f])]
def Kdd {f:XTele} (h:Zf f=0) (hb:BytesOk f.data):BytesOk (V0 f):=by
 have hcr:=Uxb (V8 f).tail;rw [Crc] at hcr;rw [Zf] at h;split at h;·cases h
 split at h;·cases h
 intro x hx;rw [V0,V8] at hx;rw [V8] at hcr;simp only [yq,yR,yba,yM,or_false] at hx;rcases hx with h | h | h | h | h | h | h;·omega
 ·omega
 ·omega
 ·omega
 ·exact hb x h
 ·omega
 ·omega
def Ucc {address raw:Int} (ha:0≤address∧address≤255) (hr:0≤raw∧raw≤65535):BytesOk (Vjf address raw):=Kdd (Uxe ha) (fun x hx=>by
 simp only [V4f,yR,yM,or_false] at hx
 rcases hx with h | h <;> omega)
def Ywf (address raw:Int) (L:LB) (R:LS) (ha:0≤address∧address≤255) (hr:0≤raw∧raw≤65535):
 Tri Tryz.prog 19 [.int .i64 address,.int .i64 raw].toArray L R (fun v U J=>∃q:Arr Int,v=q.val∧q.l=Vjf address raw∧InR (bsl q) J∧(∀r∈R,InR r J)∧L=U):=by
 refine Je 20 Tryz.call19 Tryz.func19 rfl rfl rfl ?_;apply qae∘Xcb∘Xbw;refine Jy (Zpa rfl rfl ze V2c) rfl ?_;apply qdg∘qaa∘qdg;refine Yv zCb rfl ?_;rintro v U J ⟨b14,rfl,rfl,hR14⟩;replace hR14:=hR14.symm;subst hR14;have e4:IntKind.u8.wrap (raw / 256)=raw / 256:=u8w za;have e5:IntKind.u8.wrap raw=raw % 256:=u8m za;rw [e4,e5];refine Uga (wd:=1) (len:=2) (cap:=2) (rows:=[Yb (raw / 256),Yb (raw % 256)]) (subs:=[]) rfl ze ze (fun r hr=>by rcases List.mem_cons.1 hr with rfl | hr;rfl;rw [List.mem_singleton.1 hr];rfl) ze rfl yg ?_;refine Jy zGb rfl ?_;refine Jw rfl (Zzc (⟨address,1,⟨some ⟨b14,0,none⟩,2,[raw / 256,raw % 256]⟩⟩:XFrame) _ (bsl (⟨some ⟨b14,0,none⟩,2,[raw / 256,raw % 256]⟩:Arr Int) :: R) zJb (fun x hx=>by
 simp only [yR,yM,or_false] at hx;rcases hx with h | h <;> omega)) rfl ?_
 rintro v U J ⟨q,rfl,hqk,hql,rfl,hR1⟩;refine Jy zSb rfl ?_;apply Xdf∘Xce;have hE:Zf (XFrame.tele ⟨address,1,⟨some ⟨b14,0,none⟩,2,[raw / 256,raw % 256]⟩⟩)=0:=Uxe (raw:=raw) ha;rw [if_pos hE] at hql;refine Ko (T:=5) (f:=Yb) (wd:=1) q [] zj yf ze hqk yg ?_;refine U4 zp ?_;apply Xcs∘Xci;refine q_r L (bsl q.arr :: J) zxd ?_;exact ⟨q.arr,rfl,hql,Ja (.head _),fun r hr=>(hR1 r (.tail _ hr)).mono fun r hr=>Ja (.tail _ hr),rfl⟩
end
section
def Y7 (len:Int):XAir:=⟨⟨⟨none,0,[⟨0,true⟩,⟨0,true⟩]⟩,⟨none,0,[Ykb len]⟩⟩,⟨none,0,[]⟩,⟨none,0,[]⟩⟩
def Zuf (ho:Int):XZone:=⟨⟨none,0,[⟨1,0,0,0⟩]⟩,ho,⟨none,0,[0]⟩,1⟩
def Z8e (len dl ho:Int):XSite:=⟨Y7 len,⟨none,0,[easySens]⟩,⟨none,0,[K9b dl]⟩,⟨none,0,[Zuf ho]⟩,⟨none,0,[1,2]⟩⟩
def U3e {s:XSite} {len dl ho:Int} (h:EasyD s len dl ho):SiteE s (Z8e len dl ho):=by
 obtain ⟨z,h7,z1,z2,z3,z4⟩:=h.zone;show K1 s=K1 (Z8e len dl ho);rw [K1,Zn,Ygc,h.places,h.roads,h.fans,h.doors,h.sens,h.conds,h7,h.pers];show _=(⟨_,_,_,⟨none,0,[Kwb (Zuf ho)]⟩,_⟩:XSite);have e:Kwb z=Kwb (Zuf ho):=by rw [Kwb,z1,z2,z3,z4];rfl
 rw [yN,e];rfl
def Z5b:Uzc (Y7 1) U8=true:=by rfl
def Yve (p:Int):LowIs (Kz (Y7 1) U8 0) p (Ub (Kz (Y7 1) U8 0) p):=
 K4a (Ysc (Z5b)).1 ⟨by decide,by show (0:Int) < 1;decide⟩ p
def Jse (p:Int):HighIs (Kz (Y7 1) U8 0) p (K2 (Kz (Y7 1) U8 0) p):=
 Jra (Ysc (Z5b)).1 ⟨by decide,by show (0:Int) < 1;decide⟩ p
def Ymd:Kz (Y7 1) U8 0 300=⟨0,0⟩:=by rfl
def Uef:Kz (Y7 1) U8 0 301=⟨601,601⟩:=by rfl
def Zve:Kz (Y7 1) U8 0 299=⟨-599,-599⟩:=by rfl
def Jve:Ub (Kz (Y7 1) U8 0) 0=300:=by
 have h1:=Yve 0;have e0:=Ymd;have e1:=Uef;generalize Ub (Kz (Y7 1) U8 0) 0=z at *;rcases Int.lt_trichotomy z 300 with h | h | h;·have:=h1.gt 300 h za;rw [e0] at this;dsimp only at this;omega
 ·exact h
 ·have:=h1.le 301 za za;rw [e1] at this;dsimp only at this;omega
def Ubd:K2 (Kz (Y7 1) U8 0) 0=300:=by
 have h1:=Jse 0;have e0:=Ymd;have e1:=Zve;generalize K2 (Kz (Y7 1) U8 0) 0=z at *;rcases Int.lt_trichotomy z 300 with h | h | h;·have:=h1.ge 299 za za;rw [e1] at this;dsimp only at this;omega
 ·exact h
 ·have:=h1.lt 300 za h;rw [e0] at this;dsimp only at this;omega
def Jte:AiryIs (Y7 1).mine [true,true]:=by
 have hs:surf (Y7 1).mine=[true,true]:=rfl;refine ⟨rfl,fun i hi=>?_⟩;rw [hs] at hi ⊢;simp only [yA,yfa] at hi ⊢;rcases yk i 1 with h | h;·
  obtain rfl : i = 0 := by omega
  exact ⟨fun _=>⟨0,by decide,rfl,.refl⟩,fun _=>rfl⟩
 ·
  obtain rfl : i = 1 := by omega
  exact ⟨fun _=>⟨1,by decide,rfl,.refl⟩,fun _=>rfl⟩
def Vbd (up:Bool):Um (Y7 1) U8 [true,true] up [0,0] (Y7 1).mine.places.l.length=some [0,0]:=by have h0:Yhb (Y7 1) [true,true] 0=true:=rfl;have h1:Yhb (Y7 1) [true,true] 1=true:=rfl;show Um (Y7 1) U8 [true,true] up [0,0] (0 + 1 + 1)=_;rw [Um,Um,Um,yMa,if_pos h0,yMa,if_pos h1]
def Vld:StartOk (Y7 1) U8 [0,0] [true,true]:=by
 refine ⟨by rfl,by rfl,rfl,fun p hp=>?_,fun i hi hf=>?_⟩;·simp only [yR, yM, or_false] at hp;omega
 ·
  rcases yk i 1 with h1 | h1;·(obtain rfl : i = 0 := by omega);rfl
  ·(obtain rfl : i = 1 := by have : i < 2 := hi; omega);rfl
def J8b (up:Bool):Ug (Y7 1) U8 [true,true] up [0,0]=(0,[0,0]):=by have r:Vn (Y7 1) U8 [true,true] up 200 [0,0]=some [0,0]:=Jnc (n:=199) (Vbd up);rw [Ug,if_neg (by rw [Ura.2 (Vld)];decide),r]
def Zyb:Yu (Y7 1) U8 [true,true]=(0,[0,0],[0,0]):=by have h0:List.replicate (Y7 1).mine.places.l.length (0:Int)=[0,0]:=rfl;rw [Yu,h0,J8b];dsimp only;rw [if_neg ze,J8b,if_neg ze,J8b,if_neg ze]
abbrev Uae:XBounds:=⟨⟨none,0,[0,0]⟩,⟨none,0,[0,0]⟩⟩
def U1d:Y9 (Y7 1) U8 Uae [true,true]=0:=by
 refine Vec.2 ⟨⟨by rfl,by rfl,rfl,rfl,fun p hp=>?_,fun p hp=>?_⟩,fun i hi hf=>?_,fun i hi hf=>?_⟩;·simp only [yR, yM, or_false] at hp;omega
 ·simp only [yR, yM, or_false] at hp;omega
 ·
  rcases yk i 1 with h | h;·(obtain rfl : i = 0 := by omega);exact ⟨rfl,rfl⟩
  ·(obtain rfl : i = 1 := by have : i < 2 := hi; omega);exact ⟨rfl,rfl⟩
 ·
  rcases yk i 1 with h | h;·(obtain rfl : i = 0 := by omega);exact absurd rfl hf
  ·(obtain rfl : i = 1 := by have : i < 2 := hi; omega);exact absurd rfl hf
def Yde:Uyb (Y7 1) U8 [true,true]=(0,[⟨300,300⟩]):=by
 have h1:Ky (Y7 1)=0:=by rfl
 have h2:Una (Y7 1) U8=true:=by rfl
 have h3:Yta (Y7 1) U8 [true,true]=Uae:=by rw [Yta,Zyb]
 rw [Uyb,if_neg (by rw [h1];decide),if_neg (by rw [h2];decide),Zyb,if_pos rfl,h3,U7,if_pos (U1d)];have h4:Ui (Y7 1) U8 Uae [true,true] 0=⟨300,300⟩:=by have e:Ui (Y7 1) U8 Uae [true,true] 0=⟨Ub (Kz (Y7 1) U8 0) 0,K2 (Kz (Y7 1) U8 0) 0⟩:=rfl;rw [e,Jve,Ubd]
 show (0,[Ui (Y7 1) U8 Uae [true,true] 0])=_;rw [h4]
abbrev easyG:PSite:=⟨Z8e 1 1 1,[0],3,[true,true]⟩
abbrev U1a:List XSpan:=[⟨300,300⟩]
def Y9d {n : Nat} {lost : XSpan} {t : Int} {l : List XSens} (h : ∀ i : Nat, (l.getD i default).kind ≠ 3) : ∀ (m : List XMeas) (st : NarSt), m.foldl (Z0 n 3 lost t l) st = st
 | [],_=>rfl
 | x :: m,st=>by
  rw [List.foldl_cons,Z0,if_pos (fun k=>h _ k.1.2.1)]
  exact Y9d h m st
def Jye : ∀ i : Nat, (([easySens] : List XSens).getD i default).kind ≠ 3
 | 0=>by decide
 | k + 1=>by show (0:Int)≠3;decide
def Ydc (p:PSta):flP easyG p=U1a:=by have h1:Zde easyG.site p.meas p.time=([],[]):=rfl;have h2:easyG.site.sensors.l=[easySens]:=rfl;have h3:flS easyG.site.air easyG.air ([],[])=U1a:=congrArg Prod.snd Yde;rw [flP,Yza,Zce,Klb,h1,h2,h3,Y9d Jye]
def Za (p0:PSta) (t:Int):PSta:=
 let p:={ p0 with time:=t }
 let v:=valuesV easyG.site p.meas p.watches U1a t
 let q:=settleB easyG (K1b easyG { p with watches:=valuesW easyG.site p.meas p.watches U1a t,cuts:=cutsC easyG.site v p.cuts t } (cutsN easyG.site v p.cuts t))
 darkTo easyG v q q.cuts.length
def J4a (p:PSta) (t:Int):Jj easyG p t=Za p t:=by rw [Jj,settleA,Z2b,Ydc];rfl
def Jhe:XTele:=V4f 0 9
def Jkc (t:Int) (p:PSta):PSta:=Za { p with meas:=Y1a [easySens] t p.meas Jhe } t
def K1e {p:PSta} {t:Int} (h1:p.held=[]) (h2:p.dropped=0) (hl:¬ Jya p t):Kdc easyG p (Vjf 0 9) t=(Jkc t p,0):=by
 have e:U2 (p.held ++ Vjf 0 9) p.dropped=⟨[],0,[Jhe]⟩:=by have:=Uic (f:=V4f 0 9) ze [] 0;rw [yX,Vaa] at this;rw [h1,h2];exact this
 have e2:({ p with held:=[],dropped:=0,meas:=Y1a [easySens] t p.meas Jhe }:PSta)={ p with meas:=Y1a [easySens] t p.meas Jhe }:=by cases p;dsimp only at h1 h2;subst h1;subst h2;rfl
 rw [Kdc,if_neg hl,J4a,feedR,e,Jkc];show (Za { p with held:=[],dropped:=0,meas:=Y1a [easySens] t p.meas Jhe } t,(0:Int))=_;rw [e2]
def Kua : Nat → PSta
 | 0=>pAw 0
 | k + 1=>Jkc (1 + 6 * (k:Int)) (Kua k)
def easyQ:PSta:=Za { Kua 10 with sw:=J8a (Kua 10).sw 0 (-1) } 60
def easyQ2:PSta:=Za easyQ 61
def easyQ3:PSta:=Jua { easyQ2 with rest:=askR easyG.site easyQ2.cuts U1a easyQ2.rest 0 0 61 } 4 0 0
def easyQ4:PSta:=Za easyQ3 62
def easyQ5:PSta:=Jua { easyQ4 with rest:=confirmR easyG.site easyQ4.cuts U1a easyQ4.rest 1 62 } 5 easyQ4.rest.zone 1
def easyQ6:PSta:=Za easyQ5 63
def Vvf:Yf (Kua 10).sw [0] 3 0 (-1)=0:=by kernel_rfl
def U2f:askE easyG.site easyQ2.cuts U1a easyQ2.rest 0 0 61=0:=by kernel_rfl
def Y4f:confirmE easyG.site easyQ4.cuts U1a easyQ4.rest 1 62=0:=by kernel_rfl
def Y2f:Vw easyG.site easyQ6.cuts U1a easyQ6.rest (mkF easyG easyQ6) 63=0:=by kernel_rfl
def easyC:List XCut:=Kla easyG.site easyQ6.cuts U1a easyQ6.rest (mkF easyG easyQ6) 63
def easySw:List XSwitch:=Zt easyG.site easyQ6.cuts U1a easyQ6.rest (mkF easyG easyQ6) 63
def Kxe:easyC.length=1∧(easyC.getD 0 default).off=false:=⟨by kernel_rfl,by kernel_rfl⟩
def Y5e:easySw.length=1∧(easySw.getD 0 default).closed=true:=⟨by kernel_rfl,by kernel_rfl⟩
def Vza : ∀ k, (Kua k).held = [] ∧ (Kua k).dropped = 0
 | 0=>⟨rfl,rfl⟩
 | k + 1=>by
  have h:=Vza k
  rw [Kua,Jkc,← J4a]
  have e:=Vrd (g:=easyG) (p:={ Kua k with meas:=Y1a [easySens] (1 + 6 * (k:Int)) (Kua k).meas Jhe }) (1 + 6 * (k:Int))
  exact ⟨e.held.trans h.1,e.dropped.trans h.2⟩
def K5c : ∀ k : Nat, (Kua k).time ≤ 6 * (k : Int) ∧ 0 ≤ (Kua k).time
 | 0=>⟨by decide,by decide⟩
 | k + 1=>by
  rw [Kua,Jkc,← J4a,Yma]
  omega
def Zqc (k:Nat) (hk:k < 100):Kdc easyG (Kua k) (Vjf 0 9) (1 + 6 * (k:Int))=(Kua (k + 1),0):=by have ht:=K5c k;exact K1e (Vza k).1 (Vza k).2 (by rw [Jya];omega)
def Vrb:Uea easyG (Kua 10) 0 (-1) 60=(easyQ,0):=by have ht:=K5c 10;rw [Uea,if_neg (by rw [Jya];omega),if_neg (by rw [show Yf (Kua 10).sw easyG.zn easyG.rp 0 (-1)=0 from Vvf];decide),J4a];rfl
def Z5d:easyQ.time=60:=by rw [easyQ,← J4a,Yma]
def Y7c:K8e easyG easyQ 0 0 61=(easyQ3,0):=by rw [K8e,if_neg (by rw [Jya,Z5d];decide)];dsimp only;rw [J4a,Ydc,show askE easyG.site (Za easyQ 61).cuts U1a (Za easyQ 61).rest 0 0 61=0 from U2f,if_neg ze];rfl
def Uhd:easyQ3.time=61:=by show (Za easyQ 61).time=61;rw [← J4a,Yma]
def Ueb:Z5 easyG easyQ3 1 62=(easyQ5,0):=by rw [Z5,if_neg (by rw [Jya,Uhd];decide)];dsimp only;rw [J4a,Ydc,show confirmE easyG.site (Za easyQ3 62).cuts U1a (Za easyQ3 62).rest 1 62=0 from Y4f,if_neg ze];rfl
def Uod:easyQ5.time=62:=by show (Za easyQ3 62).time=62;rw [← J4a,Yma]
def Vkd:(Zka easyG easyQ5 63).2=0∧(Zka easyG easyQ5 63).1.cuts=easyC∧(Zka easyG easyQ5 63).1.sw=easySw:=by rw [Zka,if_neg (by rw [Jya,Uod];decide)];dsimp only;rw [J4a,Ydc,show Vw easyG.site (Za easyQ5 63).cuts U1a (Za easyQ5 63).rest (mkF easyG (Za easyQ5 63)) 63=0 from Y2f,if_neg ze];exact zbe
end
section
attribute [local irreducible] CJ LJ DJ Tri YV Gives U5 J2 Kn U6 RV J4 OwL.L
structure EasyN (f:XFeeder) (n:Nat):Prop where
 rng:1≤n∧n≤3
 sw:f.switches.l=Jgb n
 zn:f.zones.l=[(n:Int) - 1]
 rp:f.reply=3
def Yle (c:Nat) (x:Arr Int) (k:Nat) (R:LS) (hx:CodesR x R) (hk:k≤x.l.length):
 Tri Tryz.prog 15 [.pointer (some ⟨c, 0, none⟩)].toArray [cblk c x k] R
  (fun v U J=>∃(s:XSite) (len dl ho:Int) (f:XFeeder) (n k':Nat),v=.tuple #[s.val,f.val]∧EasyD s len dl ho∧EasyN f n∧(k'≤x.l.length∧(x.l.length≤k→len=1∧dl=1∧ho=1∧n=1∧k'=k))∧(SiteR s J∧FeederR f J∧∀r∈R,InR r J)∧cblk c x k' :: []=U):=by refine Tri.postW (Kad c x k R hx hk) ?_;rintro v U J c w ⟨s,len,dl,ho,sw,zn,n,k',rfl,hE,⟨hsk,hzk⟩,hn,hsl,hzl,hk',⟨hs,hR⟩,rfl⟩ hst;have h1:=hst.frzO (subs:=[]) hsk yf ze yg;have h2:=h1.frzO (subs:=[]) hzk yf ze yg;have h3:∀r∈J,InR r (isl zn.arr :: Y1b sw.arr :: J):=fun r hr=>Ja (.tail _ (.tail _ hr));exact ⟨_,_,h2,s,len,dl,ho,⟨sw.arr,zn.arr,3⟩,n,k',rfl,hE,⟨hn,hsl,hzl,rfl⟩,hk',⟨hs.mono h3,⟨Ja (.tail _ (.head _)),Ja (.head _)⟩,fun r hr=>(hR r hr).mono h3⟩,rfl⟩
end
section
section
variable {A B:Prop}
def Jwf(h:A→B:=by exact Jy zBb rfl):=h
end
abbrev Veg:XFeeder:=⟨⟨none,0,Jgb 1⟩,⟨none,0,[0]⟩,3⟩
attribute [local irreducible] Za Kua easyQ easyQ3 easyQ5
def Z2d:Inv easyG (pAw 0):=Ywd (s:=Z8e 1 1 1) (f:=Veg) (A:=[true,true]) zc Jte
def Uhb : ∀ k, k ≤ 100 → Inv easyG (Kua k)
 | 0,_=>by rw [Kua];exact Z2d
 | k + 1,h=>by
  have e:=congrArg Prod.fst (Zqc k za)
  have:=(Uhb k za).feed (b:=Vjf 0 9) (Ucc ⟨by decide,by decide⟩ ⟨by decide,by decide⟩) (1 + 6 * (k:Int))
  rw [e] at this;exact this
def easyQ_inv:Inv easyG easyQ:=by have:=(Uhb 10 ze).answer 0 (-1) 60;rw [Vrb] at this;exact this
def easyQ3_inv:Inv easyG easyQ3:=by have:=easyQ_inv.ask 0 0 61;rw [Y7c] at this;exact this
def Jie:Inv easyG easyQ5:=by have:=easyQ3_inv.confirm 1 62;rw [Ueb] at this;exact this
attribute [local irreducible] CJ LJ DJ Tri YV Gives U5 J2 Kn U6 RV J4 OwL.L
def Zlc (L:LB) (R:LS):Tri Tryz.prog 29 ([]:List Value).toArray L R (fun v U J=>v=.bool true∧L=U∧R=J):=by
 refine Je 81 Tryz.call29 Tryz.func29 rfl rfl rfl ?_;apply Xcc∘qa4;refine Zcd 1 ?_;apply (qay);refine Jw rfl (Uze ⟨none,0,[]⟩ _ _ ⟨Ja (.head _),fun i q hq=>by simp at hq⟩) rfl ?_;rintro v U J ⟨c,rfl,hx,rfl,rfl⟩;refine Jw rfl (Tri.spl (.consL .rest) (Yle c _ 0 _ hx (yea _))) rfl ?_;rintro v U J ⟨_,rfl,s,len,dl,ho,f,n,k1,rfl,hE,hN,⟨hk1,he0⟩,⟨hs,hf,hR0⟩,rfl⟩;refine Jy zSb rfl ?_;apply (Xeb);intro b1;apply (qaq);intro b2;apply qak∘Xct;obtain ⟨rfl,rfl,rfl,rfl,_⟩:=he0 (yea _);have hRR:∀r∈R,InR r J:=fun r hr=>hR0 r (.tail _ (.tail _ hr));obtain ⟨A,hA⟩:=Ype s.air.mine;refine Vp (U:=⟨b2,f.cells,42⟩ :: ⟨b1,s.cells,38⟩ :: L) (ydb _ _) zLb ?_;have h0:=J5e (f:=f) hE hN.rng hN.sw hN.zn hN.rp;have hI:=Ywd (A:=A) h0 hA;apply (qay);refine Jy zAb rfl ?_;refine Jy zxb rfl ?_;refine Jw rfl (Vdd s f A _ _ hs hf hA) rfl ?_;rintro v U J ⟨x,S1,rfl,hxR,hx0,_,rfl,rfl⟩;rw [h0];have hx:=hx0 h0;rw [Jwe hE hN.sw] at hx;have hxG:StaIs easyG (Kua 0) x:=by rw [Kua];exact { hx with site:=hx.site.trans (U3e hE),zn:=hx.zn.trans hN.zn,rp:=hx.rp.trans hN.rp }
 refine Jy zSb rfl ?_;apply (Xeb);intro b3;apply qak∘Xck∘Xat;refine q_c ?_ ?_<;>intro hc0;·
  apply Xcc∘qbh;refine Kx (U:=L) (J:=R) (Vu rfl zjd) ?hp ?hL ?hR;case hp=>exact absurd hc0 zo
  case hL=>exact zi
  case hR=>exact fun r hr=>(hRR r hr).mono fun r hr=>Ja (yj _ hr)
 apply qbo∘Xbf;refine Jm [(3,.pointer _),(5,.int _ _)] zh fun tq0=>?_;refine q_p ([5]++rg 19 11) ((⟨fun g=>[(5,.int .i64 (1 + 6 * ((g.1.1:Nat):Int)))],fun g=>⟨b3,g.1.2.1.cells,54⟩ :: L,fun g=>g.1.2.2,fun g=>10 - g.1.1⟩:Head {g:Nat×XSta×LS // g.1≤10∧StaIs easyG (Kua g.1) g.2.1∧StaR g.2.1 g.2.2∧∀r∈R,InR r g.2.2})) (⟨(0,x,S1 ++ J),by dsimp only;omega,hxG,hxR,fun r hr=>(hRR r hr).mono fun r hr=>Ja (yj _ hr)⟩) ?_;rintro ⟨⟨k,u,S⟩,hk,hu,huR,hsub⟩ junk;try dsimp only
 dsimp only at hk hu huR hsub;apply Xa3∘Xa5;refine q_c ?_ ?_<;>intro hc1;·have hIk:=Uhb k za;have hst:=Zqc k za;have hpf:=Vza k;refine J5 (Jb (Jq (Kk ?_)));refine J7 tb [29] [0,2,1,3,4,5,6] [7] ([Blk.mk b3 _ _]) _ Kq zc zi (by (repeat (first | apply List.Sublist.cons (a:=Blk.mk b3 _ _) | apply List.Sublist.cons_cons));exact yt _) ?_;refine Kt zBb rfl rfl rfl rfl ?_;apply (qbf);refine K6 rfl (Ywf 0 9 _ _ ⟨by decide,by decide⟩ ⟨by decide,by decide⟩) rfl rfl ?_;rintro v U J ⟨q,rfl,hql,hqR,hSR,rfl⟩;refine ⟨zi,zq,?_⟩;refine K6 rfl (Vjd easyG (Kua k) u q (1 + 6 * (k:Int)) _ _ hIk hu (huR.mono hSR) hqR (by rw [hql];exact Ucc ⟨by decide,by decide⟩ ⟨by decide,by decide⟩) (by rw [hql,Vjf,U7a];show (2:Nat) + 6≤_;decide) (by rw [hpf.2];decide)) rfl rfl ?_;rintro v U J ⟨w,S3,rfl,hw,hwR,rfl,rfl⟩;refine ⟨zi,zq,?_⟩;rw [hql,hst] at hw;refine Kt zSb rfl rfl rfl rfl ?_;refine Kt zhc rfl rfl rfl rfl ?_;refine Vo zhc rfl rfl rfl rfl ?_;apply Xcr∘qby∘Xbd;exact q_k ⟨(k + 1,w,_),by dsimp only;omega,hw,hwR,fun r hr=>((hsub r hr).mono hSR).mono fun r hr=>Ja (yj _ hr)⟩
 obtain rfl:k=10:=by omega
 apply qbk∘Jwf;refine Jw rfl (Yfc easyG (Kua 10) u 0 (-1) 60 _ _ (Uhb 10 ze) hu huR) rfl ?_;rintro v U J ⟨w1,Sa,rfl,hw1,hw1R,rfl,rfl⟩;rw [Vrb] at hw1;refine Jy zSb rfl ?_;apply Xa7∘Xaz∘Jwf;refine Jw rfl (Jee easyG easyQ w1 0 0 61 _ _ easyQ_inv hw1 hw1R) rfl ?_;rintro v U J ⟨w2,Sb,rfl,hw2,hw2R,rfl,rfl⟩;rw [Y7c] at hw2;refine Jy zSb rfl ?_;apply Xa7∘Xaz∘Jwf;refine Jw rfl (Kec easyG easyQ3 w2 1 62 _ _ easyQ3_inv hw2 hw2R) rfl ?_;rintro v U J ⟨w3,Sc,rfl,hw3,hw3R,rfl,rfl⟩;rw [Ueb] at hw3;refine Jy zSb rfl ?_;apply Xa7∘Xaz∘Jwf;refine Jw rfl (Zfc easyG easyQ5 w3 63 _ _ Jie hw3 hw3R) rfl ?_;rintro v U J ⟨w4,Sd,rfl,hw4,hw4R,rfl,rfl⟩;refine Jy zSb rfl ?_;apply Xa7∘qak∘Xce;obtain ⟨e1,e2,e3⟩:=Vkd;rw [e1];have hcl:w4.cuts.l=easyC:=hw4.cuts.trans e2;have hsl:w4.feeder.switches.l=easySw:=hw4.sw.trans e3;have hcn:w4.cuts.l.length=1:=by rw [hcl];exact Kxe.1
 have hsn:w4.feeder.switches.l.length=1:=by rw [hsl];exact Y5e.1
 have hcg:=Jn (l:=w4.cuts.l) (k:=0) default za;have hsg:=Jn (l:=w4.feeder.switches.l) (k:=0) default za;have hco:(w4.cuts.l.getD 0 default).off=false:=by rw [hcl];exact Kxe.2
 have hso:(w4.feeder.switches.l.getD 0 default).closed=true:=by rw [hsl];exact Y5e.2
 obtain ⟨cc,hce⟩:∃cc,cc=w4.cuts.l.getD 0 default:=⟨_,rfl⟩;obtain ⟨ss,hse⟩:∃ss,ss=w4.feeder.switches.l.getD 0 default:=⟨_,rfl⟩;rw [← hce] at hcg hco;rw [← hse] at hsg hso;have hcR:=hw4R.cuts;have hsR:=hw4R.feeder.sw;apply Xbc∘Xcn;apply K9 (G:=[_,_,_,_]) (j:=2) (cj:=52) rfl rfl zb rfl zsb rfl;·intro hg3;replace hg3:=qb hg3;exact (Xab) zee
 intro junk3;apply (qah);apply K9 (G:=[_,_,_,_,_,_]) (j:=8) (cj:=58) rfl rfl zb rfl zsb rfl;·intro hg9;replace hg9:=qb hg9;exact (Xaa∘qdt∘Xa9) zge
 intro junk9;apply (qah);apply K9 (G:=[_,_,_,_,_]) (j:=16) (cj:=66) rfl rfl zb rfl zsb rfl;·intro hg17;replace hg17:=qb hg17;exact (Xb9) zee
 intro junk17;apply (qah);apply K9 (G:=[_,_,_,_,_,_]) (j:=23) (cj:=73) rfl rfl zb rfl zsb rfl;·intro hg24;replace hg24:=qb hg24;exact (Xdr∘qdt∘Xa9) qai
 intro junk24;apply (Xbb);refine Kx (U:=L) (J:=R) (Vu rfl zjd) ?hp ?hL ?hR;case hp=>exact ⟨by simp [hco,hso,hcn,hsn],rfl,rfl⟩
 case hL=>exact zi
 case hR=>exact fun r hr=>(hsub r hr).mono fun r hr=>Ja zF
end
section
attribute [local irreducible] CJ LJ DJ Tri YV Gives U5 J2 Kn U6 RV J4 OwL.L
def Zmd {α:Type} {P:Nat→α→Prop} {l:List α} (h:∀(i:Nat) (s:α),l[i]?=some s→P i s) {s:α} (hs:P l.length s):∀(i:Nat) (t:α),(l ++ [s])[i]?=some t→P i t:=fun i t ht=>by
 rcases yk i l.length with hi | hi
 ·rw [yG hi] at ht
  exact h i t ht
 ·rw [yJ hi] at ht
  obtain rfl:i=l.length:=by
   rcases yk (i - l.length) 1 with h1 | h1
   ·omega
   ·rw [yu zla] at ht;cases ht
  rw [yub] at ht
  cases ht
  exact hs
end
section
def Ved (fl:List Int) (l:List XSpan):Prop:=∀k:Nat,k < fl.length→(l.getD k default).low≤fl.getD k 0∧fl.getD k 0≤(l.getD k default).high
def ana_holds {a:XAir} {s:XSetting} {x:XState} {A:List Bool} (h0:Ky a=0) (hf:Una a s=true) (hA:AiryIs a.mine A) (hF:FitsF a s x):Ved x.flows.l (Uyb a s A).2:=fun k hk=>by
 have hn:=hF.flen
 have hk':k < a.mine.roads.l.length:=by omega
 have hg:=Jn (l:=x.flows.l) (k:=k) 0 hk
 have hq:=hF.flow _ (yi hg)
 rcases (Uwe h0 hf hA).2 with ⟨hac,hle,e⟩ | e
 ·rw [e, yh (l := (List.range a.mine.roads.l.length).map (Ui a s (Yta a s A) A)), yr, yV hk']
  exact hac.flows hF hA hk'
 ·rw [e, yh (l := (List.range a.mine.roads.l.length).map (Jea a)), yr, yV hk']
  show (Jea a k).low≤_∧_≤(Jea a k).high
  rw [Jea]
  split
  ·rename_i hc
   rw [hF.shut hk' hc];decide
  ·simp only [nothingS];omega
def at_holds {s:XSens} {m:XMeas} {t q:Int} (hk:s.kind=3) (h:m.span.low≤q∧q≤m.span.high) (hq:-1048576≤q∧q≤1048576):(atS s m t).low≤q∧q≤(atS s m t).high:=by
 rw [atS];split;·simp only [nothingS];omega
 ·rename_i hg;have hb:=Joc hg;rw [if_neg za,if_neg za,Jxf];dsimp only;omega
structure TrueTo (fl:List Int) (l:List XSpan) (ns:Nat) (st:NarSt):Prop where
 len:st.out.length=l.length
 at_:∀j:Nat,j < fl.length→((st.out.getD j default).low≤fl.getD j 0∧fl.getD j 0≤(st.out.getD j default).high)∧(l.getD j default).low≤(st.out.getD j default).low∧(st.out.getD j default).high≤(l.getD j default).high
 bad:st.bad=List.replicate ns false
def Kvc {n : Nat} : ∀ k, Yua (List.replicate n false) k = []
 | 0=>rfl
 | k + 1=>by
  rw [Jqc,Kvc k,if_neg]
  rw [yh,yB]
  split <;> decide
end
end Go.Proofs.YtchfclmokpbldaaGreat
