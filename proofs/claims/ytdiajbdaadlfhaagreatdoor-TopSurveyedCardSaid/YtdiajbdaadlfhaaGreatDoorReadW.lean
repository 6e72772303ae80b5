/-
  Merged texts. By an AI agent.
-/
import Derived.Test.YtdiajbdaadlfhaaGreatDoorPlanA
import Derived.Test.YtdiajbdaadlfhaaGreatDoorData
import Derived.Test.YtdiajbdaadlfhaaGreatDoorSiteD
import Derived.Lib.AppendStr
import Derived.Lib.Builder
import Derived.Laws.Externs
import Derived.Test.YtdiajbdaadlfhaaGreatDoorLinW
import Derived.Test.YtdiajbdaadlfhaaGreatDoorOwn
import Derived.Test.YtdiajbdaadlfhaaGreatDoorStaA
set_option linter.all false
set_option maxHeartbeats 4000000
set_option maxRecDepth 20000
variable{A B:Prop}
namespace Go.Proofs.YtdiajbdaadlfhaaGreatDoor
open Go.Aw Go Go.Proofs.Tryz
abbrev kP(c:UInt8):List Value:=[.int .u8 c.toNat]
def aGA(s:List UInt8):Lib.strCells ⟨s.toArray⟩=s.flatMap kP:=by
 show(s.map λb:UInt8=>Value.int .u8 b.toNat)=_;induction s with
 |nil=>rfl
 |cons c s cA=>rw[pV,vZ,cA];rfl
section
variable{P:Program}{aV:Operand->Value}{L:aW}{R:aP}{dst:Option Tmp}{ty:TypeId}{pos:String}{after:Array Edge}{guard:Option (Nat×Bool)}(M:nN P){T Cb:TypeId}{x y:Operand}
def aYz{e n fl bt z eK pJ oR h5 fT nK}{z0:Value}(p:J UInt8)(s:List UInt8){F:J UInt8->aW}(dF:g5 M.gD T=some ⟨.slice e,n,fl,bt,z⟩)(c6:g5 M.gD e=some ⟨eK,1,pJ,1,[z0]⟩)(b1w:g5 M.gD Cb=some ⟨.string,oR,h5,fT,nK⟩)
 (K:aV x=p.val) (bB:aV y=sv s) (bM:p.ok 1 kP) (uU:tB e kP p L F) (MQ:p.l.length+s.length<=100000000):
 dR P ⟨dst,.call ⟨.builtin .append,#[x,y],#[T,Cb]⟩,ty,pos,after,guard⟩ aV L R (λv E R'=>∃o:gT,v=(⟨o,p.l++s⟩:J UInt8).val/\(⟨o,p.l++s⟩:J UInt8).ok 1 kP/\F ⟨o,p.l++s⟩=E/\R=R'):=by
 intro c w cW a next Q gK
 have cZ:=LL (M.ok _ _ dF) rfl;have a2Y:=Y8 (M.ok _ _ b1w) rfl;obtain⟨hZ,u,l0,FX,i2,i3,i4⟩:=E0 (M.ok _ _ c6);have xW:hZ.size=1:=by have:=congrArg iD.sz i4;simpa[BL]using this.symm
 have yH:hZ.bytes=1:=by have:=congrArg iD.bt i4;simpa[BL]using this.symm
 have dI:l0.cells.toList=[z0]:=by have:=congrArg iD.z i4;simpa[BL]using this.symm
 have CD:l0.cells.size=1:=by have:=congrArg List.length dI;simpa using this
 obtain⟨A,B,b3,hR⟩:=uU.split;have Ll:(⟨s.toArray⟩:ByteArray).size=s.length:=by simp[ByteArray.size]
 have nU:=aGA s;have HJ:∀l:List UInt8,(l.flatMap kP).length=l.length:=λl=>by rw[C0 (aI:=1) bH l,Mv]
 have dH:execOp aV ⟨dst,.call ⟨.builtin .append,#[x,y],#[T,Cb]⟩,ty,pos,after,guard⟩=(do pure (.value (<-Builtin.append_ #[T,Cb] ty #[aV x,aV y]))):=by exact Vx
 have Nr:∀k,(Builtin.zeroCells l0.cells k).toList.length=k:=λk=>by rw[a4d,size_zeroCells,CD,Mv]
 have dC:(p.l++s).length=p.l.length+s.length:=hL;have a2l:p.l.flatMap kP++s.flatMap kP=(p.l++s).flatMap kP:=List.flatMap_append.symm;have b9w:maxLen=9223372036854775807:=rfl;have Vh:∀lW:Nat,c5 c (A++B) R w->lW<p.l.length+s.length->
  ∀Gi:World,Gi=w.drew.alloc (.cells ((p.l.flatMap kP).toArray++(Lib.strCells ⟨s.toArray⟩).toArray++Builtin.zeroCells l0.cells (grownCap w (p.l.length+s.length) lW e-(p.l.length+s.length))) e)->
   next (a.put dst (.slice (some ⟨w.heap.size,0,none⟩) (p.l.length+s.length) (grownCap w (p.l.length+s.length) lW e))) Gi:=by
  intro lW I0 cM Gi aAO;have To:=grownCap_ge w (p.l.length+s.length) lW e;have a9t:=grownCap_le_maxLen w (p.l.length+s.length) lW e D;have U:=(I0.drew).alloc ((p.l.flatMap kP).toArray++(Lib.strCells ⟨s.toArray⟩).toArray++Builtin.zeroCells l0.cells (grownCap w (p.l.length+s.length) lW e-(p.l.length+s.length))) e;rw[aAO];refine gK _ _ R _ ⟨.own w.heap.size (grownCap w (p.l.length+s.length) lW e) (Builtin.zeroCells l0.cells (grownCap w (p.l.length+s.length) lW e-(p.l.length+s.length))).toList,?_,?_,rfl,rfl⟩ ?_;·rw[J.val];dsimp only;rw[dC];rfl
  ·rw[J.ok];dsimp only;refine⟨by rw[HJ];omega,by rw[dC];exact To,a9t,?_⟩;rw[hL,HJ,Nr,dC];omega
  ·rw[hR];refine U.yN ?_;simp only[J.L,gT.L,World.size_drew,Array.toList_append,kF,mK,nJ,nU,<-a2l];exact List.perm_middle.symm
 cases cM:p.o with
 |nil=>
  have xU:=bM;rw[J.ok,cM]at xU;have i1:p.l=[]:=NJ xU.1;have xY:aV x=.slice none 0 0:=by rw[K,J.val,cM,i1];rfl
  have I0:c5 c (A++B) R w:=by(have e:p.L e kP=[]:=by rw[J.L,cM];rfl);rw[b3,e,rV]at cW;exact cW
  rcases a3H s.length with PO|PO;·
   have IZ:s=[]:=NJ PO;have aH:=Lib.run_firstCells_string (P:=P) w 1 ⟨s.toArray⟩;rw[Ll,PO]at aH;refine EZ (w':=w) (v:=.slice none 0 0) ?_ (gK _ _ _ w ⟨.nil,by rw[IZ,i1];rfl,by rw[IZ,i1];exact⟨rfl,rfl⟩,rfl,rfl⟩ ?_);·rw[dH,xY,bB];(have bA:Lib.strCells ⟨s.toArray⟩=[]:=by rw[nU,IZ];rfl);rw[bA]at aH;simp[Builtin.append_,run_underlying cZ,run_underlying a2Y,sizeOf,typeInfo,FX,xW,Builtin.lenOf,Ll,PO,aH]
   ·rw[hR];have e:(⟨.nil,p.l++s⟩:J UInt8).L e kP=[]:=rfl;rw[e,rV];exact I0
  ·have O:=Go.run_append_nil_string (P:=P) w T Cb ty e hZ l0 cZ a2Y FX i3 ⟨s.toArray⟩ D D (by rw[yH];omega);refine EZ (w':=_) (v:=_) (h:=?_) (k:=Vh 0 I0 D _ rfl);(have eH:((⟨s.toArray⟩:ByteArray).data.map λb=>Value.int .u8 b.toNat)=(Lib.strCells ⟨s.toArray⟩).toArray:=by apply Array.ext';simp[Lib.strCells]);rw[dH,xY,bB];simp only[s5,O,rD,D8,i1,Ll,v1,K7,eH,a3P,aB6]
 |own g cap spare=>
  have xU:=bM;rw[J.ok,cM]at xU;obtain⟨W5,Lp,Fu,M9⟩:=xU;have a11:p.L e kP=[⟨g,p.l.flatMap kP++spare,e⟩]:=by rw[J.L,cM];rfl
  have S9:aV x=.slice (some ⟨g,0,none⟩) p.l.length cap:=by rw[K,J.val,cM];rfl
  have vR:(⟨g,p.l.flatMap kP++spare,e⟩:bQ)∈L:=by rw[b3,a11];simp
  have aT:w.heap[g]?=some (.cells (p.l.flatMap kP++spare).toArray e (0,0)):=by obtain⟨⟨aD,bF,_⟩,_,_⟩:=cW;exact bF.own _ vR
  by_cases Li:p.l.length+s.length<=cap;·
   have O:=Lib.run_append_room_string (P:=P) w T Cb ty e hZ cZ a2Y FX xW g p.l.length cap (p.l.flatMap kP++spare).toArray aT ⟨s.toArray⟩ D (by rw[a3N,M9];omega);(have b2a:((p.l.flatMap kP++spare).toArray.toList.take p.l.length++Lib.strCells ⟨s.toArray⟩++(p.l.flatMap kP++spare).toArray.toList.drop (p.l.length+(⟨s.toArray⟩:ByteArray).size))=(p.l++s).flatMap kP++spare.drop s.length:=by have dV:=HJ p.l;(have gY:(p.l.flatMap kP++spare).take p.l.length=p.l.flatMap kP:=by rw[<-dV];exact List.take_left);(have j1:(p.l.flatMap kP++spare).drop (p.l.length+s.length)=spare.drop s.length:=by rw[aCg,dV,Wf D,Nat.add_sub_cancel_left,nJ]);show(p.l.flatMap kP++spare).take p.l.length++Lib.strCells ⟨s.toArray⟩++(p.l.flatMap kP++spare).drop (p.l.length+(⟨s.toArray⟩:ByteArray).size)=_;rw[Ll,gY,j1,nU,a2l]);rw[b2a]at O;(have aAG:q0 g (p.l.flatMap kP++spare) e ((p.l++s).flatMap kP++spare.drop s.length) L (F ⟨.own g cap (spare.drop s.length),p.l++s⟩):=by rw[b3,hR,a11];simp only[J.L,gT.L,kF,mK,nJ];exact .wJ .lK);refine EZ (w':=_) (v:=_) (h:=?_) (k:=gK (.slice (some ⟨g,0,none⟩) (p.l.length+s.length) cap) _ R _ ⟨.own g cap (spare.drop s.length),?_,?_,rfl,rfl⟩ (cW.setRow aAG));·rw[dH,S9,bB];simp only[s5,O,rD,D8,Ll]
   ·rw[J.val];dsimp only;rw[dC];rfl
   ·rw[J.ok];dsimp only;rw[hL,HJ]at M9;refine⟨by rw[HJ];omega,by rw[dC];exact Li,Fu,?_⟩;rw[hL,HJ,F8,dC];omega
  ·(have holds:∀j v,(p.l.flatMap kP)[j]?=some v->w.cell? ((⟨g,0,none⟩:Addr).add j)=some v:=λj v a6=>by exact aPr);have O:=Lib.run_append_grow_string (P:=P) w T Cb ty e hZ l0 cZ a2Y FX i3 ⟨g,0,none⟩ p.l.length cap (p.l.flatMap kP) (by rw[xW,HJ];omega) holds ⟨s.toArray⟩ D D (by rw[yH];exact growslice_fits D D);(have I0:c5 c (A++B) R w:=by exact aPp);refine EZ (w':=_) (v:=_) (h:=?_) (k:=Vh cap I0 D _ rfl);rw[dH,S9,bB];simp only[s5,O,rD,D8,Ll]
end
section
abbrev wM(b:Nat)(iZ:Option Addr)(v:Value):bQ:=⟨b,[.pointer iZ,v],83⟩
abbrev Xs(b:Nat)(iZ:Option Addr):Prop:=iZ=none\/iZ=some ⟨b,0,none⟩
section
variable{aV:Operand->Value}{L:aW}{R:aP}{dst:Option Tmp}{ty:TypeId}{pos:String}{after:Array Edge}{guard:Option (Nat×Bool)}{hN:TypeId}{x y:Operand}
def a0w:∃j,prog.underlying 81=some (.pointer 83)/\prog.info? 83=some j/\j.size=2:=by obtain⟨j,G,U⟩:=Option.map_eq_some_iff.1 (show(prog.info? 83).map (·.size)=some 2 by kernel_rfl);exact⟨j,by kernel_rfl,G,U⟩
def aE0{a:Option Addr}(K:aV x=.pointer a)(bB:aV y=.pointer none):
 cI prog ⟨dst,.binOp .eql 81 x y hN,ty,pos,after,guard⟩ aV L R (.bool a.isNone):=λ_ w _=>by
 obtain⟨j,G,U,aO⟩:=a0w
 have e:∀d,(Op.equalIn (d+1) 81 (.pointer a) (.pointer none)).run prog w=.ok a.isNone w:=λd=>by
  cases a<;>simp[Op.equalIn,run_underlying G]
 simp[execOp,K,bB,eqGuard,binOp,Op.equal,Op.maxDepth,e 9999]
def aYD{a:Addr}(K:aV x=.pointer (some a))(bB:aV y=.pointer (some a)):
 cI prog ⟨dst,.binOp .neq 81 x y hN,ty,pos,after,guard⟩ aV L R (.bool false):=λ_ w _=>by
 obtain⟨j,G,U,aO⟩:=a0w
 have e:=Lib.run_neq_ptr_same w a G U
 simp[execOp,K,bB,eqGuard,e]
def aHC{c:sH}{w:World}{b:Nat}{iZ:Option Addr}{v:Value}(aF:c5 c L R w)(a1:wM b iZ v∈L):w.shape? b=some (83,2):=by obtain⟨⟨aD,bF,_⟩,_,_⟩:=aF;have G:=bF.own _ a1;have G:w.heap[b]?=some (.cells #[.pointer iZ,v] 83 (0,0)):=G;simp[World.shape?,G]
def aRn{b:Nat}{iZ:Option Addr}{v:Value}(a1:wM b iZ v∈L)(K:aV x=.pointer (some ⟨b,0,none⟩)):
 cI prog ⟨dst,.convert 81 236 x,ty,pos,after,guard⟩ aV L R (.pointer (some ⟨b,0,none⟩)):=λ_ w aF=>by
 obtain⟨j,G,U,aO⟩:=a0w
 have e:=Lib.run_to_unsafe w ⟨b,0,none⟩ G aQO U (by rw[aO];decide) (aHC aF a1) (Nat.zero_lt_succ 1)
 simp[execOp,K,e]
def aV7{b:Nat}{iZ:Option Addr}{v:Value}(a1:wM b iZ v∈L)(K:aV x=.pointer (some ⟨b,0,none⟩)):
 cI prog ⟨dst,.convert 236 81 x,ty,pos,after,guard⟩ aV L R (.pointer (some ⟨b,0,none⟩)):=λ_ w aF=>by
 obtain⟨j,G,U,aO⟩:=a0w
 have e:=Lib.run_from_unsafe w ⟨b,0,none⟩ aQO G U (aHC aF a1) aQ
 simp[execOp,K,e]
def aZr{u:Value}{n6:Array TypeId}(K:aV x=u)(aA1:aV (.func 97)=.func (.func 97) #[] #[]):
 cI prog ⟨dst,.call ⟨.value (.func 97),#[x],n6⟩,ty,pos,after,guard⟩ aV L R u:=λ_ w _=>by
 have e:=run_callFunc_extern (P:=prog) (f:=97) (e:=Extern.AbiNoEscape.same) func97 aQ aQ aQ aQ #[u] w
 rw[Lib.run_noEscape]at e
 have bX:(#[x]:Array Operand).map aV=#[u]:=by simp[K]
 simp only[execOp,resolve,bX,aA1,Deferred.ofValue]
 simpa[invoke]using e
end
def c5.b0q{c:sH}{L A B:aW}{R:aP}{w:World}{g:Nat}{cs:List Value}{T:TypeId}(b3:L=A++⟨g,cs,T⟩::B)(h:c5 c L R w)(n:Nat):c5 c (A++B) R (w.freeze ⟨g,0,none⟩ n):=by
 subst b3;obtain⟨⟨aD,bF,bE⟩,cM,Y⟩:=h.yN Wg;have sC:∀b,b≠g->(w.freeze ⟨g,0,none⟩ n).heap[b]?=w.heap[b]?:=λb aT=>by
  unfold World.freeze;split;·rfl
  ·simp only[Array.getElem?_modify];rw[if_neg (λe=>aT e.symm)]
 have sz:(w.freeze ⟨g,0,none⟩ n).heap.size=w.heap.size:=by
  unfold World.freeze;split;·rfl
  ·simp
 have lC:=bF.lC;simp only[pV,P9]at lC;have ne:∀e∈A++B,e.b≠g:=λe V h=>lC.1 (List.mem_map.2 ⟨e,V,h⟩);refine⟨⟨aD,⟨lC.2,λe V=>(sC _ (ne e V)).trans (bF.own e (.tail _ V)),λe V=>bF.pT e (.tail _ V),λb aT=>by rw[sz];exact bF.nT b aT,λr O=>(bF.nH r O).mono (λ_ h=>h) (λb aT=>sC b (λe=>bF.pT _ (.head _) (e▸aT)))⟩,bE⟩,λe V=>cM e (.tail _ V),⟨?_,?_,?_,by rw[sz];exact Y.size,λb aT bA=>(sC b λe=>?_).trans (Y.block b aT bA)⟩⟩;·rw[<-Y.os];unfold World.freeze;split<;>rfl
 ·rw[<-Y.tape];unfold World.freeze;split<;>rfl
 ·rw[<-Y.output];unfold World.freeze;split<;>rfl
 ·
  subst e;rcases cM _ (.head _)with h|h;·exact bA h
  ·exact absurd h (Nat.not_le.2 aT)
section
variable{P:Program}{aV:Operand->Value}{L:aW}{R:aP}{dst:Option Tmp}{ty:TypeId}{pos:String}{after:Array Edge}{guard:Option (Nat×Bool)}{T hN:TypeId}{x y:Operand}
def aUN{a:Addr}{n c:Nat}(K:aV x=.slice (some a) n c)(bU:c≠0):cI P ⟨dst,.call ⟨.builtin .unsafeSliceData,#[x],#[T]⟩,ty,pos,after,guard⟩ aV L R (.pointer (some a)):=λ_ w _=>by
 have e:=Lib.run_unsafeSliceData_row (P:=P) w #[T] ty a n c bU
 simp[execOp,resolve,invoke,builtin,K,e]
def aX7{A B:aW}{g e:Nat}{l:List UInt8}{spare:List Value}(aG:P.underlying T=some (.pointer e))(bU:P.cellsOf e=1)(K:aV x=.pointer (some ⟨g,0,none⟩))(bB:aV y=.int .i64 (l.length:Int))(bV:l≠[])(bA:l.length<=100000000)(b3:L=A++⟨g,l.flatMap kP++spare,e⟩::B):
 dR P ⟨dst,.call ⟨.builtin .unsafeString,#[x,y],#[T,hN]⟩,ty,pos,after,guard⟩ aV L R (λv E R'=>v=sv l/\A++B=E/\R=R'):=by
 intro c w cW a next Q gK
 have aT:w.heap[g]?=some (.cells (l.flatMap kP++spare).toArray e (0,0)):=by have pL:=cW;obtain⟨⟨aD,bF,_⟩,_,_⟩:=pL;exact bF.own ⟨g,l.flatMap kP++spare,e⟩ (by rw[b3];simp)
 have HJ:(l.flatMap kP).length=l.length:=by rw[C0 (aI:=1) bH l,Mv]
 have KN:w.shape? g=some (e,(l.flatMap kP++spare).length):=by simp[World.shape?,aT]
 have O:=Lib.run_unsafeString_row (P:=P) w T hN ty e aG bU g _ KN l bV (by rw[hL,HJ];omega) D (λj u a6=>by rw[UH,K7,Lib.cell_of_heap aT];have MW:=(List.getElem?_eq_some_iff.1 a6).1;rw[List.getElem?_toArray,K4 (by rw[HJ];exact MW),<-aGA,Lib.strCells];show(l.map λb:UInt8=>Value.int .u8 b.toNat)[j]?=_;rw[pW,a6];rfl);refine EZ (w':=_) (v:=_) (h:=?_) (k:=gK _ _ _ _ ⟨rfl,rfl,rfl⟩ (c5.b0q b3 cW l.length));simp[execOp,resolve,invoke,builtin,K,bB,O]
end
attribute [local irreducible] cO dG dP aM cI dR fA e2 e5 fB eQ e9 J.L
def aX0(b:Nat)(v:Value)(L:aW)(R:aP):
 aM prog 56 [.pointer (some ⟨b,0,none⟩)].toArray (wM b none v::L) R (λu E R'=>u=.tuple #[]/\wM b (some ⟨b,0,none⟩) v::L=E/\R=R'):=by
 refine cX 20 call56 func56 rfl rfl rfl ?_;apply(RX);refine aA iX rfl ?_;apply(gB);refine aA (aE0 rfl rfl) rfl ?_;apply(dD);refine yX rfl ?_;apply IE∘iS;refine aA (aRn (.head _) rfl) rfl ?_;refine aA (aZr rfl rfl) rfl ?_;refine aA (aV7 (.head _) rfl) rfl ?_;refine aA iX rfl ?_;apply(gF);refine YG (v:=Value.pointer _) M rfl rfl rfl rfl qV Bh Be aK ?_;apply(yP);refine ZC (E:=wM b (some ⟨b,0,none⟩) v::L) (R':=R) (YF rfl) ?aG ?b3 ?b8;case aG=>exact⟨rfl,rfl,rfl⟩
 case b3=>exact bC
 case b8=>exact oV _
def aWk(b:Nat)(v:Value)(L:aW)(R:aP):
 aM prog 56 [.pointer (some ⟨b,0,none⟩)].toArray (wM b (some ⟨b,0,none⟩) v::L) R (λu E R'=>u=.tuple #[]/\wM b (some ⟨b,0,none⟩) v::L=E/\R=R'):=by
 refine cX 20 call56 func56 rfl rfl rfl ?_;apply(RX);refine aA iX rfl ?_;apply(gB);refine aA (aE0 rfl rfl) rfl ?_;apply(dD);refine CT rfl ?_;apply(RX);refine aA iX rfl ?_;apply gB∘iS;refine aA (aYD rfl rfl) rfl ?_;apply(dD);refine CT rfl ?_;refine gG ?_;refine ZC (E:=wM b (some ⟨b,0,none⟩) v::L) (R':=R) (YF rfl) ?aG ?b3 ?b8;case aG=>exact⟨rfl,rfl,rfl⟩
 case b3=>exact bC
 case b8=>exact oV _
def aIp(b:Nat)(iZ:Option Addr)(v:Value)(L:aW)(R:aP)(bX:Xs b iZ):
 aM prog 56 [.pointer (some ⟨b,0,none⟩)].toArray (wM b iZ v::L) R (λu E R'=>u=.tuple #[]/\wM b (some ⟨b,0,none⟩) v::L=E/\R=R'):=by
 rcases bX with rfl|rfl;·exact aX0 b v L R
 ·exact aWk b v L R
def aSJ(b:Nat)(iZ:Option Addr)(q:J UInt8)(s:List UInt8)(L:aW)(R:aP)(bX:Xs b iZ)(bZ:q.ok 1 kP)(bA:q.l.length+s.length<=100000000):
 aM prog 26 [.pointer (some ⟨b,0,none⟩),sv s].toArray (wM b iZ q.val::(q.L 5 kP++L)) R (λu E R'=>∃p:J UInt8,u=.tuple #[.int .i64 (s.length:Int),.nilIface]/\p.ok 1 kP/\p.l=q.l++s/\wM b (some ⟨b,0,none⟩) p.val::(p.L 5 kP++L)=E/\R=R'):=by refine cX 19 call26 func26 rfl rfl rfl ?_;apply(oO);refine aA (qG rfl) rfl ?_;apply(OC);refine eD rfl (aIp b iZ q.val _ _ bX) ?_;apply OC∘iS;refine aA iX rfl ?_;apply(gB);refine aA m8 rfl ?_;refine g2 (aYz M q s rfl rfl rfl rfl rfl bZ cL bA) rfl ?_;rintro v E R' ⟨sY,rfl,WE,rfl,rfl⟩;refine aA iX rfl ?_;apply q6∘iG;refine aA m8 rfl ?_;refine aA NS rfl ?_;apply(eA);refine aA (qG rfl) rfl ?_;apply(DW);refine cF (wM b (some ⟨b,0,none⟩) (⟨sY,q.l++s⟩:J UInt8).val::((⟨sY,q.l++s⟩:J UInt8).L 5 kP++L)) R (tD rfl rG (EL rfl)) ?_;exact⟨⟨sY,q.l++s⟩,rfl,WE,rfl,rfl,rfl⟩
def aYY(b:Nat)(iZ:Option Addr)(q:J UInt8)(c:UInt8)(L:aW)(R:aP)(bX:Xs b iZ)(bZ:q.ok 1 kP)(bA:q.l.length<=100000000):
 aM prog 27 [.pointer (some ⟨b,0,none⟩),.int .u8 c.toNat].toArray (wM b iZ q.val::(q.L 5 kP++L)) R (λu E R'=>∃p:J UInt8,u=.nilIface/\p.ok 1 kP/\p.l=q.l++[c]/\wM b (some ⟨b,0,none⟩) p.val::(p.L 5 kP++L)=E/\R=R'):=by refine cX 17 call27 func27 rfl rfl rfl ?_;apply(eV);refine aA (qG rfl) rfl ?_;apply(OC);refine eD rfl (aIp b iZ q.val _ _ bX) ?_;apply OC∘iS;refine aA iX rfl ?_;apply h1∘w1;rintro v E R' ⟨zH,rfl,rfl,KF⟩;replace KF:=KF.symm;subst KF;refine g2 (jZ (f:=kP) (p:=q) (a:=c) M rfl rfl rfl rfl (bZ) cL j8 rfl kG) rfl ?_;rintro v E R' ⟨sY,rfl,WE,rfl,rfl⟩;refine aA iX rfl ?_;apply q6∘iG;refine aA (qG rfl) rfl ?_;apply(DW);refine cF (wM b (some ⟨b,0,none⟩) (⟨sY,q.l++[c]⟩:J UInt8).val::((⟨sY,q.l++[c]⟩:J UInt8).L 5 kP++L)) R (qI rfl (EL rfl)) ?_;exact⟨⟨sY,q.l++[c]⟩,rfl,WE,rfl,rfl,rfl⟩
def aVl(b:Nat)(iZ:Option Addr)(q:J UInt8)(L:aW)(R:aP)(bZ:q.ok 1 kP)(bV:q.l≠[])(bA:q.l.length<=100000000):
 aM prog 28 [.pointer (some ⟨b,0,none⟩)].toArray (wM b iZ q.val::(q.L 5 kP++L)) R (λu E R'=>u=sv q.l/\wM b iZ q.val::L=E/\R=R'):=by
 obtain⟨o,l⟩:=q;cases o with
 |nil=>exact absurd (NJ bZ.1) bV
 |own g cap spare=>
 have bU:cap≠0:=λe=>bV (NJ (by have:=bZ.2.1;omega));have a11:(⟨.own g cap spare,l⟩:J UInt8).L 5 kP=[⟨g,l.flatMap kP++spare,5⟩]:=by unfold J.L;rfl
 refine cX 14 call28 func28 rfl rfl rfl ?_;apply(eV);refine aA pX rfl ?_;apply(j6);refine jR M [0,1,2,3,5,6,7,8,9,4,10,11] ([bQ.mk b _ _]) mixed aQ bC ?_;apply J6∘J6;refine b7 CP rfl rfl rfl ?_;refine pP (aUN rfl bU).aKW rfl rfl rfl ?_;rintro v E R' ⟨rfl,rfl,rfl⟩;apply(fI);refine pP (aX7 (A:=[wM b iZ (⟨.own g cap spare,l⟩:J UInt8).val]) (B:=L) (g:=g) (e:=5) (l:=l) (spare:=spare) aQ aQ rfl rfl bV bA (by rw[a11];rfl)) rfl rfl rfl ?_;rintro v E R' ⟨rfl,rfl,rfl⟩;apply(fI);refine b7 pX rfl rfl rfl ?_;refine jI (bY (mE ?_));refine cF (wM b iZ (⟨.own g cap spare,l⟩:J UInt8).val::L) _ (qI rfl (EL XW)) ?_;exact BJ
end
section
def aQ4{es:List eO}(h:1<=es.length):k0 es≠[]:=by
 cases es with
 |nil=>simp at h
 |cons e es=>simp[k0]
attribute [local irreducible] cO dG dP aM cI dR fA e2 e5 fB eQ e9 J.L
def aT6(es:bP eO)(L:aW)(R:aP)(a9x:aN (Jm es) R)(aZ:∀e∈es.l,wB e)(bA:1<=es.l.length/\es.l.length<=400)(b3:s3∈L):
 aM prog 6 [es.val].toArray L R (λv E R'=>v=.tuple #[sv (wH es.l),.int .i64 0]/\L=E/\R=R'):=by
 have Tg:=Zx aZ;have qB:=a76 (es:=es.l);have aLH:∀k,(k0 (es.l.take k)).length<=50000:=λk=>by have:=Zx (es:=es.l.take k) λe V=>aZ e (Wh V);rw[HS]at this;omega
 refine cX 42 call6 func6 rfl rfl rfl ?_;apply(eV);refine aA pX rfl ?_;apply kB∘j0∘y8;refine aJ ?_ ?_<;>intro bI;·apply(eV);refine aA pX rfl ?_;apply(uG);refine cF L R (tD rfl (EL XW) rG) ?_;exact absurd bI D
 apply gI∘dO;intro dU;apply mY∘r3;refine e3 [(4,.pointer _),(13,.slice _ _ _),(14,.int _ _),(15,.int _ _)] cB λg9=>?_;refine oM ([2,3,6,7,8]++dJ 15 15) ((⟨λg=>[(15,.int .i64 ((g.1.1:Nat):Int))],λg=>wM dU g.1.2.1 g.1.2.2.val::(g.1.2.2.L 5 kP++L),λ_=>R,λg=>es.l.length-g.1.1⟩:e0 {g:Nat×Option Addr×J UInt8//g.1<=es.l.length/\Xs dU g.2.1/\g.2.2.ok 1 kP/\g.2.2.l=k0 (es.l.take g.1)})) (⟨(0,none,J.nil),rW _,.inl rfl,J.iJ,rfl⟩) cB JB eX ?_;rintro⟨⟨k,iZ,q⟩,Y,aLx,g7,eZ⟩ c1;try dsimp only
 dsimp only at Y aLx g7 eZ;have yK:=aLH k;rw[<-eZ]at yK;apply(gU);refine aJ ?_ ?_<;>intro cK;·
  have bE:=bR (l:=es.l) (k:=k) default D;obtain⟨e,V⟩:∃e,e=es.l.getD k default:=⟨_,rfl⟩;rw[<-V]at bE;have yI:=aZ _ (hS bE);have lL:=Cg yI;apply(jK);refine aA rF rfl ?_;refine aA aQz rfl ?_;apply(dO);intro jN;apply(p6);refine aA Bc rfl ?_;refine eD rfl (aXo e _ _ yI Ni) ?_;refine aA jE rfl ?_;apply(Y3);refine aA pX rfl ?_;apply xF∘J5;refine CT rfl ?_;apply(CI);refine sN (E:=wM dU iZ q.val::(q.L 5 kP++L)) bC eX ?_;apply(e1);refine aA m8 rfl ?_;refine dN rfl (aSJ dU iZ q (p7 e) _ _ aLx g7 D) rfl ?_;rintro v E R' ⟨p,rfl,iN,dC,rfl,rfl⟩;have l2:p.l.length<=100000:=by rw[dC,hL];omega
  refine eS (bY (dM ?_));refine dN rfl (aYY dU (some ⟨dU,0,none⟩) p 10 _ _ (.inr rfl) iN D) rfl ?_;rintro v E R' ⟨dQ,rfl,Un,Lc,rfl,rfl⟩;apply(tF);exact eG ⟨(k+1,some ⟨dU,0,none⟩,dQ),by dsimp only;omega,.inr rfl,Un,by dsimp only;rw[Lc,dC,eZ,aJh bE]⟩
 obtain rfl:k=es.l.length:=by omega
 rw[BB]at eZ;apply(oS);refine eD rfl (aVl dU iZ q _ _ g7 (by rw[eZ];exact aQ4 bA.1) D) ?_;rw[eZ];refine aA pX rfl ?_;apply(iG);refine aA m8 rfl ?_;refine aA m8 rfl ?_;refine eD rfl (aFM (k0 es.l) _ _ D) ?_;apply(w1);rintro v E R' ⟨MF,rfl,rfl,PA⟩;replace PA:=PA.symm;subst PA;refine eD rfl (Ip (l:=[C1 (k0 es.l)]) Nj Ni (λn bA=>by have:=a1k (k0 es.l);rw[List.mem_singleton.1 bA];constructor<;>omega) aX (s6 rfl)) ?_;refine aA (Io M rfl rfl rfl (show(y3 es.l).length+1<=_ by omega)) rfl ?_;refine aA (Io M rfl rfl rfl (show(k0 es.l).length+(y3 es.l++[10]).length<=_ by rw[hL,rE];omega)) rfl ?_;refine aA pX rfl ?_;apply(mY);refine aA m8 rfl ?_;refine aA NS rfl ?_;apply(y8);refine aJ ?_ ?_<;>intro gZ;·apply(eV);refine aA pX rfl ?_;apply(uG);refine cF L R (tD rfl (EL XW) rG) ?_;exfalso;have aO:65536<((k0 es.l++(y3 es.l++[10])).length:Int):=gZ;rw[hL,hL,rE]at aO;omega
 apply(gI);refine aA m8 rfl ?_;refine aA pX rfl ?_;apply(sO);refine cF L R (tD rfl (EL XW) rG) ?_;exact BJ
end
section
attribute [local irreducible] cO dG dP aM cI dR fA e2 e5 fB eQ e9 J.L
def a67(h:A->B:=by exact aA (a7S M rfl rfl rfl D bS) rfl):=h
def a0F: ∀(k:Nat) (d:List UInt8),(∀c∈d,48<=c.toNat/\c.toNat<=57)->0<=L2 (d.take k)
 |0,d,_=>by simp[L2]
 |k+1,d,h=>by
  rcases gX k d.length with Y|Y
  ·have bE:=w4 Y
   have G:=a0F k d h
   have U:=h _ (Wn Y)
   rw[a5r bE];omega
  ·rw[yV D]
   have:=a0F k d h
   rwa[yV Y]at this
def aHW(d:List UInt8)(h: ∀c∈d,48<=c.toNat/\c.toNat<=57)(k:Nat): ∀j,L2 (d.take k)<=L2 (d.take (k+j))
 |0=>oH _
 |j+1=>by
  have G:=aHW d h k j
  rcases gX (k+j) d.length with Y|Y
  ·have bE:=w4 Y
   have U:=h _ (Wn Y)
   have aO:=a0F (k+j) d h
   rw[show k+(j+1)=k+j+1 from rfl,a5r bE];omega
  ·rw[yV (l:=d) (i:=k+(j+1)) D]
   rwa[yV Y]at G
def aVp{a:Int}(h:0<=a/\a<256):IntKind.u8.wrap a=a:=by exact aBH
def aVY{P:Program}{aV:Operand->Value}{L:aW}{R:aP}{dst:Option Tmp}{ty:TypeId}{pos:String}{after:Array Edge}{guard:Option (Nat×Bool)}{T hN:TypeId}{x y:Operand}{a b:Int}(K:aV x=.int .u8 a)(bB:aV y=.int .u8 b)(h:0<=a-b/\a-b<256):
 cI P ⟨dst,.binOp .sub T x y hN,ty,pos,after,guard⟩ aV L R (.int .u8 (a-b)):=by have:=a6z (P:=P) (L:=L) (R:=R) (dst:=dst) (ty:=ty) (pos:=pos) (after:=after) (guard:=guard) (T:=T) (hN:=hN) K bB;rwa[aVp h]at this
def aEP(s d:List UInt8)(u:Nat)(L:aW)(R:aP)(a7:Lib.trimPrefix s [45]=d)(cZ:aDc u d)(b99:u<=1000000000)(aZ:d.length<=18)(dI:d[0]?=some 48->s=[48])(aF:s.length<=100):
 aM prog 101 [sv s].toArray L R (λv E R'=>v=.tuple #[.int .i64 (if d.length<s.length then -(u:Int)else(u:Int)),.bool true]/\L=E/\R=R'):=by
 have aG:1<=d.length:=List.length_pos_iff.2 cZ.ne;obtain⟨Dj,a2b⟩:∃c,d[0]?=some c:=⟨d[0]'aG,w4 _⟩;have KG:=Dj.toNat_lt;refine cX 58 call101 func101 rfl rfl rfl ?_;apply oO∘uK;refine aA m8 rfl ?_;refine eD rfl (aUk s [45] _ _) ?_;rw[a7];refine aA pX rfl ?_;apply(mY);refine aA m8 rfl ?_;refine aA NS rfl ?_;apply(q5);apply dT (aD:=[_,_,_]) (j:=3) (b4:=12) rfl rfl aK rfl b2 rfl;·intro fV;replace fV:=cP fV;refine aA m8 rfl ?_;refine aA NS rfl ?_;exact(yO) iA
 intro m2;apply(fD);apply dT (aD:=[_,_,_,_,_,_,_]) (j:=8) (b4:=17) rfl rfl aK rfl b2 rfl;·
  intro h7;replace h7:=cP h7;refine aA m8 rfl ?_;refine aA (a7S M rfl rfl rfl D a2b) rfl ?_;apply(BQ);apply lR (aD:=[_,_]) (j:=12) (b4:=21) rfl rfl aK rfl b2 rfl;·intro xR;replace xR:=cP xR;refine aA m8 rfl ?_;refine aA Xo rfl ?_;exact iA
  intro aNd;exact iA
 intro zV;apply(dD);refine aJ ?_ ?_<;>intro bI;·
  apply oO∘l6∘DZ;refine cF L R TS ?_;exfalso;rcases bI with h|⟨h,U⟩;·omega
  ·refine U (dI (by rw[a2b,show Dj=48 from UInt8.toNat_inj.1 (by have e:(48:UInt8).toNat=48:=rfl;omega)]))
 apply gI∘kB∘pR;refine e3 [(0,.string _),(4,.string _),(5,.int _ _),(6,.int _ _)] cB λg9=>?_;refine lF ([2,3,5,6]++dJ 26 24) (λg:{k:Nat//k<=d.length}=>[(6,.int .i64 ((g.1:Nat):Int)),(5,.int .i64 (L2 (d.take g.1)))]) (λg=>d.length-g.1) (⟨0,by omega⟩) ?_;rintro⟨k,Y⟩ c1;try dsimp only
 apply(nR);refine aA m8 rfl ?_;refine aA NS rfl ?_;apply(nD);refine aJ ?_ ?_<;>intro cK;·
  obtain⟨x,bE⟩:∃x,d[k]?=some x:=⟨d[k]' D,w4 _⟩;have K:=cZ.Jy x (hS bE);have aAJ:=a0F k d cZ.Jy;have Ln:=aHW d cZ.Jy k (d.length-k);rw[show k+(d.length-k)=d.length by omega,BB,cZ.val]at Ln;have cW:=a5r bE;obtain⟨r,O⟩:∃r,r=L2 (d.take k):=⟨_,rfl⟩;rw[<-O]at aAJ Ln cW|-;refine gG (bY (cC (iH (cC (cC (dM ?_))))));refine aA m8 rfl ?_;apply cJ∘a67∘q5;apply dT (aD:=[_,_,_,_]) (j:=4) (b4:=36) rfl rfl aK rfl b2 rfl;·intro jP;replace jP:=cP jP;refine aA m8 rfl ?_;exact(cJ∘a67∘yO) iA
  intro DU;apply(dD);refine aJ ?_ ?_<;>intro dE;·apply oO∘l6∘Gb;refine cF L R TS ?_;exact absurd dE D
  refine gG (bY (dM ?_));apply(LU);refine aA m8 rfl ?_;apply cJ∘a67;refine aA (aVY rfl rfl D) rfl ?_;apply yR∘oE∘eA∘Y5;exact aPe
 obtain rfl:k=d.length:=by omega
 rw[BB,cZ.val];apply(D2);refine aA m8 rfl ?_;refine aA NS rfl ?_;refine aA m8 rfl ?_;refine aA NS rfl ?_;apply(nD);refine aJ ?_ ?_<;>intro gZ;·apply nP∘CJ∘q4∘eA∘sP;refine cF L R TS ?_;exact⟨by rw[if_pos D],rfl,rfl⟩
 apply gI∘cJ∘eA∘sP;refine cF L R TS ?_;exact⟨by rw[if_neg D],rfl,rfl⟩
def aVo:Lib.decDigits 0=[48]:=by rw[Lib.decDigits];rfl
def aGV(n:Int)(L:aW)(R:aP)(bA:-1000000000<=n/\n<=1000000000):
 aM prog 101 [sv (Lib.itoa n)].toArray L R (λv E R'=>v=.tuple #[.int .i64 n,.bool true]/\L=E/\R=R'):=by
 have lL:=a7H bA;rcases HT n 0 with h|h;·
  have e:Lib.itoa n=45::Lib.decDigits n.natAbs:=by rw[Lib.itoa,if_pos h]
  rw[e]at lL|-;rw[kL]at lL;have t:=aEP (45::Lib.decDigits n.natAbs) (Lib.decDigits n.natAbs) n.natAbs L R (aXZ _) (Ic _) D D (λbF=>by have:=(Ic n.natAbs).head bF;omega) (by rw[kL];omega);rw[if_pos (by rw[kL];omega),show -(n.natAbs:Int)=n by omega]at t;exact t
 ·
  have e:Lib.itoa n=Lib.decDigits n.toNat:=by rw[Lib.itoa,if_neg D]
  rw[e]at lL|-;have t:=aEP (Lib.decDigits n.toNat) (Lib.decDigits n.toNat) n.toNat L R (aVJ _) (Ic _) D D (λbF=>by rw[(Ic n.toNat).head bF,aVo]) D;rw[if_neg D,show(n.toNat:Int)=n by omega]at t;exact t
def Qd(x:bP (List UInt8))(W3:List Int)(L:aW)(R:aP)(K:aN (s2 x) R)(V:x.l=W3.map Lib.itoa)(aT:∀n∈W3,-1000000000<=n/\n<=1000000000)(bA:W3.length<=100):
 aM prog 60 [x.val,.int .i64 (W3.length:Int)].toArray L R (λv E R'=>∃p:J Int,v=.tuple #[p.val,.bool true]/\p.ok 1 aR/\p.l=W3/\p.L 3 aR++L=E/\R=R'):=by
 have xY:x.l.length=W3.length:=by rw[V,pU]
 refine cX 34 call60 func60 rfl rfl rfl ?_;apply C9∘xF∘j0∘cJ∘pG;refine aJ ?_ ?_<;>intro bI;·apply C9∘l6∘DZ;refine cF L R (tD rfl yW EE) ?_;exact absurd (congrArg Nat.cast xY) bI
 apply gI∘r2∘r3;refine e3 [(6,.slice _ _ _),(15,.slice _ _ _),(16,.int _ _),(17,.int _ _)] cB λg9=>?_;refine oM ([4,5,6,8,9,10]++dJ 17 16) ((⟨λg=>[(17,.int .i64 ((g.1.1:Nat):Int)),(6,g.1.2.val)],λg=>g.1.2.L 3 aR++L,λ_=>R,λg=>x.l.length-g.1.1⟩:e0 {g:Nat×J Int//g.1<=x.l.length/\g.2.ok 1 aR/\g.2.l=W3.take g.1})) (⟨(0,J.nil),rW _,J.iJ,rfl⟩) cB JB eX ?_;rintro⟨⟨k,p⟩,Y,iN,dC⟩ c1;try dsimp only
 dsimp only at Y iN dC;apply(gU);refine aJ ?_ ?_<;>intro cK;·
  have bE:=bR (l:=W3) (k:=k) 0 D;obtain⟨n,jC⟩:∃n,n=W3.getD k 0:=⟨_,rfl⟩;rw[<-jC]at bE;have DR:=aT _ (hS bE);have I1:x.l[k]?=some (Lib.itoa n):=by rw[V,pW,bE];rfl
  have l2:p.l.length=k:=by rw[dC,HS];omega
  apply(jK);refine aA rF rfl ?_;apply(kY);refine aA pX rfl ?_;apply(iG);refine aA m8 rfl ?_;refine eD rfl (aGV n _ _ DR) ?_;refine aA jE rfl ?_;apply UZ∘xF∘J5;refine aJ ?_ ?_<;>intro dE;·apply C9∘l6∘Gb;refine cF L R (tD rfl yW EE) ?_;exact absurd dE eY
  refine gG (bY (dM ?_));apply k2∘w1;rintro v E R' ⟨aZ0,rfl,rfl,Dt⟩;replace Dt:=Dt.symm;subst Dt;refine g2 (jZ (f:=aR) (p:=p) (a:=n) M rfl rfl rfl rfl (iN) cL j8 rfl kG) rfl ?_;rintro v E R' ⟨aBc,rfl,a97,rfl,rfl⟩;apply(LO);exact eG ⟨(k+1,⟨aBc,p.l++[n]⟩),by dsimp only;omega,a97,by dsimp only;rw[dC,BA,bE];rfl⟩
 obtain rfl:k=x.l.length:=by omega
 rw[xY,BB]at dC;apply UX∘kS∘sP;refine cF (p.L 3 aR++L) R (tD rfl yW EE) ?_;exact⟨p,rfl,iN,dC,rfl,rfl⟩
def UC(h:A->B:=by exact b7 qX rfl rfl rfl):=h
def a0x(h:A->B:=by exact b7 QF rfl rfl rfl):=h
def a0O(h:A->B:=by exact b7 aCy rfl rfl rfl):=h
def a5Z(h:A->B:=by exact aA aQU rfl):=h
def a68(h:A->B:=by exact fE QF rfl rfl rfl rfl):=h
def aDV(h:A->B:=by exact aA aQW rfl):=h
def aE7(h:A->B:=by exact b7 Wx rfl rfl rfl):=h
def aST(bL:gL)(m:Int)(L:aW)(R:aP)(h:wC bL.tQ)(b3:uN m∈L):
 aM prog 61 [sv (p7 ⟨1,bL,kU,0,⟨0,0⟩⟩)].toArray L R (λv E R'=>v=.tuple #[(⟨1,bL,kU,0,⟨0,0⟩⟩:eO).val,.bool true]/\L=E/\R=R'):=by
 have lL:=Cg (.wY bL h);have xX:=Px ⟨1,bL,kU,0,⟨0,0⟩⟩;obtain⟨aI,jY⟩:∃aI,aI=if bL.m7 then Hd else Il:=⟨_,rfl⟩;have xX:sS (p7 ⟨1,bL,kU,0,⟨0,0⟩⟩)=[KZ,Lib.itoa bL.tQ,aI]:=by rw[xX,jY];rfl
 have A3:decide (aI=[115,117,114,102,97,99,101])=bL.m7:=by rw[jY];cases bL.m7<;>decide
 have sW:aI=[115,117,114,102,97,99,101]\/aI=[98,101,108,111,119]:=by
  rw[jY];split;·exact .inl rfl
  ·exact .inr rfl
 obtain⟨s,aF⟩:∃s,s=p7 ⟨1,bL,kU,0,⟨0,0⟩⟩:=⟨_,rfl⟩;rw[<-aF]at lL xX|-;refine cX 176 call61 func61 rfl rfl rfl ?_;apply(J8);intro eN;apply(uK);refine aA m8 rfl ?_;refine dN rfl a4w rfl ?_;rintro v E R' ⟨x,rfl,K,rfl,rfl⟩;rw[xX]at K;have zU:aN (s2 x) (s2 x::R):=aU (.head _);have xY:x.l.length=3:=by rw[K];rfl
 have PQ:x.l[0]?=some KZ:=by rw[K];rfl
 have WT:x.l[1]?=some (Lib.itoa bL.tQ):=by rw[K];rfl
 have CB:x.l[2]?=some aI:=by rw[K];rfl
 apply r2∘gQ∘OJ;refine eS (bY (iH (cC (dM ?_))));refine aA CQ rfl ?_;apply(pF);refine yX rfl ?_;apply x0∘j0∘vC;apply dT (aD:=[_,_,_,_,_,_,_,_,_,_]) (j:=3) (b4:=28) rfl rfl aK rfl b2 rfl;·
  intro fV;replace fV:=cP fV;apply gQ∘a5Z∘kY;refine aA Xo rfl ?_;apply(fD);apply lR (aD:=[_,_,_,_]) (j:=8) (b4:=33) rfl rfl aK rfl b2 rfl;·intro h7;replace h7:=cP h7;apply gQ∘a5Z∘kY;refine aA Xo rfl ?_;exact iA
  intro zV;exact iA
 intro m2;apply(dD);refine aJ ?_ ?_<;>intro cK;·
  apply(eV);refine aA Nh rfl ?_;apply l5∘l6;refine eS (bY (mE (i7 (lO (i7 ?_)))));refine kN (E:=L) (R':=R) Ng ?aG ?b3 ?b8;case aG=>exact absurd cK (by rcases sW with e|e<;>simp[xY,e])
  case b3=>exact bC
  case b8=>exact λr O=>aU sF
 apply(OI);refine aA aCH rfl ?_;apply(kY);refine eD rfl (aGV bL.tQ _ _ h) ?_;refine aA jE rfl ?_;apply UZ∘uK∘cJ∘gQ∘a5Z∘kY;refine aA CQ rfl ?_;refine aA aPN rfl ?_;refine aA aQX rfl ?_;apply fD∘l5∘l6∘D4;refine kN (E:=L) (R':=R) Ng ?aG ?b3 ?b8;case aG=>exact⟨by rw[A3];rfl,rfl,rfl⟩
 case b3=>exact bC
 case b8=>exact λr O=>aU sF
def aV2(k r:Int)(m:Int)(L:aW)(R:aP)(Y:k=3\/k=4)(h:wC r)(b3:uN m∈L):
 aM prog 61 [sv (p7 ⟨k,⟨0,false⟩,kU,r,⟨0,0⟩⟩)].toArray L R (λv E R'=>v=.tuple #[(⟨k,⟨0,false⟩,kU,r,⟨0,0⟩⟩:eO).val,.bool true]/\L=E/\R=R'):=by
 have lL:=Cg (.Mg k r Y h);have xX:=Px ⟨k,⟨0,false⟩,kU,r,⟨0,0⟩⟩;have mQ:∀n∈[r],wC n:=λn bA=>by rw[List.mem_singleton.1 bA];exact h
 obtain⟨aI,jY⟩:∃aI,aI=if k=3 then L4 else UD:=⟨_,rfl⟩;have xX:sS (p7 ⟨k,⟨0,false⟩,kU,r,⟨0,0⟩⟩)=[aI,Lib.itoa r]:=by rw[xX,jY];rcases Y with rfl|rfl<;>rfl
 have cE:(k=3/\aI=L4)\/(k=4/\aI=UD):=by rw[jY];rcases Y with rfl|rfl<;>simp
 have A3:¬aI=KZ/\¬aI=I7:=by rcases cE with⟨_,e⟩|⟨_,e⟩<;>rw[e]<;>decide
 obtain⟨s,aF⟩:∃s,s=p7 ⟨k,⟨0,false⟩,kU,r,⟨0,0⟩⟩:=⟨_,rfl⟩;rw[<-aF]at lL xX|-;refine cX 176 call61 func61 rfl rfl rfl ?_;apply(J8);intro eN;apply(uK);refine aA m8 rfl ?_;refine dN rfl a4w rfl ?_;rintro v E R' ⟨x,rfl,K,rfl,rfl⟩;rw[xX]at K;have zU:aN (s2 x) (s2 x::R):=aU (.head _);have xY:x.l.length=2:=by rw[K];rfl
 have PQ:x.l[0]?=some aI:=by rw[K];rfl
 apply r2∘gQ∘OJ;refine eS (bY (iH (cC (dM ?_))));refine aA CQ rfl ?_;apply(pF);refine OU b2 (decide_eq_false A3.1) ?_;apply(eV);refine aA CQ rfl ?_;apply(pF);refine OU b2 (decide_eq_false A3.2) ?_;apply(x0);refine aA CQ rfl ?_;apply(pF);refine w6 [126,128] ((⟨λ_=>[(126,.bool true)],λ_=>⟨eN,eO.cells ⟨0,⟨0,false⟩,kU,0,⟨0,0⟩⟩,55⟩::L,λ_=>s2 x::R,λ_=>0⟩:e0 Unit)) ?_ ?_;·
  skip
  refine aJ ?_ ?_<;>intro lJ;·refine gG ?_;exact s9 () hM ⟨congrArg Value.bool (decide_eq_true lJ),trivial⟩ bC eX
  apply(e1);refine aA CQ rfl ?_;apply l6∘yP;exact s9 () hM ⟨congrArg Value.bool (decide_eq_true (by have dV:¬aI=L4:=lJ;rcases cE with⟨_,e⟩|⟨_,e⟩;exact absurd e dV;exact e)),trivial⟩ bC eX
 rintro g c1;try dsimp only
 have zU:aN (s2 x) (s2 x::R):=aU (.head _);refine yX rfl ?_;refine cC ?_;refine Jf zU λG9=>?_;refine UE (m:=1) zU aX D aX ?_;apply(vE);refine aA aCj rfl ?_;refine dN rfl (Qd (m1 x 1 1) [r] _ _ mL aCt mQ eY) rfl ?_;rintro v E R' ⟨p,rfl,iN,dC,rfl,rfl⟩;refine aA jE rfl ?_;apply C8∘xF∘J5;refine CT rfl ?_;apply gI∘eA∘yQ;have b5d:aN (s2 x) ((m1 x 1 1).eJ 1 RL []::s2 x::R):=aU (.tail _ (.head _));apply vE∘OJ;refine aA CQ rfl ?_;apply(dD);refine w6 [14] ((⟨λ_=>[(14,.int .i64 k)],λ_=>p.L 3 aR++(⟨eN,eO.cells ⟨0,⟨0,false⟩,kU,0,⟨0,0⟩⟩,55⟩::L),λ_=>s2 x::R,λ_=>0⟩:e0 Unit)) ?_ ?_;·
  skip
  refine aJ ?_ ?_<;>intro MR;·apply e1∘Iw;exact s9 () hM ⟨congrArg (Value.int _) (by have vN:aI=L4:=MR;rcases cE with⟨e,_⟩|⟨_,e⟩;exact e.symm;rw[e]at vN;exact absurd vN aX),trivial⟩ bC (λr O=>aU a4g)
  refine gG ?_;exact s9 () hM ⟨congrArg (Value.int _) (by have vN:¬aI=L4:=MR;rcases cE with⟨_,e⟩|⟨e,_⟩;exact absurd e vN;exact e.symm),trivial⟩ bC (λr O=>aU a4g)
 rintro g c1;try dsimp only
 have l2:p.l.length=1:=by rw[dC];rfl
 have i1:p.l[0]?=some r:=by rw[dC];rfl
 apply OA∘gQ;refine aA Xp rfl ?_;refine aA QF rfl ?_;refine aA aQV rfl ?_;apply l5∘l6∘D4;refine kN (E:=L) (R':=R) Ng ?aG ?b3 ?b8;case aG=>exact⟨rfl,rfl,rfl⟩
 case b3=>exact bC
 case b8=>exact λr O=>aU sF
def aVx(k r:Int)(I6:bG)(m:Int)(L:aW)(R:aP)(Y:k=5\/k=6)(mQ:∀n∈[r,I6.bJ,I6.bN],wC n)(b3:uN m∈L):
 aM prog 61 [sv (p7 ⟨k,⟨0,false⟩,kU,r,I6⟩)].toArray L R (λv E R'=>v=.tuple #[(⟨k,⟨0,false⟩,kU,r,I6⟩:eO).val,.bool true]/\L=E/\R=R'):=by
 have lL:=Cg (.nI k r I6 Y mQ);have xX:=Px ⟨k,⟨0,false⟩,kU,r,I6⟩;obtain⟨aI,jY⟩:∃aI,aI=if k=6 then RI else U5:=⟨_,rfl⟩;have xX:sS (p7 ⟨k,⟨0,false⟩,kU,r,I6⟩)=[aI,Lib.itoa r,Lib.itoa I6.bJ,Lib.itoa I6.bN]:=by rw[xX,jY];rcases Y with rfl|rfl<;>rfl
 have cE:(k=5/\aI=U5)\/(k=6/\aI=RI):=by rw[jY];rcases Y with rfl|rfl<;>simp
 have A3:(¬aI=KZ/\¬aI=I7)/\¬aI=L4/\¬aI=UD:=by rcases cE with⟨_,e⟩|⟨_,e⟩<;>rw[e]<;>decide
 obtain⟨s,aF⟩:∃s,s=p7 ⟨k,⟨0,false⟩,kU,r,I6⟩:=⟨_,rfl⟩;rw[<-aF]at lL xX|-;refine cX 176 call61 func61 rfl rfl rfl ?_;apply(J8);intro eN;apply(uK);refine aA m8 rfl ?_;refine dN rfl a4w rfl ?_;rintro v E R' ⟨x,rfl,K,rfl,rfl⟩;rw[xX]at K;have zU:aN (s2 x) (s2 x::R):=aU (.head _);have xY:x.l.length=4:=by rw[K];rfl
 have PQ:x.l[0]?=some aI:=by rw[K];rfl
 apply r2∘gQ∘OJ;refine eS (bY (iH (cC (dM ?_))));refine aA CQ rfl ?_;apply(pF);refine OU b2 (decide_eq_false A3.1.1) ?_;apply(eV);refine aA CQ rfl ?_;apply(pF);refine OU b2 (decide_eq_false A3.1.2) ?_;apply(x0);refine aA CQ rfl ?_;apply(pF);refine OU b2 (decide_eq_false A3.2.1) ?_;apply(e1);refine aA CQ rfl ?_;apply(pF);refine OU b2 (decide_eq_false A3.2.2) ?_;apply(x0);refine aA CQ rfl ?_;apply(pF);refine w6 [147,149] ((⟨λ_=>[(147,.bool true)],λ_=>⟨eN,eO.cells ⟨0,⟨0,false⟩,kU,0,⟨0,0⟩⟩,55⟩::L,λ_=>s2 x::R,λ_=>0⟩:e0 Unit)) ?_ ?_;·
  skip
  refine aJ ?_ ?_<;>intro V2;·refine gG ?_;exact s9 () hM ⟨congrArg Value.bool (decide_eq_true V2),trivial⟩ bC eX
  apply(e1);refine aA CQ rfl ?_;apply l6∘yP;exact s9 () hM ⟨congrArg Value.bool (decide_eq_true (by have dV:¬aI=U5:=V2;rcases cE with⟨_,e⟩|⟨_,e⟩;exact absurd e dV;exact e)),trivial⟩ bC eX
 rintro g c1;try dsimp only
 have zU:aN (s2 x) (s2 x::R):=aU (.head _);refine yX rfl ?_;refine cC ?_;refine Jf zU λG9=>?_;refine UE (m:=1) zU aX D aX ?_;apply(vE);refine aA aCj rfl ?_;refine dN rfl (Qd (m1 x 1 1) [r,I6.bJ,I6.bN] _ _ mL aCt mQ eY) rfl ?_;rintro v E R' ⟨p,rfl,iN,dC,rfl,rfl⟩;refine aA jE rfl ?_;apply C8∘xF∘J5;refine CT rfl ?_;apply gI∘eA∘yQ;have b5d:aN (s2 x) ((m1 x 1 1).eJ 1 RL []::s2 x::R):=aU (.tail _ (.head _));apply vE∘OJ;refine aA CQ rfl ?_;apply(dD);refine w6 [17] ((⟨λ_=>[(17,.int .i64 k)],λ_=>p.L 3 aR++(⟨eN,eO.cells ⟨0,⟨0,false⟩,kU,0,⟨0,0⟩⟩,55⟩::L),λ_=>s2 x::R,λ_=>0⟩:e0 Unit)) ?_ ?_;·
  skip
  refine aJ ?_ ?_<;>intro aLK;·apply e1∘Iw;exact s9 () hM ⟨congrArg (Value.int _) (by have vN:aI=RI:=aLK;rcases cE with⟨_,e⟩|⟨e,_⟩;rw[e]at vN;exact absurd vN aX;exact e.symm),trivial⟩ bC (λr O=>aU a4g)
  refine gG ?_;exact s9 () hM ⟨congrArg (Value.int _) (by have vN:¬aI=RI:=aLK;rcases cE with⟨e,_⟩|⟨_,e⟩;exact e.symm;exact absurd e vN),trivial⟩ bC (λr O=>aU a4g)
 rintro g c1;try dsimp only
 have l2:p.l.length=3:=by rw[dC];rfl
 have i1:p.l[0]?=some r:=by rw[dC];rfl
 have n3:p.l[1]?=some I6.bJ:=by rw[dC];rfl
 have DS:p.l[2]?=some I6.bN:=by rw[dC];rfl
 refine cC ?_;refine jV M [] [0,1,2,3,4,5,6,7,8,9,10,11] [12,13] (p.L 3 aR++[]) _ mixed aQ bC b9 ?_;apply DY∘XF;refine fE Xp rfl rfl rfl rfl ?_;apply a68∘XF;refine fE (iV M (p) _ rfl rfl rfl rfl bS (i:=1) c7 iY) rfl rfl rfl rfl ?_;apply a68∘XF;refine fE (iV M (p) _ rfl rfl rfl rfl bS (i:=2) c7 iY) rfl rfl rfl rfl ?_;apply a68∘XG;refine fE (l7 (hB:=[(0,(Value.int _ _).cells.toList),(3,(Value.int _ _).cells.toList),(4,(Value.agg _).cells.toList)]) (c9:=[_,_,_,_,_,_,_,_,_,_,_,_,_,_,_,_]) M rfl rfl rfl rfl) rfl rfl rfl rfl ?_;apply(FB);refine b7 (qG b2) rfl rfl rfl ?_;refine jI (bY (mE (lO (i7 ?_))));refine kN (E:=L) (R':=R) Ng ?aG ?b3 ?b8;case aG=>exact⟨rfl,rfl,rfl⟩
 case b3=>exact bC
 case b8=>exact λr O=>aU sF
def aYQ(r:cR)(m:Int)(L:aW)(R:aP)(bU:r.dZ=false)(mQ:∀n∈U8 r,wC n)(b3:uN m∈L):
 aM prog 61 [sv (p7 ⟨2,⟨0,false⟩,r,0,⟨0,0⟩⟩)].toArray L R (λv E R'=>v=.tuple #[(⟨2,⟨0,false⟩,r,0,⟨0,0⟩⟩:eO).val,.bool true]/\L=E/\R=R'):=by
 have lL:=Cg (.aS r bU mQ);have xX:=Px ⟨2,⟨0,false⟩,r,0,⟨0,0⟩⟩;obtain⟨aI,jY⟩:∃aI,aI=if r.qD then Dh else De:=⟨_,rfl⟩;have xX:sS (p7 ⟨2,⟨0,false⟩,r,0,⟨0,0⟩⟩)=[I7,Lib.itoa r.bK,Lib.itoa r.to,Lib.itoa r.len,Lib.itoa r.h6,aI,Lib.itoa r.aC.bJ,Lib.itoa r.aC.bN,Lib.itoa r.fQ.bJ,Lib.itoa r.fQ.bN]:=by rw[xX,jY];rfl
 have A3:decide (aI=[119,97,108,107])=r.qD:=by rw[jY];cases r.qD<;>decide
 have sW:aI=[119,97,108,107]\/aI=[109,97,99,104,105,110,101]:=by
  rw[jY];split;·exact .inl rfl
  ·exact .inr rfl
 have Km:∀n∈[r.bK,r.to,r.len,r.h6],wC n:=λn bA=>mQ n (by simp only[nX,pO,or_false]at bA;rcases bA with rfl|rfl|rfl|rfl<;>simp);have Kn:∀n∈[r.aC.bJ,r.aC.bN,r.fQ.bJ,r.fQ.bN],wC n:=λn bA=>mQ n (by simp only[nX,pO,or_false]at bA;rcases bA with rfl|rfl|rfl|rfl<;>simp);obtain⟨s,aF⟩:∃s,s=p7 ⟨2,⟨0,false⟩,r,0,⟨0,0⟩⟩:=⟨_,rfl⟩;rw[<-aF]at lL xX|-;refine cX 176 call61 func61 rfl rfl rfl ?_;apply(J8);intro eN;apply(uK);refine aA m8 rfl ?_;refine dN rfl a4w rfl ?_;rintro v E R' ⟨x,rfl,K,rfl,rfl⟩;rw[xX]at K;have zU:aN (s2 x) (s2 x::R):=aU (.head _);have xY:x.l.length=10:=by rw[K];rfl
 have PQ:x.l[0]?=some I7:=by rw[K];rfl
 have bAf:x.l[5]?=some aI:=by rw[K];rfl
 apply r2∘gQ∘OJ;refine eS (bY (iH (cC (dM ?_))));refine aA CQ rfl ?_;apply(pF);refine CT rfl ?_;apply(eV);refine aA CQ rfl ?_;apply(pF);refine yX rfl ?_;apply x0∘j0∘vC;apply dT (aD:=[_,_,_,_,_,_,_,_,_,_]) (j:=3) (b4:=61) rfl rfl aK rfl b2 rfl;·
  intro fV;replace fV:=cP fV;apply gQ∘aDV∘kY;refine aA Xo rfl ?_;apply(fD);apply lR (aD:=[_,_,_,_]) (j:=8) (b4:=66) rfl rfl aK rfl b2 rfl;·intro h7;replace h7:=cP h7;apply gQ∘aDV∘kY;refine aA Xo rfl ?_;exact iA
  intro zV;exact iA
 intro m2;apply(dD);refine aJ ?_ ?_<;>intro gZ;·
  apply(eV);refine aA Nh rfl ?_;apply l5∘l6;refine eS (bY (mE (i7 (lO (i7 ?_)))));refine kN (E:=L) (R':=R) Ng ?aG ?b3 ?b8;case aG=>exact absurd gZ (by rcases sW with e|e<;>simp[xY,e])
  case b3=>exact bC
  case b8=>exact λr O=>aU sF
 apply(CI);refine Jf zU λG9=>?_;refine a6S (m:=1) 4 zU aX D aX ?_;apply(vE);refine aA (a7T (u:=x) (m:=1) (q:=4) (aI:=1) M rfl rfl rfl rfl rfl rfl rfl aX D G9 rfl) rfl ?_;refine dN rfl (Qd (L8 (m1 x 1 1) 4) [r.bK,r.to,r.len,r.h6] _ _ mL (by show(x.l.drop 1).take 4=_;rw[K];rfl) Km eY) rfl ?_;rintro v E R' ⟨p,rfl,iN,dC,rfl,rfl⟩;refine aA jE rfl ?_;apply C8∘l6∘j6;refine UE (m:=6) (y:=x) (aI:=1) (f:=RL) (eE:=[]) QH aX D aX ?_;apply(vE);refine aA (Cz (u:=x) (m:=6) (aI:=1) M rfl rfl rfl rfl rfl aX D rfl) rfl ?_;refine dN rfl (Qd (m1 x 6 1) [r.aC.bJ,r.aC.bN,r.fQ.bJ,r.fQ.bN] _ _ mL (by show x.l.drop 6=_;rw[K];rfl) Kn eY) rfl ?_;rintro v E R' ⟨q,rfl,g7,eZ,rfl,rfl⟩;refine aA jE rfl ?_;apply C8∘xF∘fD∘OB;apply dT (aD:=[_,_]) (j:=2) (b4:=88) rfl rfl aK rfl b2 rfl;·intro iM;replace iM:=cP iM;exact(fD) QC
 intro o7;apply(dD);refine CT rfl ?_;apply(CI);have bAg:aN (s2 x) ((m1 x 6 1).eJ 1 RL []::(L8 (m1 x 1 1) 4).eJ 1 RL []::s2 x::R):=aU (.tail _ (.tail _ (.head _)));have l2:p.l.length=4:=by rw[dC];rfl
 have i1:p.l[0]?=some r.bK:=by rw[dC];rfl
 have n3:p.l[1]?=some r.to:=by rw[dC];rfl
 have DS:p.l[2]?=some r.len:=by rw[dC];rfl
 have b9C:p.l[3]?=some r.h6:=by rw[dC];rfl
 have yK:q.l.length=4:=by rw[eZ];rfl
 have WM:q.l[0]?=some r.aC.bJ:=by rw[eZ];rfl
 have aMC:q.l[1]?=some r.aC.bN:=by rw[eZ];rfl
 have aMD:q.l[2]?=some r.fQ.bJ:=by rw[eZ];rfl
 have b9P:q.l[3]?=some r.fQ.bN:=by rw[eZ];rfl
 refine jR M [0,1,2,3,4,5,6,7,8,9,10,11,12,13,14,15,16,17,18,19,20,21,22,23,24,25,26,27,28,29,30,31,32] (q.L 3 aR++(p.L 3 aR++[])) mixed aQ bC ?_;apply(UC);refine b7 Xp rfl rfl rfl ?_;apply a0x∘UC;refine b7 (iV M (p) _ rfl rfl rfl rfl bS (i:=1) c7 iY) rfl rfl rfl ?_;apply a0x∘UC;refine b7 (iV M (p) _ rfl rfl rfl rfl bS (i:=2) c7 iY) rfl rfl rfl ?_;apply a0x∘UC;refine b7 (iV M (p) _ rfl rfl rfl rfl bS (i:=3) c7 iY) rfl rfl rfl ?_;apply a0x∘UC;refine b7 aQW rfl rfl rfl ?_;apply(s0);refine b7 CQ rfl rfl rfl ?_;apply(UC);refine b7 (iV M (q) _ rfl rfl rfl rfl bS (i:=0) c7 iY) rfl rfl rfl ?_;apply a0O∘UC;refine b7 (iV M (q) _ rfl rfl rfl rfl bS (i:=1) c7 iY) rfl rfl rfl ?_;apply a0O∘aE7∘UC;refine b7 (iV M (q) _ rfl rfl rfl rfl bS (i:=2) c7 iY) rfl rfl rfl ?_;apply a0O∘UC;refine b7 (iV M (q) _ rfl rfl rfl rfl bS (i:=3) c7 iY) rfl rfl rfl ?_;apply a0O∘aE7;refine b7 (l7 (hB:=[(0,(Value.int _ _).cells.toList),(1,(Value.int _ _).cells.toList),(2,(Value.int _ _).cells.toList),(3,(Value.int _ _).cells.toList),(4,(Value.bool _).cells.toList),(6,(Value.agg _).cells.toList),(7,(Value.agg _).cells.toList)]) (c9:=[_,_,_,_,_,_,_,_,_,_]) M rfl rfl rfl rfl) rfl rfl rfl ?_;apply(uZ);intro GY;apply(uY);refine jI (bY (cC (dM ?_)));refine aA Bi rfl ?_;refine aA aQY rfl ?_;apply l5∘l6∘D4;refine kN (E:=L) (R':=R) Ng ?aG ?b3 ?b8;case aG=>exact⟨by rw[A3];exact congrArg (fun b=>Value.tuple #[Value.agg #[.int .i64 2,.int .i64 0,.bool false,.int .i64 r.bK,.int .i64 r.to,.int .i64 r.len,.int .i64 r.h6,.bool r.qD,.bool b,.int .i64 r.aC.bJ,.int .i64 r.aC.bN,.int .i64 r.fQ.bJ,.int .i64 r.fQ.bN,.int .i64 0,.int .i64 0,.int .i64 0],.bool true]) bU.symm,rfl,rfl⟩
 case b3=>exact bC
 case b8=>exact λr O=>aU sF
def aSc(e:eO)(m:Int)(L:aW)(R:aP)(V:wB e)(b3:uN m∈L):
 aM prog 61 [sv (p7 e)].toArray L R (λv E R'=>v=.tuple #[e.val,.bool true]/\L=E/\R=R'):=by
 cases V with
 |wY p h=>exact aST p m L R h b3
 |aS r h bA=>exact aYQ r m L R h bA b3
 |Mg k r Y h=>exact aV2 k r m L R Y h b3
 |nI k r s Y h=>exact aVx k r s m L R Y h b3
end
end Go.Proofs.YtdiajbdaadlfhaaGreatDoor
