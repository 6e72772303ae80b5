/-
  Merged texts. By an AI agent.
-/
import Derived.Test.YtdiajbdaadlfhaaGreatDoorStrB
import Derived.Laws.Strings2
import Derived.Laws.Strings3
import Derived.Laws.Concat
import Derived.Shelf.Strings.Builder1
import Derived.Shelf.Strconv.Itoa0
import Derived.Shelf.Strconv.Itoa1
import Derived.Shelf.LaysM
import Derived.Shelf.Strconv.Itoa2
import Derived.Shelf.Strconv.Itoa3
import Derived.Shelf.Strings.Search1
import Derived.Shelf.Strings.Search2
import Derived.Shelf.Strings.Search3
import Derived.Shelf.Strings.Cut
import Derived.Shelf.Strings.Count
import Derived.Shelf.Strings.Shaped
import Derived.Shelf.Strings.Prefix
import Derived.Shelf.Strings.Split
import Derived.Shelf.Bits.Mul64
import Derived.Shelf.Unicode.DecodeSlow
import Derived.Test.YtdiajbdaadlfhaaGreatDoorProg
import Derived.Test.YtdiajbdaadlfhaaGreatDoorData
import Derived.Test.YtdiajbdaadlfhaaGreatDoorFits
import Derived.Test.YtdiajbdaadlfhaaGreatDoorChecks
import Derived.Test.YtdiajbdaadlfhaaGreatDoorLaw11b
set_option linter.all false
set_option maxHeartbeats 4000000
set_option maxRecDepth 20000
variable{A B:Prop}
namespace Go.Proofs.YtdiajbdaadlfhaaGreatDoor
open Go.Aw Go Go.Proofs.Tryz
abbrev sv(l:List UInt8):Value:=.string ⟨l.toArray⟩
section
variable{P:Program}{aV:Operand->Value}{L:aW}{R:aP}{dst:Option Tmp}{ty:TypeId}{pos:String}{after:Array Edge}{guard:Option (Nat×Bool)}(M:nN P){T hN:TypeId}{x y z:Operand}
def aTb{n6:Array TypeId}{l:List UInt8}{oR h5 fT nK}(aAF:n6[0]?=some T)(dF:g5 M.gD T=some ⟨.string,oR,h5,fT,nK⟩)(K:aV x=sv l):
 cI P ⟨dst,.call ⟨.builtin .len,#[x],n6⟩,ty,pos,after,guard⟩ aV L R (.int .i64 (l.length:Int)):=λ_ w _=>by
 have cZ:=Y8 (M.ok _ _ dF) rfl
 have:(⟨l.toArray⟩:ByteArray).size=l.length:=by simp[ByteArray.size]
 simp[execOp,resolve,invoke,builtin,Builtin.len_,aAF,K,run_underlying cZ,goInt,this]
def Io{a b:List UInt8}{oR h5 fT nK}(dF:g5 M.gD T=some ⟨.string,oR,h5,fT,nK⟩)(K:aV x=sv a)(bB:aV y=sv b)(h:a.length+b.length<=9223372036854775807):
 cI P ⟨dst,.binOp .add T x y hN,ty,pos,after,guard⟩ aV L R (sv (a++b)):=λ_ w _=>by
 have cZ:=Y8 (M.ok _ _ dF) rfl
 have e:=run_string_add_sum (P:=P) w ⟨a.toArray⟩ ⟨b.toArray⟩ (by simpa[ByteArray.size]using h)
 have eH:(⟨a.toArray⟩:ByteArray)++⟨b.toArray⟩=⟨(a++b).toArray⟩:=by apply a34;simp[ByteArray.data_append]
 rw[eH]at e
 simp[execOp,K,bB,eqGuard,binOp,e]
def aR5{a b:List UInt8}{oR h5 fT nK}(dF:g5 M.gD T=some ⟨.string,oR,h5,fT,nK⟩)(K:aV x=sv a)(bB:aV y=sv b):
 cI P ⟨dst,.binOp .eql T x y hN,ty,pos,after,guard⟩ aV L R (.bool (decide (a=b))):=λ_ w _=>by
 have b6Q:=Y8 (M.ok _ _ dF) rfl
 simp[execOp,K,bB,eqGuard,binOp,Op.stringOp,ByteArray.toList_mk,Bool.beq_eq_decide_eq]
def aSV{a b:List UInt8}{oR h5 fT nK}(dF:g5 M.gD T=some ⟨.string,oR,h5,fT,nK⟩)(K:aV x=sv a)(bB:aV y=sv b):
 cI P ⟨dst,.binOp .neq T x y hN,ty,pos,after,guard⟩ aV L R (.bool (!decide (a=b))):=λ_ w _=>by
 have b6Q:=Y8 (M.ok _ _ dF) rfl
 simp[execOp,K,bB,eqGuard,binOp,Op.stringOp,ByteArray.toList_mk]
 exact Bool.eq_iff_iff.2 eY
def a7S{l:List UInt8}{k:IntKind}{i:Int}{c:UInt8}{oR h5 fT nK}(dF:g5 M.gD T=some ⟨.string,oR,h5,fT,nK⟩)(K:aV x=sv l)(bB:aV y=.int k i)(bV:0<=i)(bU:l[i.toNat]?=some c):
 cI P ⟨dst,.index T x y,ty,pos,after,guard⟩ aV L R (.int .u8 c.toNat):=λ_ w _=>by
 have cZ:=Y8 (M.ok _ _ dF) rfl
 have aF:(⟨l.toArray⟩:ByteArray).size=l.length:=by simp[ByteArray.size]
 have aZ:i.toNat<l.length:=(List.getElem?_eq_some_iff.1 bU).1
 have e:=run_index_string (P:=P) w T ⟨l.toArray⟩ k i cZ
 rw[dif_pos (by rw[aF];omega)]at e
 have bE:(⟨l.toArray⟩:ByteArray)[i.toNat]'(by rw[aF];exact aZ)=c:=by
  have:=(List.getElem?_eq_some_iff.1 bU).2
  exact this
 rw[bE]at e
 simp[execOp,K,bB,e]
def aRt{l:List UInt8}{k:IntKind}{i:Int}{oR h5 fT nK}(dF:g5 M.gD T=some ⟨.string,oR,h5,fT,nK⟩)(K:aV x=sv l)(bB:aV y=.int k i)(bV:0<=i)(U:i<=l.length):
 cI P ⟨dst,.slice T x (some y) none none,ty,pos,after,guard⟩ aV L R (sv (l.drop i.toNat)):=λ_ w _=>by
 have cZ:=Y8 (M.ok _ _ dF) rfl
 have aF:(⟨l.toArray⟩:ByteArray).size=l.length:=by simp[ByteArray.size]
 have e:=run_slice_string_from_if (P:=P) w T ⟨l.toArray⟩ k i cZ
 rw[if_pos (by rw[aF];exact⟨bV,U⟩)]at e
 have eH:(⟨l.toArray⟩:ByteArray).extract i.toNat (⟨l.toArray⟩:ByteArray).size=⟨(l.drop i.toNat).toArray⟩:=by apply a34;rw[aF];simp[a30];exact yV eY
 rw[eH]at e
 simp[execOp,K,bB,run_sliceAt_string w T _ _ _ _ cZ,e]
def aVL{l:List UInt8}{k:IntKind}{j:Int}{oR h5 fT nK}(dF:g5 M.gD T=some ⟨.string,oR,h5,fT,nK⟩)(K:aV x=sv l)(bB:aV y=.int k j)(bV:0<=j)(U:j<=l.length):
 cI P ⟨dst,.slice T x none (some y) none,ty,pos,after,guard⟩ aV L R (sv (l.take j.toNat)):=λ_ w _=>by
 have cZ:=Y8 (M.ok _ _ dF) rfl
 have aF:(⟨l.toArray⟩:ByteArray).size=l.length:=by simp[ByteArray.size]
 have e:=run_slice_string_to_if (P:=P) w T ⟨l.toArray⟩ k j cZ
 rw[if_pos (by rw[aF];exact⟨bV,U⟩)]at e
 have eH:(⟨l.toArray⟩:ByteArray).extract 0 j.toNat=⟨(l.take j.toNat).toArray⟩:=by apply a34;simp[a30]
 rw[eH]at e
 simp[execOp,K,bB,run_sliceAt_string w T _ _ _ _ cZ,e]
end
def aM.pure{P:Program}{f:FuncId}{args:Array Value}{L:aW}{R:aP}{u:Value}(G:∀(xs:Array Value) (w:World),(callFunc f xs).run P w=.ok (.enter f xs) w)(h:∀w,Calls P f args w λe w'=>e=.returned u/\w'=w):
 aM P f args L R (λv E R'=>v=u/\L=E/\R=R'):=
 ⟨G,λw aD bF=>(h w).mono λe w' ⟨V,cE⟩=>⟨u,L,R,V,⟨rfl,rfl,rfl⟩,by subst cE;exact c5.M4 bF⟩⟩
section
open Go.Shelf
open Go.RowKit in
open Go.RowKit in
open Go.RowKit in
open Go.Lib in
open Go.Lib in
open Go.Lib in
open Go.Lib in
open Go.RowKit Go.Sort Go.Lib in
def bAE:Go.Shelf.Ren:=⟨fun|246=>143|283=>180|284=>181|285=>182|286=>183|129=>199|317=>198|318=>200|319=>201|320=>202|337=>209|338=>210|n=>n,fun|2=>2|3=>3|9=>9|4=>4|171=>318|0=>0|53=>319|37=>22|5=>5|173=>322|212=>334|51=>335|20=>20|213=>336|46=>223|232=>347|233=>348|n=>n,fun|17=>1|18=>4|19=>5|n=>n⟩
open Go.RowKit Go.Sort Go.Lib in
open Go.RowKit Go.Sort Go.Lib in
def bAD:Go.Shelf.Ren:=⟨fun|243=>98|246=>143|283=>180|284=>181|285=>182|286=>183|129=>199|317=>198|318=>200|319=>201|320=>202|337=>209|338=>210|n=>n,fun|3=>3|9=>9|2=>2|4=>4|171=>318|0=>0|53=>319|37=>22|5=>5|173=>322|212=>334|51=>335|20=>20|213=>336|46=>223|232=>347|233=>348|n=>n,fun|17=>1|18=>4|19=>5|n=>n⟩
open Go.RowKit Go.Sort Go.Lib in
open Go.RowKit Go.Sort Go.Lib in
def b5N:Go.Shelf.Ren:=⟨fun|171=>57|243=>98|246=>143|283=>180|284=>181|285=>182|286=>183|129=>199|317=>198|318=>200|319=>201|320=>202|337=>209|338=>210|n=>n,fun|3=>3|9=>9|2=>2|4=>4|171=>318|0=>0|53=>319|37=>22|5=>5|173=>322|212=>334|51=>335|20=>20|213=>336|46=>223|232=>347|233=>348|n=>n,fun|17=>1|18=>4|19=>5|n=>n⟩
def b5M:Go.Proofs.LaysM.n171 prog b5N:={
 mixed:=by kernel_rfl
 f129:=func199.trans (congrArg some aQ)
 f171:=func57.trans (congrArg some aQ)
 f243:=func98.trans (congrArg some aQ)
 f246:=func143.trans (congrArg some aQ)
 f283:=func180.trans (congrArg some aQ)
 f284:=func181.trans (congrArg some aQ)
 f285:=func182.trans (congrArg some aQ)
 f286:=func183.trans (congrArg some aQ)
 f317:=func198.trans (congrArg some aQ)
 f318:=func200.trans (congrArg some aQ)
 f319:=func201.trans (congrArg some aQ)
 f320:=func202.trans (congrArg some aQ)
 f337:=func209.trans (congrArg some aQ)
 f338:=func210.trans (congrArg some aQ)
 t0:=underlying0
 a0:=isAgg0
 z0:=sizeOf0
 v0:=zeroValue0
 t2:=underlying2
 a2:=isAgg2
 z2:=sizeOf2
 v2:=zeroValue2
 t3:=underlying3
 a3:=isAgg3
 z3:=sizeOf3
 v3:=zeroValue3
 t4:=underlying4
 a4:=isAgg4
 z4:=sizeOf4
 v4:=zeroValue4
 t5:=underlying5
 a5:=isAgg5
 z5:=sizeOf5
 v5:=zeroValue5
 t9:=underlying9
 a9:=isAgg9
 z9:=sizeOf9
 v9:=zeroValue9
 t20:=underlying20
 a20:=isAgg20
 z20:=sizeOf20
 v20:=zeroValue20
 t37:=underlying22
 a37:=isAgg22
 z37:=sizeOf22
 v37:=zeroValue22
 t46:=underlying223
 a46:=isAgg223
 z46:=sizeOf223
 v46:=zeroValue223
 t51:=underlying335
 a51:=isAgg335
 z51:=sizeOf335
 v51:=zeroValue335
 t53:=underlying319
 a53:=isAgg319
 z53:=sizeOf319
 v53:=zeroValue319
 t171:=underlying318
 a171:=isAgg318
 z171:=sizeOf318
 v171:=zeroValue318
 t173:=underlying322
 a173:=isAgg322
 z173:=sizeOf322
 v173:=zeroValue322
 t212:=underlying334
 a212:=isAgg334
 z212:=sizeOf334
 v212:=zeroValue334
 t213:=underlying336
 a213:=isAgg336
 z213:=sizeOf336
 t232:=underlying347
 a232:=isAgg347
 z232:=sizeOf347
 v232:=zeroValue347
 t233:=underlying348
 a233:=isAgg348
 z233:=sizeOf348
 v233:=zeroValue348
 g17:=by kernel_rfl
 g18:=by kernel_rfl
 g19:=by kernel_rfl
 i0:=by kernel_rfl
 i2:=by kernel_rfl
 i3:=by kernel_rfl
 i4:=by kernel_rfl
 i5:=by kernel_rfl
 i9:=by kernel_rfl
 i20:=by kernel_rfl
 i37:=by kernel_rfl
 i46:=by kernel_rfl
 i51:=by kernel_rfl
 i53:=by kernel_rfl
 i171:=by kernel_rfl
 i173:=by kernel_rfl
 i212:=by kernel_rfl
 i232:=by kernel_rfl
 i233:=by kernel_rfl
 m17:=by kernel_rfl
 m18:=by kernel_rfl
 m19:=by kernel_rfl}
open Go.RowKit Go.Sort Go.Lib in
open Go.RowKit Go.Sort Go.Lib in
open Go.RowKit Go.Lib in
open Go.RowKit Go.Lib in
open Go.RowKit Go.Lib in
open Go.RowKit Go.Lib in
def bAB:Go.Shelf.Ren:=⟨fun|219=>144|217=>184|225=>185|224=>186|267=>187|266=>203|314=>204|n=>n,fun|9=>9|3=>3|4=>4|5=>5|46=>223|146=>338|51=>335|n=>n,fun|1=>0|n=>n⟩
open Go.RowKit Go.Lib in
open Go.RowKit Go.Lib in
open Go.RowKit Go.Lib in
open Go.RowKit Go.Lib in
open Go.RowKit Go.Lib in
def b5J:Go.Shelf.Ren:=⟨fun|145=>58|220=>99|219=>144|217=>184|225=>185|224=>186|267=>187|266=>203|314=>204|n=>n,fun|9=>9|4=>4|59=>156|3=>3|5=>5|46=>223|146=>338|51=>335|n=>n,fun|1=>0|n=>n⟩
def b5I:Go.Proofs.Lays.n145 prog b5J:={
 mixed:=by kernel_rfl
 f145:=func58.trans (congrArg some aQ)
 f217:=func184.trans (congrArg some aQ)
 f219:=func144.trans (congrArg some aQ)
 f220:=func99.trans (congrArg some aQ)
 f224:=func186.trans (congrArg some aQ)
 f225:=func185.trans (congrArg some aQ)
 f266:=func203.trans (congrArg some aQ)
 f267:=func187.trans (congrArg some aQ)
 f314:=func204.trans (congrArg some aQ)
 t3:=underlying3
 a3:=isAgg3
 z3:=sizeOf3
 v3:=zeroValue3
 t4:=underlying4
 a4:=isAgg4
 z4:=sizeOf4
 v4:=zeroValue4
 t5:=underlying5
 a5:=isAgg5
 z5:=sizeOf5
 v5:=zeroValue5
 t9:=underlying9
 a9:=isAgg9
 z9:=sizeOf9
 v9:=zeroValue9
 t46:=underlying223
 a46:=isAgg223
 z46:=sizeOf223
 v46:=zeroValue223
 t51:=underlying335
 a51:=isAgg335
 z51:=sizeOf335
 v51:=zeroValue335
 t59:=underlying156
 a59:=isAgg156
 z59:=sizeOf156
 v59:=zeroValue156
 t146:=underlying338
 a146:=isAgg338
 z146:=sizeOf338
 v146:=zeroValue338
 g1:=by kernel_rfl}
open Go.RowKit Go.Lib in
open Go.RowKit Go.Lib in
open Go.RowKit Go.Lib in
open Go.RowKit Go.Lib in
open Go.RowKit Go.Lib in
open Go.RowKit Go.Lib in
open Go.RowKit Go.Lib in
open Go.RowKit Go.Lib in
def bAA:Go.Shelf.Ren:=⟨fun|206=>206|n=>n,fun|9=>9|4=>4|3=>3|n=>n,fun|n=>n⟩
open Go.RowKit Go.Lib in
open Go.RowKit Go.Lib in
def b5H:Go.Shelf.Ren:=⟨fun|101=>148|208=>191|206=>206|n=>n,fun|9=>9|4=>4|3=>3|n=>n,fun|n=>n⟩
def b5G:Go.Proofs.Lays.n101 prog b5H:={
 mixed:=by kernel_rfl
 f101:=func148.trans (congrArg some aQ)
 f206:=func206.trans (congrArg some aQ)
 f208:=func191.trans (congrArg some aQ)
 t3:=underlying3
 a3:=isAgg3
 z3:=sizeOf3
 v3:=zeroValue3
 t4:=underlying4
 a4:=isAgg4
 z4:=sizeOf4
 v4:=zeroValue4
 t9:=underlying9
 a9:=isAgg9
 z9:=sizeOf9
 v9:=zeroValue9}
open Go.RowKit Go.Lib in
open Go.RowKit Go.Lib in
def bAC:Go.Shelf.Ren:=⟨fun|221=>100|268=>145|138=>146|143=>147|195=>188|197=>189|218=>190|219=>144|260=>205|217=>184|225=>185|224=>186|267=>187|266=>203|314=>204|n=>n,fun|9=>9|3=>3|31=>158|4=>4|0=>0|105=>325|21=>21|5=>5|46=>223|119=>342|139=>345|138=>344|146=>338|51=>335|n=>n,fun|1=>0|3=>2|4=>3|n=>n⟩
open Go.RowKit Go.Lib in
def b5L:Go.Shelf.Ren:=⟨fun|146=>59|221=>100|268=>145|138=>146|143=>147|195=>188|197=>189|218=>190|219=>144|260=>205|217=>184|225=>185|224=>186|267=>187|266=>203|314=>204|n=>n,fun|9=>9|31=>158|3=>3|4=>4|0=>0|105=>325|21=>21|5=>5|46=>223|119=>342|139=>345|138=>344|146=>338|51=>335|n=>n,fun|1=>0|3=>2|4=>3|n=>n⟩
def b5K:Go.Proofs.Lays.n146 prog b5L:={
 mixed:=by kernel_rfl
 f138:=func146.trans (congrArg some aQ)
 f143:=func147.trans (congrArg some aQ)
 f146:=func59.trans (congrArg some aQ)
 f195:=func188.trans (congrArg some aQ)
 f197:=func189.trans (congrArg some aQ)
 f217:=func184.trans (congrArg some aQ)
 f218:=func190.trans (congrArg some aQ)
 f219:=func144.trans (congrArg some aQ)
 f221:=func100.trans (congrArg some aQ)
 f224:=func186.trans (congrArg some aQ)
 f225:=func185.trans (congrArg some aQ)
 f260:=func205.trans (congrArg some aQ)
 f266:=func203.trans (congrArg some aQ)
 f267:=func187.trans (congrArg some aQ)
 f268:=func145.trans (congrArg some aQ)
 f314:=func204.trans (congrArg some aQ)
 t0:=underlying0
 a0:=isAgg0
 z0:=sizeOf0
 v0:=zeroValue0
 t3:=underlying3
 a3:=isAgg3
 z3:=sizeOf3
 v3:=zeroValue3
 t4:=underlying4
 a4:=isAgg4
 z4:=sizeOf4
 v4:=zeroValue4
 t5:=underlying5
 a5:=isAgg5
 z5:=sizeOf5
 v5:=zeroValue5
 t9:=underlying9
 a9:=isAgg9
 z9:=sizeOf9
 v9:=zeroValue9
 t21:=underlying21
 a21:=isAgg21
 z21:=sizeOf21
 v21:=zeroValue21
 t31:=underlying158
 a31:=isAgg158
 z31:=sizeOf158
 v31:=zeroValue158
 t46:=underlying223
 a46:=isAgg223
 z46:=sizeOf223
 v46:=zeroValue223
 t51:=underlying335
 a51:=isAgg335
 z51:=sizeOf335
 v51:=zeroValue335
 t105:=underlying325
 a105:=isAgg325
 z105:=sizeOf325
 v105:=zeroValue325
 t119:=underlying342
 a119:=isAgg342
 z119:=sizeOf342
 t138:=underlying344
 a138:=isAgg344
 z138:=sizeOf344
 v138:=zeroValue344
 t139:=underlying345
 a139:=isAgg345
 z139:=sizeOf345
 v139:=zeroValue345
 t146:=underlying338
 a146:=isAgg338
 z146:=sizeOf338
 v146:=zeroValue338
 g1:=by kernel_rfl
 g3:=by kernel_rfl
 g4:=by kernel_rfl}
open Go.RowKit Go.Lib in
open Go.RowKit Go.Lib in
open Go.RowKit Go.Lib in
end
def c5.grow{c:sH}{L:aW}{R:aP}{w:World}(h:c5 c L R w)(os:Array Obj):c5 c L R (Go.Sort.grow w os):=by
 obtain⟨⟨aD,bF,bE⟩,cM,Y⟩:=h;have lW:∀b,b<w.heap.size->(Go.Sort.grow w os).heap[b]?=w.heap[b]?:=λb aT=>by show(w.heap++os)[b]?=_;rw[Array.getElem?_append_left aT]
 have sz:w.heap.size<=(Go.Sort.grow w os).heap.size:=by show _<=(w.heap++os).size;rw[Array.size_append];omega
 exact⟨⟨aD,⟨bF.lC,λe V=>(lW _ (bF.lt V)).trans (bF.own e V),bF.pT,λb aT=>Gr (bF.nT b aT) sz,λr O=>(bF.nH r O).mono (λ_ h=>h) (λb aT=>lW b (bF.nT b aT))⟩,bE⟩,cM,⟨Y.os,Y.tape,Y.output,HU Y.size sz,λb aT bA=>(lW b (Gr aT Y.size)).trans (Y.block b aT bA)⟩⟩
def c5.drewN{c:sH}{L:aW}{R:aP}{w:World}(h:c5 c L R w)(n:Nat):c5 c L R (w.drewN n):=by obtain⟨⟨aD,bF,bE⟩,cM,Y⟩:=h;exact⟨⟨aD,⟨bF.lC,bF.own,bF.pT,bF.nT,λr O=>p2.mono (w:=w) (w':=w.drewN n) (aD:=aD) (λ_ h=>h) (λ_ _=>rfl) (bF.nH r O)⟩,bE⟩,cM,⟨Y.os,Y.tape,Y.output,Y.size,Y.block⟩⟩
def aM.aKY{P:Program}{f:FuncId}{args:Array Value}{L:aW}{R:aP}{u:Value}(G:∀(xs:Array Value) (w:World),(callFunc f xs).run P w=.ok (.enter f xs) w)(h:∀w,(∀e∈L,w.heap[e.b]?=some (e.T.FZ e.cs))->Calls P f args w λe w'=>e=.returned u/\∃k os,w'=Go.Sort.grow (w.drewN k) os):
 aM P f args L R (λv E R'=>v=u/\L=E/\R=R'):=
 ⟨G,λw aD bF=>(h w bF.own).mono λe w' ⟨V,k,os,cE⟩=>⟨u,L,R,V,⟨rfl,rfl,rfl⟩,by subst cE;exact c5.grow (c5.drewN (c5.M4 bF) k) os⟩⟩
def s3:bQ:=⟨1,Lib.pow10Tab.map λz=>Value.int .u64 z,334⟩
def aFN{w:World}{b:bQ}{name:String}(bE:Program.globalNamed prog name=some b.b){T:TypeId}(dF:b.T=.ty T)(h:w.heap[b.b]?=some (b.T.FZ b.cs)):World.var? prog w name=some b.cs.toArray:=by unfold World.var?;rw[bE];show(match w.heap[b.b]? with|some (.cells cs _ _)=>some cs|_=>none)=some b.cs.toArray;rw[h,dF];rfl
def aSl(n:Int)(L:aW)(R:aP)(bA:-1000000000<=n/\n<=1000000000)(b3:s3∈L):
 aM prog 57 [.int .i64 n].toArray L R (λv E R'=>v=sv (Lib.itoa n)/\L=E/\R=R'):=
 aM.aKY call57 λw cM=>
  Any.strconv_Itoa b5M n D D w (aFN (b:=s3) aQ rfl (cM _ b3))
def uN(m:Int):bQ:=⟨0,[.int .i64 m],3⟩
def aDm{w:World}{m:Int}(h:w.heap[(uN m).b]?=some ((uN m).T.FZ (uN m).cs)):w.cell? ⟨0,0,none⟩=some (.int .i64 m):=by have h:w.heap[0]?=some (.cells #[.int .i64 m] 3 (0,0)):=h;simp[World.cell?,h]
def aVV(s p:List UInt8)(m:Int)(L:aW)(R:aP)(aF:s.length<=1000000)(b3:uN m∈L):
 aM prog 58 [sv s,sv p].toArray L R (λv E R'=>v=.tuple #[sv (Lib.cut s p).1,sv (Lib.cut s p).2.1,.bool (Lib.cut s p).2.2]/\L=E/\R=R'):=
 aM.aKY call58 λw cM=>
  (Any.strings_Cut b5I ⟨s.toArray⟩ ⟨p.toArray⟩ m w (by simp[ByteArray.size];omega) (aDm (cM _ b3))).mono λe w' ⟨V,n,cE⟩=>⟨V,n,#[],by rw[cE,Go.Sort.grow_empty]⟩
def aUk(s p:List UInt8)(L:aW)(R:aP):
 aM prog 148 [sv s,sv p].toArray L R (λv E R'=>v=sv (Lib.trimPrefix s p)/\L=E/\R=R'):=
 aM.pure call148 λw=>Any.strings_TrimPrefix b5G ⟨s.toArray⟩ ⟨p.toArray⟩ w
abbrev RL(l:List UInt8):List Value:=[sv l]
abbrev s2(x:bP (List UInt8)):eT:=x.eJ 1 RL []
abbrev blank:ByteArray:=⟨[32].toArray⟩
def sS(s:List UInt8):List (List UInt8):=(Lib.splitB blank 0 (Lib.countB ⟨s.toArray⟩ blank) ⟨s.toArray⟩).map λb=>b.data.toList
def aUC(s:List UInt8):(sS s).length=Lib.countB ⟨s.toArray⟩ blank+1:=by rw[sS,pU];exact Lib.splitB_all blank (gS _) 0 _ _ rfl
def aTd(s:List UInt8):((Lib.splitB blank 0 (Lib.countB ⟨s.toArray⟩ blank) ⟨s.toArray⟩).map Value.string)=(sS s).flatMap RL:=by
 rw[sS];induction (Lib.splitB blank 0 (Lib.countB ⟨s.toArray⟩ blank) ⟨s.toArray⟩)with
 |nil=>rfl
 |cons b l cA=>rw[pV,pV,vZ,cA];rfl
def aJR(s:List UInt8)(m:Int)(L:aW)(R:aP)(aF:s.length<=1000000)(b3:uN m∈L):
 aM prog 59 [sv s,sv [32]].toArray L R (λv E R'=>∃x:bP (List UInt8),v=x.val/\x.l=sS s/\L=E/\s2 x::R=R'):=by
 have bU:Lib.countB ⟨s.toArray⟩ blank<=s.length:=by have:=Lib.countB_le blank (gS _) _ ⟨s.toArray⟩ (gS _);simpa[ByteArray.size]using this
 refine⟨call59,λw aD bF=>?_⟩;refine(Any.strings_Split b5K aQ ⟨s.toArray⟩ blank m w (by simp[ByteArray.size];omega) (aDm (bF.own _ b3)) (gS _)).mono λe w' ⟨V,cE⟩=>?_;have G:=(c5.M4 bF).alloc ((Lib.splitB blank 0 (Lib.countB ⟨s.toArray⟩ blank) ⟨s.toArray⟩).map Value.string).toArray 9;have aZ:=aUC s;have U:=G.a1P (aI:=1) (len:=(sS s).length) (cap:=(sS s).length) (rows:=(sS s).map RL) (eE:=[]) (pU _) (gS _) D (λr O=>by obtain⟨l,_,rfl⟩:=List.mem_map.1 O;rfl) aX (by
  show((Lib.splitB blank 0 (Lib.countB ⟨s.toArray⟩ blank) ⟨s.toArray⟩).map Value.string).take _=_;rw[aTd,List.flatMap_def];exact yV (by
   rw[List.length_flatten,List.map_map];have:(List.map (List.length∘RL) (sS s)).sum=(sS s).length:=by
    induction sS s with
    |nil=>rfl
    |cons a l cA=>rw[pV,List.sum_cons,cA,kL];show 1+_=_;omega
   omega)) eW
 refine⟨_,L,_,V,⟨⟨some ⟨w.heap.size,0,none⟩,Lib.countB ⟨s.toArray⟩ blank+1,sS s⟩,?_,rfl,rfl,rfl⟩,?_⟩;·show Value.slice _ _ _=Value.slice _ (sS s).length _;rw[aZ]
 ·
  subst cE;rw[aZ]at U;have e:∀n,n=(sS s).length->eT.mk 1 (some ⟨w.heap.size,0,none⟩) n (Lib.countB ⟨s.toArray⟩ blank+1) ((sS s).map RL) []=s2 ⟨some ⟨w.heap.size,0,none⟩,Lib.countB ⟨s.toArray⟩ blank+1,sS s⟩:=λn bA=>by rw[bA]
  rw[e _ aZ.symm]at U;exact U
def IA:List (List UInt8)->List UInt8
 |[]=>[]
 |[w]=>w
 |w::v::ws=>w++32::IA (v::ws)
def aX5{w:List UInt8}(h:32∉w):Lib.indexByte w 32= -1:=by
 induction w with
 |nil=>rfl
 |cons b l cA=>have G:¬b=32:=λe=>h (by rw[e];exact .head _);have U:=cA λaZ=>h (.tail _ aZ);simp[Lib.indexByte,G,U]
def aSC{w:List UInt8}(h:32∉w)(r:List UInt8):Lib.indexByte (w++32::r) 32=(w.length:Int):=by
 induction w with
 |nil=>simp[Lib.indexByte]
 |cons b l cA=>have G:¬b=32:=λe=>h (by rw[e];exact .head _);exact aOr
def aQ9{w:List UInt8}(h:32∉w):Lib.indexB ⟨w.toArray⟩ blank= -1:=by show Lib.index w [32]= -1;rw[Lib.index_one];exact aX5 h
def aWm{w:List UInt8}(h:32∉w)(r:List UInt8):Lib.indexB ⟨(w++32::r).toArray⟩ blank=(w.length:Int):=by show Lib.index (w++32::r) [32]=_;rw[Lib.index_one];exact aSC h r
def aED(w r:List UInt8):(⟨(w++32::r).toArray⟩:ByteArray).extract (w.length+blank.size) (⟨(w++32::r).toArray⟩:ByteArray).size=⟨r.toArray⟩:=by
 apply a34;have:(w++32::r).drop (w.length+1)=r:=by rw[aCg];simp
 simp[a30,ByteArray.size,this];exact yV D
def aY9(w r:List UInt8):((⟨(w++32::r).toArray⟩:ByteArray).extract 0 (w.length+0)).data.toList=w:=by simp[a30]
def a5c: ∀{ws:List (List UInt8)},ws≠[]->(∀w∈ws,(32:UInt8)∉w)->sS (IA ws)=ws
 |[],h,_=>absurd rfl h
 |[w],_,h=>by
  have G:=aQ9 (h w (.head _))
  rw[IA,sS,Lib.countB_miss _ _ G,Lib.splitB_zero];rfl
 |w::v::ws,_,h=>by
  have cE:=h w (.head _)
  have G:=aWm cE (IA (v::ws))
  have cA:=a5c (ws:=v::ws) eY λx K=>h x (.tail _ K)
  rw[sS]at cA
  rw[IA,sS,Lib.countB_hit _ _ _ (gS _) G,aED,Mq,Lib.splitB_hit _ _ _ _ _ G,aED,pV,cA,aY9]
section
attribute [local irreducible] cO dG dP aM cI dR fA e2 e5 fB eQ e9 J.L
def aJQ(h:A->B:=by exact aA rF rfl):=h
def aDN: ∀(k u:Nat),u<10^(k+1)->(Lib.decDigits u).length<=k+1
 |0,u,h=>by
  rw[Lib.decDigits,dif_pos D];exact gS _
 |k+1,u,h=>by
  rw[Lib.decDigits]
  split
  ·simp only[rE];omega
  ·have G:u/10<10^(k+1):=Nat.div_lt_of_lt_mul (by rw[Nat.pow_succ]at h;omega)
   have U:=aDN k (u/10) G
   rw[hL,rE];omega
def a7H{n:Int}(h:-1000000000<=n/\n<=1000000000):(Lib.itoa n).length<=11:=by
 have G:∀u:Nat,u<=1000000000->(Lib.decDigits u).length<=10:=λu cZ=>aDN 9 u D;rw[Lib.itoa];split;·have:=G n.natAbs D;rw[kL];omega
 ·have:=G n.toNat D;omega
def sR(f:List UInt8)(l:List Int):List UInt8:=f++l.flatMap λn=>32::Lib.itoa n
def aXM{f:List UInt8}{l:List Int}{k:Nat}{n:Int}(h:l[k]?=some n):sR f (l.take (k+1))=sR f (l.take k)++([32]++Lib.itoa n):=by simp only[sR,BA,h,Option.toList,Wk,vZ,a3P,rV,kF];rfl
def OM{f:List UInt8}: ∀{l:List Int},(∀n∈l,-1000000000<=n/\n<=1000000000)->(sR f l).length<=f.length+12*l.length
 |[],_=>by simp[sR]
 |n::l,h=>by
  have G:=OM (f:=f) (l:=l) λx K=>h x (.tail _ K)
  have U:=a7H (h n (.head _))
  simp only[sR,vZ,hL,kL]at G|-
  omega
def aSK(l:bP Int)(L:aW)(R:aP)(aZ:aN (dW l) R)(aT:∀n∈l.l,-1000000000<=n/\n<=1000000000):
 aM prog 55 [l.val].toArray L R (λv E R'=>v=.bool true/\L=E/\R=R'):=by
 refine rZ call55 aZ λlL=>?_;refine cX 18 call55 func55 rfl rfl rfl ?_;apply E8∘mY∘r3;refine e3 [(5,.slice _ _ _),(6,.int _ _),(7,.int _ _)] cB λg9=>?_;refine lF ([2,4]++dJ 7 11) (λg:{k:Nat//k<=l.l.length}=>[(7,.int .i64 ((g.1:Nat):Int))]) (λg=>l.l.length-g.1) (⟨0,by omega⟩) ?_;rintro⟨k,Y⟩ c1;try dsimp only
 apply(gU);refine aJ ?_ ?_<;>intro bI;·
  have bE:=bR (l:=l.l) (k:=k) 0 D;have bA:=aT _ (hS bE);apply jK∘aJQ∘kY∘q4∘q5;apply dT (aD:=[_,_]) (j:=2) (b4:=13) rfl rfl aK rfl b2 rfl;·exact JC
  intro o7;apply(dD);refine aJ ?_ ?_<;>intro cK;·apply(OH);refine m5 L R ?_;exact absurd cK D
  apply(k9);exact eG (⟨k+1,by omega⟩)
 exact a4B
def aS0(f:List UInt8)(l:bP Int)(L:aW)(R:aP)(aZ:aN (dW l) R)(aT:∀n∈l.l,-1000000000<=n/\n<=1000000000)(aH:f.length<=1000)(bA:l.l.length<=100)(b3:s3∈L):
 aM prog 29 [sv f,l.val].toArray L R (λv E R'=>v=sv (sR f l.l)/\L=E/\R=R'):=by
 refine cX 20 call29 func29 rfl rfl rfl ?_;apply(eV);refine aA pX rfl ?_;apply mY∘r3;refine e3 [(0,.string _),(7,.slice _ _ _),(8,.int _ _),(9,.int _ _)] cB λg9=>?_;refine a1e ([0,6]++dJ 9 10) (λg:{k:Nat//k<=l.l.length}=>[(9,.int .i64 ((g.1:Nat):Int)),(0,sv (sR f (l.l.take g.1)))]) (λg=>l.l.length-g.1) (⟨0,by omega⟩) (by refine⟨rfl,?_,trivial⟩;dsimp only;rw[show sR f (List.take 0 l.l)=f from rV f];rfl) ?_;rintro⟨k,Y⟩ c1;try dsimp only
 apply(gU);refine aJ ?_ ?_<;>intro bI;·have bE:=bR (l:=l.l) (k:=k) 0 D;obtain⟨n,jC⟩:∃n,n=l.l.getD k 0:=⟨_,rfl⟩;rw[<-jC]at bE;have DR:=aT _ (hS bE);have En:=a7H DR;have tT:=OM (f:=f) (l:=l.l.take k) λx K=>aT x (Wh K);rw[HS]at tT;have cW:=aXM (f:=f) bE;apply jK∘aJQ∘kY∘eA;refine eS (bY (dM ?_));refine aA m8 rfl ?_;apply(cJ);refine eD rfl (aSl n _ _ DR b3) ?_;refine aA (Io M rfl rfl rfl aQh) rfl ?_;refine aA (Io M rfl rfl rfl aQh) rfl ?_;refine aA pX rfl ?_;apply(tF);exact aPe
 obtain rfl:k=l.l.length:=by omega
 apply(oS);refine aA m8 rfl ?_;refine aA pX rfl ?_;apply(DW);refine cF L R (qI rfl (EL XW)) ?_;exact⟨by rw[yV (gS _)],rfl,rfl⟩
end
def L2(d:List UInt8):Int:=d.foldl (λh c=>h*10+((c.toNat:Int)-48)) 0
def a5r{d:List UInt8}{k:Nat}{c:UInt8}(h:d[k]?=some c):L2 (d.take (k+1))=L2 (d.take k)*10+((c.toNat:Int)-48):=by rw[BA,h,L2,NM];rfl
def Rn{u:Nat}(h:u<10):(UInt8.ofNat (48+u)).toNat=48+u:=by rw[UInt8.toNat_ofNat'];omega
structure aDc(u:Nat)(d:List UInt8):Prop where
 val:L2 d=(u:Int)
 Jy:∀c∈d,48<=c.toNat/\c.toNat<=57
 ne:d≠[]
 head:d[0]?=some 48->u=0
def Ic(u:Nat):aDc u (Lib.decDigits u):=by
 induction u using Nat.strongRecOn with
 |ind u cA=>
  rw[Lib.decDigits];split;·
   rename_i h;refine⟨?_,λc bU=>?_,by simp,λbF=>?_⟩;·simp only[L2,Wc,List.foldl_nil];rw[Rn h];omega
   ·rw[List.mem_singleton.1 bU,Rn h];omega
   ·have G:UInt8.ofNat (48+u)=48:=uA bF;have U:=congrArg UInt8.toNat G;rw[Rn h]at U;have aO:(48:UInt8).toNat=48:=rfl;omega
  ·
   rename_i h;have aB:=cA (u/10) D;refine⟨?_,λc bU=>?_,by simp,λbF=>?_⟩;·have cS:=aB.val;simp only[L2,NM,Wc,List.foldl_nil]at cS|-;rw[cS,Rn D];omega
   ·
    rcases List.mem_append.1 bU with bU|bU;·exact aB.Jy c bU
    ·rw[List.mem_singleton.1 bU,Rn D];omega
   ·have jC:=aB.ne;(have Kv:(Lib.decDigits (u/10))[0]?=some 48:=by rw[<-bF,K4 (List.length_pos_iff.2 jC)]);have:=aB.head Kv;omega
def aVJ(u:Nat):Lib.trimPrefix (Lib.decDigits u) [45]=Lib.decDigits u:=by
 have h:=Ic u;cases a7:Lib.decDigits u with
 |nil=>rfl
 |cons c l=>
  have bU:=h.Jy c (by rw[a7];exact .head _);have:c≠45:=λe=>by rw[e]at bU;revert bU;decide
  simp[Lib.trimPrefix,Lib.hasPrefix,List.isPrefixOf,this.symm]
def aXZ(d:List UInt8):Lib.trimPrefix (45::d) [45]=d:=by simp[Lib.trimPrefix,Lib.hasPrefix,List.isPrefixOf]
section
attribute [local irreducible] cO dG dP aM cI dR fA e2 e5 fB eQ e9 J.L
def a0n(h:A->B:=by exact aA Bc rfl):=h
def aDP(h:A->B:=by exact dN rfl (AP lZ K g6 D) rfl):=h
def aTx(h:B:=by exact⟨⟨CE,⟨0,false⟩,kU,s1,⟨0,0⟩⟩,eK,rfl,⟨⟨g1,KE⟩,.inr (.inr (.inl ⟨rfl,by dsimp only;omega,by dsimp only;omega,by dsimp only;omega⟩))⟩,j4,rfl,rfl⟩):=h
def aS1(h:A->B:=by exact dN rfl (OW lZ K j4 D) rfl):=h
def aZv(h:A->B:=by exact jV M [] [0,1,2,3,4,5,6,7] [8] ([bQ.mk fK _ _]) _ mixed aQ bC aCl):=h
def aTf(h:A->B:=by exact mW rfl (OW lZ K wR D) rfl rfl):=h
def aS4(h:B:=by exact⟨⟨CE,⟨0,false⟩,kU,s1,⟨oF,oF+CM⟩⟩,h8,rfl,⟨⟨g1,KE⟩,.inr (.inr (.inr ⟨rfl,by dsimp only;omega,by dsimp only;omega,by dsimp only;omega,by dsimp only;omega⟩))⟩,zO,rfl,rfl⟩):=h
structure eO where
 kind:Int
 wY:gL
 new:cR
 aS:Int
 nI:bG
 deriving DecidableEq,Inhabited
def eO.cells(e:eO):List Value:=[.int .i64 e.kind,.int .i64 e.wY.tQ,.bool e.wY.m7,.int .i64 e.new.bK,.int .i64 e.new.to,.int .i64 e.new.len,.int .i64 e.new.h6,.bool e.new.qD,.bool e.new.dZ,.int .i64 e.new.aC.bJ,.int .i64 e.new.aC.bN,.int .i64 e.new.fQ.bJ,.int .i64 e.new.fQ.bN,.int .i64 e.aS,.int .i64 e.nI.bJ,.int .i64 e.nI.bN]
abbrev eO.val(e:eO):Value:=.agg #[.int .i64 e.kind,.int .i64 e.wY.tQ,.bool e.wY.m7,.int .i64 e.new.bK,.int .i64 e.new.to,.int .i64 e.new.len,.int .i64 e.new.h6,.bool e.new.qD,.bool e.new.dZ,.int .i64 e.new.aC.bJ,.int .i64 e.new.aC.bN,.int .i64 e.new.fQ.bJ,.int .i64 e.new.fQ.bN,.int .i64 e.aS,.int .i64 e.nI.bJ,.int .i64 e.nI.bN]
def kU:cR:=⟨0,0,0,0,false,false,⟨0,0⟩,⟨0,0⟩⟩
def aEH(e:eO):Prop:=
 (e=⟨1,e.wY,kU,0,⟨0,0⟩⟩/\-100<=e.wY.tQ/\e.wY.tQ<=100)\/
 (e=⟨2,⟨0,false⟩,e.new,0,⟨0,0⟩⟩/\(0<=e.new.bK/\e.new.bK<=1000)/\(0<=e.new.to/\e.new.to<=1000)/\Zg e.new.bK e.new.to e.new)\/
 (e=⟨e.kind,⟨0,false⟩,kU,e.aS,⟨0,0⟩⟩/\(e.kind=3\/e.kind=4)/\0<=e.aS/\e.aS<=1000)\/
 (e=⟨e.kind,⟨0,false⟩,kU,e.aS,e.nI⟩/\(e.kind=5\/e.kind=6)/\(0<=e.aS/\e.aS<=1000)/\(0<=e.nI.bJ/\e.nI.bJ<=30)/\-1<=e.nI.bN/\e.nI.bN<=35)
structure aQ1(e:eO):Prop where
 kind:1<=e.kind/\e.kind<=6
 plain:aEH e
def aT9(c:Nat)(x:bP Int)(k:Nat)(m:eC)(R:aP)(K:nL x R)(Y:k<=x.l.length)(bA:m.places.l.length<=1000/\m.Z.l.length<=1000):
 aM prog 10 [.pointer (some ⟨c,0,none⟩),m.val].toArray [hI c x k] R
  (λv E R'=>∃(e:eO) (c3:Nat),v=e.val/\aQ1 e/\c3<=x.l.length/\[hI c x c3]=E/\R=R'):=by
 refine cX 65 call10 func10 rfl rfl rfl ?_;apply(fC);intro e4;apply(dO);intro dU;apply(OC);refine dN rfl (OW lZ K Y D) rfl ?_;rintro v E R' ⟨CE,g8,rfl,g1,KE,g6,rfl,rfl⟩;refine aA (l7 (hB:=[(0,(Value.int _ _).cells.toList)]) (c9:=[_,_,_,_,_,_,_,_,_,_,_,_,_,_,_,_]) M rfl rfl rfl rfl) rfl ?_;apply(dO);intro fK;apply(RU);refine eS (bY (iH (cC (dM ?_))));apply(q3);refine aJ ?_ ?_<;>intro bI;·apply(IE);refine dN rfl (OW lZ K g6 D) rfl ?_;rintro v E R' ⟨s1,eK,rfl,oA,tO,j4,rfl,rfl⟩;apply(iS);refine dN rfl (YL lZ K j4 D) rfl ?_;rintro v E R' ⟨aZ9,mJ,rfl,wR,rfl,rfl⟩;refine aA aPN rfl ?_;apply(gF);refine OR M rfl rfl rfl rfl qV aK aK aK ?_;refine eS (hG (bY (cC (dM ?_))));apply a0n∘y5;refine cF [hI c x mJ] R (qI rfl Wu) ?_;exact⟨⟨CE,⟨s1,aZ9⟩,kU,0,⟨0,0⟩⟩,mJ,rfl,⟨⟨g1,KE⟩,.inl ⟨by rw[show CE=1 from bI],oA,tO⟩⟩,wR,rfl,rfl⟩
 apply(sQ);refine aJ ?_ ?_<;>intro cK;·refine jV M [] [0,1,2,3,4,5,7,8,9,10,6,11,12,13] [14] ([bQ.mk e4 _ _]) _ mixed aQ bC aCl ?_;apply CG∘CG∘lS;refine fE CP rfl rfl rfl rfl ?_;apply NE∘CG∘lS;refine fE CP rfl rfl rfl rfl ?_;refine mW rfl (AP lZ K g6 D) rfl rfl ?_;rintro v E R' ⟨s1,eK,rfl,oA,tO,St,j4,rfl,rfl⟩;refine⟨bC,hC,?_⟩;refine mW rfl (AP lZ K j4 D) rfl rfl ?_;rintro v E R' ⟨oF,mJ,rfl,g3,VT,a1Q,wR,rfl,rfl⟩;refine⟨bC,hC,?_⟩;refine mW rfl (a6v lZ K wR) rfl rfl ?_;rintro v E R' ⟨F3,h8,rfl,rA,zO,rfl,rfl⟩;refine⟨bC,hC,?_⟩;apply(LR);refine Ru rfl rfl rfl rfl qV aK aK aK bC ?_;refine jI (hG (bY (cC (dM ?_))));apply a0n∘y5;refine cF [hI c x h8] R (qI rfl Wu) ?_;exact⟨⟨CE,⟨0,false⟩,F3,0,⟨0,0⟩⟩,h8,rfl,⟨⟨g1,KE⟩,.inr (.inl ⟨by rw[show CE=2 from cK],by dsimp only;rw[rA.bK];omega,by dsimp only;rw[rA.to];omega,by dsimp only;rw[rA.bK,rA.to];exact rA⟩)⟩,zO,rfl,rfl⟩
 apply x0∘q3;refine aJ ?_ ?_<;>intro dE;·
  refine gG (bY ?_);refine aJ ?_ ?_<;>intro gZ;·exact aQP
  exact(RX∘jM) aQe
 apply e1∘q3;refine aJ ?_ ?_<;>intro gZ;·exact aQP
 exact(RX∘jM) aQe
end
def KZ:List UInt8:=[112,108,97,99,101]
def I7:List UInt8:=[114,111,97,100]
def L4:List UInt8:=[99,108,111,115,101]
def UD:List UInt8:=[111,112,101,110]
def U5:List UInt8:=[114,101,115,116]
def RI:List UInt8:=[108,105,102,116]
def Hd:List UInt8:=[115,117,114,102,97,99,101]
def Il:List UInt8:=[98,101,108,111,119]
def Dh:List UInt8:=[119,97,108,107]
def De:List UInt8:=[109,97,99,104,105,110,101]
def At:List UInt8:=[115,117,109]
def YC(e:eO):List (List UInt8):=
 if e.kind=1 then[KZ,Lib.itoa e.wY.tQ,if e.wY.m7 then Hd else Il]
 else if e.kind=2 then[I7,Lib.itoa e.new.bK,Lib.itoa e.new.to,Lib.itoa e.new.len,Lib.itoa e.new.h6,if e.new.qD then Dh else De,Lib.itoa e.new.aC.bJ,Lib.itoa e.new.aC.bN,Lib.itoa e.new.fQ.bJ,Lib.itoa e.new.fQ.bN]
 else if e.kind=3 then[L4,Lib.itoa e.aS]
 else if e.kind=4 then[UD,Lib.itoa e.aS]
 else if e.kind=5 then[U5,Lib.itoa e.aS,Lib.itoa e.nI.bJ,Lib.itoa e.nI.bN]
 else[RI,Lib.itoa e.aS,Lib.itoa e.nI.bJ,Lib.itoa e.nI.bN]
def p7(e:eO):List UInt8:=IA (YC e)
def a6C{c:UInt8}(bU:c=32\/c=10)(n:Int):c∉Lib.itoa n:=by
 have h:∀u:Nat,c∉Lib.decDigits u:=λu a1=>by
  have G:=(Ic u).Jy c a1;rcases bU with rfl|rfl;·revert G;decide
  ·revert G;decide
 rw[Lib.itoa];split;·
  intro a1;rcases List.mem_cons.1 a1 with G|G;·rw[G]at bU;revert bU;decide
  ·exact h _ G
 ·exact h _
def aRr(e:eO):YC e≠[]:=by unfold YC;repeat(first|exact List.cons_ne_nil _ _|split)
def aFC{c:UInt8}(bU:c=32\/c=10)(e:eO):∀w∈YC e,c∉w:=by
 have aB:=a6C bU;have bV:∀w∈[KZ,I7,L4,UD,U5,RI,Hd,Il,Dh,De],c∉w:=by
  rcases bU with rfl|rfl;·decide
  ·decide
 intro w cE;unfold YC at cE;repeat' split at cE
 all_goals simp only[nX,pO,or_false]at cE
 all_goals(rcases cE with rfl|rfl|rfl|rfl|rfl|rfl|rfl|rfl|rfl|rfl<;>first|exact aB _|exact bV _ eY)
def Px(e:eO):sS (p7 e)=YC e:=a5c (aRr e) (aFC (.inl rfl) e)
end Go.Proofs.YtdiajbdaadlfhaaGreatDoor
namespace Go.Proofs.YtdiajbdaadlfhaaGreatDoor
open Go.Aw Go Go.Proofs.Tryz
set_option maxRecDepth 20000
attribute [local irreducible] cO dG dP aM cI dR fA e2 e5 fB eQ e9 J.L
def aVf(h:B:=by exact⟨⟨⟨none,0,[]⟩,⟨none,0,[]⟩⟩,[],by rw[<-dC,<-eZ,Hp zT (aIz D D)];rfl,λz dI=>(by rw[<-dC,<-eZ,Hp zT (aIz D D)]at dI;cases dI),rfl,rfl⟩):=h
def aZF(h:A->B:=by exact aA (iV M (q) _ rfl rfl rfl rfl bS (i:=e.aS.toNat) c7 iY) rfl):=h
def aVi(h:A->B:=by exact mO (N4 M (q) (⟨(q.l.getD e.aS.toNat default).bK,(q.l.getD e.aS.toNat default).to,(q.l.getD e.aS.toNat default).len,(q.l.getD e.aS.toNat default).h6,(q.l.getD e.aS.toNat default).qD,(q.l.getD e.aS.toNat default).dZ,e.nI,(q.l.getD e.aS.toNat default).fQ⟩) rfl rfl rfl rfl cL bS bH bS (s6 rfl) aK aK)):=h
def aRF(h:A->B:=by exact mO (N4 M (q) (⟨(q.l.getD e.aS.toNat default).bK,(q.l.getD e.aS.toNat default).to,(q.l.getD e.aS.toNat default).len,(q.l.getD e.aS.toNat default).h6,(q.l.getD e.aS.toNat default).qD,(q.l.getD e.aS.toNat default).dZ,(q.l.getD e.aS.toNat default).aC,e.nI⟩) rfl rfl rfl rfl cL bS bH bS (s6 rfl) aK aK)):=h
def aWi(h:A->B:=by exact jR M [0,1,2,3,4,5,6,7] (q.L 53 cR.cells++([bQ.mk e4 _ _]++[])) mixed aQ bC):=h
def aW0(h:A->B:=by exact b7 aCy rfl rfl rfl):=h
def aWG(h:B:=by exact⟨⟨⟨none,0,[]⟩,⟨none,0,[]⟩⟩,[],by rw[<-dC,<-eZ,Hp zT (aIW D D Th)];rfl,λz dI=>(by rw[<-dC,<-eZ,Hp zT (aIW D D Th)]at dI;cases dI),rfl,rfl⟩):=h
def aRe(h:A->B:=by exact mO (mV M (q) (⟨(q.l.getD e.aS.toNat default).bK,(q.l.getD e.aS.toNat default).to,(q.l.getD e.aS.toNat default).len,(q.l.getD e.aS.toNat default).h6,(q.l.getD e.aS.toNat default).qD,decide (e.kind=3),(q.l.getD e.aS.toNat default).aC,(q.l.getD e.aS.toNat default).fQ⟩) rfl rfl rfl rfl cL bS bH bS aX aK aK)):=h
def aRK(h:B:=by exact⟨⟨⟨none,0,[]⟩,⟨none,0,[]⟩⟩,[],by rw[<-dC,<-eZ,Hp zT (aJr D D D D D D)];rfl,λz dI=>(by rw[<-dC,<-eZ,Hp zT (aJr D D D D D D)]at dI;cases dI),rfl,rfl⟩):=h
def l3(P:List gL)(Q:List cR):eC:=⟨⟨none,0,P⟩,⟨none,0,Q⟩⟩
def aD3(m:eC):iB (l3 m.places.l m.Z.l)=iB m:=rfl
def tA(P:List gL)(Q:List cR)(e:eO):Except Int (List gL×List cR):=
 if e.kind=1 then .ok (P++[e.wY],Q)
 else if e.kind=2 then .ok (P,Q++[e.new])
 else if e.kind=3\/e.kind=4\/e.kind=5\/e.kind=6 then
  if e.aS<0\/(Q.length:Int)<=e.aS then .error 4
  else if e.kind=5 then .ok (P,Q.set e.aS.toNat ⟨(Q.getD e.aS.toNat default).bK,(Q.getD e.aS.toNat default).to,(Q.getD e.aS.toNat default).len,(Q.getD e.aS.toNat default).h6,(Q.getD e.aS.toNat default).qD,(Q.getD e.aS.toNat default).dZ,e.nI,(Q.getD e.aS.toNat default).fQ⟩)
  else if e.kind=6 then .ok (P,Q.set e.aS.toNat ⟨(Q.getD e.aS.toNat default).bK,(Q.getD e.aS.toNat default).to,(Q.getD e.aS.toNat default).len,(Q.getD e.aS.toNat default).h6,(Q.getD e.aS.toNat default).qD,(Q.getD e.aS.toNat default).dZ,(Q.getD e.aS.toNat default).aC,e.nI⟩)
  else if(Q.getD e.aS.toNat default).dZ=decide (e.kind=3)then .error 10
  else .ok (P,Q.set e.aS.toNat ⟨(Q.getD e.aS.toNat default).bK,(Q.getD e.aS.toNat default).to,(Q.getD e.aS.toNat default).len,(Q.getD e.aS.toNat default).h6,(Q.getD e.aS.toNat default).qD,decide (e.kind=3),(Q.getD e.aS.toNat default).aC,(Q.getD e.aS.toNat default).fQ⟩)
 else .error 5
def tJ(P:List gL)(Q:List cR)(e:eO):Except Int (List gL×List cR):=
 if iB (l3 P Q)=0 then
  match tA P Q e with
  | .error x=>.error x
  | .ok z=>if iB (l3 z.1 z.2)=0 then .ok z else .error (iB (l3 z.1 z.2))
 else .error (iB (l3 P Q))
def Jl{aY:Type}:Except Int aY->Int| .error x=>x| .ok _=>0
def aIk(m:eC)(L:aW)(R:aP)(a1:oY m R)(bM:m.places.l.length<=64/\m.Z.l.length<=128):
 aM prog 34 [m.val].toArray L R (λw E R'=>∃(p:J gL) (q:J cR),w=.agg #[p.val,q.val]/\(p.ok 2 gL.cells/\q.ok 10 cR.cells)/\p.l=m.places.l/\q.l=m.Z.l/\q.L 53 cR.cells++(p.L 49 gL.cells++L)=E/\R=R'):=by have wS:=a1.places;have WD:=a1.Z;have n2:=bM.1;have HD:=bM.2;refine cX 10 call34 func34 rfl rfl rfl ?_;apply(fC);intro fT;apply(dO);intro eN;apply(j6);refine jV M [6,7] [0,1,3,4] [2,5,6,7] ([bQ.mk fT _ _]) _ mixed aQ bC (by(repeat(first|apply List.Sublist.cons (a:=bQ.mk eN _ _)|apply List.Sublist.cons_cons));exact oU _) ?_;apply lS∘LV∘zY;refine pP (rH (f:=gL.cells) (xs:=m.places) M rfl rfl rfl aX rfl rfl (wS) bH D) rfl rfl rfl ?_;rintro v E R' ⟨Fv,rfl,aAb,rfl,rfl⟩;apply(fI);refine pP (rH (f:=cR.cells) (xs:=m.Z) M rfl rfl rfl aX rfl rfl (WD) bH D) rfl rfl rfl ?_;rintro v E R' ⟨aNE,rfl,b3N,rfl,rfl⟩;apply fI∘aOb∘uY;refine jI (bY (mE ?_));refine cF ((⟨aNE,m.Z.l⟩:J cR).L 53 cR.cells++((⟨Fv,m.places.l⟩:J gL).L 49 gL.cells++L)) R mM ?_;exact⟨⟨Fv,m.places.l⟩,⟨aNE,m.Z.l⟩,rfl,⟨aAb,b3N⟩,rfl,rfl,rfl,rfl⟩
section
variable{P:List gL}{Q:List cR}{e:eO}
def aEl(h:e.kind=1):tA P Q e=.ok (P++[e.wY],Q):=by simp[tA,h]
def aEr(h:e.kind=2):tA P Q e=.ok (P,Q++[e.new]):=by simp[tA,h]
def aJr(G:e.kind≠1)(U:e.kind≠2)(aO:e.kind≠3)(bW:e.kind≠4)(dV:e.kind≠5)(gY:e.kind≠6):tA P Q e=.error 5:=by simp[tA,G,U,aO,bW,dV,gY]
def aIz(h:3<=e.kind/\e.kind<=6)(O:e.aS<0\/(Q.length:Int)<=e.aS):tA P Q e=.error 4:=by rw[tA,if_neg D,if_neg D,if_pos D,if_pos O]
def aRH(h:e.kind=5)(O:¬(e.aS<0\/(Q.length:Int)<=e.aS)):tA P Q e=.ok (P,Q.set e.aS.toNat ⟨(Q.getD e.aS.toNat default).bK,(Q.getD e.aS.toNat default).to,(Q.getD e.aS.toNat default).len,(Q.getD e.aS.toNat default).h6,(Q.getD e.aS.toNat default).qD,(Q.getD e.aS.toNat default).dZ,e.nI,(Q.getD e.aS.toNat default).fQ⟩):=by rw[tA,if_neg D,if_neg D,if_pos D,if_neg O,if_pos h]
def aR6(h:e.kind=6)(O:¬(e.aS<0\/(Q.length:Int)<=e.aS)):tA P Q e=.ok (P,Q.set e.aS.toNat ⟨(Q.getD e.aS.toNat default).bK,(Q.getD e.aS.toNat default).to,(Q.getD e.aS.toNat default).len,(Q.getD e.aS.toNat default).h6,(Q.getD e.aS.toNat default).qD,(Q.getD e.aS.toNat default).dZ,(Q.getD e.aS.toNat default).aC,e.nI⟩):=by rw[tA,if_neg D,if_neg D,if_pos D,if_neg O,if_neg D,if_pos h]
def aIW(h:e.kind=3\/e.kind=4)(O:¬(e.aS<0\/(Q.length:Int)<=e.aS))(aF:(Q.getD e.aS.toNat default).dZ=decide (e.kind=3)):tA P Q e=.error 10:=by rw[tA,if_neg D,if_neg D,if_pos D,if_neg O,if_neg D,if_neg D,if_pos aF]
def aIS(h:e.kind=3\/e.kind=4)(O:¬(e.aS<0\/(Q.length:Int)<=e.aS))(aF:¬(Q.getD e.aS.toNat default).dZ=decide (e.kind=3)):tA P Q e=.ok (P,Q.set e.aS.toNat ⟨(Q.getD e.aS.toNat default).bK,(Q.getD e.aS.toNat default).to,(Q.getD e.aS.toNat default).len,(Q.getD e.aS.toNat default).h6,(Q.getD e.aS.toNat default).qD,decide (e.kind=3),(Q.getD e.aS.toNat default).aC,(Q.getD e.aS.toNat default).fQ⟩):=by rw[tA,if_neg D,if_neg D,if_pos D,if_neg O,if_neg D,if_neg D,if_neg aF]
def aIZ(h:iB (l3 P Q)≠0):tJ P Q e=.error (iB (l3 P Q)):=by rw[tJ,if_neg h]
def Hp{x:Int}(h:iB (l3 P Q)=0)(V:tA P Q e=.error x):tJ P Q e=.error x:=by rw[tJ,if_pos h,V]
def Rs{Bz:List gL}{x7:List cR}(h:iB (l3 P Q)=0)(V:tA P Q e=.ok (Bz,x7))(cD:iB (l3 Bz x7)=0):tJ P Q e=.ok (Bz,x7):=by rw[tJ,if_pos h,V];exact if_pos cD
def aH4{Bz:List gL}{x7:List cR}(h:iB (l3 P Q)=0)(V:tA P Q e=.ok (Bz,x7))(cD:iB (l3 Bz x7)≠0):tJ P Q e=.error (iB (l3 Bz x7)):=by rw[tJ,if_pos h,V];exact if_neg cD
end
def aIK(m:eC)(e:eO)(L:aW)(R:aP)(a1:oY m R):
 aM prog 11 [m.val,e.val].toArray L R (λw E R'=>∃(o8:eC) (S:aP),w=.tuple #[o8.val,.int .i64 (Jl (tJ m.places.l m.Z.l e))]/\(∀z,tJ m.places.l m.Z.l e=.ok z->oY o8 (S++R)/\iB o8=0/\o8.places.l=z.1/\o8.Z.l=z.2)/\L=E/\S++R=R'):=by
 refine cX 99 call11 func11 rfl rfl rfl ?_;apply(fC);intro eN;apply(nW);intro e4;apply(dO);intro dU;apply kB∘lG;refine eD rfl (Yv m _ _ a1) ?_;apply(pQ);refine aJ ?_ ?_<;>intro bI;·apply RS∘yE;refine cF L R TR ?_;exact⟨⟨⟨none,0,[]⟩,⟨none,0,[]⟩⟩,[],by rw[aIZ (show iB (l3 m.places.l m.Z.l)≠0 from bI)];rfl,λz dI=>(by rw[aIZ (show iB (l3 m.places.l m.Z.l)≠0 from bI)]at dI;cases dI),rfl,rfl⟩
 have cS:iB m=0:=Decidable.not_not.1 bI;have bM:=R8 cS;have n2:=bM.places;have HD:=bM.Z;apply gI∘lG;refine dN rfl (aIk m _ _ a1 ⟨n2,HD⟩) rfl ?_;rintro v E R' ⟨p,q,rfl,⟨iN,g7⟩,dC,eZ,rfl,rfl⟩;have l2:p.l.length<=64:=by rw[dC];exact n2
 have yK:q.l.length=m.Z.l.length:=by rw[eZ]
 have zT:iB (l3 p.l q.l)=0:=by rw[dC,eZ];exact cS
 apply(dO);intro lT;apply RU∘dD;refine w6 ([5,8]++dJ 20 72) ((⟨λ_=>[],λg=>⟨lT,[g.1.1.val,g.1.2.val],28⟩::(g.1.2.L 53 cR.cells++(g.1.1.L 49 gL.cells++(⟨dU,[.slice none 0 0,.slice none 0 0],28⟩::⟨e4,e.cells,55⟩::⟨eN,m.cells,28⟩::L))),λ_=>R,λ_=>0⟩:e0 {g:J gL×J cR//(g.1.ok 2 gL.cells/\g.2.ok 10 cR.cells)/\tA p.l q.l e=.ok (g.1.l,g.2.l)})) ?_ ?_;·
  refine iH (cC (dM ?_));apply(q3);refine aJ ?_ ?_<;>intro cK;·apply e1∘gB∘C6;refine g2 a4z rfl ?_;rintro v E R' ⟨b72,rfl,rfl,a8W⟩;replace a8W:=a8W.symm;subst a8W;refine g2 (jZ (f:=gL.cells) (p:=p) (a:=e.wY) M rfl rfl rfl rfl (iN) cL j8 rfl kG) rfl ?_;rintro v E R' ⟨TH,rfl,Uf,rfl,rfl⟩;apply(q6);refine eS (hG ?_);exact zX ⟨((⟨TH,_⟩:J gL),q),⟨Uf,g7⟩,aEl cK⟩
  apply(sQ);refine aJ ?_ ?_<;>intro dE;·apply e1∘gB∘gF;refine aA Bi rfl ?_;refine g2 aCZ rfl ?_;rintro v E R' ⟨aKv,rfl,rfl,PB⟩;replace PB:=PB.symm;subst PB;refine g2 (jZ (f:=cR.cells) (p:=q) (a:=e.new) M rfl rfl rfl rfl (g7) cL j8 rfl kG) rfl ?_;rintro v E R' ⟨a3d,rfl,a2C,rfl,rfl⟩;apply(q6);refine eS (hG ?_);exact zX ⟨(p,(⟨a3d,_⟩:J cR)),⟨iN,a2C⟩,aEr dE⟩
  apply x0∘q3;refine aJ ?_ ?_<;>intro gZ;·refine gG (bY ?_);exact a3A
  apply(sQ);refine aJ ?_ ?_<;>intro fW;·refine gG (bY ?_);exact a3A
  apply(sQ);refine aJ ?_ ?_<;>intro lJ;·refine gG (bY ?_);exact a3A
  apply e1∘q3;exact a3A
 rintro⟨⟨u,v⟩,⟨a2W,Aa⟩,c6⟩ c1;try dsimp only
 dsimp only at a2W Aa c6;refine rY (A:=[_]) (aI:=10) [] bH aX Aa eW ?_;apply(DX);refine rY (A:=[_]) (aI:=2) [] bH aX a2W eW ?_;apply(DX);obtain⟨m3,rQ⟩:∃m3:eC,m3=⟨u.W,v.W⟩:=⟨_,rfl⟩;have a2w:oY m3 (zW u.W::F4 v.W::R):=by rw[rQ];exact⟨aU (.head _),aU (.tail _ (.head _))⟩
 have a9V:m3.places.l=u.l:=by rw[rQ]
 have a9W:m3.Z.l=v.l:=by rw[rQ]
 rw[<-a9V,<-a9W]at c6;refine e7 (show _=⟨lT,m3.cells,28⟩::(⟨dU,[.slice none 0 0,.slice none 0 0],28⟩::⟨e4,e.cells,55⟩::⟨eN,m.cells,28⟩::L) by rw[rQ];rfl) ?_;apply x0∘lG;refine eD rfl (Yv m3 _ _ a2w) ?_;apply(pQ);refine aJ ?_ ?_<;>intro a2c;·apply RS∘yE;refine cF L (zW u.W::F4 v.W::R) TR ?_;exact⟨⟨⟨none,0,[]⟩,⟨none,0,[]⟩⟩,[zW u.W,F4 v.W],by rw[<-dC,<-eZ,aH4 zT c6 (show iB (l3 m3.places.l m3.Z.l)≠0 from a2c)];rfl,λz dI=>(by rw[<-dC,<-eZ,aH4 zT c6 (show iB (l3 m3.places.l m3.Z.l)≠0 from a2c)]at dI;cases dI),rfl,rfl⟩
 apply gI∘lG∘yD;refine cF L (zW u.W::F4 v.W::R) TR ?_;exact⟨m3,[zW u.W,F4 v.W],by rw[<-dC,<-eZ,Rs zT c6 aQB];rfl,λz dI=>(by rw[<-dC,<-eZ,Rs zT c6 aQB]at dI;cases dI;exact⟨a2w,Decidable.not_not.1 a2c,rfl,rfl⟩),rfl,rfl⟩
end Go.Proofs.YtdiajbdaadlfhaaGreatDoor
