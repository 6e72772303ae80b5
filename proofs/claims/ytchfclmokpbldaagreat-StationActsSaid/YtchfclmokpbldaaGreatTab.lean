--By an AI agent.
import Derived.Test.YtchfclmokpbldaaGreatRows
import Derived.Test.YtchfclmokpbldaaGreatAwAll
set_option linter.all false
set_option maxHeartbeats 0
namespace Go.Proofs.YtchfclmokpbldaaGreat
open Go.Aw
abbrev o9:Value:=.slice none 0 0
abbrev hE:Value:=.int .i64 0
abbrev hU:Value:=.bool false
abbrev aUK:Option jT:=some ⟨.struct,23,[(0,8),(8,1),(9,2),(11,1),(12,1),(13,1),(14,3),(17,5),(22,1)],424,[o9,o9,o9,o9,o9,o9,o9,o9,hE,o9,hE,o9,o9,o9,o9,o9,hE,hE,hE,hE,hE,hE,o9]⟩
abbrev aUL:Option jT:=some ⟨.struct,11,[(0,1),(1,1),(2,1),(3,1),(4,1),(5,1),(6,1),(7,1),(8,1),(9,1),(10,1)],48,[.int .u64 0,.int .u64 0,.int .u32 0,.int .u8 0,.int .u8 0,.int .u8 0,.int .u8 0,.nilFunc,.pointer none,.int .i32 0,.int .i32 0]⟩
abbrev aUM:Option jT:=some ⟨.struct,10,[(0,1),(1,1),(2,1),(3,1),(4,1),(5,1),(6,2),(8,2)],72,[hE,hE,hE,hE,hU,hU,hE,hE,hE,hE]⟩
abbrev aUN:Option jT:=some ⟨.struct,12,[(0,10),(10,1),(11,1)],104,[hE,hE,hE,hE,hU,hU,hE,hE,hE,hE,hE,o9]⟩
abbrev aUO:Option jT:=some ⟨.struct,8,[(0,4),(4,1),(5,1),(6,1),(7,1)],192,[o9,o9,o9,o9,o9,o9,o9,o9]⟩
abbrev aUP:Option jT:=some ⟨.struct,8,[(0,1),(1,1),(2,1),(3,1),(4,1),(5,1),(6,1),(7,1)],64,[hE,hE,hE,hE,hE,hE,hE,hE]⟩
abbrev aUQ:Option jT:=some ⟨.struct,6,[(0,1),(1,1),(2,1),(3,3)],48,[hE,hE,hE,hE,hE,hE]⟩
abbrev aUR:Option jT:=some ⟨.struct,5,[(0,1),(1,1),(2,1),(3,1),(4,1)],56,[hE,hE,hE,hE,o9]⟩
abbrev aUS:Option jT:=some ⟨.struct,5,[(0,1),(1,1),(2,1),(3,1),(4,1)],40,[hE,hE,hE,hE,hE]⟩
abbrev aUT:Option jT:=some ⟨.struct,5,[(0,1),(1,1),(2,1),(3,1),(4,1)],32,[hE,hE,hE,hU,hU]⟩
abbrev aUU:Option jT:=some ⟨.struct,4,[(0,1),(1,1),(2,1),(3,1)],40,[.pointer none,.pointer none,.pointer none,.string ByteArray.empty]⟩
abbrev aUV:Option jT:=some ⟨.struct,4,[(0,2),(2,1),(3,1)],96,[o9,o9,o9,o9]⟩
abbrev aUW:Option jT:=some ⟨.struct,4,[(0,1),(1,1),(2,1),(3,1)],64,[o9,hE,o9,hE]⟩
abbrev aUX:Option jT:=some ⟨.struct,4,[(0,1),(1,1),(2,1),(3,1)],40,[hE,hU,hU,o9]⟩
abbrev aUY:Option jT:=some ⟨.struct,5,[(0,4),(4,1)],48,[hE,hU,hU,o9,hE]⟩
abbrev a7W:Option jT:=some ⟨.struct,4,[(0,1),(1,1),(2,1),(3,1)],32,[hE,hE,hE,hE]⟩
abbrev aUZ:Option jT:=some ⟨.struct,4,[(0,1),(1,1),(2,1),(3,1)],24,[hE,hE,hU,.int .u8 0]⟩
abbrev aU0:Option jT:=some ⟨.struct,4,[(0,1),(1,1),(2,2)],32,[hE,hE,hE,hE]⟩
abbrev aU1:Option jT:=some ⟨.struct,3,[(0,1),(1,1),(2,1)],56,[o9,o9,hE]⟩
abbrev a7X:Option jT:=some ⟨.struct,3,[(0,1),(1,1),(2,1)],40,[hE,hE,o9]⟩
abbrev a7Y:Option jT:=some ⟨.struct,3,[(0,1),(1,1),(2,1)],24,[hU,hE,hE]⟩
abbrev a7Z:Option jT:=some ⟨.struct,3,[(0,1),(1,1),(2,1)],24,[hE,hE,hE]⟩
abbrev aU2:Option jT:=some ⟨.struct,3,[(0,1),(1,2)],24,[hE,hE,hE]⟩
abbrev aU3:Option jT:=some ⟨.struct,2,[(0,1),(1,1)],24,[.string ByteArray.empty,.int .u64 0]⟩
abbrev RV:Option jT:=some ⟨.struct,2,[(0,1),(1,1)],48,[o9,o9]⟩
abbrev a70:Option jT:=some ⟨.struct,2,[(0,1),(1,1)],32,[o9,hE]⟩
abbrev Vp:Option jT:=some ⟨.struct,2,[(0,1),(1,1)],16,[hE,hE]⟩
abbrev aUI:Option jT:=some ⟨.struct,2,[(0,1),(1,1)],16,[hE,hU]⟩
abbrev Vq:Option jT:=some ⟨.struct,1,[(0,1)],16,[.string ByteArray.empty]⟩
abbrev aHk:Option jT:=some ⟨.string,1,[],16,[.string ByteArray.empty]⟩
abbrev uM(e:Nat):Option jT:=some ⟨.slice e,1,[],24,[o9]⟩
abbrev U2(e:Nat):Option jT:=some ⟨.ptr e,1,[],8,[.pointer none]⟩
abbrev c3:Option jT:=some ⟨.yV,1,[],8,[.nilFunc]⟩
abbrev a7U:Option jT:=some ⟨.int .u8,1,[],1,[.int .u8 0]⟩
abbrev aHe:Option jT:=some ⟨.int .i64,1,[],8,[hE]⟩
abbrev aHf:Option jT:=some ⟨.int .u64,1,[],8,[.int .u64 0]⟩
abbrev aHg:Option jT:=some ⟨.yV,1,[],16,[.nilIface]⟩
abbrev aHh:Option jT:=some ⟨.int .i32,1,[],4,[.int .i32 0]⟩
abbrev aUF:Option jT:=some ⟨.struct,1,[(0,1)],8,[.pointer none]⟩
abbrev aUG:Option jT:=some ⟨.struct,1,[(0,1)],8,[hE]⟩
def g2:List (List (Option jT)):=
[
 [none,c3,aHe,aHe,some ⟨.bool,1,[],1,[hU]⟩,a7U,a7U,aUZ,aUZ,aHk,aHk,aHk,aHf,aU3,aU3,U2 354],[U2 357,U2 366,aUF,aUF,aHg,aHh,uM 5,U2 168,c3,uM 159,uM 157,RV,RV,uM 278,uM 239,aUV],[aUV,uM 88,uM 102,uM 97,uM 170,aUO,aUO,uM 76,uM 3,aU1,aU1,none,c3,a70,a70,uM 93],[uM 153,uM 71,aUS,aUS,uM 150,aUK,aUK,aHe,none,c3,uM 4,RV,RV,c3,c3,c3],[c3,c3,c3,c3,aHf,c3,a7Y,a7Y,c3,c3,c3,aUT,aUT,c3,c3,RV],[RV,RV,RV,none,c3,c3,c3,aUP,aUP,Vp,Vp,c3,aU0,aU0,c3,uM 172],[aUW,aUW,c3,a7Z,a7Z,aUQ,aUQ,c3,c3,c3,c3,none,c3,uM 90,none,c3],[c3,none,c3,none,c3,a7X,a7X,uM 118,none,c3,none,c3,none,c3,c3,c3],[c3,c3,c3,uM 42,c3,c3,c3,c3,c3,c3,c3,c3,c3,some ⟨.int .u16,1,[],2,[.int .u16 0]⟩,c3,aUR],[aUR,c3,uM 144,c3,c3,a7W,a7W,c3,a7Y,a7Y,c3,c3,aUM,aUM,aUI,aUI],[none,c3,aU2,aU2,uM 163,c3,c3,a70,a70,aUG,aUG,a7W,a7W,c3,c3,c3],[c3,none,c3,c3,c3,c3,U2 54,none,c3,c3,c3,none,c3,c3,c3,c3],[c3,c3,c3,c3,c3,c3,c3,c3,c3,some ⟨.array 64 4,64,[],64,[hU,hU,hU,hU,hU,hU,hU,hU,hU,hU,hU,hU,hU,hU,hU,hU,hU,hU,hU,hU,hU,hU,hU,hU,hU,hU,hU,hU,hU,hU,hU,hU,hU,hU,hU,hU,hU,hU,hU,hU,hU,hU,hU,hU,hU,hU,hU,hU,hU,hU,hU,hU,hU,hU,hU,hU,hU,hU,hU,hU,hU,hU,hU,hU]⟩,c3,c3,c3,c3,c3,c3],[U2 32,c3,c3,c3,c3,RV,RV,none,c3,c3,uM 225,uM 40,RV,RV,c3,uM 292],[aUN,aUN,c3,c3,c3,uM 234,none,c3,c3,a7Z,a7Z,c3,c3,c3,a7X,a7X],[c3,uM 243,c3,some ⟨.array 2 3,2,[],16,[hE,hE]⟩,c3,c3,c3,c3,c3,c3,c3,c3,none,c3,none,c3],[c3,none,c3,c3,c3,c3,c3,none,c3,c3,c3,c3,c3,none,c3,none],[c3,c3,c3,uM 319,c3,aUX,aUX,c3,U2 157,c3,c3,c3,c3,c3,none,c3],[c3,c3,uM 223,aUY,aUY,none,c3,c3,c3,c3,c3,c3,c3,U2 76,c3,c3],[c3,c3,c3,none,c3,c3,c3,Vp,Vp,uM 312,U2 71,c3,c3,c3,Vp,Vp],[c3,c3,c3,c3,c3,c3,c3,c3,c3,c3,c3,c3,c3,none,c3,c3],[c3,c3,c3,c3,none,c3,c3,c3,aHf,none,c3,c3,aHg,aHg,c3,U2 368],[c3,aUU,aUU,some ⟨.array 0 16,0,[],0,[]⟩,some ⟨.struct,0,[(0,0)],0,[]⟩,some ⟨.struct,0,[(0,0)],0,[]⟩,some ⟨.int .u32,1,[],4,[.int .u32 0]⟩,a7U,a7U,c3,U2 5,aHh,aHh,aUL,aUL,Vq],[Vq,some ⟨.yV,1,[],8,[.pointer none]⟩,none,none,none,none,none,none,none,none,none,none,none,none,none,none]]
def b9X:g2=(List.range g2.length).map (aBl Tryz.prog g2):=by kernel_rfl
def O:pP Tryz.prog:=⟨g2,b3v b9X⟩
def cX:Tryz.prog.follows .mixedOrders=true:=by kernel_rfl
end Go.Proofs.YtchfclmokpbldaaGreat
