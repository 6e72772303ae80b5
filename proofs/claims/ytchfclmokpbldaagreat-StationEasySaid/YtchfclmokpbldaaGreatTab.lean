-- By an AI agent; no person has read it.
import Derived.Test.YtchfclmokpbldaaGreatRows
import Derived.Test.YtchfclmokpbldaaGreatAwAll
set_option linter.all false
set_option maxHeartbeats 4000000
namespace Go.Proofs.YtchfclmokpbldaaGreat
open Go.Aw
abbrev nW:Value:=.slice none 0 0
abbrev g8:Value:=.int .i64 0
abbrev hQ:Value:=.bool false
abbrev aNY:Option jD:=some ⟨.struct,23,[(0,8),(8,1),(9,2),(11,1),(12,1),(13,1),(14,3),(17,5),(22,1)],424,[nW,nW,nW,nW,nW,nW,nW,nW,g8,nW,g8,nW,nW,nW,nW,nW,g8,g8,g8,g8,g8,g8,nW]⟩
abbrev aNZ:Option jD:=some ⟨.struct,11,[(0,1),(1,1),(2,1),(3,1),(4,1),(5,1),(6,1),(7,1),(8,1),(9,1),(10,1)],48,[.int .u64 0,.int .u64 0,.int .u32 0,.int .u8 0,.int .u8 0,.int .u8 0,.int .u8 0,.nilFunc,.pointer none,.int .i32 0,.int .i32 0]⟩
abbrev aN0:Option jD:=some ⟨.struct,10,[(0,1),(1,1),(2,1),(3,1),(4,1),(5,1),(6,2),(8,2)],72,[g8,g8,g8,g8,hQ,hQ,g8,g8,g8,g8]⟩
abbrev aN1:Option jD:=some ⟨.struct,12,[(0,10),(10,1),(11,1)],104,[g8,g8,g8,g8,hQ,hQ,g8,g8,g8,g8,g8,nW]⟩
abbrev aN2:Option jD:=some ⟨.struct,8,[(0,4),(4,1),(5,1),(6,1),(7,1)],192,[nW,nW,nW,nW,nW,nW,nW,nW]⟩
abbrev aN3:Option jD:=some ⟨.struct,8,[(0,1),(1,1),(2,1),(3,1),(4,1),(5,1),(6,1),(7,1)],64,[g8,g8,g8,g8,g8,g8,g8,g8]⟩
abbrev aN4:Option jD:=some ⟨.struct,6,[(0,1),(1,1),(2,1),(3,3)],48,[g8,g8,g8,g8,g8,g8]⟩
abbrev aN5:Option jD:=some ⟨.struct,5,[(0,1),(1,1),(2,1),(3,1),(4,1)],56,[g8,g8,g8,g8,nW]⟩
abbrev aN6:Option jD:=some ⟨.struct,5,[(0,1),(1,1),(2,1),(3,1),(4,1)],40,[g8,g8,g8,g8,g8]⟩
abbrev aN7:Option jD:=some ⟨.struct,5,[(0,1),(1,1),(2,1),(3,1),(4,1)],32,[g8,g8,g8,hQ,hQ]⟩
abbrev aN8:Option jD:=some ⟨.struct,4,[(0,1),(1,1),(2,1),(3,1)],40,[.pointer none,.pointer none,.pointer none,.string ByteArray.empty]⟩
abbrev aN9:Option jD:=some ⟨.struct,4,[(0,2),(2,1),(3,1)],96,[nW,nW,nW,nW]⟩
abbrev aOa:Option jD:=some ⟨.struct,4,[(0,1),(1,1),(2,1),(3,1)],64,[nW,g8,nW,g8]⟩
abbrev aOb:Option jD:=some ⟨.struct,4,[(0,1),(1,1),(2,1),(3,1)],40,[g8,hQ,hQ,nW]⟩
abbrev aOc:Option jD:=some ⟨.struct,5,[(0,4),(4,1)],48,[g8,hQ,hQ,nW,g8]⟩
abbrev a2Q:Option jD:=some ⟨.struct,4,[(0,1),(1,1),(2,1),(3,1)],32,[g8,g8,g8,g8]⟩
abbrev aOd:Option jD:=some ⟨.struct,4,[(0,1),(1,1),(2,1),(3,1)],24,[g8,g8,hQ,.int .u8 0]⟩
abbrev aOe:Option jD:=some ⟨.struct,4,[(0,1),(1,1),(2,2)],32,[g8,g8,g8,g8]⟩
abbrev aOf:Option jD:=some ⟨.struct,3,[(0,1),(1,1),(2,1)],56,[nW,nW,g8]⟩
abbrev a2R:Option jD:=some ⟨.struct,3,[(0,1),(1,1),(2,1)],40,[g8,g8,nW]⟩
abbrev a2S:Option jD:=some ⟨.struct,3,[(0,1),(1,1),(2,1)],24,[hQ,g8,g8]⟩
abbrev a2T:Option jD:=some ⟨.struct,3,[(0,1),(1,1),(2,1)],24,[g8,g8,g8]⟩
abbrev aOg:Option jD:=some ⟨.struct,3,[(0,1),(1,2)],24,[g8,g8,g8]⟩
abbrev aOh:Option jD:=some ⟨.struct,2,[(0,1),(1,1)],24,[.string ByteArray.empty,.int .u64 0]⟩
abbrev OL:Option jD:=some ⟨.struct,2,[(0,1),(1,1)],48,[nW,nW]⟩
abbrev a2U:Option jD:=some ⟨.struct,2,[(0,1),(1,1)],32,[nW,g8]⟩
abbrev Mq:Option jD:=some ⟨.struct,2,[(0,1),(1,1)],16,[g8,g8]⟩
abbrev aNW:Option jD:=some ⟨.struct,2,[(0,1),(1,1)],16,[g8,hQ]⟩
abbrev a2O:Option jD:=some ⟨.struct,1,[(0,1)],16,[.string ByteArray.empty]⟩
abbrev aBM:Option jD:=some ⟨.string,1,[],16,[.string ByteArray.empty]⟩
abbrev sR(e:Nat):Option jD:=some ⟨.slice e,1,[],24,[nW]⟩
abbrev Q9(e:Nat):Option jD:=some ⟨.ptr e,1,[],8,[.pointer none]⟩
abbrev c0:Option jD:=some ⟨.zJ,1,[],8,[.nilFunc]⟩
abbrev a2M:Option jD:=some ⟨.int .u8,1,[],1,[.int .u8 0]⟩
abbrev aBG:Option jD:=some ⟨.int .i64,1,[],8,[g8]⟩
abbrev aBH:Option jD:=some ⟨.int .u64,1,[],8,[.int .u64 0]⟩
abbrev aBI:Option jD:=some ⟨.zJ,1,[],16,[.nilIface]⟩
abbrev aBJ:Option jD:=some ⟨.int .i32,1,[],4,[.int .i32 0]⟩
abbrev aNT:Option jD:=some ⟨.struct,1,[(0,1)],8,[.pointer none]⟩
abbrev aNU:Option jD:=some ⟨.struct,1,[(0,1)],8,[g8]⟩
def g1:List (List (Option jD)):=
[
 [none,c0,aBG,aBG,some ⟨.bool,1,[],1,[hQ]⟩,a2M,a2M,aOd,aOd,aBM,aBM,aBM,aBH,aOh,aOh,Q9 354],[Q9 357,Q9 366,aNT,aNT,aBI,aBJ,sR 5,Q9 168,c0,sR 159,sR 157,OL,OL,sR 278,sR 239,aN9],[aN9,sR 88,sR 102,sR 97,sR 170,aN2,aN2,sR 76,sR 3,aOf,aOf,none,c0,a2U,a2U,sR 93],[sR 153,sR 71,aN6,aN6,sR 150,aNY,aNY,aBG,none,c0,sR 4,OL,OL,c0,c0,c0],[c0,c0,c0,c0,aBH,c0,a2S,a2S,c0,c0,c0,aN7,aN7,c0,c0,OL],[OL,OL,OL,none,c0,c0,c0,aN3,aN3,Mq,Mq,c0,aOe,aOe,c0,sR 172],[aOa,aOa,c0,a2T,a2T,aN4,aN4,c0,c0,c0,c0,none,c0,sR 90,none,c0],[c0,none,c0,none,c0,a2R,a2R,sR 118,none,c0,none,c0,none,c0,c0,c0],[c0,c0,c0,sR 42,c0,c0,c0,c0,c0,c0,c0,c0,c0,some ⟨.int .u16,1,[],2,[.int .u16 0]⟩,c0,aN5],[aN5,c0,sR 144,c0,c0,a2Q,a2Q,c0,a2S,a2S,c0,c0,aN0,aN0,aNW,aNW],[none,c0,aOg,aOg,sR 163,c0,c0,a2U,a2U,aNU,aNU,a2Q,a2Q,c0,c0,c0],[c0,none,c0,c0,c0,c0,Q9 54,none,c0,c0,c0,none,c0,c0,c0,c0],[c0,c0,c0,c0,c0,c0,c0,c0,c0,some ⟨.array 64 4,64,[],64,[hQ,hQ,hQ,hQ,hQ,hQ,hQ,hQ,hQ,hQ,hQ,hQ,hQ,hQ,hQ,hQ,hQ,hQ,hQ,hQ,hQ,hQ,hQ,hQ,hQ,hQ,hQ,hQ,hQ,hQ,hQ,hQ,hQ,hQ,hQ,hQ,hQ,hQ,hQ,hQ,hQ,hQ,hQ,hQ,hQ,hQ,hQ,hQ,hQ,hQ,hQ,hQ,hQ,hQ,hQ,hQ,hQ,hQ,hQ,hQ,hQ,hQ,hQ,hQ]⟩,c0,c0,c0,c0,c0,c0],[Q9 32,c0,c0,c0,c0,OL,OL,none,c0,c0,sR 225,sR 40,OL,OL,c0,sR 292],[aN1,aN1,c0,c0,c0,sR 234,none,c0,c0,a2T,a2T,c0,c0,c0,a2R,a2R],[c0,sR 243,c0,some ⟨.array 2 3,2,[],16,[g8,g8]⟩,c0,c0,c0,c0,c0,c0,c0,c0,none,c0,none,c0],[c0,none,c0,c0,c0,c0,c0,none,c0,c0,c0,c0,c0,none,c0,none],[c0,c0,c0,sR 319,c0,aOb,aOb,c0,Q9 157,c0,c0,c0,c0,c0,none,c0],[c0,c0,sR 223,aOc,aOc,none,c0,c0,c0,c0,c0,c0,c0,Q9 76,c0,c0],[c0,c0,c0,none,c0,c0,c0,Mq,Mq,sR 312,Q9 71,c0,c0,c0,Mq,Mq],[c0,c0,c0,c0,c0,c0,c0,c0,c0,c0,c0,c0,c0,none,c0,c0],[c0,c0,c0,c0,none,c0,c0,c0,aBH,none,c0,c0,aBI,aBI,c0,Q9 368],[c0,aN8,aN8,some ⟨.array 0 16,0,[],0,[]⟩,some ⟨.struct,0,[(0,0)],0,[]⟩,some ⟨.struct,0,[(0,0)],0,[]⟩,some ⟨.int .u32,1,[],4,[.int .u32 0]⟩,a2M,a2M,c0,Q9 5,aBJ,aBJ,aNZ,aNZ,a2O],[a2O,some ⟨.zJ,1,[],8,[.pointer none]⟩,none,none,none,none,none,none,none,none,none,none,none,none,none,none]]
def aUc:g1=(List.range g1.length).map (a4B Tryz.prog g1):=by kernel_rfl
def N:oE Tryz.prog:=⟨g1,aY0 aUc⟩
def dO:Tryz.prog.follows .mixedOrders=true:=by kernel_rfl
end Go.Proofs.YtchfclmokpbldaaGreat
