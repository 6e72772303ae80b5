/-
  The program's table of types, in literals; that it is the program's is checked by the kernel. Written by a program of ours (MkTab.lean).
-/
import Derived.Test.YtchfclmokpbldaaGreatRows
import Derived.Test.YtchfclmokpbldaaGreatAwAll
set_option linter.all false
set_option maxHeartbeats 4000000
namespace Go.Proofs.YtchfclmokpbldaaGreat
open Go.Aw
abbrev cS:Value:=.slice none 0 0
abbrev cI:Value:=.int .i64 0
abbrev cB:Value:=.bool false
abbrev o9a:Option TI:=some ⟨.struct,23,[(0,8),(8,1),(9,2),(11,1),(12,1),(13,1),(14,3),(17,5),(22,1)],424,[cS,cS,cS,cS,cS,cS,cS,cS,cI,cS,cI,cS,cS,cS,cS,cS,cI,cI,cI,cI,cI,cI,cS]⟩
abbrev o9b:Option TI:=some ⟨.struct,11,[(0,1),(1,1),(2,1),(3,1),(4,1),(5,1),(6,1),(7,1),(8,1),(9,1),(10,1)],48,[.int .u64 0,.int .u64 0,.int .u32 0,.int .u8 0,.int .u8 0,.int .u8 0,.int .u8 0,.nilFunc,.pointer none,.int .i32 0,.int .i32 0]⟩
abbrev o9c:Option TI:=some ⟨.struct,10,[(0,1),(1,1),(2,1),(3,1),(4,1),(5,1),(6,2),(8,2)],72,[cI,cI,cI,cI,cB,cB,cI,cI,cI,cI]⟩
abbrev o9d:Option TI:=some ⟨.struct,12,[(0,10),(10,1),(11,1)],104,[cI,cI,cI,cI,cB,cB,cI,cI,cI,cI,cI,cS]⟩
abbrev o9e:Option TI:=some ⟨.struct,8,[(0,4),(4,1),(5,1),(6,1),(7,1)],192,[cS,cS,cS,cS,cS,cS,cS,cS]⟩
abbrev o9f:Option TI:=some ⟨.struct,8,[(0,1),(1,1),(2,1),(3,1),(4,1),(5,1),(6,1),(7,1)],64,[cI,cI,cI,cI,cI,cI,cI,cI]⟩
abbrev o9g:Option TI:=some ⟨.struct,6,[(0,1),(1,1),(2,1),(3,3)],48,[cI,cI,cI,cI,cI,cI]⟩
abbrev o9h:Option TI:=some ⟨.struct,5,[(0,1),(1,1),(2,1),(3,1),(4,1)],56,[cI,cI,cI,cI,cS]⟩
abbrev o9i:Option TI:=some ⟨.struct,5,[(0,1),(1,1),(2,1),(3,1),(4,1)],40,[cI,cI,cI,cI,cI]⟩
abbrev o9j:Option TI:=some ⟨.struct,5,[(0,1),(1,1),(2,1),(3,1),(4,1)],32,[cI,cI,cI,cB,cB]⟩
abbrev o9k:Option TI:=some ⟨.struct,4,[(0,1),(1,1),(2,1),(3,1)],40,[.pointer none,.pointer none,.pointer none,.string ByteArray.empty]⟩
abbrev o9l:Option TI:=some ⟨.struct,4,[(0,2),(2,1),(3,1)],96,[cS,cS,cS,cS]⟩
abbrev o9m:Option TI:=some ⟨.struct,4,[(0,1),(1,1),(2,1),(3,1)],64,[cS,cI,cS,cI]⟩
abbrev o9n:Option TI:=some ⟨.struct,4,[(0,1),(1,1),(2,1),(3,1)],40,[cI,cB,cB,cS]⟩
abbrev o9o:Option TI:=some ⟨.struct,5,[(0,4),(4,1)],48,[cI,cB,cB,cS,cI]⟩
abbrev o9p:Option TI:=some ⟨.struct,4,[(0,1),(1,1),(2,1),(3,1)],32,[cI,cI,cI,cI]⟩
abbrev o9q:Option TI:=some ⟨.struct,4,[(0,1),(1,1),(2,1),(3,1)],24,[cI,cI,cB,.int .u8 0]⟩
abbrev o9r:Option TI:=some ⟨.struct,4,[(0,1),(1,1),(2,2)],32,[cI,cI,cI,cI]⟩
abbrev o9s:Option TI:=some ⟨.struct,3,[(0,1),(1,1),(2,1)],56,[cS,cS,cI]⟩
abbrev o9t:Option TI:=some ⟨.struct,3,[(0,1),(1,1),(2,1)],40,[cI,cI,cS]⟩
abbrev o9u:Option TI:=some ⟨.struct,3,[(0,1),(1,1),(2,1)],24,[cB,cI,cI]⟩
abbrev o9v:Option TI:=some ⟨.struct,3,[(0,1),(1,1),(2,1)],24,[cI,cI,cI]⟩
abbrev o9w:Option TI:=some ⟨.struct,3,[(0,1),(1,2)],24,[cI,cI,cI]⟩
abbrev o9x:Option TI:=some ⟨.struct,2,[(0,1),(1,1)],24,[.string ByteArray.empty,.int .u64 0]⟩
abbrev o9y:Option TI:=some ⟨.struct,2,[(0,1),(1,1)],48,[cS,cS]⟩
abbrev o9z:Option TI:=some ⟨.struct,2,[(0,1),(1,1)],32,[cS,cI]⟩
abbrev o90:Option TI:=some ⟨.struct,2,[(0,1),(1,1)],16,[cI,cI]⟩
abbrev o91:Option TI:=some ⟨.struct,2,[(0,1),(1,1)],16,[cI,cB]⟩
abbrev o92:Option TI:=some ⟨.struct,1,[(0,1)],16,[.string ByteArray.empty]⟩
abbrev o93:Option TI:=some ⟨.string,1,[],16,[.string ByteArray.empty]⟩
abbrev o8a (e:Nat):Option TI:=some ⟨.slice e,1,[],24,[cS]⟩
abbrev o8b (e:Nat):Option TI:=some ⟨.ptr e,1,[],8,[.pointer none]⟩
abbrev o7a:Option TI:=some ⟨.other,1,[],8,[.nilFunc]⟩
abbrev o7b:Option TI:=some ⟨.int .u8,1,[],1,[.int .u8 0]⟩
abbrev o7c:Option TI:=some ⟨.int .i64,1,[],8,[cI]⟩
abbrev o7d:Option TI:=some ⟨.int .u64,1,[],8,[.int .u64 0]⟩
abbrev o7e:Option TI:=some ⟨.other,1,[],16,[.nilIface]⟩
abbrev o7f:Option TI:=some ⟨.int .i32,1,[],4,[.int .i32 0]⟩
abbrev o7g:Option TI:=some ⟨.struct,1,[(0,1)],8,[.pointer none]⟩
abbrev o7h:Option TI:=some ⟨.struct,1,[(0,1)],8,[cI]⟩
def tab:List (List (Option TI)):=
[
 [none,o7a,o7c,o7c,some ⟨.bool,1,[],1,[cB]⟩,o7b,o7b,o9q,o9q,o93,o93,o93,o7d,o9x,o9x,o8b 354],[o8b 357,o8b 366,o7g,o7g,o7e,o7f,o8a 5,o8b 168,o7a,o8a 159,o8a 157,o9y,o9y,o8a 278,o8a 239,o9l],[o9l,o8a 88,o8a 102,o8a 97,o8a 170,o9e,o9e,o8a 76,o8a 3,o9s,o9s,none,o7a,o9z,o9z,o8a 93],[o8a 153,o8a 71,o9i,o9i,o8a 150,o9a,o9a,o7c,none,o7a,o8a 4,o9y,o9y,o7a,o7a,o7a],[o7a,o7a,o7a,o7a,o7d,o7a,o9u,o9u,o7a,o7a,o7a,o9j,o9j,o7a,o7a,o9y],[o9y,o9y,o9y,none,o7a,o7a,o7a,o9f,o9f,o90,o90,o7a,o9r,o9r,o7a,o8a 172],[o9m,o9m,o7a,o9v,o9v,o9g,o9g,o7a,o7a,o7a,o7a,none,o7a,o8a 90,none,o7a],[o7a,none,o7a,none,o7a,o9t,o9t,o8a 118,none,o7a,none,o7a,none,o7a,o7a,o7a],[o7a,o7a,o7a,o8a 42,o7a,o7a,o7a,o7a,o7a,o7a,o7a,o7a,o7a,some ⟨.int .u16,1,[],2,[.int .u16 0]⟩,o7a,o9h],[o9h,o7a,o8a 144,o7a,o7a,o9p,o9p,o7a,o9u,o9u,o7a,o7a,o9c,o9c,o91,o91],[none,o7a,o9w,o9w,o8a 163,o7a,o7a,o9z,o9z,o7h,o7h,o9p,o9p,o7a,o7a,o7a],[o7a,none,o7a,o7a,o7a,o7a,o8b 54,none,o7a,o7a,o7a,none,o7a,o7a,o7a,o7a],[o7a,o7a,o7a,o7a,o7a,o7a,o7a,o7a,o7a,some ⟨.array 64 4,64,[],64,[cB,cB,cB,cB,cB,cB,cB,cB,cB,cB,cB,cB,cB,cB,cB,cB,cB,cB,cB,cB,cB,cB,cB,cB,cB,cB,cB,cB,cB,cB,cB,cB,cB,cB,cB,cB,cB,cB,cB,cB,cB,cB,cB,cB,cB,cB,cB,cB,cB,cB,cB,cB,cB,cB,cB,cB,cB,cB,cB,cB,cB,cB,cB,cB]⟩,o7a,o7a,o7a,o7a,o7a,o7a],[o8b 32,o7a,o7a,o7a,o7a,o9y,o9y,none,o7a,o7a,o8a 225,o8a 40,o9y,o9y,o7a,o8a 292],[o9d,o9d,o7a,o7a,o7a,o8a 234,none,o7a,o7a,o9v,o9v,o7a,o7a,o7a,o9t,o9t],[o7a,o8a 243,o7a,some ⟨.array 2 3,2,[],16,[cI,cI]⟩,o7a,o7a,o7a,o7a,o7a,o7a,o7a,o7a,none,o7a,none,o7a],[o7a,none,o7a,o7a,o7a,o7a,o7a,none,o7a,o7a,o7a,o7a,o7a,none,o7a,none],[o7a,o7a,o7a,o8a 319,o7a,o9n,o9n,o7a,o8b 157,o7a,o7a,o7a,o7a,o7a,none,o7a],[o7a,o7a,o8a 223,o9o,o9o,none,o7a,o7a,o7a,o7a,o7a,o7a,o7a,o8b 76,o7a,o7a],[o7a,o7a,o7a,none,o7a,o7a,o7a,o90,o90,o8a 312,o8b 71,o7a,o7a,o7a,o90,o90],[o7a,o7a,o7a,o7a,o7a,o7a,o7a,o7a,o7a,o7a,o7a,o7a,o7a,none,o7a,o7a],[o7a,o7a,o7a,o7a,none,o7a,o7a,o7a,o7d,none,o7a,o7a,o7e,o7e,o7a,o8b 368],[o7a,o9k,o9k,some ⟨.array 0 16,0,[],0,[]⟩,some ⟨.struct,0,[(0,0)],0,[]⟩,some ⟨.struct,0,[(0,0)],0,[]⟩,some ⟨.int .u32,1,[],4,[.int .u32 0]⟩,o7b,o7b,o7a,o8b 5,o7f,o7f,o9b,o9b,o92],[o92,some ⟨.other,1,[],8,[.pointer none]⟩,none,none,none,none,none,none,none,none,none,none,none,none,none,none]]
def Jjg:tab=(List.range tab.length).map (Ugf Tryz.prog tab):=by kernel_rfl
def tb:Tabs Tryz.prog:=⟨tab,Uqf Jjg⟩
def K3:Tryz.prog.follows .mixedOrders=true:=by kernel_rfl
end Go.Proofs.YtchfclmokpbldaaGreat
