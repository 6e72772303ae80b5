-- By an AI agent; no person has read it.
import Derived.Test.YtdiajbdaadlfhaaGreatDoorRows
import Derived.Test.YtdiajbdaadlfhaaGreatDoorAwAll
set_option linter.all false
set_option maxHeartbeats 4000000
namespace Go.Proofs.YtdiajbdaadlfhaaGreatDoor
open Go.Aw
abbrev mG:Value:=.slice none 0 0
abbrev gO:Value:=.int .i64 0
abbrev DH:Value:=.bool false
abbrev aNJ:Option iD:=some ⟨.struct,23,[(0,8),(8,1),(9,2),(11,1),(12,1),(13,1),(14,3),(17,5),(22,1)],424,[mG,mG,mG,mG,mG,mG,mG,mG,gO,mG,gO,mG,mG,mG,mG,mG,gO,gO,gO,gO,gO,gO,mG]⟩
abbrev aNK:Option iD:=some ⟨.struct,16,[(0,1),(1,2),(3,10),(13,1),(14,2)],120,[gO,gO,DH,gO,gO,gO,gO,DH,DH,gO,gO,gO,gO,gO,gO,gO]⟩
abbrev aNL:Option iD:=some ⟨.struct,11,[(0,1),(1,1),(2,1),(3,1),(4,1),(5,1),(6,1),(7,1),(8,1),(9,1),(10,1)],48,[.int .u64 0,.int .u64 0,.int .u32 0,.int .u8 0,.int .u8 0,.int .u8 0,.int .u8 0,.nilFunc,.pointer none,.int .i32 0,.int .i32 0]⟩
abbrev aNM:Option iD:=some ⟨.struct,10,[(0,1),(1,1),(2,1),(3,1),(4,1),(5,1),(6,2),(8,2)],72,[gO,gO,gO,gO,DH,DH,gO,gO,gO,gO]⟩
abbrev aNN:Option iD:=some ⟨.struct,12,[(0,10),(10,1),(11,1)],104,[gO,gO,gO,gO,DH,DH,gO,gO,gO,gO,gO,mG]⟩
abbrev aNO:Option iD:=some ⟨.struct,8,[(0,4),(4,1),(5,1),(6,1),(7,1)],192,[mG,mG,mG,mG,mG,mG,mG,mG]⟩
abbrev aNP:Option iD:=some ⟨.struct,8,[(0,1),(1,1),(2,1),(3,1),(4,1),(5,1),(6,1),(7,1)],64,[gO,gO,gO,gO,gO,gO,gO,gO]⟩
abbrev aNQ:Option iD:=some ⟨.struct,6,[(0,1),(1,1),(2,1),(3,3)],48,[gO,gO,gO,gO,gO,gO]⟩
abbrev aNR:Option iD:=some ⟨.struct,5,[(0,1),(1,1),(2,1),(3,1),(4,1)],40,[gO,gO,gO,gO,gO]⟩
abbrev aNS:Option iD:=some ⟨.struct,5,[(0,1),(1,1),(2,1),(3,1),(4,1)],32,[gO,gO,gO,DH,DH]⟩
abbrev aNT:Option iD:=some ⟨.struct,4,[(0,1),(1,1),(2,1),(3,1)],40,[.pointer none,.pointer none,.pointer none,.string ByteArray.empty]⟩
abbrev aNU:Option iD:=some ⟨.struct,4,[(0,1),(1,1),(2,1),(3,1)],96,[mG,mG,mG,mG]⟩
abbrev aNV:Option iD:=some ⟨.struct,4,[(0,2),(2,1),(3,1)],96,[mG,mG,mG,mG]⟩
abbrev aNW:Option iD:=some ⟨.struct,4,[(0,1),(1,1),(2,1),(3,1)],64,[mG,gO,mG,gO]⟩
abbrev aNX:Option iD:=some ⟨.struct,4,[(0,1),(1,1),(2,1),(3,1)],40,[gO,DH,DH,mG]⟩
abbrev aNY:Option iD:=some ⟨.struct,5,[(0,4),(4,1)],48,[gO,DH,DH,mG,gO]⟩
abbrev a3h:Option iD:=some ⟨.struct,4,[(0,1),(1,1),(2,1),(3,1)],32,[gO,gO,gO,gO]⟩
abbrev aNZ:Option iD:=some ⟨.struct,4,[(0,1),(1,1),(2,1),(3,1)],24,[gO,gO,DH,.int .u8 0]⟩
abbrev aN0:Option iD:=some ⟨.struct,4,[(0,1),(1,1),(2,2)],32,[gO,gO,gO,gO]⟩
abbrev aN1:Option iD:=some ⟨.struct,3,[(0,1),(1,1),(2,1)],56,[mG,mG,gO]⟩
abbrev a3i:Option iD:=some ⟨.struct,3,[(0,1),(1,1),(2,1)],40,[gO,gO,mG]⟩
abbrev a3j:Option iD:=some ⟨.struct,3,[(0,1),(1,1),(2,1)],24,[DH,gO,gO]⟩
abbrev a3k:Option iD:=some ⟨.struct,3,[(0,1),(1,1),(2,1)],24,[gO,gO,gO]⟩
abbrev aN2:Option iD:=some ⟨.struct,2,[(0,1),(1,1)],24,[.string ByteArray.empty,.int .u64 0]⟩
abbrev TJ:Option iD:=some ⟨.struct,2,[(0,1),(1,1)],48,[mG,mG]⟩
abbrev aN3:Option iD:=some ⟨.struct,2,[(0,1),(1,1)],32,[.pointer none,mG]⟩
abbrev a3f:Option iD:=some ⟨.struct,2,[(0,1),(1,1)],32,[mG,gO]⟩
abbrev aNH:Option iD:=some ⟨.struct,2,[(0,1),(1,1)],16,[gO,DH]⟩
abbrev Lr:Option iD:=some ⟨.struct,2,[(0,1),(1,1)],16,[gO,gO]⟩
abbrev aNI:Option iD:=some ⟨.struct,2,[(0,1),(1,1)],2,[.int .u8 0,.int .u8 0]⟩
abbrev sB(e:Nat):Option iD:=some ⟨.slice e,1,[],24,[mG]⟩
abbrev NA(e:Nat):Option iD:=some ⟨.ptr e,1,[],8,[.pointer none]⟩
abbrev dA:Option iD:=some ⟨.sC,1,[],8,[.nilFunc]⟩
abbrev a3e:Option iD:=some ⟨.int .u8,1,[],1,[.int .u8 0]⟩
abbrev aBg:Option iD:=some ⟨.int .i64,1,[],8,[gO]⟩
abbrev aBh:Option iD:=some ⟨.string,1,[],16,[.string ByteArray.empty]⟩
abbrev aBi:Option iD:=some ⟨.int .u64,1,[],8,[.int .u64 0]⟩
abbrev aBj:Option iD:=some ⟨.sC,1,[],16,[.nilIface]⟩
abbrev aBk:Option iD:=some ⟨.int .i32,1,[],4,[.int .i32 0]⟩
abbrev aNB:Option iD:=some ⟨.struct,1,[(0,1)],8,[.pointer none]⟩
abbrev aNC:Option iD:=some ⟨.struct,1,[(0,1)],8,[gO]⟩
abbrev aND:Option iD:=some ⟨.struct,1,[(0,1)],16,[.string ByteArray.empty]⟩
def gD:List (List (Option iD)):=
[
 [none,dA,aBg,aBg,some ⟨.bool,1,[],1,[DH]⟩,a3e,a3e,aNZ,aNZ,aBh,aBh,aBh,aBi,aN2,aN2,NA 354],[NA 357,NA 365,aNB,aNB,aBj,aBk,sB 5,NA 72,dA,sB 49,sB 53,TJ,TJ,sB 147,sB 149,aNV],[aNV,sB 3,TJ,TJ,TJ,TJ,none,dA,aBg,none,dA,sB 55,dA,none,dA,dA],[aNH,aNH,Lr,Lr,aNM,aNM,aNK,aNK,dA,none,dA,sB 51,none,dA,dA,aNU],[aNU,none,dA,dA,dA,dA,dA,a3f,a3f,dA,dA,dA,dA,dA,NA 32,dA],[dA,NA 83,aN3,aN3,none,dA,aBj,aBj,none,dA,dA,dA,dA,dA,none,dA],[dA,dA,dA,NA 53,dA,dA,TJ,TJ,none,dA,dA,dA,sB 249,dA,dA,dA],[sB 188,sB 192,sB 199,sB 194,aNO,aNO,sB 143,aN1,aN1,none,dA,a3f,a3f,sB 207,sB 209,sB 141],[aNR,aNR,sB 282,aNJ,aNJ,none,dA,dA,dA,dA,dA,dA,a3j,a3j,aNS,aNS],[sB 234,dA,aNX,aNX,a3i,a3i,dA,dA,dA,dA,NA 5,dA,none,dA,sB 9,dA],[none,dA,none,dA,dA,dA,dA,none,dA,dA,sB 4,dA,sB 179,sB 33,TJ,TJ],[dA,sB 246,aNN,aNN,dA,dA,dA,dA,dA,none,dA,aNP,aNP,a3k,a3k,aNQ],[aNQ,aNC,aNC,a3h,a3h,sB 196,aNW,aNW,dA,dA,dA,dA,none,dA,aN0,aN0],[a3j,a3j,dA,dA,sB 216,none,dA,a3i,a3i,none,dA,dA,NA 132,none,dA,aBi],[none,dA,dA,dA,dA,none,dA,none,dA,Lr,Lr,dA,some ⟨.sC,1,[],8,[.pointer none]⟩,dA,dA,dA],[dA,dA,dA,dA,sB 177,aNY,aNY,dA,Lr,Lr,dA,sB 256,none,dA,dA,a3k],[a3k,dA,dA,dA,dA,dA,dA,dA,dA,dA,dA,none,dA,none,dA,dA],[none,dA,dA,dA,dA,dA,dA,none,dA,a3h,a3h,dA,none,dA,dA,dA],[dA,dA,dA,dA,dA,dA,dA,dA,dA,dA,dA,dA,dA,NA 143,dA,dA],[none,dA,dA,NA 141,dA,dA,dA,dA,dA,dA,dA,dA,dA,dA,some ⟨.array 24 5,24,[],24,[.int .u8 0,.int .u8 0,.int .u8 0,.int .u8 0,.int .u8 0,.int .u8 0,.int .u8 0,.int .u8 0,.int .u8 0,.int .u8 0,.int .u8 0,.int .u8 0,.int .u8 0,.int .u8 0,.int .u8 0,.int .u8 0,.int .u8 0,.int .u8 0,.int .u8 0,.int .u8 0,.int .u8 0,.int .u8 0,.int .u8 0,.int .u8 0]⟩,aBi],[dA,dA,none,dA,dA,none,dA,dA,none,dA,none,dA,dA,dA,some ⟨.array 20 319,20,[],160,[.int .u64 0,.int .u64 0,.int .u64 0,.int .u64 0,.int .u64 0,.int .u64 0,.int .u64 0,.int .u64 0,.int .u64 0,.int .u64 0,.int .u64 0,.int .u64 0,.int .u64 0,.int .u64 0,.int .u64 0,.int .u64 0,.int .u64 0,.int .u64 0,.int .u64 0,.int .u64 0]⟩,some ⟨.int .u32,1,[],4,[.int .u32 0]⟩],[none,dA,none,dA,dA,dA,none,aNI,aNI,some ⟨.array 16 344,32,[],32,[.int .u8 0,.int .u8 0,.int .u8 0,.int .u8 0,.int .u8 0,.int .u8 0,.int .u8 0,.int .u8 0,.int .u8 0,.int .u8 0,.int .u8 0,.int .u8 0,.int .u8 0,.int .u8 0,.int .u8 0,.int .u8 0,.int .u8 0,.int .u8 0,.int .u8 0,.int .u8 0,.int .u8 0,.int .u8 0,.int .u8 0,.int .u8 0,.int .u8 0,.int .u8 0,.int .u8 0,.int .u8 0,.int .u8 0,.int .u8 0,.int .u8 0,.int .u8 0]⟩,dA,some ⟨.array 32 5,32,[],32,[.int .u8 0,.int .u8 0,.int .u8 0,.int .u8 0,.int .u8 0,.int .u8 0,.int .u8 0,.int .u8 0,.int .u8 0,.int .u8 0,.int .u8 0,.int .u8 0,.int .u8 0,.int .u8 0,.int .u8 0,.int .u8 0,.int .u8 0,.int .u8 0,.int .u8 0,.int .u8 0,.int .u8 0,.int .u8 0,.int .u8 0,.int .u8 0,.int .u8 0,.int .u8 0,.int .u8 0,.int .u8 0,.int .u8 0,.int .u8 0,.int .u8 0,.int .u8 0]⟩,some ⟨.array 64 5,64,[],64,[.int .u8 0,.int .u8 0,.int .u8 0,.int .u8 0,.int .u8 0,.int .u8 0,.int .u8 0,.int .u8 0,.int .u8 0,.int .u8 0,.int .u8 0,.int .u8 0,.int .u8 0,.int .u8 0,.int .u8 0,.int .u8 0,.int .u8 0,.int .u8 0,.int .u8 0,.int .u8 0,.int .u8 0,.int .u8 0,.int .u8 0,.int .u8 0,.int .u8 0,.int .u8 0,.int .u8 0,.int .u8 0,.int .u8 0,.int .u8 0,.int .u8 0,.int .u8 0,.int .u8 0,.int .u8 0,.int .u8 0,.int .u8 0,.int .u8 0,.int .u8 0,.int .u8 0,.int .u8 0,.int .u8 0,.int .u8 0,.int .u8 0,.int .u8 0,.int .u8 0,.int .u8 0,.int .u8 0,.int .u8 0,.int .u8 0,.int .u8 0,.int .u8 0,.int .u8 0,.int .u8 0,.int .u8 0,.int .u8 0,.int .u8 0,.int .u8 0,.int .u8 0,.int .u8 0,.int .u8 0,.int .u8 0,.int .u8 0,.int .u8 0,.int .u8 0]⟩,none,dA,dA],[NA 367,aNT,aNT,some ⟨.array 0 16,0,[],0,[]⟩,some ⟨.struct,0,[(0,0)],0,[]⟩,some ⟨.struct,0,[(0,0)],0,[]⟩,dA,a3e,a3e,dA,aBk,aBk,aNL,aNL,aND,aND]]
def aRC:gD=(List.range gD.length).map (a7l Tryz.prog gD):=by kernel_rfl
def M:nN Tryz.prog:=⟨gD,aVy aRC⟩
def mixed:Tryz.prog.follows .mixedOrders=true:=by kernel_rfl
end Go.Proofs.YtdiajbdaadlfhaaGreatDoor
