import Derived.Test.YtfbbfmcggbapoaaGreatDoorJ7
import Derived.Test.YtfbbfmcggbapoaaGreatDoorCards
import Derived.Test.YtfbbfmcggbapoaaGreatDoorTie
import Derived.Lib.LaidTab
open Go.Proofs.Tryz renaming prog→aj
set_option linter.all false
section
namespace Go.Proofs.YtfbbfmcggbapoaaGreatDoor
set_option maxHeartbeats 4000000
set_option maxRecDepth 100000
section
open Go.ChangeShapes Go.WideShapes Go.ChangeAt Go.RowKit
theorem own:ownKnob aj.godebug=none:=kr
def XU (cs:Array Value):Obj→Obj
 | .cells _ t frozen=>.cells cs t frozen
 | o=>o
def alF:List Nat:=[0,1,28,2,29,14,24,3,30,22,20,15,25,17,4,8,31,27,13,23,21,19,16,7,26,12,18,6,11,5,10,9]
def alG:List Nat:=[0,1,56,2,57,49,28,3,61,58,42,50,38,29,17,4,62,47,59,36,45,43,51,22,53,39,33,30,24,18,12,5,63,55,48,27,60,41,37,16,46,35,44,21,52,32,23,11,54,26,40,15,34,20,31,10,25,14,19,9,13,8,7,6]
def ahg:List Nat:=[1,10,100,1000,10000,100000,1000000,10000000,100000000,1000000000,10000000000,100000000000,1000000000000,10000000000000,100000000000000,1000000000000000,10000000000000000,100000000000000000,1000000000000000000,10000000000000000000]
def alH:List Nat:=[128,191,160,191,128,159,144,191,128,143,0,0,0,0,0,0,0,0,0,0,0,0,0,0,0,0,0,0,0,0,0,0]
def VW (l:List Nat):Obj→Obj:=XU ⟨l.map fun n=>Value.int .u8 (Int.ofNat n)⟩
noncomputable def yb (os:Os):World :=
 { World.holding aj os ⟨#[],#[],[]⟩ with heap:=(((((World.holding aj os ⟨#[],#[],[]⟩).heap.modify 4 (VW Pinned.utf8FirstZ)).modify 5 (VW alH)).modify 1 (XU ⟨ahg.map fun n=>Value.int .u64 (Int.ofNat n)⟩)).modify 2 (VW alF)).modify 3 (VW alG) }
end
end Go.Proofs.YtfbbfmcggbapoaaGreatDoor
end
