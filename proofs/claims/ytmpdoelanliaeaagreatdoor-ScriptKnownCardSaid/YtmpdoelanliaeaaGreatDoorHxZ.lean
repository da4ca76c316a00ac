/- The program that the plain machine runs: a name of its own, which is opened by the kernel alone. -/
import Derived.Test.YtmpdoelanliaeaaGreatDoorHxA
import Derived.Test.YtmpdoelanliaeaaGreatDoorProg
namespace Go.Proofs.YtmpdoelanliaeaaGreatDoor.Hx
noncomputable def P0 : Program := Tryz.prog
attribute [irreducible] P0
/-- Tables of the library that variables of the program hold: the blocks, and what is in them. -/
def tabs : List (Nat × Array Value) := [(1, ((List.range 20).map fun i => Value.int .u64 ((10 ^ i : Nat) : Int)).toArray)]
end Go.Proofs.YtmpdoelanliaeaaGreatDoor.Hx
