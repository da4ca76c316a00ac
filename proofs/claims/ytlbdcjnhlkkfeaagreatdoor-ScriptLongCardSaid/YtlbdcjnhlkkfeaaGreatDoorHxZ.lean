/- The program that the plain machine runs: a name of its own, which is opened by the kernel alone. -/
import Derived.Test.YtlbdcjnhlkkfeaaGreatDoorHxA
import Derived.Test.YtlbdcjnhlkkfeaaGreatDoorProg
namespace Go.Proofs.YtlbdcjnhlkkfeaaGreatDoor.Hx
noncomputable def P0 : Program := Tryz.prog
attribute [irreducible] P0
/-- Tables of the library that variables of the program hold: the blocks, and what is in them. -/
def tabs : List (Nat × Array Value) := []
end Go.Proofs.YtlbdcjnhlkkfeaaGreatDoor.Hx
