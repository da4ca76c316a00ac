/- The program that the plain machine runs: a name of its own, which is opened by the kernel alone. -/
import Derived.Test.YtbmlegogjhmmbacGreatDoorHxA
import Derived.Test.YtbmlegogjhmmbacGreatDoorChecked
namespace Go.Proofs.YtbmlegogjhmmbacGreatDoor.Hx
noncomputable def P0 : Program := Tryz.prog
attribute [irreducible] P0
end Go.Proofs.YtbmlegogjhmmbacGreatDoor.Hx
