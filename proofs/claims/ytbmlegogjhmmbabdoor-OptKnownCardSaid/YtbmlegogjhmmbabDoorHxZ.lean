/- The program that the plain machine runs: a name of its own, which is opened by the kernel alone. -/
import Derived.Test.YtbmlegogjhmmbabDoorHxA
import Derived.Test.YtbmlegogjhmmbabDoorChecked
namespace Go.Proofs.YtbmlegogjhmmbabDoor.Hx
noncomputable def P0 : Program := Tryd.prog
attribute [irreducible] P0
end Go.Proofs.YtbmlegogjhmmbabDoor.Hx
