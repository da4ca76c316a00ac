/- The program that the plain machine runs: a name of its own, which is opened by the kernel alone. -/
import Derived.Test.YtbmlegogjhmmbaaDoorHxA
import Derived.Test.YtbmlegogjhmmbaaDoorChecked
namespace Go.Proofs.YtbmlegogjhmmbaaDoor.Hx
noncomputable def P0 : Program := Tryd.prog
attribute [irreducible] P0
end Go.Proofs.YtbmlegogjhmmbaaDoor.Hx
