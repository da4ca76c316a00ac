/- The program that the plain machine runs: a name of its own, which is opened by the kernel alone. -/
import Derived.Test.YtpnddokajmjpbaaDoorHxA
import Derived.Test.YtpnddokajmjpbaaDoorChecked
namespace Go.Proofs.YtpnddokajmjpbaaDoor.Hx
noncomputable def P0 : Program := Tryd.prog
attribute [irreducible] P0
end Go.Proofs.YtpnddokajmjpbaaDoor.Hx
