/- Parts. -/
import Derived.Test.YtpfjdlicdljhaaaDoorM22
set_option maxHeartbeats 4000000
namespace Go.Proofs.YtpfjdlicdljhaaaDoor.Hx
open Un
section
variable{F F' G G':Nat->Prop}{h h':Hp}{lu PQ PS:Nat}{ops:List Int}{t t':Dt}{R R':Rw}{Q:dg}
end
