/- Parts. -/
import Derived.Test.YtpfjdlicdljhaaaDoorM14
set_option maxHeartbeats 4000000
namespace Go.Proofs.YtpfjdlicdljhaaaDoor.Hx
set_option maxRecDepth 100000
noncomputable section
def t6:List (Nat×List Nat):=[(1407,[1,2,3,4,5,6,7,8]),(360447,[1,2,3,5,6,7,10,11,12,13,14]),(3768318,[1,2,3,5,6,7,10,11,12,13,14]),(70368597999614,[1,2,3,5,6,7,10,11,12,13,14,24,26,29])]
end
