/- The facts that run over the whole type table, out of what Checked holds. -/
import Derived.Test.YtgfdhkhcojjkjaaGreatDoorRows
import Derived.ClosedOfChecked
import Derived.KernelRfl
namespace Go.Proofs.YtgfdhkhcojjkjaaGreatDoor.Laws
theorem hty : Tryz.prog.types = Tryz.src.types := by kernel_rfl
theorem allSpec : Go.ClosedOfChecked.AllSpec Tryz.prog := Go.ClosedOfChecked.allSpec_of Tryz.wellFormed hty
theorem rest : (Tryz.prog.globals.all (fun g => decide (g.type < Tryz.prog.types.size)) && Tryz.prog.funcs.all (fun f => f.params.all fun t => decide (t < Tryz.prog.types.size))) = true := by kernel_rfl
theorem laidOutP : laidOutB Tryz.prog = true := Go.ClosedOfChecked.laidOutB_of allSpec rest
theorem mapsRowedP : mapsRowed Tryz.prog = true := Go.ClosedOfChecked.mapsRowed_of allSpec
end Go.Proofs.YtgfdhkhcojjkjaaGreatDoor.Laws
