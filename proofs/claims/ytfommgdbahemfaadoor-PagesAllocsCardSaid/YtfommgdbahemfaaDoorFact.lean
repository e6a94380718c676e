/-
  Closed facts of the seat's program that every row asks, each once.
-/
import Derived.Test.YtfommgdbahemfaaDoorRows
import Derived.ProofKit
set_option maxRecDepth 100000
namespace Go.Proofs.YtfommgdbahemfaaDoor

theorem factStops : Tryd.pinned.checked.prog.stopsHeard = true := by kernel_rfl
theorem factEnter : Tryd.pinned.checked.prog.mayEnter = true := by kernel_rfl
theorem factLifts : Tryd.pinned.checked.prog.liftsFinal = false := by kernel_rfl
end Go.Proofs.YtfommgdbahemfaaDoor
