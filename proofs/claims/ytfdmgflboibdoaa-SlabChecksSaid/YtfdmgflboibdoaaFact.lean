/-
  Closed facts of the seat's program that every row asks, each once.
-/
import Derived.Test.YtfdmgflboibdoaaRows
import Derived.ProofKit
set_option maxRecDepth 100000
namespace Go.Proofs.Ytfdmgflboibdoaa

theorem factStops : Try.pinned.checked.prog.stopsHeard = true := by kernel_rfl
theorem factEnter : Try.pinned.checked.prog.mayEnter = true := by kernel_rfl
theorem factLifts : Try.pinned.checked.prog.liftsFinal = false := by kernel_rfl
end Go.Proofs.Ytfdmgflboibdoaa
