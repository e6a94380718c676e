/-
  Closed facts of the seat's program that every row asks, each once.
-/
import Derived.Test.YtdlfabkacdgneaaGreatDoorRows
import Derived.ProofKit
set_option maxRecDepth 100000
namespace Go.Proofs.YtdlfabkacdgneaaGreatDoor

theorem factStops : Tryz.pinned.checked.prog.stopsHeard = true := by kernel_rfl
theorem factEnter : Tryz.pinned.checked.prog.mayEnter = true := by kernel_rfl
theorem factLifts : Tryz.pinned.checked.prog.liftsFinal = false := by kernel_rfl
end Go.Proofs.YtdlfabkacdgneaaGreatDoor
