/-
  Contracts: lists of regions; boot.Check and its reference; the law BootChecks.
-/
import Derived.Test.YtfommgdbahemfaaDoorR2
import Derived.Test.YtfommgdbahemfaaDoorR3
set_option linter.unusedVariables false
namespace Go.Proofs.YtfommgdbahemfaaDoor
open Go.RowKit

instance : Enc encR 2 := ⟨fun _ => rfl, fun r u hu => by simp [encR] at hu; rcases hu with rfl | rfl <;> rfl⟩

/-- P2.2, of one list -/
def regionsOk (l : List Region) : Prop := l.length ≤ 40 ∧ ∀ (i : Nat) (h : i < l.length), (l[i]).ok ∧ ∀ (h0 : 0 < i), (l[i - 1]'(by omega)).From + (l[i - 1]'(by omega)).Size < (l[i]).From
noncomputable def regionsB (l : List Region) : Bool := @decide (regionsOk l) (Classical.propDecidable _)
theorem regionsB_t {l : List Region} (h : regionsOk l) : regionsB l = true := by unfold regionsB; exact @decide_eq_true _ (Classical.propDecidable _) h
theorem regionsB_f {l : List Region} (h : ¬ regionsOk l) : regionsB l = false := by unfold regionsB; exact @decide_eq_false _ (Classical.propDecidable _) h
theorem regionsB_iff {l : List Region} : regionsB l = true ↔ regionsOk l := by
  by_cases h : regionsOk l
  · simp [regionsB_t h, h]
  · simp [regionsB_f h, h]





end Go.Proofs.YtfommgdbahemfaaDoor