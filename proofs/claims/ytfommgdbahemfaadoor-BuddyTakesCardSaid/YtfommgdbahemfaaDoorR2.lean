/-
  Contracts: regions of pages.
-/
import Derived.Test.YtfommgdbahemfaaDoorR1
set_option linter.unusedVariables false
namespace Go.Proofs.YtfommgdbahemfaaDoor
open Go.RowKit

/-- P2.1: may a region be? -/
def Region.ok (r : Region) : Prop := 0 ≤ r.From ∧ 1 ≤ r.Size ∧ r.Size ≤ 256 ∧ r.From + r.Size ≤ 256
instance (r : Region) : Decidable r.ok := inferInstanceAs (Decidable (_ ∧ _))
def encR (r : Region) : List Value := [.int .i64 r.From, .int .i64 r.Size]
def errno (n : Int) : Value := .int .i64 n





end Go.Proofs.YtfommgdbahemfaaDoor