/-
  How a heap and an error number are answered.
-/
import Derived.Test.YtfdmgflboibdoaaH2
set_option linter.unusedVariables false
namespace Go.Proofs.Ytfdmgflboibdoaa

def HeapOut (lo : Nat) (o : Int × Heap) (v : Value) (w : World) : Prop := ∃ s : HRow, v = .tuple #[.agg (encH s).toArray, .int .i64 o.1] ∧ OwnH w lo s o.2
theorem HeapOut.zero (e : Int) (lo : Nat) (w : World) : HeapOut lo (e, ⟨[], [], 0, [], []⟩) (.tuple #[.agg (encH .zero).toArray, .int .i64 e]) w := ⟨.zero, rfl, OwnH.zero w lo⟩
theorem All2.two {α β : Type} {R : α → β → Prop} {a b : α} {c d : β} (h1 : R a c) (h2 : R b d) : All2 R [a, b] [c, d] := All2.snoc (All2.snoc All2.nil h1) h2
end Go.Proofs.Ytfdmgflboibdoaa
