/-
  Cuts: the ways through a piece of code meet again; what returns passes. Calls that change what is the caller's own. No program in sight.
-/
import Derived.Test.YtfommgdbahemfaaDoorMor
set_option linter.unusedVariables false
namespace Go.Proofs.YtfommgdbahemfaaDoor
open Go.RowKit

section
variable {P : Program} {n : Nat} {Q : Exit → Act → World → Prop} {L : Env} {w : World}
/-- K where the code goes on; what else happens is Q's -/
def CutQ (n : Nat) (K : Env → World → Prop) (Q : Exit → Act → World → Prop) : Exit → Act → World → Prop
  | .normal, a, w' => ∃ L', Fit n a L' ∧ K L' w'
  | e, a, w' => Q e a w'
theorem CW.cutq {c : Code} (K : Env → World → Prop) (h : CW P n c (CutQ n K Q) L w) (k : ∀ L' w', K L' w' → Post n Q .normal L' w') : CW P n c Q L w :=
  ⟨fun a ha => wp_mono (h.out a ha) fun e a' w' h' => by
    cases e with
    | normal => obtain ⟨L', hf, hk⟩ := h'; exact (k L' w' hk).out a' hf
    | _ => exact h'⟩
theorem CW.cutb {c : Code} {id : Nat} (K : Env → World → Prop) (h : CW P n c (Exit.inBlock id (CutQ n K Q)) L w) (k : ∀ L' w', K L' w' → Post n Q .normal L' w') : CW P n c (Exit.inBlock id Q) L w :=
  ⟨fun a ha => wp_mono (h.out a ha) fun e a' w' h' => by
    cases e with
    | normal => obtain ⟨L', hf, hk⟩ := h'; exact (k L' w' hk).out a' hf
    | exit j =>
      simp only [Exit.inBlock] at h' ⊢
      split
      · rename_i hj
        rw [if_pos hj] at h'
        obtain ⟨L', hf, hk⟩ := h'
        exact (k L' w' hk).out a' hf
      · rename_i hj
        rw [if_neg hj] at h'
        exact h'
    | _ => exact h'⟩
theorem Post.cutn {K : Env → World → Prop} (h : K L w) : Post n (CutQ n K Q) .normal L w := ⟨fun _ ha => ⟨L, ha, h⟩⟩
theorem Post.cut_ret {K : Env → World → Prop} (h : Post n Q .ret L w) : Post n (CutQ n K Q) .ret L w := ⟨fun a ha => h.out a ha⟩
theorem Post.cut_exit {K : Env → World → Prop} {id : Nat} (h : Post n Q (.exit id) L w) : Post n (CutQ n K Q) (.exit id) L w := ⟨fun a ha => h.out a ha⟩
end
end Go.Proofs.YtfommgdbahemfaaDoor
