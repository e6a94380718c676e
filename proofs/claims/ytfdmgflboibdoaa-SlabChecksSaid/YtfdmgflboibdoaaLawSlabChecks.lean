/-
  SlabChecks: for every input the law returns true, and each argument reads afterwards as it read before. No condition.
-/
import Derived.Test.YtfdmgflboibdoaaFact
import Derived.Test.YtfdmgflboibdoaaPackSlabChecks7
import Derived.Test.YtfdmgflboibdoaaPackSlabChecks22
set_option linter.unusedVariables false
namespace Go.Proofs.Ytfdmgflboibdoaa
open Go.ChangeShapes Go.WideShapes Go.ChangeAt Go.RowKit Go.Deep Go.Joins

set_option maxRecDepth 100000 in
theorem slabChecks_lifted (os : Os) (started : os.Started) (H : Type) (enc : TypeId × Value → H) :
    ReturnsInHanded {} Try.checked os 16 .any (Rows.slabChecksSpec.pre6 enc Try.prog Try.f16 Rows.slabChecksRow.domain false) (Rows.slabChecksSpec.post enc Try.prog Try.f16 false true false false) := by
  refine returnsInHanded_of_change_sized (C := Try.checked) own started (by kernel_rfl) Try.func16
    (ChangeSpec.witness6 (enc := enc) (C := Try.checked) false ⟨#[], #[.agg #[.slice none 0 0, .slice none 0 0, .slice none 0 0, .int .i64 0, .slice none 0 0, .slice none 0 0, .slice none 0 0]], []⟩ 8 (by kernel_rfl) (by kernel_rfl) (by kernel_rfl) (by kernel_rfl)) ?_
  intro W base args ds gs before hval hW _ hsz0 _
  have hsz : (DataW.weightsEach Try.prog (Try.f16.params.toList ++ Rows.slabChecksSpec.plain.varTypes Try.prog) (ds ++ gs)).all (· ≤ reachBytes) = true := hsz0
  clear hsz0
  have hW' := hW
  obtain ⟨p, q, hA0, hV, rfl, _, _⟩ := hW
  have hA : DataW.TrodAll enc Try.prog W 0 (fun _ => true) true Try.f16.params.toList args.toList ds p := hA0
  have hval : ∀ (j : Nat) t v, Try.f16.params[j]? = some t → args[j]? = some v → Value.okWide Try.prog W .any base t v := hval
  rw [Try.params16] at hA hval hsz
  obtain ⟨v0, vs0, d0, ds0, p0, q0, hargs, rfl, rfl, h0, r0⟩ := trodAll_cons hA
  obtain ⟨rfl, rfl, rfl⟩ := trodAll_nil r0
  obtain rfl : args = #[v0] := by cases args; simp_all
  obtain ⟨rfl, rfl⟩ := trodVars_none hV
  obtain ⟨srow, sp, rfl, hRd, hgd⟩ := open_system (hval 0 33 v0 rfl rfl) h0 (bd_arg hsz (j := 0) (t := 33) rfl rfl)
  refine law_close laidOut (fun t ht => ?_) rfl Try.underlying4 rfl ⟨rfl, rfl, rfl⟩ hW' (slabChecks_ans _ _ W hRd hgd.fine)
  rw [Try.params16] at ht
  simp only [List.mem_cons, List.not_mem_nil, or_false] at ht
  subst ht
  exact ⟨by kernel_rfl, of_decide_eq_true (by kernel_rfl)⟩

set_option maxHeartbeats 4000000 in
/-- the row's closed facts -/
theorem slabChecks_closed : joinedFacts Try.pinned.checked.prog 16 Try.f16 Rows.slabChecksSpec Rows.slabChecksRow = true := by
  simp only [joinedFacts, Bool.and_eq_true]
  repeat' apply And.intro
  rotate_left 24
  · exact factStops
  · exact factEnter
  · rw [factLifts]; kernel_rfl
  all_goals as_aux_lemma => kernel_rfl

theorem slabChecks_holds : Rows.SlabChecksSaid :=
  OpenClaim.holds_of_wide 16 Try.f16 rfl rfl rfl rfl rfl rfl rfl ⟨rfl, rfl, rfl, rfl, rfl⟩ rfl rfl rfl rfl rfl (by kernel_rfl) Try.func16 slabChecks_closed
    (of_decide_eq_true (by kernel_rfl)) (by unfold Func.isWrapper; first | (rw [if_pos (by decide +kernel)]; kernel_rfl) | (rw [if_neg (by decide +kernel)]; exact ⟨rfl, rfl⟩))
    (fun os started H enc _ => slabChecks_lifted os started H enc)
end Go.Proofs.Ytfdmgflboibdoaa
