/-
  PagesFrees: for every input the law returns true, and each argument reads afterwards as it read before. No condition.
-/
import Derived.Test.YtfdmgflboibdoaaFact
import Derived.Test.YtfdmgflboibdoaaPackPagesFrees5
import Derived.Test.YtfdmgflboibdoaaPackPagesFrees23
set_option linter.unusedVariables false
namespace Go.Proofs.Ytfdmgflboibdoaa
open Go.ChangeShapes Go.WideShapes Go.ChangeAt Go.RowKit Go.Deep Go.Joins

set_option maxRecDepth 100000 in
theorem pagesFrees_lifted (os : Os) (started : os.Started) (H : Type) (enc : TypeId × Value → H) :
    ReturnsInHanded {} Try.checked os 21 .any (Rows.pagesFreesSpec.pre6 enc Try.prog Try.f21 Rows.pagesFreesRow.domain false) (Rows.pagesFreesSpec.post enc Try.prog Try.f21 false true false false) := by
  refine returnsInHanded_of_change_sized (C := Try.checked) own started (by kernel_rfl) Try.func21
    (ChangeSpec.witness6 (enc := enc) (C := Try.checked) false ⟨#[], #[.agg #[.slice none 0 0, .slice none 0 0, .int .i64 0, .slice none 0 0, .slice none 0 0], .int .i64 0, .int .i64 0], []⟩ 8 (by kernel_rfl) (by kernel_rfl) (by kernel_rfl) (by kernel_rfl)) ?_
  intro W base args ds gs before hval hW _ hsz0 _
  have hsz : (DataW.weightsEach Try.prog (Try.f21.params.toList ++ Rows.pagesFreesSpec.plain.varTypes Try.prog) (ds ++ gs)).all (· ≤ reachBytes) = true := hsz0
  clear hsz0
  have hW' := hW
  obtain ⟨p, q, hA0, hV, rfl, _, _⟩ := hW
  have hA : DataW.TrodAll enc Try.prog W 0 (fun _ => true) true Try.f21.params.toList args.toList ds p := hA0
  have hval : ∀ (j : Nat) t v, Try.f21.params[j]? = some t → args[j]? = some v → Value.okWide Try.prog W .any base t v := hval
  rw [Try.params21] at hA hval hsz
  obtain ⟨v0, vs0, d0, ds0, p0, q0, hargs, rfl, rfl, h0, r0⟩ := trodAll_cons hA
  obtain ⟨v1, vs1, d1, ds1, p1, q1, rfl, rfl, rfl, h1, r1⟩ := trodAll_cons r0
  obtain ⟨v2, vs2, d2, ds2, p2, q2, rfl, rfl, rfl, h2, r2⟩ := trodAll_cons r1
  obtain ⟨rfl, rfl, rfl⟩ := trodAll_nil r2
  obtain rfl : args = #[v0, v1, v2] := by cases args; simp_all
  obtain ⟨rfl, rfl⟩ := trodVars_none hV
  obtain ⟨hrow, hp, rfl, hRd, hgd⟩ := open_heap (hval 0 27 v0 rfl rfl) h0 (bd_arg hsz (j := 0) (t := 27) rfl rfl)
  obtain ⟨x1, rfl, rfl, rfl, w1⟩ := open_int Try.underlying3 (hval 1 3 v1 rfl rfl) h1
  obtain ⟨x2, rfl, rfl, rfl, w2⟩ := open_int Try.underlying3 (hval 2 3 v2 rfl rfl) h2
  refine law_close laidOut (fun t ht => ?_) rfl Try.underlying4 rfl ⟨rfl, rfl, rfl⟩ hW' (pagesFrees_ans _ _ x1 x2 W hRd hgd.small (fun z hz => ⟨(hgd.zones z hz).1, (hgd.zones z hz).2.1⟩) (in64_of_wf w2))
  rw [Try.params21] at ht
  simp only [List.mem_cons, List.not_mem_nil, or_false] at ht
  rcases ht with rfl | rfl | rfl
  all_goals exact ⟨by kernel_rfl, of_decide_eq_true (by kernel_rfl)⟩

set_option maxHeartbeats 4000000 in
/-- the row's closed facts -/
theorem pagesFrees_closed : joinedFacts Try.pinned.checked.prog 21 Try.f21 Rows.pagesFreesSpec Rows.pagesFreesRow = true := by
  simp only [joinedFacts, Bool.and_eq_true]
  repeat' apply And.intro
  rotate_left 24
  · exact factStops
  · exact factEnter
  · rw [factLifts]; kernel_rfl
  all_goals as_aux_lemma => kernel_rfl

theorem pagesFrees_holds : Rows.PagesFreesSaid :=
  OpenClaim.holds_of_wide 21 Try.f21 rfl rfl rfl rfl rfl rfl rfl ⟨rfl, rfl, rfl, rfl, rfl⟩ rfl rfl rfl rfl rfl (by kernel_rfl) Try.func21 pagesFrees_closed
    (of_decide_eq_true (by kernel_rfl)) (by unfold Func.isWrapper; first | (rw [if_pos (by decide +kernel)]; kernel_rfl) | (rw [if_neg (by decide +kernel)]; exact ⟨rfl, rfl⟩))
    (fun os started H enc _ => pagesFrees_lifted os started H enc)
end Go.Proofs.Ytfdmgflboibdoaa
