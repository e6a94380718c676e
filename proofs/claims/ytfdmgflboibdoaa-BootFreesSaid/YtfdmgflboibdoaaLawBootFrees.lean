/-
  BootFrees: for every input the law returns true, and each argument reads afterwards as it read before. No condition.
-/
import Derived.Test.YtfdmgflboibdoaaFact
import Derived.Test.YtfdmgflboibdoaaOpen
import Derived.Test.YtfdmgflboibdoaaB8
set_option linter.unusedVariables false
namespace Go.Proofs.Ytfdmgflboibdoaa
open Go.ChangeShapes Go.WideShapes Go.ChangeAt Go.RowKit Go.Deep Go.Joins

set_option maxRecDepth 100000 in
theorem bootFrees_lifted (os : Os) (started : os.Started) (H : Type) (enc : TypeId × Value → H) :
    ReturnsInHanded {} Try.checked os 12 .any (Rows.bootFreesSpec.pre6 enc Try.prog Try.f12 Rows.bootFreesRow.domain false) (Rows.bootFreesSpec.post enc Try.prog Try.f12 false true false false) := by
  refine returnsInHanded_of_change_sized (C := Try.checked) own started (by kernel_rfl) Try.func12
    (ChangeSpec.witness6 (enc := enc) (C := Try.checked) false ⟨#[], #[.agg #[.slice none 0 0, .slice none 0 0], .agg #[.int .i64 0, .int .i64 0]], []⟩ 8 (by kernel_rfl) (by kernel_rfl) (by kernel_rfl) (by kernel_rfl)) ?_
  intro W base args ds gs before hval hW _ hsz0 _
  have hsz : (DataW.weightsEach Try.prog (Try.f12.params.toList ++ Rows.bootFreesSpec.plain.varTypes Try.prog) (ds ++ gs)).all (· ≤ reachBytes) = true := hsz0
  clear hsz0
  have hW' := hW
  obtain ⟨p, q, hA0, hV, rfl, _, _⟩ := hW
  have hA : DataW.TrodAll enc Try.prog W 0 (fun _ => true) true Try.f12.params.toList args.toList ds p := hA0
  have hval : ∀ (j : Nat) t v, Try.f12.params[j]? = some t → args[j]? = some v → Value.okWide Try.prog W .any base t v := hval
  rw [Try.params12] at hA hval hsz
  obtain ⟨v0, vs0, d0, ds0, p0, q0, hargs, rfl, rfl, h0, r0⟩ := trodAll_cons hA
  obtain ⟨v1, vs1, d1, ds1, p1, q1, rfl, rfl, rfl, h1, r1⟩ := trodAll_cons r0
  obtain ⟨rfl, rfl, rfl⟩ := trodAll_nil r1
  obtain rfl : args = #[v0, v1] := by cases args; simp_all
  obtain ⟨rfl, rfl⟩ := trodVars_none hV
  obtain ⟨e0, e1, y0, y1, m, rfl, rfl, rfl, hy0, hy1⟩ := open_agg2 Try.underlying48 (by kernel_rfl) (by kernel_rfl) (hval 0 48 v0 rfl rfl) h0
  obtain ⟨Ax, nx, cx, lx, ex, hlx, hcx, hmx, hgx, hdx⟩ := open_sl (t := 46) (by kernel_rfl) (fun _ _ _ => el_region) hy0
  obtain ⟨Ay, ny, cy, ly, ey, hly, hcy, hmy, hgy, hdy⟩ := open_sl (t := 46) (by kernel_rfl) (fun _ _ _ => el_region) hy1
  simp at ex ey
  subst ex ey
  unfold maxLen at hmx hmy
  have hB0 := bd_arg hsz (j := 0) (t := 48) rfl rfl
  have hbx := bd_sl (P := Try.prog) (t := 46) (b := 16) (by kernel_rfl) hdx (bd_field Try.underlying48 (j := 0) rfl rfl hB0)
  have hby := bd_sl (P := Try.prog) (t := 46) (b := 16) (by kernel_rfl) hdy (bd_field Try.underlying48 (j := 1) rfl rfl hB0)
  obtain ⟨f0, f1, z0, z1, m1, rfl, rfl, rfl, hz0, hz1⟩ := open_agg2 Try.underlying54 (by kernel_rfl) (by kernel_rfl) (hval 1 54 v1 rfl rfl) h1
  obtain ⟨rF, g0, rfl, rw0⟩ := DataW.trod_int Try.underlying3 hz0
  obtain ⟨rS, g1, rfl, rw1⟩ := DataW.trod_int Try.underlying3 hz1
  simp at g0 g1
  subst g0 g1
  refine law_close laidOut (fun t ht => ?_) rfl Try.underlying4 rfl ⟨rfl, rfl, rfl⟩ hW' (lawBootFrees_ans Ax nx cx Ay ny cy lx ly ⟨rF, rS⟩ W hlx hly (by omega) (by omega))
  rw [Try.params12] at ht
  simp only [List.mem_cons, List.not_mem_nil, or_false] at ht
  rcases ht with rfl | rfl
  all_goals exact ⟨by kernel_rfl, of_decide_eq_true (by kernel_rfl)⟩

set_option maxHeartbeats 4000000 in
/-- the row's closed facts -/
theorem bootFrees_closed : joinedFacts Try.pinned.checked.prog 12 Try.f12 Rows.bootFreesSpec Rows.bootFreesRow = true := by
  simp only [joinedFacts, Bool.and_eq_true]
  repeat' apply And.intro
  rotate_left 24
  · exact factStops
  · exact factEnter
  · rw [factLifts]; kernel_rfl
  all_goals as_aux_lemma => kernel_rfl

theorem bootFrees_holds : Rows.BootFreesSaid :=
  OpenClaim.holds_of_wide 12 Try.f12 rfl rfl rfl rfl rfl rfl rfl ⟨rfl, rfl, rfl, rfl, rfl⟩ rfl rfl rfl rfl rfl (by kernel_rfl) Try.func12 bootFrees_closed
    (of_decide_eq_true (by kernel_rfl)) (by unfold Func.isWrapper; first | (rw [if_pos (by decide +kernel)]; kernel_rfl) | (rw [if_neg (by decide +kernel)]; exact ⟨rfl, rfl⟩))
    (fun os started H enc _ => bootFrees_lifted os started H enc)
end Go.Proofs.Ytfdmgflboibdoaa
