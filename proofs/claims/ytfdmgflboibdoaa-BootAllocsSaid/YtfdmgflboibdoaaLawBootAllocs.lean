/-
  BootAllocs: for every input the law returns true, and each argument reads afterwards as it read before. No condition.
-/
import Derived.Test.YtfdmgflboibdoaaFact
import Derived.Test.YtfdmgflboibdoaaOpen
import Derived.Test.YtfdmgflboibdoaaB10
set_option linter.unusedVariables false
namespace Go.Proofs.Ytfdmgflboibdoaa
open Go.ChangeShapes Go.WideShapes Go.ChangeAt Go.RowKit Go.Deep Go.Joins

set_option maxRecDepth 100000 in
theorem bootAllocs_lifted (os : Os) (started : os.Started) (H : Type) (enc : TypeId × Value → H) :
    ReturnsInHanded {} Try.checked os 14 .any (Rows.bootAllocsSpec.pre6 enc Try.prog Try.f14 Rows.bootAllocsRow.domain false) (Rows.bootAllocsSpec.post enc Try.prog Try.f14 false true false false) := by
  refine returnsInHanded_of_change_sized (C := Try.checked) own started (by kernel_rfl) Try.func14
    (ChangeSpec.witness6 (enc := enc) (C := Try.checked) false ⟨#[], #[.agg #[.slice none 0 0, .slice none 0 0], .int .i64 0, .int .i64 0, .int .i64 0, .int .i64 0, .bool false], []⟩ 8 (by kernel_rfl) (by kernel_rfl) (by kernel_rfl) (by kernel_rfl)) ?_
  intro W base args ds gs before hval hW _ hsz0 _
  have hsz : (DataW.weightsEach Try.prog (Try.f14.params.toList ++ Rows.bootAllocsSpec.plain.varTypes Try.prog) (ds ++ gs)).all (· ≤ reachBytes) = true := hsz0
  clear hsz0
  have hW' := hW
  obtain ⟨p, q, hA0, hV, rfl, _, _⟩ := hW
  have hA : DataW.TrodAll enc Try.prog W 0 (fun _ => true) true Try.f14.params.toList args.toList ds p := hA0
  have hval : ∀ (j : Nat) t v, Try.f14.params[j]? = some t → args[j]? = some v → Value.okWide Try.prog W .any base t v := hval
  rw [Try.params14] at hA hval hsz
  obtain ⟨v0, vs0, d0, ds0, p0, q0, hargs, rfl, rfl, h0, r0⟩ := trodAll_cons hA
  obtain ⟨v1, vs1, d1, ds1, p1, q1, rfl, rfl, rfl, h1, r1⟩ := trodAll_cons r0
  obtain ⟨v2, vs2, d2, ds2, p2, q2, rfl, rfl, rfl, h2, r2⟩ := trodAll_cons r1
  obtain ⟨v3, vs3, d3, ds3, p3, q3, rfl, rfl, rfl, h3, r3⟩ := trodAll_cons r2
  obtain ⟨v4, vs4, d4, ds4, p4, q4, rfl, rfl, rfl, h4, r4⟩ := trodAll_cons r3
  obtain ⟨v5, vs5, d5, ds5, p5, q5, rfl, rfl, rfl, h5, r5⟩ := trodAll_cons r4
  obtain ⟨rfl, rfl, rfl⟩ := trodAll_nil r5
  obtain rfl : args = #[v0, v1, v2, v3, v4, v5] := by cases args; simp_all
  obtain ⟨rfl, rfl⟩ := trodVars_none hV
  obtain ⟨e0, e1, y0, y1, m, rfl, rfl, rfl, hy0, hy1⟩ := open_agg2 Try.underlying48 (by kernel_rfl) (by kernel_rfl) (hval 0 48 v0 rfl rfl) h0
  obtain ⟨Ax, nx, cx, lx, ex, hlx, hcx, hmx, hgx, hdx⟩ := open_sl (t := 46) (by kernel_rfl) (fun _ _ _ => el_region) hy0
  obtain ⟨Ay, ny, cy, ly, ey, hly, hcy, hmy, hgy, hdy⟩ := open_sl (t := 46) (by kernel_rfl) (fun _ _ _ => el_region) hy1
  simp at ex ey
  subst ex ey
  unfold maxLen at hmx hmy
  have hB0 := bd_arg hsz (j := 0) (t := 48) rfl rfl
  have hbx := bd_sl (P := Try.prog) (t := 46) (b := 16) (by kernel_rfl) hdx (bd_field Try.underlying48 (j := 0) rfl rfl hB0)
  have hby := bd_sl (P := Try.prog) (t := 46) (b := 16) (by kernel_rfl) hdy (bd_field Try.underlying48 (j := 1) rfl rfl hB0)
  obtain ⟨x1, rfl, rfl, rfl, w1⟩ := open_int Try.underlying3 (hval 1 3 v1 rfl rfl) h1
  obtain ⟨x2, rfl, rfl, rfl, w2⟩ := open_int Try.underlying3 (hval 2 3 v2 rfl rfl) h2
  obtain ⟨x3, rfl, rfl, rfl, w3⟩ := open_int Try.underlying3 (hval 3 3 v3 rfl rfl) h3
  obtain ⟨x4, rfl, rfl, rfl, w4⟩ := open_int Try.underlying3 (hval 4 3 v4 rfl rfl) h4
  obtain ⟨x5, rfl, rfl, rfl⟩ := open_bool Try.underlying4 (hval 5 4 v5 rfl rfl) h5
  refine law_close laidOut (fun t ht => ?_) rfl Try.underlying4 rfl ⟨rfl, rfl, rfl⟩ hW' (bootAllocs_ans Ax nx cx Ay ny cy lx ly x1 x2 x3 x4 x5 W hlx hly (by omega) (by omega))
  rw [Try.params14] at ht
  simp only [List.mem_cons, List.not_mem_nil, or_false] at ht
  rcases ht with rfl | rfl | rfl | rfl | rfl | rfl
  all_goals exact ⟨by kernel_rfl, of_decide_eq_true (by kernel_rfl)⟩

set_option maxHeartbeats 4000000 in
/-- the row's closed facts -/
theorem bootAllocs_closed : joinedFacts Try.pinned.checked.prog 14 Try.f14 Rows.bootAllocsSpec Rows.bootAllocsRow = true := by
  simp only [joinedFacts, Bool.and_eq_true]
  repeat' apply And.intro
  rotate_left 24
  · exact factStops
  · exact factEnter
  · rw [factLifts]; kernel_rfl
  all_goals as_aux_lemma => kernel_rfl

theorem bootAllocs_holds : Rows.BootAllocsSaid :=
  OpenClaim.holds_of_wide 14 Try.f14 rfl rfl rfl rfl rfl rfl rfl ⟨rfl, rfl, rfl, rfl, rfl⟩ rfl rfl rfl rfl rfl (by kernel_rfl) Try.func14 bootAllocs_closed
    (of_decide_eq_true (by kernel_rfl)) (by unfold Func.isWrapper; first | (rw [if_pos (by decide +kernel)]; kernel_rfl) | (rw [if_neg (by decide +kernel)]; exact ⟨rfl, rfl⟩))
    (fun os started H enc _ => bootAllocs_lifted os started H enc)
end Go.Proofs.Ytfdmgflboibdoaa
