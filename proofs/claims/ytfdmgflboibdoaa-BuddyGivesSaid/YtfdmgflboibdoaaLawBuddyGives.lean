/-
  BuddyGives: for every input the law returns true, and each argument reads afterwards as it read before. No condition.
-/
import Derived.Test.YtfdmgflboibdoaaFact
import Derived.Test.YtfdmgflboibdoaaOpen
import Derived.Test.YtfdmgflboibdoaaI6
set_option linter.unusedVariables false
namespace Go.Proofs.Ytfdmgflboibdoaa
open Go.ChangeShapes Go.WideShapes Go.ChangeAt Go.RowKit Go.Deep Go.Joins

set_option maxRecDepth 100000 in
theorem buddyGives_lifted (os : Os) (started : os.Started) (H : Type) (enc : TypeId × Value → H) :
    ReturnsInHanded {} Try.checked os 17 .any (Rows.buddyGivesSpec.pre6 enc Try.prog Try.f17 Rows.buddyGivesRow.domain false) (Rows.buddyGivesSpec.post enc Try.prog Try.f17 false true false false) := by
  refine returnsInHanded_of_change_sized (C := Try.checked) own started (by kernel_rfl) Try.func17
    (ChangeSpec.witness6 (enc := enc) (C := Try.checked) false ⟨#[], #[.agg #[.int .i64 0, .int .i64 0, .slice none 0 0, .slice none 0 0], .int .i64 0, .int .i64 0], []⟩ 8 (by kernel_rfl) (by kernel_rfl) (by kernel_rfl) (by kernel_rfl)) ?_
  intro W base args ds gs before hval hW _ hsz0 _
  have hsz : (DataW.weightsEach Try.prog (Try.f17.params.toList ++ Rows.buddyGivesSpec.plain.varTypes Try.prog) (ds ++ gs)).all (· ≤ reachBytes) = true := hsz0
  clear hsz0
  have hW' := hW
  obtain ⟨p, q, hA0, hV, rfl, _, _⟩ := hW
  have hA : DataW.TrodAll enc Try.prog W 0 (fun _ => true) true Try.f17.params.toList args.toList ds p := hA0
  have hval : ∀ (j : Nat) t v, Try.f17.params[j]? = some t → args[j]? = some v → Value.okWide Try.prog W .any base t v := hval
  rw [Try.params17] at hA hval hsz
  obtain ⟨v0, vs0, d0, ds0, p0, q0, hargs, rfl, rfl, h0, r0⟩ := trodAll_cons hA
  obtain ⟨v1, vs1, d1, ds1, p1, q1, rfl, rfl, rfl, h1, r1⟩ := trodAll_cons r0
  obtain ⟨v2, vs2, d2, ds2, p2, q2, rfl, rfl, rfl, h2, r2⟩ := trodAll_cons r1
  obtain ⟨rfl, rfl, rfl⟩ := trodAll_nil r2
  obtain rfl : args = #[v0, v1, v2] := by cases args; simp_all
  obtain ⟨rfl, rfl⟩ := trodVars_none hV
  obtain ⟨e0, e1, e2, e3, y0, y1, y2, y3, m, rfl, rfl, rfl, hy0, hy1, hy2, hy3⟩ := open_agg4 Try.underlying38 (by kernel_rfl) (by kernel_rfl) (hval 0 38 v0 rfl rfl) h0
  obtain ⟨zF, g0, rfl, zw0⟩ := DataW.trod_int Try.underlying3 hy0
  obtain ⟨zT, g1, rfl, zw1⟩ := DataW.trod_int Try.underlying3 hy1
  obtain ⟨Af, nf, cf, lf, ef, hlf, hcf, hmf, hgf, hdf⟩ := open_sl (t := 25) (by kernel_rfl) (fun _ _ _ => el_block) hy2
  obtain ⟨At, nt, ct, lt, et, hlt, hct, hmt, hgt, hdt⟩ := open_sl (t := 23) (by kernel_rfl) (fun _ _ _ => el_int Try.underlying3) hy3
  simp at g0 g1 ef et
  subst g0 g1 ef et
  have hB0 := bd_arg hsz (j := 0) (t := 38) rfl rfl
  have hbf := bd_sl (P := Try.prog) (t := 25) (b := 24) (by kernel_rfl) hdf (bd_field Try.underlying38 (j := 2) rfl rfl hB0)
  have hbt := bd_sl (P := Try.prog) (t := 23) (b := 8) (by kernel_rfl) hdt (bd_field Try.underlying38 (j := 3) rfl rfl hB0)
  have hRd : RdZ W ⟨zF, zT, ⟨Af, nf, cf⟩, ⟨At, nt, ct⟩⟩ ⟨zF, zT, lf, lt⟩ := ⟨rfl, rfl, hlf, hlt⟩
  obtain ⟨x1, rfl, rfl, rfl, w1⟩ := open_int Try.underlying3 (hval 1 3 v1 rfl rfl) h1
  obtain ⟨x2, rfl, rfl, rfl, w2⟩ := open_int Try.underlying3 (hval 2 3 v2 rfl rfl) h2
  refine law_close laidOut (fun t ht => ?_) rfl Try.underlying4 rfl ⟨rfl, rfl, rfl⟩ hW' (lawBuddyGives_ans _ _ x1 x2 W hRd (by simp only; omega) (by simp only; omega) (in64_of_wf zw0) (in64_of_wf zw1))
  rw [Try.params17] at ht
  simp only [List.mem_cons, List.not_mem_nil, or_false] at ht
  rcases ht with rfl | rfl | rfl
  all_goals exact ⟨by kernel_rfl, of_decide_eq_true (by kernel_rfl)⟩

set_option maxHeartbeats 4000000 in
/-- the row's closed facts -/
theorem buddyGives_closed : joinedFacts Try.pinned.checked.prog 17 Try.f17 Rows.buddyGivesSpec Rows.buddyGivesRow = true := by
  simp only [joinedFacts, Bool.and_eq_true]
  repeat' apply And.intro
  rotate_left 24
  · exact factStops
  · exact factEnter
  · rw [factLifts]; kernel_rfl
  all_goals as_aux_lemma => kernel_rfl

theorem buddyGives_holds : Rows.BuddyGivesSaid :=
  OpenClaim.holds_of_wide 17 Try.f17 rfl rfl rfl rfl rfl rfl rfl ⟨rfl, rfl, rfl, rfl, rfl⟩ rfl rfl rfl rfl rfl (by kernel_rfl) Try.func17 buddyGives_closed
    (of_decide_eq_true (by kernel_rfl)) (by unfold Func.isWrapper; first | (rw [if_pos (by decide +kernel)]; kernel_rfl) | (rw [if_neg (by decide +kernel)]; exact ⟨rfl, rfl⟩))
    (fun os started H enc _ => buddyGives_lifted os started H enc)
end Go.Proofs.Ytfdmgflboibdoaa
