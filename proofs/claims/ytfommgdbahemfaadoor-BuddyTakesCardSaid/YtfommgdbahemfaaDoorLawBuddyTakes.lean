/-
  BuddyTakes: for every input the law returns true, and each argument reads afterwards as it read before. No condition.
-/
import Derived.Test.YtfommgdbahemfaaDoorTie
import Derived.Test.YtfommgdbahemfaaDoorCards
import Derived.SevenTiedAt
import Derived.Test.YtfommgdbahemfaaDoorTied
import Derived.Test.YtfommgdbahemfaaDoorFact
import Derived.Test.YtfommgdbahemfaaDoorOpen
import Derived.Test.YtfommgdbahemfaaDoorT5
set_option linter.unusedVariables false
namespace Go.Proofs.YtfommgdbahemfaaDoor
open Go.ChangeShapes Go.WideShapes Go.ChangeAt Go.RowKit Go.Deep Go.Joins

set_option maxRecDepth 100000 in
theorem buddyTakes_lifted (os : Os) (started : os.Started) (H : Type) (enc : TypeId × Value → H) :
    ReturnsInHanded {} Tryd.checked os 3 .any (fun w args => (Rows.buddyTakesSpec.pre enc Tryd.prog Tryd.f3 [] false w args ∧ laidMetH Tryd.prog Rows.buddyTakesRow.laid w) ∧ sizedMet enc Tryd.prog Tryd.f3 (OpenSpec.ofChange Rows.buddyTakesSpec) false w args) (Rows.buddyTakesSpec.post enc Tryd.prog Tryd.f3 false true false false) := by
  refine returnsInHanded_of_change_and (C := Tryd.checked) (X := fun w _ => laidMetH Tryd.prog Rows.buddyTakesRow.laid w) (fun _ _ _ hh h => h.of_heap hh) own started (by kernel_rfl) Tryd.func3
    (ChangeSpec.witness_shaped (enc := enc) (C := Tryd.checked) (os := os) (X := fun w _ => laidMetH Tryd.prog Rows.buddyTakesRow.laid w) false (World.doorLaid Tryd.prog 400 os) #[.agg #[.int .i64 0, .int .i64 0, .slice none 0 0, .slice none 0 0], .int .i64 0, .int .i64 0] 8 rfl (World.shaped_of_RefB (by kernel_rfl) (by kernel_rfl)) (by kernel_rfl) (by kernel_rfl) (by kernel_rfl)
      (laidMetH_of_parts3 (fuel := 8) (laidMet_of_run' 8 (by kernel_rfl) (by kernel_rfl)) (by kernel_rfl) (by kernel_rfl))) ?_
  intro W base args ds gs before hval hW _ hsz0 hL _
  have hsz : (DataW.weightsEach Tryd.prog (Tryd.f3.params.toList ++ Rows.buddyTakesSpec.plain.varTypes Tryd.prog) (ds ++ gs)).all (· ≤ reachBytes) = true := hsz0
  clear hsz0
  have hW' := hW
  obtain ⟨p, q, hA0, hV, rfl, _, _⟩ := hW
  have hA : DataW.TrodAll enc Tryd.prog W 0 (fun _ => true) true Tryd.f3.params.toList args.toList ds p := hA0
  have hval : ∀ (j : Nat) t v, Tryd.f3.params[j]? = some t → args[j]? = some v → Value.okWide Tryd.prog W .any base t v := hval
  rw [Tryd.params3] at hA hval hsz
  obtain ⟨v0, vs0, d0, ds0, p0, q0, hargs, rfl, rfl, h0, r0⟩ := trodAll_cons hA
  obtain ⟨v1, vs1, d1, ds1, p1, q1, rfl, rfl, rfl, h1, r1⟩ := trodAll_cons r0
  obtain ⟨v2, vs2, d2, ds2, p2, q2, rfl, rfl, rfl, h2, r2⟩ := trodAll_cons r1
  obtain ⟨rfl, rfl, rfl⟩ := trodAll_nil r2
  obtain rfl : args = #[v0, v1, v2] := by cases args; simp_all
  obtain ⟨rfl, rfl⟩ := trodVars_none hV
  obtain ⟨e0, e1, e2, e3, y0, y1, y2, y3, m, rfl, rfl, rfl, hy0, hy1, hy2, hy3⟩ := open_agg4 Tryd.underlying25 (by kernel_rfl) (by kernel_rfl) (hval 0 25 v0 rfl rfl) h0
  obtain ⟨zF, g0, rfl, zw0⟩ := DataW.trod_int Tryd.underlying3 hy0
  obtain ⟨zT, g1, rfl, zw1⟩ := DataW.trod_int Tryd.underlying3 hy1
  obtain ⟨Af, nf, cf, lf, ef, hlf, hcf, hmf, hgf, hdf⟩ := open_sl (t := 22) (by kernel_rfl) (fun _ _ _ => el_block) hy2
  obtain ⟨At, nt, ct, lt, et, hlt, hct, hmt, hgt, hdt⟩ := open_sl (t := 23) (by kernel_rfl) (fun _ _ _ => el_int Tryd.underlying3) hy3
  simp at g0 g1 ef et
  subst g0 g1 ef et
  have hB0 := bd_arg hsz (j := 0) (t := 25) rfl rfl
  have hbf := bd_sl (P := Tryd.prog) (t := 22) (b := 24) (by kernel_rfl) hdf (bd_field Tryd.underlying25 (j := 2) rfl rfl hB0)
  have hbt := bd_sl (P := Tryd.prog) (t := 23) (b := 8) (by kernel_rfl) hdt (bd_field Tryd.underlying25 (j := 3) rfl rfl hB0)
  have hRd : RdZ W ⟨zF, zT, ⟨Af, nf, cf⟩, ⟨At, nt, ct⟩⟩ ⟨zF, zT, lf, lt⟩ := ⟨rfl, rfl, hlf, hlt⟩
  obtain ⟨x1, rfl, rfl, rfl, w1⟩ := open_int Tryd.underlying3 (hval 1 3 v1 rfl rfl) h1
  obtain ⟨x2, rfl, rfl, rfl, w2⟩ := open_int Tryd.underlying3 (hval 2 3 v2 rfl rfl) h2
  refine law_close laidOut (fun t ht => ?_) rfl Tryd.underlying4 rfl ⟨rfl, rfl, rfl⟩ hW' (buddyTakes_ans _ _ x1 x2 W hRd (by simp only; omega) (by simp only; omega) (in64_of_wf zw0) (in64_of_wf zw1) (oth_of_laid hL))
  rw [Tryd.params3] at ht
  simp only [List.mem_cons, List.not_mem_nil, or_false] at ht
  rcases ht with rfl | rfl | rfl
  all_goals exact ⟨by kernel_rfl, of_decide_eq_true (by kernel_rfl)⟩

set_option maxHeartbeats 4000000 in
/-- the row's closed facts -/
theorem buddyTakes_closed : joinedFacts Tryd.pinned.checked.prog 3 Tryd.f3 Rows.buddyTakesSpec Rows.buddyTakesRow = true := by
  simp only [joinedFacts, Bool.and_eq_true]
  repeat' apply And.intro
  rotate_left 24
  · exact factStops
  · exact factEnter
  · rw [factLifts]; kernel_rfl
  all_goals as_aux_lemma => kernel_rfl

theorem buddyTakes_row : Rows.BuddyTakesSaid :=
  OpenClaim.holds_of_wide 3 Tryd.f3 rfl rfl rfl rfl rfl rfl rfl ⟨rfl, rfl, rfl, rfl, rfl⟩ rfl rfl rfl rfl rfl (by kernel_rfl) Tryd.func3 buddyTakes_closed
    (of_decide_eq_true (by kernel_rfl)) (by unfold Func.isWrapper; first | (rw [if_pos (by decide +kernel)]; kernel_rfl) | (rw [if_neg (by decide +kernel)]; exact ⟨rfl, rfl⟩))
    (fun os started H enc _ => buddyTakes_lifted os started H enc)

set_option maxRecDepth 100000 in
theorem buddyTakes_holds : Rows.BuddyTakesCardSaid :=
  Claim7.holds_tied_plain_at .later [] [.data] true (true, "7f2a76b8b87a3eb2b03a2ece7eae2f71c974352255d0550cde437df0b2a901c5") false
    buddyTakes_row (fun _ h => by cases h) (by kernel_rfl) (fun _ h => by cases h) buddyTakes_row_tie rfl ⟨rfl, rfl⟩ (by kernel_rfl) rfl
    (fun f fn hf hfn => by
      obtain rfl : f = 3 := Option.some.inj ((show Tryd.prog.funcNamed "paddock/paddocklaw.BuddyTakes" = some 3 by kernel_rfl).symm.trans hf) |>.symm
      obtain rfl : fn = Tryd.f3 := (Option.some.inj (Tryd.func3.symm.trans hfn)).symm
      exact ⟨by kernel_rfl, fun j t ht => by
        rw [Tryd.params3] at ht
        have hm : t ∈ [25, 3, 3] := by simpa using Array.mem_of_getElem? ht
        have hall : ([25, 3, 3].all fun u => !Tryd.prog.wantsStandIn u) = true := by kernel_rfl
        exact (show Tryd.prog.wantsStandIn t = false by simpa using List.all_eq_true.1 hall t hm)⟩)
    (by kernel_rfl)
end Go.Proofs.YtfommgdbahemfaaDoor
