/-
  What the tied condition on the package-level tables gives the walks.
-/
import Derived.Test.YtfommgdbahemfaaDoorRows
import Derived.Test.YtfommgdbahemfaaDoorT2
import Derived.ProofKit
import Derived.LaidMore
import Derived.OpenShut
import Derived.Stop.Joined
set_option linter.unusedVariables false
namespace Go.Proofs.YtfommgdbahemfaaDoor
open Go.RowKit

theorem others_named : Tryd.prog.globalNamed "paddock/buddy.others" = some 0 := by kernel_rfl
theorem others_type : (Tryd.prog.globals[0]?).map (·.type) = some 52 := by kernel_rfl

set_option maxRecDepth 100000 in
/-- the table of other types, cell by cell -/
theorem others_cells {W : World} {cs : List Value} {fuel : Nat} {p : List MemPlace} {enc : TypeId × Value → Unit} {base : Nat} {spare : Nat → Bool} {held : Bool} (h : DataW.trod enc Tryd.prog W base spare held fuel 52 cs = some (Rows.laid_paddock_buddy_others, p)) :
    cs = [.int .i64 2, .int .i64 1, .int .i64 2, .int .i64 0, .int .i64 0, .int .i64 1] := by
  have c2 : Tryd.prog.cellsOf 51 = 2 := by kernel_rfl
  have c6 : Tryd.prog.cellsOf 52 = 6 := by kernel_rfl
  have c1 : Tryd.prog.cellsOf 3 = 1 := by kernel_rfl
  obtain ⟨xs, m, rfl, hx, hlen, hn, hel⟩ := DataW.trod_array Tryd.underlying52 h
  rw [c6] at hlen
  rw [c2] at hel
  simp only [Prod.mk.injEq] at hx
  have pair : ∀ (a b : Value) (u v : Int) (x : DataW Unit × List MemPlace), DataW.trod enc Tryd.prog W base spare held m 51 [a, b] = some x → x.1 = .agg [.lit (.int .i64 u), .lit (.int .i64 v)] → a = .int .i64 u ∧ b = .int .i64 v := by
    intro a b u v x hx e
    obtain ⟨ys, k, rfl, rfl, _, hk, he⟩ := DataW.trod_array Tryd.underlying51 hx
    rw [c1] at he
    match ys, hk with
    | [y0, y1], _ =>
      have h0 := he 0 (by decide)
      have h1 := he 1 (by decide)
      obtain ⟨z0, e0, f0, _⟩ := DataW.trod_int Tryd.underlying3 (show DataW.trod enc Tryd.prog W base spare held k 3 [a] = some y0 from h0)
      obtain ⟨z1, e1, f1, _⟩ := DataW.trod_int Tryd.underlying3 (show DataW.trod enc Tryd.prog W base spare held k 3 [b] = some y1 from h1)
      rw [f0, f1] at e
      simp at e e0 e1
      rw [e0, e1, e.1, e.2]
      exact ⟨rfl, rfl⟩
  match cs, hlen, xs, hn with
  | [a, b, c, d, e, f], _, [x0, x1, x2], _ =>
    have h0 := hel 0 (by decide)
    have h1 := hel 1 (by decide)
    have h2 := hel 2 (by decide)
    have hx1 := hx.1
    simp only [Rows.laid_paddock_buddy_others, List.map_cons, List.map_nil, DataW.agg.injEq, List.cons.injEq, and_true] at hx1
    obtain ⟨rfl, rfl⟩ := pair a b 2 1 x0 h0 hx1.1.symm
    obtain ⟨rfl, rfl⟩ := pair c d 2 0 x1 h1 hx1.2.1.symm
    obtain ⟨rfl, rfl⟩ := pair e f 0 1 x2 h2 hx1.2.2.symm
    rfl
theorem oth_of_laid {W : World} (h : laidMetH Tryd.prog [("paddock/buddy.others", Rows.laid_paddock_buddy_others)] W) : OthW W := by
  rw [MakeChecks.laidMetH_plain _ _ _ (by kernel_rfl)] at h
  obtain ⟨ps, ⟨g0, t0, cs0, f0, p0, q0, hg0, ht0, hv0, hd0, _⟩, _, _⟩ := h
  obtain rfl := Option.some.inj (others_named.symm.trans hg0)
  obtain rfl := Option.some.inj (others_type.symm.trans ht0)
  have hc := others_cells hd0
  refine ⟨fun k hk j v hv => ?_⟩
  have hcell : ∀ i, W.cell? ⟨0, i, none⟩ = cs0.toList[i]? := fun i => by
    have := World.var?_cell hg0 hv0 i
    simpa using this
  rw [add_add, addr_of, hcell, hc]
  rcases (show k = 0 ∨ k = 1 ∨ k = 2 by omega) with rfl | rfl | rfl
  all_goals
    match j, hv with
    | 0, hv => simpa [oth1, oth2] using hv
    | 1, hv => simpa [oth1, oth2] using hv
end Go.Proofs.YtfommgdbahemfaaDoor
