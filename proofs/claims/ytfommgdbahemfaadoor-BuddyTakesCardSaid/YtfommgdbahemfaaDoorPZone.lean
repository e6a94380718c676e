/-
  Plain law: when a zone may be; the block beside a block.
-/
import Derived.Test.YtfommgdbahemfaaDoorData
set_option linter.unusedVariables false
namespace Go.Proofs.YtfommgdbahemfaaDoor

/-- 2^o -/
def pw (o : Int) : Int := 2 ^ o.toNat
theorem pw_cases {o : Int} (h0 : 0 ≤ o) (h4 : o ≤ 4) : (o = 0 ∧ pw o = 1) ∨ (o = 1 ∧ pw o = 2) ∨ (o = 2 ∧ pw o = 4) ∨ (o = 3 ∧ pw o = 8) ∨ (o = 4 ∧ pw o = 16) := by
  have : o = 0 ∨ o = 1 ∨ o = 2 ∨ o = 3 ∨ o = 4 := by omega
  rcases this with rfl | rfl | rfl | rfl | rfl <;> decide
theorem pw_le {o : Int} (h0 : 0 ≤ o) (h4 : o ≤ 4) : 1 ≤ pw o ∧ pw o ≤ 16 := by rcases pw_cases h0 h4 with h | h | h | h | h <;> omega
theorem pw_succ {o : Int} (h0 : 0 ≤ o) (h4 : o ≤ 4) : pw (o + 1) = 2 * pw o := by
  have : o = 0 ∨ o = 1 ∨ o = 2 ∨ o = 3 ∨ o = 4 := by omega
  rcases this with rfl | rfl | rfl | rfl | rfl <;> decide

/-- the block beside -/
def beside (a o : Int) : Int := if a % (2 * pw o) = 0 then a + pw o else a - pw o
theorem xor_fact : ∀ a < 256, ∀ o < 4, a % 2 ^ o = 0 → ((a ^^^ 2 ^ o : Nat) : Int) = if (a : Int) % (2 * 2 ^ o) = 0 then (a : Int) + 2 ^ o else (a : Int) - 2 ^ o := by decide +kernel
theorem xor_beside {a : Nat} {o : Int} (ha : a < 256) (h0 : 0 ≤ o) (h4 : o < 4) (h : (a : Int) % pw o = 0) : ((a ^^^ 2 ^ o.toNat : Nat) : Int) = beside a o := by
  have : o = 0 ∨ o = 1 ∨ o = 2 ∨ o = 3 := by omega
  rcases this with rfl | rfl | rfl | rfl
  · exact xor_fact a ha 0 (by omega) (by simp only [pw] at h; omega)
  · exact xor_fact a ha 1 (by omega) (by have : pw 1 = 2 := by decide
                                         rw [this] at h; simp; omega)
  · exact xor_fact a ha 2 (by omega) (by have : pw 2 = 4 := by decide
                                         rw [this] at h; simp; omega)
  · exact xor_fact a ha 3 (by omega) (by have : pw 3 = 8 := by decide
                                         rw [this] at h; simp; omega)

/-- P3.2: a block may be in a zone -/
def fitsZ (f t a o : Int) : Prop := 0 ≤ o ∧ o ≤ 4 ∧ f ≤ a ∧ a < t ∧ a % pw o = 0
instance (f t a o : Int) : Decidable (fitsZ f t a o) := inferInstanceAs (Decidable (_ ∧ _))
def tyOk (t : Int) : Prop := 0 ≤ t ∧ t ≤ 2
instance (t : Int) : Decidable (tyOk t) := inferInstanceAs (Decidable (_ ∧ _))
/-- a block and the next one -/
def nextOk (a b : Block) : Prop := a.At + pw a.Order ≤ b.At ∧ ¬ (b.Order < 4 ∧ a.Order = b.Order ∧ a.At = beside b.At b.Order)
instance (a b : Block) : Decidable (nextOk a b) := inferInstanceAs (Decidable (_ ∧ _))
def blkOk (f t : Int) (b : Block) : Prop := fitsZ f t b.At b.Order ∧ tyOk b.Ty
instance (f t : Int) (b : Block) : Decidable (blkOk f t b) := inferInstanceAs (Decidable (_ ∧ _))

/-- P3.1 -/
def zoneOk (f t : Int) : Prop := 0 ≤ f ∧ f ≤ t ∧ t ≤ 256 ∧ f % 16 = 0 ∧ t % 16 = 0
instance (f t : Int) : Decidable (zoneOk f t) := inferInstanceAs (Decidable (_ ∧ _))

/-- P3.3 -/
structure ZoneMay (z : Zone) : Prop where
  ok : zoneOk z.From z.To
  len : 8 * (z.Types.length : Int) = z.To - z.From
  types : ∀ t ∈ z.Types, tyOk t
  blk : ∀ (i : Nat) (h : i < z.Free.length), blkOk z.From z.To z.Free[i]
  next : ∀ (i : Nat) (h : i + 1 < z.Free.length), nextOk z.Free[i] z.Free[i + 1]
noncomputable def zoneB (z : Zone) : Bool := @decide (ZoneMay z) (Classical.propDecidable _)
theorem zoneB_t {z : Zone} (h : ZoneMay z) : zoneB z = true := by unfold zoneB; exact @decide_eq_true _ (Classical.propDecidable _) h
theorem zoneB_f {z : Zone} (h : ¬ ZoneMay z) : zoneB z = false := by unfold zoneB; exact @decide_eq_false _ (Classical.propDecidable _) h
theorem zoneB_iff {z : Zone} : zoneB z = true ↔ ZoneMay z := by
  by_cases h : ZoneMay z
  · simp [zoneB_t h, h]
  · simp [zoneB_f h, h]

/-- the reference's words for two buddies -/
theorem next_ref {f t : Int} {a b : Block} (ha : blkOk f t a) (hb : blkOk f t b) (h : a.At + pw a.Order ≤ b.At) :
    (b.Order < 4 ∧ a.Order = b.Order ∧ a.At = beside b.At b.Order) ↔ (b.Order < 4 ∧ a.Order = b.Order ∧ a.At + pw b.Order = b.At ∧ a.At % pw (b.Order + 1) = 0) := by
  obtain ⟨⟨h1, h2, h3, h4, h5⟩, _⟩ := ha
  obtain ⟨⟨g1, g2, g3, g4, g5⟩, _⟩ := hb
  rw [pw_succ g1 g2]
  unfold beside
  constructor
  · rintro ⟨e1, e2, e3⟩
    refine ⟨e1, e2, ?_⟩
    rw [e2] at h5 h
    have hp := pw_cases g1 g2
    generalize pw b.Order = q at *
    rcases hp with ⟨e, rfl⟩ | ⟨e, rfl⟩ | ⟨e, rfl⟩ | ⟨e, rfl⟩ | ⟨e, rfl⟩ <;> split at e3 <;> omega
  · rintro ⟨e1, e2, e3, e4⟩
    refine ⟨e1, e2, ?_⟩
    rw [e2] at h5 h
    have hp := pw_cases g1 g2
    generalize pw b.Order = q at *
    rcases hp with ⟨e, rfl⟩ | ⟨e, rfl⟩ | ⟨e, rfl⟩ | ⟨e, rfl⟩ | ⟨e, rfl⟩ <;> split <;> omega

/-- the place of the first one of which p holds; -1: none -/
def idxOf {α : Type} (p : α → Bool) (l : List α) : Int := if l.any p then (l.findIdx p : Int) else -1
/-- how many pages -/
def pagesOf (l : List Block) : Int := (l.map fun b => pw b.Order).sum
theorem pagesOf_take (l : List Block) (k : Nat) (h : k < l.length) : pagesOf (l.take (k + 1)) = pagesOf (l.take k) + pw l[k].Order := by
  unfold pagesOf
  rw [List.take_succ_eq_append_getElem h, List.map_append, List.sum_append]
  simp
theorem pagesOf_bound {z : Zone} (h : ZoneMay z) : ∀ k, k ≤ z.Free.length → 0 ≤ pagesOf (z.Free.take k) ∧ pagesOf (z.Free.take k) ≤ 16 * (k : Int)
  | 0, _ => by simp [pagesOf]
  | k + 1, hk => by
    have ih := pagesOf_bound h k (by omega)
    have hb := (h.blk k (by omega)).1
    have := pw_le hb.1 hb.2.1
    rw [pagesOf_take _ _ (by omega)]
    omega
theorem typeIdx {z : Zone} {a : Int} (hz : ZoneMay z) (h1 : z.From ≤ a) (h2 : a < z.To) : ∃ k : Nat, (a - z.From) / 8 = k ∧ k < z.Types.length := by
  have := hz.len
  exact ⟨((a - z.From) / 8).toNat, by omega, by omega⟩
end Go.Proofs.YtfommgdbahemfaaDoor
