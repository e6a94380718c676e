/-
  Plain law: what a block's way back, and giving pages, answer; their sizes.
-/
import Derived.Test.YtfommgdbahemfaaDoorPBack
import Derived.Test.YtfommgdbahemfaaDoorZ1
set_option linter.unusedVariables false
namespace Go.Proofs.YtfommgdbahemfaaDoor

theorem backV_8 {z : Zone} {a o : Int} (h : zoneB z = false) : backV z a o = (8, .zero) := by simp [backV, h, Zone.zero]
theorem backV_1 {z : Zone} {a o : Int} (h : zoneB z = true) (hf : ¬ fitsZ z.From z.To a o) : backV z a o = (1, .zero) := by simp [backV, h, hf, Zone.zero]
theorem backV_5 {z : Zone} {a o : Int} (h : zoneB z = true) (hf : fitsZ z.From z.To a o) (ho : overB z.Free a o = true) : backV z a o = (5, .zero) := by simp [backV, h, hf, ho, Zone.zero]
theorem backV_0 {z : Zone} {a o : Int} (h : zoneB z = true) (hf : fitsZ z.From z.To a o) (ho : overB z.Free a o = false) {l : List Block} {a' o' : Int} (hj : joinL 5 z.Free a o = (l, a', o')) {t : Int} (ht : z.Types.getD ((a' - z.From) / 8).toNat 0 = t) :
    backV z a o = (0, ⟨z.From, z.To, insAt l (lbOf l a') ⟨a', o', t⟩, z.Types⟩) := by simp [backV, h, hf, ho, hj, ← ht]

theorem zone_len {z : Zone} (h : ZoneMay z) : z.Free.length ≤ 256 ∧ z.Types.length ≤ 32 := by
  have hu := zone_ups h
  have hok := h.ok
  unfold zoneOk at hok
  have key : ∀ (i : Nat) (hi : i < z.Free.length), (i : Int) ≤ (z.Free[i]).At := by
    intro i
    induction i with
    | zero =>
      intro hi
      have := (h.blk 0 hi).1
      unfold fitsZ at this
      omega
    | succ i ih =>
      intro hi
      have h1 := ih (by omega)
      have h2 := ups_get hu hi (Nat.lt_succ_self i)
      have h3 := (h.blk i (by omega)).1
      have := pw_le h3.1 h3.2.1
      omega
  refine ⟨?_, by have := h.len; omega⟩
  rcases Nat.eq_zero_or_pos z.Free.length with h0 | h0
  · omega
  · have h1 := key (z.Free.length - 1) (by omega)
    have h2 := (h.blk (z.Free.length - 1) (by omega)).1
    unfold fitsZ at h2
    omega

theorem backV_len (z : Zone) (a o : Int) : (backV z a o).2.Free.length ≤ 257 ∧ (backV z a o).2.Types.length ≤ 32 ∧ ((backV z a o).1 = 0 → (backV z a o).2.From = z.From ∧ (backV z a o).2.To = z.To ∧ (backV z a o).2.Types = z.Types) := by
  cases hq : zoneB z
  · rw [backV_8 hq]; simp [Zone.zero]
  · have hz := zoneB_iff.1 hq
    have hl := zone_len hz
    by_cases hf : fitsZ z.From z.To a o
    · cases ho : overB z.Free a o
      · have hJ := over_dis (f := 0) (t := 0) hz hf ho
        have hj := joinL_ok (by have := hz.ok; unfold zoneOk at this; omega) 5 hJ
        obtain ⟨⟨l, a', o'⟩, hq2⟩ : ∃ u, joinL 5 z.Free a o = u := ⟨_, rfl⟩
        rw [hq2] at hj
        rw [backV_0 hq hf ho hq2 rfl]
        have h3 := hj.2
        simp only [insAt, List.length_append, List.length_take, List.length_drop, List.length_singleton] at h3 ⊢
        exact ⟨by omega, hl.2, fun _ => by simp⟩
      · rw [backV_5 hq hf ho]; simp [Zone.zero]
    · rw [backV_1 hq hf]; simp [Zone.zero]

/-- P3.6 -/
noncomputable def giveL : Nat → Zone → Int → Int × Zone
  | 0, z, _ => (0, z)
  | k + 1, z, p => if (backV z p 0).1 = 0 then giveL k (backV z p 0).2 (p + 1) else ((backV z p 0).1, .zero)
def giveArgs (z : Zone) (f s : Int) : Prop := 0 ≤ s ∧ z.From ≤ f ∧ f ≤ z.To ∧ s ≤ z.To - f
instance (z : Zone) (f s : Int) : Decidable (giveArgs z f s) := inferInstanceAs (Decidable (_ ∧ _))
noncomputable def giveV (z : Zone) (f s : Int) : Int × Zone := if zoneB z then (if giveArgs z f s then giveL s.toNat z f else (1, .zero)) else (8, .zero)
theorem giveV_8 {z : Zone} {f s : Int} (h : zoneB z = false) : giveV z f s = (8, .zero) := by simp [giveV, h]
theorem giveV_1 {z : Zone} {f s : Int} (h : zoneB z = true) (ha : ¬ giveArgs z f s) : giveV z f s = (1, .zero) := by simp [giveV, h, ha]
theorem giveV_0 {z : Zone} {f : Int} {k : Nat} (h : zoneB z = true) (ha : giveArgs z f (k : Int)) : giveV z f (k : Int) = giveL k z f := by simp [giveV, h, ha]
theorem giveL_len : ∀ (k : Nat) (z : Zone) (p : Int), z.Free.length ≤ 257 → z.Types.length ≤ 32 → (giveL k z p).2.Free.length ≤ 257 ∧ (giveL k z p).2.Types.length ≤ 32
  | 0, z, p, h1, h2 => ⟨h1, h2⟩
  | k + 1, z, p, h1, h2 => by
    simp only [giveL]
    have := backV_len z p 0
    split
    · exact giveL_len k _ _ this.1 this.2.1
    · simp [Zone.zero]

theorem giveV_len (z : Zone) (f s : Int) : (giveV z f s).2.Free.length ≤ 257 ∧ (giveV z f s).2.Types.length ≤ 32 := by
  unfold giveV
  split
  · rename_i h
    have := zone_len (zoneB_iff.1 h)
    split
    · exact giveL_len _ _ _ (by omega) (by omega)
    · simp [Zone.zero]
  · simp [Zone.zero]
theorem backV_len2 (z : Zone) (f s : Int) : (backV z f s).2.Free.length ≤ 257 ∧ (backV z f s).2.Types.length ≤ 32 := ⟨(backV_len z f s).1, (backV_len z f s).2.1⟩
end Go.Proofs.YtfommgdbahemfaaDoor
