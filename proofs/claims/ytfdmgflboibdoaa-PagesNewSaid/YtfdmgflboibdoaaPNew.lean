/-
  Plain law: the pages of regions given one by one are the reference's pages given in order.
-/
import Derived.Test.YtfdmgflboibdoaaPGive
import Derived.Test.YtfdmgflboibdoaaR7
import Derived.Test.YtfdmgflboibdoaaPBoot
set_option linter.unusedVariables false
namespace Go.Proofs.Ytfdmgflboibdoaa

noncomputable def stepZ (z : Zone) (p : Int) : Zone := (backV z p 0).2
noncomputable def foldZ : Nat → Zone → Int → Zone
  | 0, z, _ => z
  | k + 1, z, p => foldZ k (stepZ z p) (p + 1)
theorem foldZ_last : ∀ (k : Nat) (z : Zone) (p : Int), foldZ (k + 1) z p = stepZ (foldZ k z p) (p + k)
  | 0, z, p => by simp [foldZ]
  | k + 1, z, p => by
    rw [foldZ, foldZ_last k, foldZ]
    congr 1
    omega
theorem backV_ne {z : Zone} {p o : Int} (h : (backV z p o).1 ≠ 0) : (backV z p o).2 = .zero := by
  cases hq : zoneB z
  · rw [backV_8 hq]
  · by_cases hf : fitsZ z.From z.To p o
    · cases ho : overB z.Free p o
      · exfalso
        obtain ⟨⟨l, a', o'⟩, hj⟩ : ∃ u, joinL 5 z.Free p o = u := ⟨_, rfl⟩
        rw [backV_0 hq hf ho hj rfl] at h
        exact h rfl
      · rw [backV_5 hq hf ho]
    · rw [backV_1 hq hf]
theorem step_out {z : Zone} {p : Int} (h : p < z.From ∨ z.To ≤ p) : stepZ z p = .zero := by
  unfold stepZ
  cases hq : zoneB z
  · rw [backV_8 hq]
  · rw [backV_1 hq (fun hf => by unfold fitsZ at hf; omega)]
theorem step_zero (p : Int) : stepZ .zero p = .zero := step_out (by simp only [Zone.zero]; omega)
theorem fold_zero : ∀ (k : Nat) (p : Int), foldZ k .zero p = .zero
  | 0, _ => rfl
  | k + 1, p => by rw [foldZ, step_zero, fold_zero k]
theorem giveL_fold : ∀ (k : Nat) (z : Zone) (p : Int), (giveL k z p).2 = foldZ k z p
  | 0, _, _ => rfl
  | k + 1, z, p => by
    rw [giveL, foldZ]
    split
    · exact giveL_fold k _ _
    · rename_i h
      rw [stepZ, backV_ne h, fold_zero]
theorem fold_out : ∀ (k : Nat) (z : Zone) (p : Int), p ≤ z.To → z.To < p + k → foldZ k z p = .zero
  | 0, z, p, h1, h2 => by omega
  | k + 1, z, p, h1, h2 => by
    rw [foldZ]
    by_cases e : p = z.To
    · rw [step_out (by omega), fold_zero]
    · by_cases h : (backV z p 0).1 = 0
      · have := ((backV_len z p 0).2.2 h).2.1
        exact fold_out k _ _ (by rw [stepZ]; omega) (by rw [stepZ]; omega)
      · rw [stepZ, backV_ne h, fold_zero]
theorem give_fold {k : Nat} (z : Zone) (p : Int) (h : 0 < k) : (giveV z p (k : Int)).2 = foldZ k z p := by
  obtain ⟨k, rfl⟩ : ∃ m, k = m + 1 := ⟨k - 1, by omega⟩
  cases hq : zoneB z
  · rw [giveV_8 hq, foldZ, stepZ, backV_8 hq, fold_zero]
  · by_cases ha : giveArgs z p ((k + 1 : Nat) : Int)
    · rw [giveV_0 hq ha, giveL_fold]
    · rw [giveV_1 hq ha]
      unfold giveArgs at ha
      by_cases h1 : p < z.From ∨ z.To ≤ p
      · rw [foldZ, step_out h1, fold_zero]
      · exact (fold_out _ _ _ (by omega) (by omega)).symm

/-- P4.1: the zones after the first pages -/
noncomputable def newZ (l : List Region) (split : Int) : Nat → Zone × Zone
  | 0 => ((zoneNewV 0 split).2, (zoneNewV split 256).2)
  | p + 1 => if inReg l p then (if (p : Int) < split then (stepZ (newZ l split p).1 p, (newZ l split p).2) else ((newZ l split p).1, stepZ (newZ l split p).2 p)) else newZ l split p
theorem newZ_skip {l : List Region} {split : Int} {p : Nat} : ∀ n : Nat, (∀ i : Nat, i < n → inReg l ((p + i : Nat) : Int) = false) → newZ l split (p + n) = newZ l split p
  | 0, _ => rfl
  | n + 1, h => by
    rw [← Nat.add_assoc, newZ, h n (by omega), if_neg (by simp)]
    exact newZ_skip n fun i hi => h i (by omega)
theorem newZ_low {l : List Region} {split : Int} {p : Nat} : ∀ n : Nat, (∀ i : Nat, i < n → inReg l ((p + i : Nat) : Int) = true ∧ ((p + i : Nat) : Int) < split) → newZ l split (p + n) = (foldZ n (newZ l split p).1 p, (newZ l split p).2)
  | 0, _ => rfl
  | n + 1, h => by
    rw [← Nat.add_assoc, newZ, (h n (by omega)).1, if_pos rfl, if_pos (h n (by omega)).2, newZ_low n fun i hi => h i (by omega), foldZ_last]
    simp
theorem newZ_high {l : List Region} {split : Int} {p : Nat} : ∀ n : Nat, (∀ i : Nat, i < n → inReg l ((p + i : Nat) : Int) = true ∧ split ≤ ((p + i : Nat) : Int)) → newZ l split (p + n) = ((newZ l split p).1, foldZ n (newZ l split p).2 p)
  | 0, _ => rfl
  | n + 1, h => by
    rw [← Nat.add_assoc, newZ, (h n (by omega)).1, if_pos rfl, if_neg (by have := (h n (by omega)).2; omega), newZ_high n fun i hi => h i (by omega), foldZ_last]
    simp

/-- where the first k regions end -/
def stopOf (l : List Region) (k : Nat) : Int := match k with
  | 0 => 0
  | k + 1 => if h : k < l.length then l[k].From + l[k].Size else 256
theorem regs_mono {l : List Region} (h : regionsOk l) : ∀ (j : Nat) (hj : j < l.length) (i : Nat) (hi : i < j), (l[i]'(Nat.lt_trans hi hj)).From + (l[i]'(Nat.lt_trans hi hj)).Size < l[j].From
  | 0, _, i, hi => by omega
  | j + 1, hj, i, hi => by
    have h1 := (h.2 (j + 1) hj).2 (by omega)
    simp only [Nat.add_sub_cancel] at h1
    by_cases e : i = j
    · subst e; exact h1
    · have h2 := regs_mono h j (by omega) i (by omega)
      have h3 := (h.2 j (by omega)).1
      unfold Region.ok at h3
      omega
theorem stop_succ {l : List Region} {k : Nat} (hk : k < l.length) : stopOf l (k + 1) = l[k].From + l[k].Size := by simp only [stopOf, dif_pos hk]
theorem stop_bnd {l : List Region} (h : regionsOk l) {k : Nat} (hk : k < l.length) : 0 ≤ stopOf l k ∧ stopOf l k ≤ l[k].From := by
  have h0 := (h.2 k hk).1
  unfold Region.ok at h0
  cases k with
  | zero => simp only [stopOf]; omega
  | succ k =>
    have h1 := (h.2 k (by omega)).1
    unfold Region.ok at h1
    have h2 := regs_mono h (k + 1) hk k (by omega)
    simp only [stopOf, dif_pos (show k < l.length by omega)]
    omega
theorem inReg_between {l : List Region} (h : regionsOk l) {k : Nat} (hk : k ≤ l.length) {p : Int} (h1 : stopOf l k ≤ p) (h2 : ∀ hk : k < l.length, p < l[k].From) : inReg l p = false := by
  unfold inReg
  rw [List.any_eq_false]
  intro r hr
  obtain ⟨j, hj, rfl⟩ := List.getElem_of_mem hr
  have h0 := (h.2 j hj).1
  unfold Region.ok at h0
  simp only [Bool.and_eq_true, decide_eq_true_eq, not_and]
  intro h3 h4
  by_cases hjk : j < k
  · obtain ⟨m, rfl⟩ : ∃ m, k = m + 1 := ⟨k - 1, by omega⟩
    simp only [stopOf, dif_pos (show m < l.length by omega)] at h1
    by_cases e : j = m
    · subst e; omega
    · have h5 := regs_mono h m (by omega) j (by omega)
      have h6 := (h.2 m (by omega)).1
      unfold Region.ok at h6
      omega
  · have h5 := h2 (by omega)
    by_cases e : k = j
    · subst e; omega
    · have h6 := regs_mono h j hj k (by omega)
      have h7 := (h.2 k (by omega)).1
      unfold Region.ok at h7
      omega
theorem inReg_in {l : List Region} {k : Nat} (hk : k < l.length) {p : Int} (h1 : l[k].From ≤ p) (h2 : p < l[k].From + l[k].Size) : inReg l p = true := by
  unfold inReg
  rw [List.any_eq_true]
  exact ⟨l[k], List.getElem_mem hk, by simp; omega⟩

/-- how many of a region's pages lie ahead of the split -/
def belowOf (r : Region) (split : Int) : Int := max 0 (min (r.From + r.Size) split - r.From)
/-- the zones after the first regions -/
noncomputable def givenZ (l : List Region) (split : Int) (k : Nat) : Zone × Zone := newZ l split (stopOf l k).toNat
noncomputable def giveIf (z : Zone) (f s : Int) : Zone := if 0 < s then (giveV z f s).2 else z
theorem giveIf_t {z : Zone} {f s : Int} (h : 0 < s) : (giveV z f s).2 = giveIf z f s := by rw [giveIf, if_pos h]
theorem giveIf_f {z : Zone} {f s : Int} (h : ¬ 0 < s) : z = giveIf z f s := by rw [giveIf, if_neg h]
theorem given_succ {l : List Region} (h : regionsOk l) {split : Int} {k : Nat} (hk : k < l.length) :
    givenZ l split (k + 1) = (giveIf (givenZ l split k).1 l[k].From (belowOf l[k] split), giveIf (givenZ l split k).2 (l[k].From + belowOf l[k] split) (l[k].Size - belowOf l[k] split)) := by
  have h0 := (h.2 k hk).1
  unfold Region.ok at h0
  have hs := stop_bnd h hk
  have hb : 0 ≤ belowOf l[k] split ∧ belowOf l[k] split ≤ l[k].Size ∧ (0 < belowOf l[k] split → l[k].From + belowOf l[k] split ≤ split) ∧ (belowOf l[k] split < l[k].Size → split ≤ l[k].From + belowOf l[k] split) := by unfold belowOf; omega
  obtain ⟨b, hbe⟩ : ∃ b, belowOf l[k] split = b := ⟨_, rfl⟩
  rw [hbe] at hb ⊢
  obtain ⟨b1, b2, b3, b4⟩ := hb
  unfold givenZ
  have e1 : (stopOf l (k + 1)).toNat = ((stopOf l k).toNat + (l[k].From - stopOf l k).toNat + b.toNat) + (l[k].Size - b).toNat := by
    rw [stop_succ hk]; omega
  have e2 : ((stopOf l k).toNat + (l[k].From - stopOf l k).toNat : Nat) = l[k].From.toNat := by omega
  rw [e1, newZ_high (p := (stopOf l k).toNat + (l[k].From - stopOf l k).toNat + b.toNat) (l[k].Size - b).toNat, newZ_low (p := (stopOf l k).toNat + (l[k].From - stopOf l k).toNat) b.toNat, newZ_skip (p := (stopOf l k).toNat) (l[k].From - stopOf l k).toNat]
  · rw [e2]
    unfold giveIf
    have g1 : foldZ b.toNat (newZ l split (stopOf l k).toNat).1 (l[k].From.toNat : Int) = if 0 < b then (giveV (newZ l split (stopOf l k).toNat).1 l[k].From b).2 else (newZ l split (stopOf l k).toNat).1 := by
      split
      · have := give_fold (k := b.toNat) (newZ l split (stopOf l k).toNat).1 l[k].From (by omega)
        rw [Int.toNat_of_nonneg b1] at this
        rw [this, Int.toNat_of_nonneg (by omega)]
      · rw [show b.toNat = 0 by omega]; rfl
    have g2 : foldZ (l[k].Size - b).toNat (newZ l split (stopOf l k).toNat).2 ((l[k].From.toNat + b.toNat : Nat) : Int) = if 0 < l[k].Size - b then (giveV (newZ l split (stopOf l k).toNat).2 (l[k].From + b) (l[k].Size - b)).2 else (newZ l split (stopOf l k).toNat).2 := by
      split
      · have := give_fold (k := (l[k].Size - b).toNat) (newZ l split (stopOf l k).toNat).2 (l[k].From + b) (by omega)
        rw [Int.toNat_of_nonneg (by omega)] at this
        rw [this, show ((l[k].From.toNat + b.toNat : Nat) : Int) = l[k].From + b by omega]
      · rw [show (l[k].Size - b).toNat = 0 by omega]; rfl
    simp only [g1, g2]
  · intro i hi
    exact inReg_between (k := k) h (by omega) (by omega) (fun _ => by omega)
  · intro i hi
    rw [e2]
    exact ⟨inReg_in hk (by omega) (by omega), by omega⟩
  · intro i hi
    rw [e2]
    exact ⟨inReg_in hk (by omega) (by omega), by omega⟩
theorem given_all {l : List Region} (h : regionsOk l) (split : Int) : givenZ l split l.length = newZ l split 256 := by
  have hs : 0 ≤ stopOf l l.length ∧ stopOf l l.length ≤ 256 := by
    cases he : l.length with
    | zero => simp [stopOf]
    | succ k =>
      have h0 := (h.2 k (by omega)).1
      unfold Region.ok at h0
      simp only [stopOf, dif_pos (show k < l.length by omega)]
      omega
  unfold givenZ
  have := newZ_skip (l := l) (split := split) (p := (stopOf l l.length).toNat) (256 - (stopOf l l.length).toNat) fun i hi => inReg_between (k := l.length) h (Nat.le_refl _) (by omega) (fun hk => absurd hk (Nat.lt_irrefl _))
  rw [← this]
  congr 1
  omega
/-- the zones stay small -/
structure SmallZ (z : Zone) : Prop where
  free : z.Free.length ≤ 257
  types : z.Types.length ≤ 32
  from_ : 0 ≤ z.From ∧ z.From ≤ 256
  to_ : 0 ≤ z.To ∧ z.To ≤ 256
theorem small_zero : SmallZ .zero := by constructor <;> simp [Zone.zero]
theorem small_step {z : Zone} (h : SmallZ z) (p : Int) : SmallZ (stepZ z p) := by
  unfold stepZ
  by_cases e : (backV z p 0).1 = 0
  · obtain ⟨h1, h2, h3⟩ := backV_len z p 0
    obtain ⟨h4, h5, _⟩ := h3 e
    exact ⟨h1, h2, by rw [h4]; exact h.from_, by rw [h5]; exact h.to_⟩
  · rw [backV_ne e]; exact small_zero
theorem small_new {f t : Int} (h : zoneOk f t) : SmallZ (zoneNewV f t).2 := by
  rw [zoneNewV_t h]
  unfold zoneOk at h
  exact ⟨by simp, by simp; omega, by simp only; omega, by simp only; omega⟩
theorem split_ok {split : Int} : zoneOk split 256 ↔ zoneOk 0 split := by unfold zoneOk; omega
theorem small_newZ {l : List Region} {split : Int} (h : zoneOk 0 split) : ∀ p, SmallZ (newZ l split p).1 ∧ SmallZ (newZ l split p).2
  | 0 => ⟨small_new h, small_new (split_ok.2 h)⟩
  | p + 1 => by
    have ih := small_newZ (l := l) h p
    unfold newZ
    split
    · split
      · exact ⟨small_step ih.1 _, ih.2⟩
      · exact ⟨ih.1, small_step ih.2 _⟩
    · exact ih
/-- P4.1 -/
def newArgs (split least cpus : Int) : Prop := zoneOk 0 split ∧ (0 ≤ least ∧ least ≤ 256) ∧ (1 ≤ cpus ∧ cpus ≤ 4)
instance (a b c : Int) : Decidable (newArgs a b c) := inferInstanceAs (Decidable (_ ∧ _))
def heapOf (z : Zone × Zone) (least cpus : Int) : Heap := ⟨[z.1, z.2], [least, least], cpus, [], []⟩
noncomputable def heapNewV (l : List Region) (split least cpus : Int) : Int × Heap :=
  if regionsB l then (if newArgs split least cpus then (0, heapOf (newZ l split 256) least cpus) else (1, ⟨[], [], 0, [], []⟩)) else (8, ⟨[], [], 0, [], []⟩)
theorem heapNewV_8 {l : List Region} {a b c : Int} (h : regionsB l = false) : heapNewV l a b c = (8, ⟨[], [], 0, [], []⟩) := by simp [heapNewV, h]
theorem heapNewV_1 {l : List Region} {a b c : Int} (h : regionsB l = true) (ha : ¬ newArgs a b c) : heapNewV l a b c = (1, ⟨[], [], 0, [], []⟩) := by simp [heapNewV, h, ha]
theorem heapNewV_0 {l : List Region} {a b c : Int} (h : regionsB l = true) (ha : newArgs a b c) : heapNewV l a b c = (0, heapOf (newZ l a 256) b c) := by simp [heapNewV, h, ha]
end Go.Proofs.Ytfdmgflboibdoaa
