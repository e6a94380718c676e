/-
  Plain law: regions of pages as the runs of what holds of a page.
-/
import Derived.Test.YtfommgdbahemfaaDoorData
set_option linter.unusedVariables false
namespace Go.Proofs.YtfommgdbahemfaaDoor

def Region.stop (r : Region) : Int := r.From + r.Size

def inReg (l : List Region) (p : Int) : Bool := l.any fun r => decide (r.From ≤ p) && decide (p < r.From + r.Size)

/-- the last region one page longer -/
def bump : List Region → List Region
  | [] => []
  | [r] => [⟨r.From, r.Size + 1⟩]
  | x :: y :: l => x :: bump (y :: l)

/-- the runs of p below k -/
def runs (p : Nat → Bool) : Nat → List Region
  | 0 => []
  | i + 1 => if p i then (if 0 < i ∧ p (i - 1) = true then bump (runs p i) else runs p i ++ [⟨(i : Int), 1⟩]) else runs p i

theorem bump_concat : ∀ (l : List Region) (r : Region), bump (l ++ [r]) = l ++ [⟨r.From, r.Size + 1⟩]
  | [], _ => rfl
  | [x], _ => rfl
  | x :: y :: l, r => by
    have ih := bump_concat (y :: l) r
    simp only [List.cons_append, bump] at ih ⊢
    rw [ih]

theorem runs_congr {p q : Nat → Bool} : ∀ (k : Nat), (∀ i, i < k → p i = q i) → runs p k = runs q k
  | 0, _ => rfl
  | k + 1, h => by
    have h1 := h k (by omega)
    have ih := runs_congr k (fun i hi => h i (by omega))
    simp only [runs, h1, ih]
    by_cases hk : 0 < k
    · rw [h (k - 1) (by omega)]
    · simp [hk]

/-- what is known of the runs below k -/
structure RunsOk (p : Nat → Bool) (k : Nat) (l : List Region) : Prop where
  rng : ∀ r ∈ l, 0 ≤ r.From ∧ 1 ≤ r.Size ∧ r.From + r.Size ≤ (k : Int)
  len : l.length ≤ k
  last : 0 < k → p (k - 1) = true → ∃ init r, l = init ++ [r] ∧ r.From + r.Size = (k : Int)
  below : (0 < k → p (k - 1) = false) → ∀ r ∈ l, r.From + r.Size < (k : Int)
  sep : l.Pairwise fun a b => a.From + a.Size < b.From
  iff : ∀ i : Nat, i < k → (p i = true ↔ ∃ r ∈ l, r.From ≤ (i : Int) ∧ (i : Int) < r.From + r.Size)

theorem runs_ok (p : Nat → Bool) : ∀ k, RunsOk p k (runs p k)
  | 0 => ⟨by simp [runs], by simp [runs], by simp, by simp [runs], by simp [runs], by simp⟩
  | k + 1 => by
    have ih := runs_ok p k
    simp only [runs]
    by_cases hp : p k = true
    · rw [if_pos hp]
      by_cases hq : 0 < k ∧ p (k - 1) = true
      · rw [if_pos hq]
        obtain ⟨init, r, hl, hr⟩ := ih.last hq.1 hq.2
        rw [hl, bump_concat]
        have hrng := ih.rng
        have hlen := ih.len
        have hsep := ih.sep
        have hiff := ih.iff
        rw [hl] at hrng hlen hsep hiff
        have hr0 := hrng r (by simp)
        refine ⟨?_, ?_, ?_, ?_, ?_, ?_⟩
        · intro x hx
          simp only [List.mem_append, List.mem_singleton] at hx
          rcases hx with hx | rfl
          · have := hrng x (by simp [hx]); omega
          · simp only; omega
        · simp only [List.length_append, List.length_singleton] at hlen ⊢; omega
        · intro _ _
          exact ⟨init, _, rfl, by simp only; omega⟩
        · intro h
          simp at h
          rw [h] at hp; cases hp
        · rw [List.pairwise_append] at hsep ⊢
          refine ⟨hsep.1, by simp, fun a ha b hb => ?_⟩
          simp only [List.mem_singleton] at hb
          subst hb
          exact hsep.2.2 a ha r (by simp)
        · intro i hi
          by_cases hik : i = k
          · subst hik
            simp only [hp, true_iff]
            exact ⟨⟨r.From, r.Size + 1⟩, by simp, by simp only; omega, by simp only; omega⟩
          · rw [hiff i (by omega)]
            constructor
            · rintro ⟨x, hx, h1, h2⟩
              simp only [List.mem_append, List.mem_singleton] at hx
              rcases hx with hx | rfl
              · exact ⟨x, by simp [hx], h1, h2⟩
              · exact ⟨⟨x.From, x.Size + 1⟩, by simp, h1, by simp only; omega⟩
            · rintro ⟨x, hx, h1, h2⟩
              simp only [List.mem_append, List.mem_singleton] at hx
              rcases hx with hx | rfl
              · exact ⟨x, by simp [hx], h1, h2⟩
              · simp only at h1 h2
                exact ⟨r, by simp, h1, by omega⟩
      · rw [if_neg hq]
        have hb : ∀ r ∈ runs p k, r.From + r.Size < (k : Int) := ih.below (fun h0 => by
          cases hh : p (k - 1) with
          | false => rfl
          | true => exact absurd ⟨h0, hh⟩ hq)
        refine ⟨?_, ?_, ?_, ?_, ?_, ?_⟩
        · intro x hx
          simp only [List.mem_append, List.mem_singleton] at hx
          rcases hx with hx | rfl
          · have := ih.rng x hx; omega
          · simp only; omega
        · have := ih.len
          simp only [List.length_append, List.length_singleton]; omega
        · intro _ _
          exact ⟨runs p k, _, rfl, by simp only; omega⟩
        · intro h
          simp at h
          rw [h] at hp; cases hp
        · rw [List.pairwise_append]
          refine ⟨ih.sep, by simp, fun a ha b hb' => ?_⟩
          simp only [List.mem_singleton] at hb'
          subst hb'
          exact hb a ha
        · intro i hi
          by_cases hik : i = k
          · subst hik
            simp only [hp, true_iff]
            exact ⟨⟨(i : Int), 1⟩, by simp, by simp only; omega, by simp only; omega⟩
          · rw [ih.iff i (by omega)]
            constructor
            · rintro ⟨x, hx, h1, h2⟩
              exact ⟨x, by simp [hx], h1, h2⟩
            · rintro ⟨x, hx, h1, h2⟩
              simp only [List.mem_append, List.mem_singleton] at hx
              rcases hx with hx | rfl
              · exact ⟨x, hx, h1, h2⟩
              · simp only at h1 h2
                omega
    · rw [if_neg hp]
      have hp' : p k = false := by simpa using hp
      refine ⟨?_, ?_, ?_, ?_, ih.sep, ?_⟩
      · intro x hx
        have := ih.rng x hx; omega
      · have := ih.len; omega
      · intro _ h
        simp at h
        rw [h] at hp'; cases hp'
      · intro _ x hx
        have := ih.rng x hx; omega
      · intro i hi
        by_cases hik : i = k
        · subst hik
          simp only [hp', Bool.false_eq_true, false_iff]
          rintro ⟨x, hx, h1, h2⟩
          have := ih.rng x hx; omega
        · exact ih.iff i (by omega)

/-- a marks' list -/
def marksOf (p : Nat → Bool) (k : Nat) : List Bool := (List.range k).map p
theorem marksOf_len (p : Nat → Bool) (k : Nat) : (marksOf p k).length = k := by simp [marksOf]
theorem marksOf_get (p : Nat → Bool) (k i : Nat) (h : i < (marksOf p k).length) : (marksOf p k)[i] = p i := by simp [marksOf]
theorem marksOf_set (p : Nat → Bool) (k i : Nat) (b : Bool) : (marksOf p k).set i b = marksOf (fun j => if j = i then b else p j) k := by
  apply List.ext_getElem (by simp [marksOf])
  intro j h1 h2
  rw [List.getElem_set]
  by_cases h : i = j
  · subst h; simp [marksOf]
  · have : ¬ j = i := fun e => h e.symm
    simp [marksOf, h, this]
theorem marksOf_congr {p q : Nat → Bool} {k : Nat} (h : ∀ i, i < k → p i = q i) : marksOf p k = marksOf q k := by
  apply List.ext_getElem (by simp [marksOf])
  intro j h1 h2
  simp only [marksOf_get]
  exact h j (by simpa [marksOf] using h1)
end Go.Proofs.YtfommgdbahemfaaDoor
