/-
  Plain law: the best place for so many pages, aligned.
-/
import Derived.Test.YtfdmgflboibdoaaPBoot
set_option linter.unusedVariables false
namespace Go.Proofs.Ytfdmgflboibdoaa

/-- a place that fits: aligned, between low and high, all pages there -/
structure Fits (p : Nat → Bool) (size align low high : Int) (a : Int) : Prop where
  low : low ≤ a
  high : a + size ≤ high
  mod : a % align = 0
  all : ∀ i : Nat, a ≤ (i : Int) → (i : Int) < a + size → p i = true

/-- the best one of those of which F holds; -1: none -/
structure IsBest (F : Int → Prop) (down : Bool) (b : Int) : Prop where
  h : (b = -1 ∧ ∀ a, ¬ F a) ∨ (F b ∧ ∀ a, F a → if down then a ≤ b else b ≤ a)
theorem IsBest.uniq {F : Int → Prop} {down : Bool} {b c : Int} (hb : IsBest F down b) (hc : IsBest F down c) : b = c := by
  rcases hb.h with ⟨rfl, h1⟩ | ⟨h1, h2⟩
  · rcases hc.h with ⟨rfl, _⟩ | ⟨h3, _⟩
    · rfl
    · exact absurd h3 (h1 _)
  · rcases hc.h with ⟨rfl, h3⟩ | ⟨h3, h4⟩
    · exact absurd h1 (h3 _)
    · have e1 := h2 _ h3
      have e2 := h4 _ h1
      cases down <;> simp at e1 e2 <;> omega
noncomputable def bestOf (F : Int → Prop) (down : Bool) : Int := @dite Int (∃ b, IsBest F down b) (Classical.propDecidable _) (fun h => h.choose) (fun _ => -1)
theorem bestOf_eq {F : Int → Prop} {down : Bool} {b : Int} (h : IsBest F down b) : bestOf F down = b := by
  unfold bestOf
  have hex : ∃ b, IsBest F down b := ⟨b, h⟩
  rw [dif_pos hex]
  exact hex.choose_spec.uniq h

theorem runs_fit {p : Nat → Bool} {N : Nat} {l : List Region} (hl : RunsOk p N l) {size a : Int} (hs : 1 ≤ size) (ha : 0 ≤ a) (hN : a + size ≤ (N : Int)) :
    (∀ i : Nat, a ≤ (i : Int) → (i : Int) < a + size → p i = true) ↔ ∃ r ∈ l, r.From ≤ a ∧ a + size ≤ r.From + r.Size := by
  constructor
  · intro h
    obtain ⟨k, rfl⟩ := Int.eq_ofNat_of_zero_le ha
    have hk := h k (by omega) (by omega)
    obtain ⟨r, hr, h1, h2⟩ := (hl.iff k (by omega)).1 hk
    refine ⟨r, hr, h1, ?_⟩
    by_cases hend : (k : Int) + size ≤ r.From + r.Size
    · exact hend
    · exfalso
      obtain ⟨e, he⟩ := Int.eq_ofNat_of_zero_le (show 0 ≤ r.From + r.Size by omega)
      have hp := h e (by omega) (by omega)
      obtain ⟨s, hs', h3, h4⟩ := (hl.iff e (by omega)).1 hp
      have hsep := hl.sep
      obtain ⟨i, hi, rfl⟩ := List.getElem_of_mem hr
      obtain ⟨j, hj, rfl⟩ := List.getElem_of_mem hs'
      rw [List.pairwise_iff_getElem] at hsep
      rcases Nat.lt_trichotomy i j with hij | hij | hij
      · have := hsep i j hi hj hij; omega
      · subst hij; omega
      · have := hsep j i hj hi hij; omega
  · rintro ⟨r, hr, h1, h2⟩ i hi1 hi2
    exact (hl.iff i (by omega)).2 ⟨r, hr, by omega, by omega⟩

theorem mul_div_le (x a : Int) (ha : 0 < a) : x / a * a ≤ x ∧ x - a < x / a * a ∧ (x / a * a) % a = 0 := by
  have h1 := Int.ediv_mul_le x (show a ≠ 0 by omega)
  have h2 := Int.lt_ediv_add_one_mul_self x ha
  rw [Int.add_mul] at h2
  exact ⟨h1, by omega, Int.mul_emod_left _ _⟩
/-- the least multiple from x on -/
theorem up_least {x a q : Int} (ha : 0 < a) (hq : q % a = 0) (hx : x ≤ q) : (x + a - 1) / a * a ≤ q := by
  obtain ⟨c, rfl⟩ := Int.dvd_of_emod_eq_zero hq
  rw [Int.mul_comm a c]
  have h : (x + a - 1) / a ≤ c := by
    have : (x + a - 1) / a < c + 1 := Int.ediv_lt_of_lt_mul ha (by rw [Int.add_mul, Int.mul_comm c a]; omega)
    omega
  exact Int.mul_le_mul_of_nonneg_right h (by omega)
/-- the greatest multiple up to x -/
theorem down_most {x a q : Int} (ha : 0 < a) (hq : q % a = 0) (hx : q ≤ x) : q ≤ x / a * a := by
  obtain ⟨c, rfl⟩ := Int.dvd_of_emod_eq_zero hq
  rw [Int.mul_comm a c]
  have h : c ≤ x / a := (Int.le_ediv_iff_mul_le ha).2 (by rw [Int.mul_comm]; exact hx)
  exact Int.mul_le_mul_of_nonneg_right h (by omega)

/-- what fits within one region, between bounds -/
def inOne (r : Region) (size align low high a : Int) : Prop := max r.From low ≤ a ∧ a + size ≤ min (r.From + r.Size) high ∧ a % align = 0
theorem inOne_none {r : Region} {size align low high : Int} (ha : 0 < align) (h : min (r.From + r.Size) high < (max r.From low + align - 1) / align * align + size) : ∀ a, ¬ inOne r size align low high a := by
  rintro a ⟨h1, h2, h3⟩
  have := up_least ha h3 h1
  omega
theorem inOne_first {r : Region} {size align low high : Int} (ha : 0 < align) (h : (max r.From low + align - 1) / align * align + size ≤ min (r.From + r.Size) high) : inOne r size align low high ((max r.From low + align - 1) / align * align) ∧ ∀ a, inOne r size align low high a → (max r.From low + align - 1) / align * align ≤ a := by
  have := mul_div_le (max r.From low + align - 1) align ha
  exact ⟨⟨by omega, h, this.2.2⟩, fun a h' => up_least ha h'.2.2 h'.1⟩
theorem inOne_last {r : Region} {size align low high : Int} (ha : 0 < align) (h : (max r.From low + align - 1) / align * align + size ≤ min (r.From + r.Size) high) : inOne r size align low high ((min (r.From + r.Size) high - size) / align * align) ∧ ∀ a, inOne r size align low high a → a ≤ (min (r.From + r.Size) high - size) / align * align := by
  have h1 := mul_div_le (max r.From low + align - 1) align ha
  have h2 := mul_div_le (min (r.From + r.Size) high - size) align ha
  have h3 := down_most (x := min (r.From + r.Size) high - size) ha h1.2.2 (by omega)
  exact ⟨⟨by omega, by omega, h2.2.2⟩, fun a h' => down_most ha h'.2.2 (by have := h'.2.1; omega)⟩

/-- what fits within the first k regions -/
def inSome (l : List Region) (k : Nat) (size align low high a : Int) : Prop := ∃ (i : Nat) (h : i < l.length), i < k ∧ inOne l[i] size align low high a
theorem fits_some {p : Nat → Bool} {N : Nat} {l : List Region} (hl : RunsOk p N l) {size align low high : Int} (hs : 1 ≤ size) (h0 : 0 ≤ low) (hN : high ≤ (N : Int)) (a : Int) : Fits p size align low high a ↔ inSome l l.length size align low high a := by
  constructor
  · intro h
    obtain ⟨r, hr, h1, h2⟩ := (runs_fit hl hs (by have := h.low; omega) (by have := h.high; omega)).1 h.all
    obtain ⟨i, hi, rfl⟩ := List.getElem_of_mem hr
    exact ⟨i, hi, hi, by have := h.low; omega, by have := h.high; omega, h.mod⟩
  · rintro ⟨i, hi, _, h1, h2, h3⟩
    have hb := hl.rng _ (List.getElem_mem hi)
    exact ⟨by omega, by omega, h3, (runs_fit hl hs (by omega) (by omega)).2 ⟨l[i], List.getElem_mem hi, by omega, by omega⟩⟩

theorem some_succ {l : List Region} {k : Nat} (hk : k < l.length) {size align low high a : Int} : inSome l (k + 1) size align low high a ↔ inSome l k size align low high a ∨ inOne l[k] size align low high a := by
  constructor
  · rintro ⟨i, hi, h1, h2⟩
    by_cases e : i = k
    · subst e; exact .inr h2
    · exact .inl ⟨i, hi, by omega, h2⟩
  · rintro (⟨i, hi, h1, h2⟩ | h)
    · exact ⟨i, hi, by omega, h2⟩
    · exact ⟨k, hk, by omega, h⟩
/-- what fits ahead lies below -/
theorem some_below {p : Nat → Bool} {N : Nat} {l : List Region} (hl : RunsOk p N l) {k : Nat} (hk : k < l.length) {size align low high a b : Int} (hs : 1 ≤ size) (ha : inSome l k size align low high a) (hb : inOne l[k] size align low high b) : a < b := by
  obtain ⟨i, hi, h1, h2, h3, _⟩ := ha
  have hsep := hl.sep
  rw [List.pairwise_iff_getElem] at hsep
  have := hsep i k hi hk h1
  obtain ⟨h4, h5, _⟩ := hb
  omega
theorem some_above {p : Nat → Bool} {N : Nat} {l : List Region} (hl : RunsOk p N l) {k : Nat} (hk : k < l.length) {size align low high a b : Int} (hs : 1 ≤ size) (hn : ∀ a, ¬ inSome l k size align low high a) (ha : inSome l l.length size align low high a) (hb : inOne l[k] size align low high b) (hmin : ∀ c, inOne l[k] size align low high c → b ≤ c) : b ≤ a := by
  obtain ⟨i, hi, h1, h2⟩ := ha
  rcases Nat.lt_trichotomy i k with hik | hik | hik
  · exact absurd ⟨i, hi, hik, h2⟩ (hn a)
  · subst hik; exact hmin _ h2
  · have hsep := hl.sep
    rw [List.pairwise_iff_getElem] at hsep
    have := hsep k i hk hi hik
    obtain ⟨h4, h5, _⟩ := hb
    have := h2.1
    omega

/-- the reference's search, place by place -/
theorem best_step {F : Int → Prop} {low : Int} {down : Bool} {k : Nat} {b : Int} (hb : IsBest (fun a => F a ∧ a < low + (k : Int)) down b) (hlow : ∀ a, F a → low ≤ a) (h0 : 0 ≤ low) :
    (F (low + (k : Int)) → (b < 0 ∨ down = true) → IsBest (fun a => F a ∧ a < low + ((k + 1 : Nat) : Int)) down (low + (k : Int))) ∧ ((¬ F (low + (k : Int)) ∨ (0 ≤ b ∧ down = false)) → IsBest (fun a => F a ∧ a < low + ((k + 1 : Nat) : Int)) down b) := by
  constructor
  · intro hF hd
    refine ⟨.inr ⟨⟨hF, by omega⟩, fun a ⟨h1, h2⟩ => ?_⟩⟩
    cases down
    · simp only [Bool.false_eq_true, if_false]
      rcases hb.h with ⟨_, h3⟩ | ⟨⟨h3, _⟩, _⟩
      · have := h3 a
        by_cases e : a < low + (k : Int)
        · exact absurd ⟨h1, e⟩ this
        · omega
      · have := hlow _ h3
        simp at hd
        omega
    · simp only [if_true]; omega
  · intro h
    rcases hb.h with ⟨rfl, h3⟩ | ⟨⟨h3, h3'⟩, h4⟩
    · refine ⟨.inl ⟨rfl, fun a ⟨h1, h2⟩ => ?_⟩⟩
      by_cases e : a < low + (k : Int)
      · exact h3 a ⟨h1, e⟩
      · have : a = low + (k : Int) := by omega
        subst this
        rcases h with h | h
        · exact h h1
        · omega
    · refine ⟨.inr ⟨⟨h3, by omega⟩, fun a ⟨h1, h2⟩ => ?_⟩⟩
      by_cases e : a < low + (k : Int)
      · exact h4 a ⟨h1, e⟩
      · have : a = low + (k : Int) := by omega
        subst this
        rcases h with h | h
        · exact absurd h1 h
        · rw [h.2]
          simp only [Bool.false_eq_true, if_false]
          omega
theorem IsBest.congr {F G : Int → Prop} {down : Bool} {b : Int} (h : IsBest F down b) (e : ∀ a, F a ↔ G a) : IsBest G down b := by
  have : F = G := funext fun a => propext (e a)
  subst this; exact h
end Go.Proofs.Ytfdmgflboibdoaa
