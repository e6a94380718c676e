/-
  Plain law: a block goes back to a zone, and is joined with the one beside it.
-/
import Derived.Test.YtfommgdbahemfaaDoorPZone
set_option linter.unusedVariables false
namespace Go.Proofs.YtfommgdbahemfaaDoor

def isB (a o : Int) (b : Block) : Bool := decide (b.At = a) && decide (b.Order = o)
def without (l : List Block) (a o : Int) : List Block := l.filter fun b => !isB a o b
/-- joined as often as can be: the list, the place, the order -/
def joinL : Nat → List Block → Int → Int → List Block × Int × Int
  | 0, l, a, o => (l, a, o)
  | f + 1, l, a, o => if o < 4 then (if l.any (isB (beside a o) o) then joinL f (without l (beside a o) o) (min a (beside a o)) (o + 1) else (l, a, o)) else (l, a, o)
/-- the place of the first one that is not ahead of a -/
def lbOf (l : List Block) (a : Int) : Nat := l.findIdx fun b => decide (a ≤ b.At)
def insAt {α : Type} (l : List α) (i : Nat) (b : α) : List α := l.take i ++ [b] ++ l.drop i
def overB (l : List Block) (a o : Int) : Bool := l.any fun x => decide (x.At < a + pw o) && decide (a < x.At + pw x.Order)

def ups (l : List Block) : Prop := l.Pairwise fun x y => x.At + pw x.Order ≤ y.At
structure JOk (f t : Int) (l : List Block) (a o : Int) : Prop where
  ups : ups l
  blk : ∀ b ∈ l, blkOk f t b
  fit : fitsZ f t a o
  dis : ∀ b ∈ l, b.At + pw b.Order ≤ a ∨ a + pw o ≤ b.At

theorem ups_get {l : List Block} (h : ups l) {i j : Nat} (hj : j < l.length) (hij : i < j) : (l[i]'(by omega)).At + pw (l[i]'(by omega)).Order ≤ l[j].At := by
  unfold ups at h
  rw [List.pairwise_iff_getElem] at h
  exact h i j (by omega) hj hij
theorem zone_ups {z : Zone} (h : ZoneMay z) : ups z.Free := by
  have key : ∀ (d i : Nat) (hj : i + d + 1 < z.Free.length), (z.Free[i]'(by omega)).At + pw (z.Free[i]'(by omega)).Order ≤ z.Free[i + d + 1].At := by
    intro d
    induction d with
    | zero => intro i hj; exact (h.next i hj).1
    | succ d ih =>
      intro i hj
      have h1 := ih i (by omega)
      have h2 := (h.next (i + d + 1) (by omega)).1
      have hb := (h.blk (i + d + 1) (by omega)).1
      have := pw_le hb.1 hb.2.1
      have e : z.Free[i + (d + 1) + 1] = z.Free[i + d + 1 + 1]'(by omega) := rfl
      rw [e]
      omega
  unfold ups
  rw [List.pairwise_iff_getElem]
  intro i j hi hj hij
  have := key (j - i - 1) i (by omega)
  have e : i + (j - i - 1) + 1 = j := by omega
  simp only [e] at this
  exact this
/-- two of one place are one -/
theorem ups_uniq {f t : Int} {l : List Block} (h : ups l) (hb : ∀ b ∈ l, blkOk f t b) {x y : Block} (hx : x ∈ l) (hy : y ∈ l) : x = y ∨ x.At + pw x.Order ≤ y.At ∨ y.At + pw y.Order ≤ x.At := by
  obtain ⟨i, hi, rfl⟩ := List.getElem_of_mem hx
  obtain ⟨j, hj, rfl⟩ := List.getElem_of_mem hy
  rcases Nat.lt_trichotomy i j with h1 | h1 | h1
  · exact .inr (.inl (ups_get h hj h1))
  · subst h1; exact .inl rfl
  · exact .inr (.inr (ups_get h hi h1))
theorem ups_at {f t : Int} {l : List Block} (h : ups l) (hb : ∀ b ∈ l, blkOk f t b) {i j : Nat} (hi : i < l.length) (hj : j < l.length) (e : l[i].At = l[j].At) : i = j := by
  have p1 := hb _ (List.getElem_mem hi)
  have p2 := hb _ (List.getElem_mem hj)
  have q1 := pw_le p1.1.1 p1.1.2.1
  have q2 := pw_le p2.1.1 p2.1.2.1
  rcases Nat.lt_trichotomy i j with h1 | h1 | h1
  · have := ups_get h hj h1; omega
  · exact h1
  · have := ups_get h hi h1; omega

theorem beside_fit {a o : Int} (h : 0 ≤ a) (h0 : 0 ≤ o) (h4 : o < 4) (hm : a % pw o = 0) : (min a (beside a o)) % pw (o + 1) = 0 ∧ (beside a o = a + pw o ∨ beside a o = a - pw o) ∧ (beside a o) % pw o = 0 := by
  rw [pw_succ h0 (by omega)]
  unfold beside
  have hp := pw_cases h0 (show o ≤ 4 by omega)
  generalize pw o = q at *
  rcases hp with ⟨e, rfl⟩ | ⟨e, rfl⟩ | ⟨e, rfl⟩ | ⟨e, rfl⟩ | ⟨e, rfl⟩ <;> split <;> omega

theorem isB_iff {a o : Int} {b : Block} : isB a o b = true ↔ b.At = a ∧ b.Order = o := by simp [isB]
theorem JOk.step {f t : Int} {l : List Block} {a o : Int} (h : JOk f t l a o) (h0 : 0 ≤ f) (ho : o < 4) (hany : l.any (isB (beside a o) o) = true) : JOk f t (without l (beside a o) o) (min a (beside a o)) (o + 1) := by
  obtain ⟨b, hb, hi⟩ := List.any_eq_true.1 hany
  obtain ⟨e1, e2⟩ := isB_iff.1 hi
  obtain ⟨f1, f2, f3, f4, f5⟩ := h.fit
  obtain ⟨g1, g2, g3, g4, g5⟩ := (h.blk b hb).1
  obtain ⟨k1, k2, k3⟩ := beside_fit (by omega) f1 ho f5
  have hp := pw_succ f1 f2
  have hp1 := pw_le f1 f2
  refine ⟨h.ups.sublist List.filter_sublist, fun x hx => h.blk x ((List.mem_filter.1 hx).1), ⟨by omega, by omega, by omega, by omega, k1⟩, fun x hx => ?_⟩
  have hx1 := (List.mem_filter.1 hx).1
  have hx2 : isB (beside a o) o x = false := by
    have := (List.mem_filter.1 hx).2
    simpa using this
  have hd := h.dis x hx1
  have hxp := pw_le (h.blk x hx1).1.1 (h.blk x hx1).1.2.1
  rcases ups_uniq h.ups h.blk hb hx1 with e | e | e
  · subst e; rw [hi] at hx2; cases hx2
  · rw [hp]; rw [e2] at e; omega
  · rw [hp]; omega

theorem joinL_ok {f t : Int} (h0 : 0 ≤ f) : ∀ (k : Nat) {l : List Block} {a o : Int}, JOk f t l a o → JOk f t (joinL k l a o).1 (joinL k l a o).2.1 (joinL k l a o).2.2 ∧ (joinL k l a o).1.length ≤ l.length
  | 0, l, a, o, h => ⟨h, Nat.le_refl _⟩
  | k + 1, l, a, o, h => by
    simp only [joinL]
    split
    · rename_i ho
      split
      · rename_i hany
        have ih := joinL_ok h0 k (h.step h0 ho hany)
        exact ⟨ih.1, Nat.le_trans ih.2 (List.length_filter_le _ _)⟩
      · exact ⟨h, Nat.le_refl _⟩
    · exact ⟨h, Nat.le_refl _⟩

/-- the first one that is not ahead -/
theorem lb_spec {l : List Block} {a : Int} {i : Nat} (hi : i ≤ l.length) (h1 : ∀ (k : Nat) (h : k < l.length), k < i → l[k].At < a) (h2 : ∀ h : i < l.length, a ≤ l[i].At) : lbOf l a = i := by
  unfold lbOf
  by_cases h : i < l.length
  · exact (List.findIdx_eq h).2 ⟨by simpa using h2 h, fun j hj => by simpa using h1 j (by omega) hj⟩
  · have e : i = l.length := by omega
    subst e
    rw [List.findIdx_eq_length]
    intro x hx
    obtain ⟨k, hk, rfl⟩ := List.getElem_of_mem hx
    simpa using h1 k hk hk
theorem lb_le (l : List Block) (a : Int) : lbOf l a ≤ l.length := List.findIdx_le_length
theorem lb_below {l : List Block} {a : Int} {k : Nat} (hk : k < lbOf l a) : (l[k]'(Nat.lt_of_lt_of_le hk (lb_le l a))).At < a := by
  have := List.not_of_lt_findIdx hk
  simpa using this
theorem lb_at {l : List Block} {a : Int} (h : lbOf l a < l.length) : a ≤ (l[lbOf l a]).At := by
  have := List.findIdx_getElem (w := h)
  exact of_decide_eq_true this

/-- the program's way to find the one beside -/
def foundB (l : List Block) (a o : Int) : Bool := if h : lbOf l a < l.length then decide ((l[lbOf l a]).At = a ∧ (l[lbOf l a]).Order = o) else false
theorem found_any {f t : Int} {l : List Block} (hu : ups l) (hb : ∀ b ∈ l, blkOk f t b) (a o : Int) : l.any (isB a o) = foundB l a o := by
  unfold foundB
  by_cases h : lbOf l a < l.length
  · rw [dif_pos h]
    by_cases hh : (l[lbOf l a]).At = a ∧ (l[lbOf l a]).Order = o
    · rw [decide_eq_true hh]
      exact List.any_eq_true.2 ⟨_, List.getElem_mem h, isB_iff.2 hh⟩
    · rw [decide_eq_false hh, List.any_eq_false]
      intro x hx hi
      obtain ⟨e1, e2⟩ := isB_iff.1 hi
      obtain ⟨j, hj, rfl⟩ := List.getElem_of_mem hx
      have h1 := lb_at h
      rcases Nat.lt_trichotomy j (lbOf l a) with hlt | hlt | hlt
      · have := lb_below hlt; omega
      · subst hlt; exact hh ⟨e1, e2⟩
      · have := ups_get hu hj hlt
        have hp := hb _ (List.getElem_mem h)
        have := pw_le hp.1.1 hp.1.2.1
        omega
  · rw [dif_neg h, List.any_eq_false]
    intro x hx hi
    obtain ⟨e1, e2⟩ := isB_iff.1 hi
    obtain ⟨j, hj, rfl⟩ := List.getElem_of_mem hx
    have := lb_below (show j < lbOf l a by omega)
    omega
theorem erase_without {f t : Int} {l : List Block} (hu : ups l) (hb : ∀ b ∈ l, blkOk f t b) {a o : Int} {i : Nat} (hi : i < l.length) (h1 : l[i].At = a) (h2 : l[i].Order = o) : l.eraseIdx i = without l a o := by
  have hne : ∀ (j : Nat) (hj : j < l.length), j ≠ i → isB a o l[j] = false := fun j hj hji => by
    cases hh : isB a o l[j] with
    | false => rfl
    | true =>
      obtain ⟨e1, e2⟩ := isB_iff.1 hh
      exact absurd (ups_at hu hb hj hi (by omega)) hji
  have e : l = l.take i ++ l[i] :: l.drop (i + 1) := by simp
  have hL : ∀ x ∈ l.take i, isB a o x = false := fun x hx => by
    obtain ⟨j, hj, rfl⟩ := List.getElem_of_mem hx
    simp at hj
    rw [List.getElem_take]
    exact hne j (by omega) (by omega)
  have hR : ∀ x ∈ l.drop (i + 1), isB a o x = false := fun x hx => by
    obtain ⟨j, hj, rfl⟩ := List.getElem_of_mem hx
    simp at hj
    rw [List.getElem_drop]
    exact hne _ (by omega) (by omega)
  have hm : isB a o l[i] = true := isB_iff.2 ⟨h1, h2⟩
  unfold without
  rw [List.eraseIdx_eq_take_drop_succ]
  conv => rhs; rw [e]
  rw [List.filter_append, List.filter_cons]
  simp only [hm, Bool.not_true, Bool.false_eq_true, if_false]
  rw [List.filter_eq_self.2 (fun x hx => by simp [hL x hx]), List.filter_eq_self.2 (fun x hx => by simp [hR x hx])]

/-- P3.5 -/
noncomputable def backV (z : Zone) (a o : Int) : Int × Zone :=
  if zoneB z then (if fitsZ z.From z.To a o then (if overB z.Free a o then (5, ⟨0, 0, [], []⟩) else
    (0, ⟨z.From, z.To, insAt (joinL 5 z.Free a o).1 (lbOf (joinL 5 z.Free a o).1 (joinL 5 z.Free a o).2.1) ⟨(joinL 5 z.Free a o).2.1, (joinL 5 z.Free a o).2.2, z.Types.getD (((joinL 5 z.Free a o).2.1 - z.From) / 8).toNat 0⟩, z.Types⟩)) else (1, ⟨0, 0, [], []⟩)) else (8, ⟨0, 0, [], []⟩)
theorem over_dis {f t : Int} {z : Zone} {a o : Int} (hz : ZoneMay z) (hf : fitsZ z.From z.To a o) (h : overB z.Free a o = false) : JOk z.From z.To z.Free a o := by
  refine ⟨zone_ups hz, fun b hb => ?_, hf, fun b hb => ?_⟩
  · obtain ⟨i, hi, rfl⟩ := List.getElem_of_mem hb
    exact hz.blk i hi
  · unfold overB at h
    rw [List.any_eq_false] at h
    have := h b hb
    simp at this
    omega
end Go.Proofs.YtfommgdbahemfaaDoor
