/-
  Plain law: a block goes back to a zone, and is joined with the one beside it.
-/
import Derived.Test.YtfommgdbahemfaaDoorPackKmemSizes4
import Derived.Test.YtfommgdbahemfaaDoorPackKmemSizes3
set_option linter.unusedVariables false
namespace Go.Proofs.YtfommgdbahemfaaDoor

def isB (a o : Int) (b : Block) : Bool := decide (b.At = a) && decide (b.Order = o)
def without (l : List Block) (a o : Int) : List Block := l.filter fun b => !isB a o b
/-- joined as often as can be: the list, the place, the order -/
def joinL : Nat → List Block → Int → Int → List Block × Int × Int
  | 0, l, a, o => (l, a, o)
  | f + 1, l, a, o => if o < 4 then (if l.any (isB (beside a o) o) then joinL f (without l (beside a o) o) (min a (beside a o)) (o + 1) else (l, a, o)) else (l, a, o)
/-- the place of the first one that is not ahead of a -/
def lbOf (l : List Block) (a : Int) : Nat := l.findIdx fun b => decide (a ≤ b.At)
def insAt {α : Type} (l : List α) (i : Nat) (b : α) : List α := l.take i ++ [b] ++ l.drop i
def overB (l : List Block) (a o : Int) : Bool := l.any fun x => decide (x.At < a + pw o) && decide (a < x.At + pw x.Order)

def ups (l : List Block) : Prop := l.Pairwise fun x y => x.At + pw x.Order ≤ y.At
structure JOk (f t : Int) (l : List Block) (a o : Int) : Prop where
  ups : ups l
  blk : ∀ b ∈ l, blkOk f t b
  fit : fitsZ f t a o
  dis : ∀ b ∈ l, b.At + pw b.Order ≤ a ∨ a + pw o ≤ b.At

theorem ups_get {l : List Block} (h : ups l) {i j : Nat} (hj : j < l.length) (hij : i < j) : (l[i]'(by omega)).At + pw (l[i]'(by omega)).Order ≤ l[j].At := by
  unfold ups at h
  rw [List.pairwise_iff_getElem] at h
  exact h i j (by omega) hj hij
theorem zone_ups {z : Zone} (h : ZoneMay z) : ups z.Free := by
  have key : ∀ (d i : Nat) (hj : i + d + 1 < z.Free.length), (z.Free[i]'(by omega)).At + pw (z.Free[i]'(by omega)).Order ≤ z.Free[i + d + 1].At := by
    intro d
    induction d with
    | zero => intro i hj; exact (h.next i hj).1
    | succ d ih =>
      intro i hj
      have h1 := ih i (by omega)
      have h2 := (h.next (i + d + 1) (by omega)).1
      have hb := (h.blk (i + d + 1) (by omega)).1
      have := pw_le hb.1 hb.2.1
      have e : z.Free[i + (d + 1) + 1] = z.Free[i + d + 1 + 1]'(by omega) := rfl
      rw [e]
      omega
  unfold ups
  rw [List.pairwise_iff_getElem]
  intro i j hi hj hij
  have := key (j - i - 1) i (by omega)
  have e : i + (j - i - 1) + 1 = j := by omega
  simp only [e] at this
  exact this
/-- two of one place are one -/
theorem ups_uniq {f t : Int} {l : List Block} (h : ups l) (hb : ∀ b ∈ l, blkOk f t b) {x y : Block} (hx : x ∈ l) (hy : y ∈ l) : x = y ∨ x.At + pw x.Order ≤ y.At ∨ y.At + pw y.Order ≤ x.At := by
  obtain ⟨i, hi, rfl⟩ := List.getElem_of_mem hx
  obtain ⟨j, hj, rfl⟩ := List.getElem_of_mem hy
  rcases Nat.lt_trichotomy i j with h1 | h1 | h1
  · exact .inr (.inl (ups_get h hj h1))
  · subst h1; exact .inl rfl
  · exact .inr (.inr (ups_get h hi h1))
theorem ups_at {f t : Int} {l : List Block} (h : ups l) (hb : ∀ b ∈ l, blkOk f t b) {i j : Nat} (hi : i < l.length) (hj : j < l.length) (e : l[i].At = l[j].At) : i = j := by
  have p1 := hb _ (List.getElem_mem hi)
  have p2 := hb _ (List.getElem_mem hj)
  have q1 := pw_le p1.1.1 p1.1.2.1
  have q2 := pw_le p2.1.1 p2.1.2.1
  rcases Nat.lt_trichotomy i j with h1 | h1 | h1
  · have := ups_get h hj h1; omega
  · exact h1
  · have := ups_get h hi h1; omega

theorem beside_fit {a o : Int} (h : 0 ≤ a) (h0 : 0 ≤ o) (h4 : o < 4) (hm : a % pw o = 0) : (min a (beside a o)) % pw (o + 1) = 0 ∧ (beside a o = a + pw o ∨ beside a o = a - pw o) ∧ (beside a o) % pw o = 0 := by
  rw [pw_succ h0 (by omega)]
  unfold beside
  have hp := pw_cases h0 (show o ≤ 4 by omega)
  generalize pw o = q at *
  rcases hp with ⟨e, rfl⟩ | ⟨e, rfl⟩ | ⟨e, rfl⟩ | ⟨e, rfl⟩ | ⟨e, rfl⟩ <;> split <;> omega

theorem isB_iff {a o : Int} {b : Block} : isB a o b = true ↔ b.At = a ∧ b.Order = o := by simp [isB]
theorem JOk.step {f t : Int} {l : List Block} {a o : Int} (h : JOk f t l a o) (h0 : 0 ≤ f) (ho : o < 4) (hany : l.any (isB (beside a o) o) = true) : JOk f t (without l (beside a o) o) (min a (beside a o)) (o + 1) := by
  obtain ⟨b, hb, hi⟩ := List.any_eq_true.1 hany
  obtain ⟨e1, e2⟩ := isB_iff.1 hi
  obtain ⟨f1, f2, f3, f4, f5⟩ := h.fit
  obtain ⟨g1, g2, g3, g4, g5⟩ := (h.blk b hb).1
  obtain ⟨k1, k2, k3⟩ := beside_fit (by omega) f1 ho f5
  have hp := pw_succ f1 f2
  have hp1 := pw_le f1 f2
  refine ⟨h.ups.sublist List.filter_sublist, fun x hx => h.blk x ((List.mem_filter.1 hx).1), ⟨by omega, by omega, by omega, by omega, k1⟩, fun x hx => ?_⟩
  have hx1 := (List.mem_filter.1 hx).1
  have hx2 : isB (beside a o) o x = false := by
    have := (List.mem_filter.1 hx).2
    simpa using this
  have hd := h.dis x hx1
  have hxp := pw_le (h.blk x hx1).1.1 (h.blk x hx1).1.2.1
  rcases ups_uniq h.ups h.blk hb hx1 with e | e | e
  · subst e; rw [hi] at hx2; cases hx2
  · rw [hp]; rw [e2] at e; omega
  · rw [hp]; omega

theorem joinL_ok {f t : Int} (h0 : 0 ≤ f) : ∀ (k : Nat) {l : List Block} {a o : Int}, JOk f t l a o → JOk f t (joinL k l a o).1 (joinL k l a o).2.1 (joinL k l a o).2.2 ∧ (joinL k l a o).1.length ≤ l.length
  | 0, l, a, o, h => ⟨h, Nat.le_refl _⟩
  | k + 1, l, a, o, h => by
    simp only [joinL]
    split
    · rename_i ho
      split
      · rename_i hany
        have ih := joinL_ok h0 k (h.step h0 ho hany)
        exact ⟨ih.1, Nat.le_trans ih.2 (List.length_filter_le _ _)⟩
      · exact ⟨h, Nat.le_refl _⟩
    · exact ⟨h, Nat.le_refl _⟩

/-- the first one that is not ahead -/
theorem lb_spec {l : List Block} {a : Int} {i : Nat} (hi : i ≤ l.length) (h1 : ∀ (k : Nat) (h : k < l.length), k < i → l[k].At < a) (h2 : ∀ h : i < l.length, a ≤ l[i].At) : lbOf l a = i := by
  unfold lbOf
  by_cases h : i < l.length
  · exact (List.findIdx_eq h).2 ⟨by simpa using h2 h, fun j hj => by simpa using h1 j (by omega) hj⟩
  · have e : i = l.length := by omega
    subst e
    rw [List.findIdx_eq_length]
    intro x hx
    obtain ⟨k, hk, rfl⟩ := List.getElem_of_mem hx
    simpa using h1 k hk hk
theorem lb_le (l : List Block) (a : Int) : lbOf l a ≤ l.length := List.findIdx_le_length
theorem lb_below {l : List Block} {a : Int} {k : Nat} (hk : k < lbOf l a) : (l[k]'(Nat.lt_of_lt_of_le hk (lb_le l a))).At < a := by
  have := List.not_of_lt_findIdx hk
  simpa using this
theorem lb_at {l : List Block} {a : Int} (h : lbOf l a < l.length) : a ≤ (l[lbOf l a]).At := by
  have := List.findIdx_getElem (w := h)
  exact of_decide_eq_true this

/-- the program's way to find the one beside -/
def foundB (l : List Block) (a o : Int) : Bool := if h : lbOf l a < l.length then decide ((l[lbOf l a]).At = a ∧ (l[lbOf l a]).Order = o) else false
theorem found_any {f t : Int} {l : List Block} (hu : ups l) (hb : ∀ b ∈ l, blkOk f t b) (a o : Int) : l.any (isB a o) = foundB l a o := by
  unfold foundB
  by_cases h : lbOf l a < l.length
  · rw [dif_pos h]
    by_cases hh : (l[lbOf l a]).At = a ∧ (l[lbOf l a]).Order = o
    · rw [decide_eq_true hh]
      exact List.any_eq_true.2 ⟨_, List.getElem_mem h, isB_iff.2 hh⟩
    · rw [decide_eq_false hh, List.any_eq_false]
      intro x hx hi
      obtain ⟨e1, e2⟩ := isB_iff.1 hi
      obtain ⟨j, hj, rfl⟩ := List.getElem_of_mem hx
      have h1 := lb_at h
      rcases Nat.lt_trichotomy j (lbOf l a) with hlt | hlt | hlt
      · have := lb_below hlt; omega
      · subst hlt; exact hh ⟨e1, e2⟩
      · have := ups_get hu hj hlt
        have hp := hb _ (List.getElem_mem h)
        have := pw_le hp.1.1 hp.1.2.1
        omega
  · rw [dif_neg h, List.any_eq_false]
    intro x hx hi
    obtain ⟨e1, e2⟩ := isB_iff.1 hi
    obtain ⟨j, hj, rfl⟩ := List.getElem_of_mem hx
    have := lb_below (show j < lbOf l a by omega)
    omega
theorem erase_without {f t : Int} {l : List Block} (hu : ups l) (hb : ∀ b ∈ l, blkOk f t b) {a o : Int} {i : Nat} (hi : i < l.length) (h1 : l[i].At = a) (h2 : l[i].Order = o) : l.eraseIdx i = without l a o := by
  have hne : ∀ (j : Nat) (hj : j < l.length), j ≠ i → isB a o l[j] = false := fun j hj hji => by
    cases hh : isB a o l[j] with
    | false => rfl
    | true =>
      obtain ⟨e1, e2⟩ := isB_iff.1 hh
      exact absurd (ups_at hu hb hj hi (by omega)) hji
  have e : l = l.take i ++ l[i] :: l.drop (i + 1) := by simp
  have hL : ∀ x ∈ l.take i, isB a o x = false := fun x hx => by
    obtain ⟨j, hj, rfl⟩ := List.getElem_of_mem hx
    simp at hj
    rw [List.getElem_take]
    exact hne j (by omega) (by omega)
  have hR : ∀ x ∈ l.drop (i + 1), isB a o x = false := fun x hx => by
    obtain ⟨j, hj, rfl⟩ := List.getElem_of_mem hx
    simp at hj
    rw [List.getElem_drop]
    exact hne _ (by omega) (by omega)
  have hm : isB a o l[i] = true := isB_iff.2 ⟨h1, h2⟩
  unfold without
  rw [List.eraseIdx_eq_take_drop_succ]
  conv => rhs; rw [e]
  rw [List.filter_append, List.filter_cons]
  simp only [hm, Bool.not_true, Bool.false_eq_true, if_false]
  rw [List.filter_eq_self.2 (fun x hx => by simp [hL x hx]), List.filter_eq_self.2 (fun x hx => by simp [hR x hx])]

/-- P3.5 -/
noncomputable def backV (z : Zone) (a o : Int) : Int × Zone :=
  if zoneB z then (if fitsZ z.From z.To a o then (if overB z.Free a o then (5, ⟨0, 0, [], []⟩) else
    (0, ⟨z.From, z.To, insAt (joinL 5 z.Free a o).1 (lbOf (joinL 5 z.Free a o).1 (joinL 5 z.Free a o).2.1) ⟨(joinL 5 z.Free a o).2.1, (joinL 5 z.Free a o).2.2, z.Types.getD (((joinL 5 z.Free a o).2.1 - z.From) / 8).toNat 0⟩, z.Types⟩)) else (1, ⟨0, 0, [], []⟩)) else (8, ⟨0, 0, [], []⟩)
theorem over_dis {f t : Int} {z : Zone} {a o : Int} (hz : ZoneMay z) (hf : fitsZ z.From z.To a o) (h : overB z.Free a o = false) : JOk z.From z.To z.Free a o := by
  refine ⟨zone_ups hz, fun b hb => ?_, hf, fun b hb => ?_⟩
  · obtain ⟨i, hi, rfl⟩ := List.getElem_of_mem hb
    exact hz.blk i hi
  · unfold overB at h
    rw [List.any_eq_false] at h
    have := h b hb
    simp at this
    omega
end Go.Proofs.YtfommgdbahemfaaDoor

/-
  Plain law: what a block's way back, and giving pages, answer; their sizes.
-/
set_option linter.unusedVariables false
namespace Go.Proofs.YtfommgdbahemfaaDoor

theorem backV_8 {z : Zone} {a o : Int} (h : zoneB z = false) : backV z a o = (8, .zero) := by simp [backV, h, Zone.zero]
theorem backV_1 {z : Zone} {a o : Int} (h : zoneB z = true) (hf : ¬ fitsZ z.From z.To a o) : backV z a o = (1, .zero) := by simp [backV, h, hf, Zone.zero]
theorem backV_5 {z : Zone} {a o : Int} (h : zoneB z = true) (hf : fitsZ z.From z.To a o) (ho : overB z.Free a o = true) : backV z a o = (5, .zero) := by simp [backV, h, hf, ho, Zone.zero]
theorem backV_0 {z : Zone} {a o : Int} (h : zoneB z = true) (hf : fitsZ z.From z.To a o) (ho : overB z.Free a o = false) {l : List Block} {a' o' : Int} (hj : joinL 5 z.Free a o = (l, a', o')) {t : Int} (ht : z.Types.getD ((a' - z.From) / 8).toNat 0 = t) :
    backV z a o = (0, ⟨z.From, z.To, insAt l (lbOf l a') ⟨a', o', t⟩, z.Types⟩) := by simp [backV, h, hf, ho, hj, ← ht]

theorem zone_len {z : Zone} (h : ZoneMay z) : z.Free.length ≤ 256 ∧ z.Types.length ≤ 32 := by
  have hu := zone_ups h
  have hok := h.ok
  unfold zoneOk at hok
  have key : ∀ (i : Nat) (hi : i < z.Free.length), (i : Int) ≤ (z.Free[i]).At := by
    intro i
    induction i with
    | zero =>
      intro hi
      have := (h.blk 0 hi).1
      unfold fitsZ at this
      omega
    | succ i ih =>
      intro hi
      have h1 := ih (by omega)
      have h2 := ups_get hu hi (Nat.lt_succ_self i)
      have h3 := (h.blk i (by omega)).1
      have := pw_le h3.1 h3.2.1
      omega
  refine ⟨?_, by have := h.len; omega⟩
  rcases Nat.eq_zero_or_pos z.Free.length with h0 | h0
  · omega
  · have h1 := key (z.Free.length - 1) (by omega)
    have h2 := (h.blk (z.Free.length - 1) (by omega)).1
    unfold fitsZ at h2
    omega

theorem backV_len (z : Zone) (a o : Int) : (backV z a o).2.Free.length ≤ 257 ∧ (backV z a o).2.Types.length ≤ 32 ∧ ((backV z a o).1 = 0 → (backV z a o).2.From = z.From ∧ (backV z a o).2.To = z.To ∧ (backV z a o).2.Types = z.Types) := by
  cases hq : zoneB z
  · rw [backV_8 hq]; simp [Zone.zero]
  · have hz := zoneB_iff.1 hq
    have hl := zone_len hz
    by_cases hf : fitsZ z.From z.To a o
    · cases ho : overB z.Free a o
      · have hJ := over_dis (f := 0) (t := 0) hz hf ho
        have hj := joinL_ok (by have := hz.ok; unfold zoneOk at this; omega) 5 hJ
        obtain ⟨⟨l, a', o'⟩, hq2⟩ : ∃ u, joinL 5 z.Free a o = u := ⟨_, rfl⟩
        rw [hq2] at hj
        rw [backV_0 hq hf ho hq2 rfl]
        have h3 := hj.2
        simp only [insAt, List.length_append, List.length_take, List.length_drop, List.length_singleton] at h3 ⊢
        exact ⟨by omega, hl.2, fun _ => by simp⟩
      · rw [backV_5 hq hf ho]; simp [Zone.zero]
    · rw [backV_1 hq hf]; simp [Zone.zero]

/-- P3.6 -/
noncomputable def giveL : Nat → Zone → Int → Int × Zone
  | 0, z, _ => (0, z)
  | k + 1, z, p => if (backV z p 0).1 = 0 then giveL k (backV z p 0).2 (p + 1) else ((backV z p 0).1, .zero)
def giveArgs (z : Zone) (f s : Int) : Prop := 0 ≤ s ∧ z.From ≤ f ∧ f ≤ z.To ∧ s ≤ z.To - f
instance (z : Zone) (f s : Int) : Decidable (giveArgs z f s) := inferInstanceAs (Decidable (_ ∧ _))
noncomputable def giveV (z : Zone) (f s : Int) : Int × Zone := if zoneB z then (if giveArgs z f s then giveL s.toNat z f else (1, .zero)) else (8, .zero)
theorem giveV_8 {z : Zone} {f s : Int} (h : zoneB z = false) : giveV z f s = (8, .zero) := by simp [giveV, h]
theorem giveV_1 {z : Zone} {f s : Int} (h : zoneB z = true) (ha : ¬ giveArgs z f s) : giveV z f s = (1, .zero) := by simp [giveV, h, ha]
theorem giveV_0 {z : Zone} {f : Int} {k : Nat} (h : zoneB z = true) (ha : giveArgs z f (k : Int)) : giveV z f (k : Int) = giveL k z f := by simp [giveV, h, ha]
theorem giveL_len : ∀ (k : Nat) (z : Zone) (p : Int), z.Free.length ≤ 257 → z.Types.length ≤ 32 → (giveL k z p).2.Free.length ≤ 257 ∧ (giveL k z p).2.Types.length ≤ 32
  | 0, z, p, h1, h2 => ⟨h1, h2⟩
  | k + 1, z, p, h1, h2 => by
    simp only [giveL]
    have := backV_len z p 0
    split
    · exact giveL_len k _ _ this.1 this.2.1
    · simp [Zone.zero]

theorem giveV_len (z : Zone) (f s : Int) : (giveV z f s).2.Free.length ≤ 257 ∧ (giveV z f s).2.Types.length ≤ 32 := by
  unfold giveV
  split
  · rename_i h
    have := zone_len (zoneB_iff.1 h)
    split
    · exact giveL_len _ _ _ (by omega) (by omega)
    · simp [Zone.zero]
  · simp [Zone.zero]
theorem backV_len2 (z : Zone) (f s : Int) : (backV z f s).2.Free.length ≤ 257 ∧ (backV z f s).2.Types.length ≤ 32 := ⟨(backV_len z f s).1, (backV_len z f s).2.1⟩
end Go.Proofs.YtfommgdbahemfaaDoor

/-
  Plain law: regions of pages as the runs of what holds of a page.
-/
set_option linter.unusedVariables false
namespace Go.Proofs.YtfommgdbahemfaaDoor

def Region.stop (r : Region) : Int := r.From + r.Size

def inReg (l : List Region) (p : Int) : Bool := l.any fun r => decide (r.From ≤ p) && decide (p < r.From + r.Size)

/-- the last region one page longer -/
def bump : List Region → List Region
  | [] => []
  | [r] => [⟨r.From, r.Size + 1⟩]
  | x :: y :: l => x :: bump (y :: l)

/-- the runs of p below k -/
def runs (p : Nat → Bool) : Nat → List Region
  | 0 => []
  | i + 1 => if p i then (if 0 < i ∧ p (i - 1) = true then bump (runs p i) else runs p i ++ [⟨(i : Int), 1⟩]) else runs p i

theorem bump_concat : ∀ (l : List Region) (r : Region), bump (l ++ [r]) = l ++ [⟨r.From, r.Size + 1⟩]
  | [], _ => rfl
  | [x], _ => rfl
  | x :: y :: l, r => by
    have ih := bump_concat (y :: l) r
    simp only [List.cons_append, bump] at ih ⊢
    rw [ih]

theorem runs_congr {p q : Nat → Bool} : ∀ (k : Nat), (∀ i, i < k → p i = q i) → runs p k = runs q k
  | 0, _ => rfl
  | k + 1, h => by
    have h1 := h k (by omega)
    have ih := runs_congr k (fun i hi => h i (by omega))
    simp only [runs, h1, ih]
    by_cases hk : 0 < k
    · rw [h (k - 1) (by omega)]
    · simp [hk]

/-- what is known of the runs below k -/
structure RunsOk (p : Nat → Bool) (k : Nat) (l : List Region) : Prop where
  rng : ∀ r ∈ l, 0 ≤ r.From ∧ 1 ≤ r.Size ∧ r.From + r.Size ≤ (k : Int)
  len : l.length ≤ k
  last : 0 < k → p (k - 1) = true → ∃ init r, l = init ++ [r] ∧ r.From + r.Size = (k : Int)
  below : (0 < k → p (k - 1) = false) → ∀ r ∈ l, r.From + r.Size < (k : Int)
  sep : l.Pairwise fun a b => a.From + a.Size < b.From
  iff : ∀ i : Nat, i < k → (p i = true ↔ ∃ r ∈ l, r.From ≤ (i : Int) ∧ (i : Int) < r.From + r.Size)

theorem runs_ok (p : Nat → Bool) : ∀ k, RunsOk p k (runs p k)
  | 0 => ⟨by simp [runs], by simp [runs], by simp, by simp [runs], by simp [runs], by simp⟩
  | k + 1 => by
    have ih := runs_ok p k
    simp only [runs]
    by_cases hp : p k = true
    · rw [if_pos hp]
      by_cases hq : 0 < k ∧ p (k - 1) = true
      · rw [if_pos hq]
        obtain ⟨init, r, hl, hr⟩ := ih.last hq.1 hq.2
        rw [hl, bump_concat]
        have hrng := ih.rng
        have hlen := ih.len
        have hsep := ih.sep
        have hiff := ih.iff
        rw [hl] at hrng hlen hsep hiff
        have hr0 := hrng r (by simp)
        refine ⟨?_, ?_, ?_, ?_, ?_, ?_⟩
        · intro x hx
          simp only [List.mem_append, List.mem_singleton] at hx
          rcases hx with hx | rfl
          · have := hrng x (by simp [hx]); omega
          · simp only; omega
        · simp only [List.length_append, List.length_singleton] at hlen ⊢; omega
        · intro _ _
          exact ⟨init, _, rfl, by simp only; omega⟩
        · intro h
          simp at h
          rw [h] at hp; cases hp
        · rw [List.pairwise_append] at hsep ⊢
          refine ⟨hsep.1, by simp, fun a ha b hb => ?_⟩
          simp only [List.mem_singleton] at hb
          subst hb
          exact hsep.2.2 a ha r (by simp)
        · intro i hi
          by_cases hik : i = k
          · subst hik
            simp only [hp, true_iff]
            exact ⟨⟨r.From, r.Size + 1⟩, by simp, by simp only; omega, by simp only; omega⟩
          · rw [hiff i (by omega)]
            constructor
            · rintro ⟨x, hx, h1, h2⟩
              simp only [List.mem_append, List.mem_singleton] at hx
              rcases hx with hx | rfl
              · exact ⟨x, by simp [hx], h1, h2⟩
              · exact ⟨⟨x.From, x.Size + 1⟩, by simp, h1, by simp only; omega⟩
            · rintro ⟨x, hx, h1, h2⟩
              simp only [List.mem_append, List.mem_singleton] at hx
              rcases hx with hx | rfl
              · exact ⟨x, by simp [hx], h1, h2⟩
              · simp only at h1 h2
                exact ⟨r, by simp, h1, by omega⟩
      · rw [if_neg hq]
        have hb : ∀ r ∈ runs p k, r.From + r.Size < (k : Int) := ih.below (fun h0 => by
          cases hh : p (k - 1) with
          | false => rfl
          | true => exact absurd ⟨h0, hh⟩ hq)
        refine ⟨?_, ?_, ?_, ?_, ?_, ?_⟩
        · intro x hx
          simp only [List.mem_append, List.mem_singleton] at hx
          rcases hx with hx | rfl
          · have := ih.rng x hx; omega
          · simp only; omega
        · have := ih.len
          simp only [List.length_append, List.length_singleton]; omega
        · intro _ _
          exact ⟨runs p k, _, rfl, by simp only; omega⟩
        · intro h
          simp at h
          rw [h] at hp; cases hp
        · rw [List.pairwise_append]
          refine ⟨ih.sep, by simp, fun a ha b hb' => ?_⟩
          simp only [List.mem_singleton] at hb'
          subst hb'
          exact hb a ha
        · intro i hi
          by_cases hik : i = k
          · subst hik
            simp only [hp, true_iff]
            exact ⟨⟨(i : Int), 1⟩, by simp, by simp only; omega, by simp only; omega⟩
          · rw [ih.iff i (by omega)]
            constructor
            · rintro ⟨x, hx, h1, h2⟩
              exact ⟨x, by simp [hx], h1, h2⟩
            · rintro ⟨x, hx, h1, h2⟩
              simp only [List.mem_append, List.mem_singleton] at hx
              rcases hx with hx | rfl
              · exact ⟨x, hx, h1, h2⟩
              · simp only at h1 h2
                omega
    · rw [if_neg hp]
      have hp' : p k = false := by simpa using hp
      refine ⟨?_, ?_, ?_, ?_, ih.sep, ?_⟩
      · intro x hx
        have := ih.rng x hx; omega
      · have := ih.len; omega
      · intro _ h
        simp at h
        rw [h] at hp'; cases hp'
      · intro _ x hx
        have := ih.rng x hx; omega
      · intro i hi
        by_cases hik : i = k
        · subst hik
          simp only [hp', Bool.false_eq_true, false_iff]
          rintro ⟨x, hx, h1, h2⟩
          have := ih.rng x hx; omega
        · exact ih.iff i (by omega)

/-- a marks' list -/
def marksOf (p : Nat → Bool) (k : Nat) : List Bool := (List.range k).map p
theorem marksOf_len (p : Nat → Bool) (k : Nat) : (marksOf p k).length = k := by simp [marksOf]
theorem marksOf_get (p : Nat → Bool) (k i : Nat) (h : i < (marksOf p k).length) : (marksOf p k)[i] = p i := by simp [marksOf]
theorem marksOf_set (p : Nat → Bool) (k i : Nat) (b : Bool) : (marksOf p k).set i b = marksOf (fun j => if j = i then b else p j) k := by
  apply List.ext_getElem (by simp [marksOf])
  intro j h1 h2
  rw [List.getElem_set]
  by_cases h : i = j
  · subst h; simp [marksOf]
  · have : ¬ j = i := fun e => h e.symm
    simp [marksOf, h, this]
theorem marksOf_congr {p q : Nat → Bool} {k : Nat} (h : ∀ i, i < k → p i = q i) : marksOf p k = marksOf q k := by
  apply List.ext_getElem (by simp [marksOf])
  intro j h1 h2
  simp only [marksOf_get]
  exact h j (by simpa [marksOf] using h1)
end Go.Proofs.YtfommgdbahemfaaDoor

/-
  Plain law: which pages blocks have; when a heap may be.
-/
set_option linter.unusedVariables false
namespace Go.Proofs.YtfommgdbahemfaaDoor

def inB (b : Block) (i : Nat) : Bool := decide (b.At ≤ (i : Int)) && decide ((i : Int) < b.At + pw b.Order)
def covP (bs : List Block) (i : Nat) : Bool := bs.any fun b => inB b i
/-- one block more may be -/
def fitsL (bs : List Block) (b : Block) : Prop := 0 ≤ b.At ∧ b.At + pw b.Order ≤ 256 ∧ overB bs b.At b.Order = false
instance (bs : List Block) (b : Block) : Decidable (fitsL bs b) := inferInstanceAs (Decidable (_ ∧ _))
/-- no block twice: the blocks in turn -/
def addB (s : Option (List Block)) (b : Block) : Option (List Block) := match s with
  | none => none
  | some bs => if fitsL bs b then some (bs ++ [b]) else none
def addAll (s : Option (List Block)) (l : List Block) : Option (List Block) := l.foldl addB s
theorem addAll_none : ∀ l, addAll none l = none
  | [] => rfl
  | b :: l => addAll_none l
theorem addAll_append (s : Option (List Block)) (l m : List Block) : addAll s (l ++ m) = addAll (addAll s l) m := List.foldl_append
theorem addAll_take (s : Option (List Block)) (l : List Block) (k : Nat) (h : k < l.length) : addAll s (l.take (k + 1)) = addB (addAll s (l.take k)) l[k] := by
  rw [List.take_succ_eq_append_getElem h, addAll_append]; rfl
theorem addAll_prefix {s : Option (List Block)} {l : List Block} {k : Nat} (h : addAll s (l.take k) = none) : addAll s l = none := by
  have : l = l.take k ++ l.drop k := by simp
  rw [this, addAll_append, h, addAll_none]
theorem addB_some {s : Option (List Block)} {b : Block} {bs : List Block} (h : addB s b = some bs) : ∃ cs, s = some cs ∧ fitsL cs b ∧ bs = cs ++ [b] := by
  cases s with
  | none => simp [addB] at h
  | some cs =>
    simp only [addB] at h
    split at h
    · rename_i hf; injection h with h; exact ⟨cs, rfl, hf, h.symm⟩
    · cases h

/-- pages are free of others, one by one or as a whole -/
def okM (p : Nat → Bool) (a n : Int) : Prop := 0 ≤ a ∧ a < 256 ∧ n ≤ 256 - a ∧ ∀ i : Nat, a ≤ (i : Int) → (i : Int) < a + n → p i = false
def addM (p : Nat → Bool) (a n : Int) (i : Nat) : Bool := p i || (decide (a ≤ (i : Int)) && decide ((i : Int) < a + n))
theorem okM_iff {bs : List Block} (hb : ∀ b ∈ bs, 0 ≤ b.At ∧ 1 ≤ pw b.Order) {b : Block} (h1 : 1 ≤ pw b.Order) : okM (covP bs) b.At (pw b.Order) ↔ fitsL bs b := by
  constructor
  · rintro ⟨h2, h3, h4, h5⟩
    refine ⟨h2, by omega, ?_⟩
    unfold overB
    rw [List.any_eq_false]
    intro x hx hh
    simp only [Bool.and_eq_true, decide_eq_true_eq] at hh
    obtain ⟨k1, k2⟩ := hh
    obtain ⟨q1, q2⟩ := hb x hx
    have h6 := h5 (max x.At b.At).toNat (by omega) (by omega)
    unfold covP at h6
    rw [List.any_eq_false] at h6
    apply h6 x hx
    simp only [inB, Bool.and_eq_true, decide_eq_true_eq]
    omega
  · rintro ⟨h2, h3, h4⟩
    refine ⟨h2, by omega, by omega, fun i k1 k2 => ?_⟩
    unfold covP
    rw [List.any_eq_false]
    intro x hx hh
    simp only [inB, Bool.and_eq_true, decide_eq_true_eq] at hh
    unfold overB at h4
    rw [List.any_eq_false] at h4
    apply h4 x hx
    simp only [Bool.and_eq_true, decide_eq_true_eq]
    omega
theorem addM_cov (bs : List Block) (b : Block) (i : Nat) : addM (covP bs) b.At (pw b.Order) i = covP (bs ++ [b]) i := by
  simp [addM, covP, inB]

/-- the blocks known so far are blocks -/
def goodS (s : Option (List Block)) : Prop := ∀ bs, s = some bs → ∀ x ∈ bs, 0 ≤ x.At ∧ 1 ≤ pw x.Order
theorem goodS_nil : goodS (some []) := fun bs h x hx => by cases h; simp at hx
theorem goodS_add {s : Option (List Block)} {b : Block} (h : goodS s) (hb : 1 ≤ pw b.Order) : goodS (addB s b) := fun bs hbs x hx => by
  obtain ⟨cs, rfl, hf, rfl⟩ := addB_some hbs
  rcases List.mem_append.1 hx with hx | hx
  · exact h cs rfl x hx
  · simp at hx; subst hx; exact ⟨hf.1, hb⟩
theorem goodS_all {s : Option (List Block)} : ∀ {l : List Block}, goodS s → (∀ b ∈ l, 1 ≤ pw b.Order) → goodS (addAll s l)
  | [], h, _ => h
  | b :: l, h, hb => goodS_all (l := l) (goodS_add h (hb b (by simp))) (fun x hx => hb x (by simp [hx]))

def pageB (p : Int) : Block := ⟨p, 0, 0⟩
def pagesB (l : List PList) : List Block := l.flatMap fun x => x.Pages.map pageB
theorem pw_zero : pw 0 = 1 := by decide

/-- P4.2, of one list -/
def aheadL (a b : PList) : Prop := a.Cpu < b.Cpu ∨ (a.Cpu = b.Cpu ∧ (a.Zone < b.Zone ∨ (a.Zone = b.Zone ∧ a.Ty < b.Ty)))
instance (a b : PList) : Decidable (aheadL a b) := inferInstanceAs (Decidable (_ ∨ _))
def listOk (cpus to : Int) (l : PList) : Prop := (0 ≤ l.Cpu ∧ l.Cpu < cpus) ∧ (0 ≤ l.Zone ∧ l.Zone ≤ 1) ∧ (0 ≤ l.Ty ∧ l.Ty ≤ 2) ∧ (1 ≤ l.Pages.length ∧ l.Pages.length ≤ 8) ∧ ∀ p ∈ l.Pages, (p < to ↔ l.Zone = 0)
def headOk (cpus : Int) (l : PList) : Prop := (0 ≤ l.Cpu ∧ l.Cpu < cpus) ∧ (0 ≤ l.Zone ∧ l.Zone ≤ 1) ∧ (0 ≤ l.Ty ∧ l.Ty ≤ 2) ∧ (1 ≤ l.Pages.length ∧ l.Pages.length ≤ 8)
instance (c : Int) (l : PList) : Decidable (headOk c l) := inferInstanceAs (Decidable (_ ∧ _))
structure ListsOk (cpus to : Int) (ls : List PList) : Prop where
  head : ∀ (i : Nat) (h : i < ls.length), headOk cpus ls[i]
  next : ∀ (i : Nat) (h : i + 1 < ls.length), aheadL ls[i] ls[i + 1]
  zone : ∀ (i : Nat) (h : i < ls.length), ∀ p ∈ (ls[i]).Pages, (p < to ↔ (ls[i]).Zone = 0)
def liveOk (b : Block) : Prop := (0 ≤ b.Order ∧ b.Order ≤ 4) ∧ (0 ≤ b.At ∧ b.At ≤ 255) ∧ b.At % pw b.Order = 0 ∧ tyOk b.Ty
instance (b : Block) : Decidable (liveOk b) := inferInstanceAs (Decidable (_ ∧ _))
structure LiveOk (l : List Block) : Prop where
  each : ∀ (i : Nat) (h : i < l.length), liveOk l[i]
  next : ∀ (i : Nat) (h : i + 1 < l.length), l[i].At < l[i + 1].At
structure HeapMay (h : Heap) : Prop where
  zones : ∃ z0 z1, h.Zones = [z0, z1] ∧ ZoneMay z0 ∧ ZoneMay z1 ∧ z0.From = 0 ∧ z0.To = z1.From ∧ z1.To = 256 ∧ ListsOk h.Cpus z0.To h.Lists ∧ (addAll (some []) (z0.Free ++ z1.Free ++ pagesB h.Lists ++ h.Live)).isSome = true
  mins : ∃ m0 m1, h.Mins = [m0, m1] ∧ (0 ≤ m0 ∧ m0 ≤ 256) ∧ (0 ≤ m1 ∧ m1 ≤ 256)
  cpus : 1 ≤ h.Cpus ∧ h.Cpus ≤ 4
  live : LiveOk h.Live
noncomputable def heapB (h : Heap) : Bool := @decide (HeapMay h) (Classical.propDecidable _)
theorem heapB_t {h : Heap} (a : HeapMay h) : heapB h = true := by unfold heapB; exact @decide_eq_true _ (Classical.propDecidable _) a
theorem heapB_f {h : Heap} (a : ¬ HeapMay h) : heapB h = false := by unfold heapB; exact @decide_eq_false _ (Classical.propDecidable _) a
theorem heapB_iff {h : Heap} : heapB h = true ↔ HeapMay h := by
  by_cases a : HeapMay h
  · simp [heapB_t a, a]
  · simp [heapB_f a, a]
theorem pagesB_take (l : List PList) (k : Nat) (h : k < l.length) : pagesB (l.take (k + 1)) = pagesB (l.take k) ++ l[k].Pages.map pageB := by
  unfold pagesB
  rw [List.take_succ_eq_append_getElem h, List.flatMap_append]
  simp
theorem addAll_some_of {s : Option (List Block)} {l m : List Block} (h : (addAll s (l ++ m)).isSome = true) : (addAll s l).isSome = true := by
  rw [addAll_append] at h
  cases e : addAll s l with
  | none => rw [e, addAll_none] at h; cases h
  | some x => rfl
end Go.Proofs.YtfommgdbahemfaaDoor

/-
  Plain law: a block that goes back leaves a zone that may be, with just its pages more.
-/
set_option linter.unusedVariables false
namespace Go.Proofs.YtfommgdbahemfaaDoor

def nxs (l : List Block) : Prop := l.Pairwise nextOk
theorem beside_two {y o : Int} (h0 : 0 ≤ o) (h4 : o < 4) (hm : y % pw o = 0) : beside (beside y o) o = y ∧ (beside y o = y + pw o ∨ beside y o = y - pw o) := by
  unfold beside
  have hp := pw_cases h0 (show o ≤ 4 by omega)
  generalize pw o = q at *
  rcases hp with ⟨e, rfl⟩ | ⟨e, rfl⟩ | ⟨e, rfl⟩ | ⟨e, rfl⟩ | ⟨e, rfl⟩ <;> (refine ⟨?_, ?_⟩ <;> split <;> (try split) <;> omega)
theorem zone_nxs {z : Zone} (h : ZoneMay z) : nxs z.Free := by
  have hu := zone_ups h
  unfold nxs
  rw [List.pairwise_iff_getElem]
  intro i j hi hj hij
  by_cases e : j = i + 1
  · subst e; exact h.next i hj
  · refine ⟨ups_get hu hj hij, fun hh => ?_⟩
    obtain ⟨h1, h2, h3⟩ := hh
    have g1 := ups_get hu (show i + 1 < z.Free.length by omega) (Nat.lt_succ_self i)
    have g2 := ups_get hu hj (show i + 1 < j by omega)
    have b1 := (h.blk (i + 1) (by omega)).1
    have b2 := (h.blk j hj).1
    have p1 := pw_le b1.1 b1.2.1
    have p2 := (beside_two b2.1 h1 b2.2.2.2.2).2
    have p3 := pw_le b2.1 b2.2.1
    rw [h2] at g1
    omega
theorem inB_union {a o : Int} (h0 : 0 ≤ o) (h4 : o < 4) (hm : a % pw o = 0) (t1 t2 t3 : Int) (i : Nat) : inB ⟨min a (beside a o), o + 1, t1⟩ i = (inB ⟨a, o, t2⟩ i || inB ⟨beside a o, o, t3⟩ i) := by
  have h1 := (beside_two h0 h4 hm).2
  have h2 := pw_succ h0 (show o ≤ 4 by omega)
  have h3 := pw_le h0 (show o ≤ 4 by omega)
  rw [Bool.eq_iff_iff]
  simp only [inB, Bool.and_eq_true, Bool.or_eq_true, decide_eq_true_eq]
  rw [h2]
  omega
theorem inB_ty (a o t u : Int) (i : Nat) : inB ⟨a, o, t⟩ i = inB ⟨a, o, u⟩ i := rfl
theorem cov_without {l : List Block} {a o : Int} (h : l.any (isB a o) = true) (i : Nat) : covP l i = (covP (without l a o) i || inB ⟨a, o, 0⟩ i) := by
  rw [Bool.eq_iff_iff]
  simp only [Bool.or_eq_true, covP, List.any_eq_true, without, List.mem_filter]
  constructor
  · rintro ⟨x, hx, hi⟩
    by_cases e : isB a o x = true
    · obtain ⟨e1, e2⟩ := isB_iff.1 e
      right; rw [← hi, ← e1, ← e2]; rfl
    · left; exact ⟨x, ⟨hx, by simp [e]⟩, hi⟩
  · rintro (⟨x, ⟨hx, _⟩, hi⟩ | hi)
    · exact ⟨x, hx, hi⟩
    · obtain ⟨b, hb, hh⟩ := List.any_eq_true.1 h
      obtain ⟨e1, e2⟩ := isB_iff.1 hh
      exact ⟨b, hb, by rw [← hi, ← e1, ← e2]; rfl⟩
structure Joined (f t : Int) (l : List Block) (a o : Int) (l' : List Block) (a' o' : Int) : Prop where
  ok : JOk f t l' a' o'
  nx : nxs l'
  cov : ∀ i, (covP l' i || inB ⟨a', o', 0⟩ i) = (covP l i || inB ⟨a, o, 0⟩ i)
  fin : o' < 4 → l'.any (isB (beside a' o') o') = false
theorem joinL_joined {f t : Int} (h0 : 0 ≤ f) : ∀ (k : Nat) {l : List Block} {a o : Int}, 4 - o < k → JOk f t l a o → nxs l → Joined f t l a o (joinL k l a o).1 (joinL k l a o).2.1 (joinL k l a o).2.2
  | 0, l, a, o, hk, h, hn => by have := h.fit.2.1; omega
  | k + 1, l, a, o, hk, h, hn => by
    simp only [joinL]
    split
    · rename_i ho
      split
      · rename_i hany
        have ih := joinL_joined h0 k (by omega) (h.step h0 ho hany) (hn.sublist List.filter_sublist)
        refine ⟨ih.ok, ih.nx, fun i => ?_, ih.fin⟩
        rw [ih.cov i, inB_union h.fit.1 ho h.fit.2.2.2.2 0 0 0, cov_without hany i]
        rw [Bool.or_assoc, Bool.or_comm (inB _ i) (inB _ i)]
      · rename_i hany
        exact ⟨h, hn, fun _ => rfl, fun _ => by simpa using hany⟩
    · rename_i ho
      exact ⟨h, hn, fun _ => rfl, fun h => absurd h ho⟩
theorem ins_nxs {f t : Int} {l0 : List Block} {a0 o0 : Int} {l : List Block} {a o : Int} (h : Joined f t l0 a0 o0 l a o) (u : Int) : nxs (insAt l (lbOf l a) ⟨a, o, u⟩) := by
  have hk := h.ok
  have hp := pw_le hk.fit.1 hk.fit.2.1
  have hlow : ∀ x ∈ l.take (lbOf l a), nextOk x ⟨a, o, u⟩ := fun x hx => by
    obtain ⟨j, hj, rfl⟩ := List.getElem_of_mem hx
    simp only [List.length_take] at hj
    rw [List.getElem_take]
    have h1 := lb_below (l := l) (a := a) (k := j) (by omega)
    have h2 := hk.dis _ (List.getElem_mem (show j < l.length by omega))
    refine ⟨by simp only; omega, fun hh => ?_⟩
    obtain ⟨g1, g2, g3⟩ := hh
    have := h.fin g1
    rw [List.any_eq_false] at this
    exact this _ (List.getElem_mem (show j < l.length by omega)) (isB_iff.2 ⟨g3, g2⟩)
  have hhigh : ∀ y ∈ l.drop (lbOf l a), nextOk ⟨a, o, u⟩ y := fun y hy => by
    obtain ⟨j, hj, rfl⟩ := List.getElem_of_mem hy
    simp only [List.length_drop] at hj
    rw [List.getElem_drop]
    have hlt : lbOf l a < l.length := by omega
    have h1 := lb_at hlt
    have hm := List.getElem_mem (show lbOf l a + j < l.length by omega)
    have h2 := hk.dis _ hm
    have hb := (hk.blk _ hm).1
    have hpj := pw_le hb.1 hb.2.1
    have h3 : (l[lbOf l a]).At ≤ (l[lbOf l a + j]'(by omega)).At := by
      rcases Nat.eq_zero_or_pos j with e | e
      · subst e; simp
      · have := ups_get hk.ups (show lbOf l a + j < l.length by omega) (show lbOf l a < lbOf l a + j by omega)
        have hb0 := (hk.blk _ (List.getElem_mem hlt)).1
        have := pw_le hb0.1 hb0.2.1
        omega
    refine ⟨by simp only; omega, fun hh => ?_⟩
    obtain ⟨g1, g2, g3⟩ := hh
    simp only at g2 g3
    have e := (beside_two hb.1 g1 hb.2.2.2.2).1
    rw [← g3, ← g2] at e
    have := h.fin (by omega)
    rw [List.any_eq_false] at this
    exact this _ hm (isB_iff.2 ⟨e.symm, g2.symm⟩)
  have hall : (l.take (lbOf l a) ++ l.drop (lbOf l a)).Pairwise nextOk := by rw [List.take_append_drop]; exact h.nx
  rw [List.pairwise_append] at hall
  unfold nxs insAt
  rw [List.append_assoc, List.pairwise_append]
  refine ⟨hall.1, ?_, fun x hx y hy => ?_⟩
  · rw [List.singleton_append, List.pairwise_cons]
    exact ⟨hhigh, hall.2.1⟩
  · rw [List.singleton_append, List.mem_cons] at hy
    rcases hy with rfl | hy
    · exact hlow x hx
    · exact hall.2.2 x hx y hy
theorem cov_insAt (l : List Block) (i : Nat) (b : Block) (k : Nat) : covP (insAt l i b) k = (covP l k || inB b k) := by
  have : covP l k = (covP (l.take i) k || covP (l.drop i) k) := by
    unfold covP
    rw [← List.any_append, List.take_append_drop]
  rw [this]
  simp only [covP, insAt, List.any_append, List.any_cons, List.any_nil, Bool.or_false]
  cases (l.take i).any fun b => inB b k <;> cases inB b k <;> simp
theorem mem_insAt {l : List Block} {i : Nat} {b x : Block} (h : x ∈ insAt l i b) : x = b ∨ x ∈ l := by
  unfold insAt at h
  rw [List.mem_append, List.mem_append] at h
  rcases h with (h | h) | h
  · exact .inr (List.mem_of_mem_take h)
  · exact .inl (by simpa using h)
  · exact .inr (List.mem_of_mem_drop h)

structure Kept (z z' : Zone) (a o : Int) : Prop where
  may : ZoneMay z'
  from_ : z'.From = z.From
  to_ : z'.To = z.To
  types : z'.Types = z.Types
  cov : ∀ i, covP z'.Free i = (covP z.Free i || inB ⟨a, o, 0⟩ i)
theorem backV_keep {z : Zone} {a o : Int} (hz : ZoneMay z) (hf : fitsZ z.From z.To a o) (ho : overB z.Free a o = false) : (backV z a o).1 = 0 ∧ Kept z (backV z a o).2 a o := by
  have h0 : 0 ≤ z.From := hz.ok.1
  have hJ := over_dis (f := 0) (t := 0) hz hf ho
  have hj := joinL_joined h0 5 (by have := hf.1; omega) hJ (zone_nxs hz)
  obtain ⟨⟨l, a', o'⟩, hq⟩ : ∃ u, joinL 5 z.Free a o = u := ⟨_, rfl⟩
  rw [hq] at hj
  simp only at hj
  obtain ⟨t, ht⟩ : ∃ t, z.Types.getD ((a' - z.From) / 8).toNat 0 = t := ⟨_, rfl⟩
  rw [backV_0 (zoneB_t hz) hf ho hq ht]
  have htok : tyOk t := by
    subst ht
    rw [List.getD_eq_getElem?_getD]
    cases e : z.Types[((a' - z.From) / 8).toNat]? with
    | none => exact ⟨by decide, by decide⟩
    | some v =>
      obtain ⟨h, rfl⟩ := List.getElem?_eq_some_iff.1 e
      exact hz.types _ (List.getElem_mem h)
  have hn := ins_nxs hj t
  refine ⟨rfl, ⟨hz.ok, hz.len, hz.types, fun i hi => ?_, fun i hi => ?_⟩, rfl, rfl, rfl, fun i => ?_⟩
  · rcases mem_insAt (List.getElem_mem hi) with e | e
    · simp only at e ⊢
      rw [e]; exact ⟨hj.ok.fit, htok⟩
    · exact hj.ok.blk _ e
  · unfold nxs at hn
    rw [List.pairwise_iff_getElem] at hn
    exact hn i (i + 1) (by simp only at hi; omega) hi (Nat.lt_succ_self i)
  · rw [cov_insAt, ← hj.cov i]; rfl

/-- a page that no block covers does not overlap -/
theorem over_page {l : List Block} {p : Int} (hb : ∀ b ∈ l, 0 ≤ b.At) (h0 : 0 ≤ p) (h : covP l p.toNat = false) : overB l p 0 = false := by
  unfold overB
  rw [List.any_eq_false]
  intro x hx
  unfold covP at h
  rw [List.any_eq_false] at h
  have := h x hx
  have e := pw_zero
  simp only [inB, Bool.and_eq_true, decide_eq_true_eq, not_and] at this ⊢
  rw [Int.toNat_of_nonneg h0] at this
  omega
theorem page_cov {l : List Block} {p : Int} (h0 : 0 ≤ p) (h : overB l p 0 = false) : covP l p.toNat = false := by
  unfold covP
  rw [List.any_eq_false]
  intro x hx
  unfold overB at h
  rw [List.any_eq_false] at h
  have := h x hx
  have e := pw_zero
  simp only [inB, Bool.and_eq_true, decide_eq_true_eq, not_and] at this ⊢
  rw [Int.toNat_of_nonneg h0]
  omega
end Go.Proofs.YtfommgdbahemfaaDoor

/-
  Plain law: blocks of a heap go back to its two zones, one after the other.
-/
set_option linter.unusedVariables false
namespace Go.Proofs.YtfommgdbahemfaaDoor

/-- a block goes back to its zone -/
noncomputable def backP (s : Zone × Zone) (b : Block) : Zone × Zone := if b.At < s.1.To then ((backV s.1 b.At b.Order).2, s.2) else (s.1, (backV s.2 b.At b.Order).2)
noncomputable def backAll (s : Zone × Zone) (l : List Block) : Zone × Zone := l.foldl backP s
theorem backAll_take (s : Zone × Zone) (l : List Block) (k : Nat) (h : k < l.length) : backAll s (l.take (k + 1)) = backP (backAll s (l.take k)) l[k] := by
  unfold backAll
  rw [List.take_succ_eq_append_getElem h, List.foldl_append]; rfl
theorem backAll_append (s : Zone × Zone) (l m : List Block) : backAll s (l ++ m) = backAll (backAll s l) m := List.foldl_append

/-- what the two zones keep: they may be, where they were, and cover just these blocks -/
structure DInv (s : Zone × Zone) (bs : List Block) : Prop where
  may0 : ZoneMay s.1
  may1 : ZoneMay s.2
  from0 : s.1.From = 0
  mid : s.1.To = s.2.From
  to1 : s.2.To = 256
  cov : ∀ i, (covP s.1.Free i || covP s.2.Free i) = covP bs i

theorem covP_append (l m : List Block) (i : Nat) : covP (l ++ m) i = (covP l i || covP m i) := by simp [covP]
theorem zone_good {z : Zone} (h : ZoneMay z) : ∀ b ∈ z.Free, 0 ≤ b.At ∧ 1 ≤ pw b.Order := fun b hb => by
  obtain ⟨i, hi, rfl⟩ := List.getElem_of_mem hb
  have h1 := (h.blk i hi).1
  have h2 := h.ok.1
  have := pw_le h1.1 h1.2.1
  obtain ⟨_, _, h3, _, _⟩ := h1
  omega
/-- where the next block may go -/
structure NextB (bs : List Block) (b : Block) : Prop where
  ord : 0 ≤ b.Order ∧ b.Order ≤ 4
  at_ : 0 ≤ b.At ∧ b.At < 256
  al : b.At % pw b.Order = 0
  fits : fitsL bs b
  good : ∀ x ∈ bs, 0 ≤ x.At ∧ 1 ≤ pw x.Order

theorem DInv.free {s : Zone × Zone} {bs : List Block} (h : DInv s bs) {b : Block} (hb : NextB bs b) : overB s.1.Free b.At b.Order = false ∧ overB s.2.Free b.At b.Order = false := by
  have hp := pw_le hb.ord.1 hb.ord.2
  have hm := (okM_iff hb.good hp.1).2 hb.fits
  obtain ⟨m1, m2, m3, m4⟩ := hm
  have key : ∀ l : List Block, (∀ x ∈ l, 0 ≤ x.At ∧ 1 ≤ pw x.Order) → (∀ i, covP l i = true → covP bs i = true) → overB l b.At b.Order = false := fun l hl hc =>
    ((okM_iff hl hp.1).1 ⟨m1, m2, m3, fun i h1 h2 => by
      cases e : covP l i with
      | false => rfl
      | true => have := hc i e; rw [m4 i h1 h2] at this; cases this⟩).2.2
  exact ⟨key _ (zone_good h.may0) fun i hi => by rw [← h.cov i, hi]; rfl, key _ (zone_good h.may1) fun i hi => by rw [← h.cov i, hi]; simp⟩
theorem DInv.low {s : Zone × Zone} {bs : List Block} (h : DInv s bs) {b : Block} (hb : NextB bs b) (hl : b.At < s.1.To) : fitsZ s.1.From s.1.To b.At b.Order := ⟨hb.ord.1, hb.ord.2, by rw [h.from0]; exact hb.at_.1, hl, hb.al⟩
theorem DInv.high {s : Zone × Zone} {bs : List Block} (h : DInv s bs) {b : Block} (hb : NextB bs b) (hl : ¬ b.At < s.1.To) : fitsZ s.2.From s.2.To b.At b.Order := ⟨hb.ord.1, hb.ord.2, by rw [← h.mid]; omega, by rw [h.to1]; exact hb.at_.2, hb.al⟩
theorem cov_single (b : Block) (i : Nat) : covP [b] i = inB b i := by simp [covP]
theorem DInv.back {s : Zone × Zone} {bs : List Block} (h : DInv s bs) {b : Block} (hb : NextB bs b) : DInv (backP s b) (bs ++ [b]) ∧ (backP s b).1.To = s.1.To := by
  obtain ⟨o0, o1⟩ := h.free hb
  unfold backP
  by_cases hl : b.At < s.1.To
  · rw [if_pos hl]
    obtain ⟨_, k⟩ := backV_keep h.may0 (h.low hb hl) o0
    refine ⟨⟨k.may, h.may1, by rw [← h.from0]; exact k.from_, by rw [← h.mid]; exact k.to_, h.to1, fun i => ?_⟩, k.to_⟩
    rw [covP_append, cov_single, ← h.cov i]
    simp only
    rw [k.cov i]
    have : inB ⟨b.At, b.Order, 0⟩ i = inB b i := rfl
    rw [this]
    cases covP s.1.Free i <;> cases covP s.2.Free i <;> cases inB b i <;> rfl
  · rw [if_neg hl]
    obtain ⟨_, k⟩ := backV_keep h.may1 (h.high hb hl) o1
    refine ⟨⟨h.may0, k.may, h.from0, by simp only; rw [k.from_]; exact h.mid, by simp only; rw [k.to_]; exact h.to1, fun i => ?_⟩, rfl⟩
    rw [covP_append, cov_single, ← h.cov i]
    simp only
    rw [k.cov i]
    have : inB ⟨b.At, b.Order, 0⟩ i = inB b i := rfl
    rw [this, Bool.or_assoc]

/-! out of a list of blocks that are known to be apart -/
theorem addAll_some : ∀ {l s t : List Block}, addAll (some s) l = some t → t = s ++ l
  | [], s, t, h => by simp [addAll] at h; simp [h]
  | b :: l, s, t, h => by
    have e : addAll (some s) (b :: l) = addAll (addB (some s) b) l := rfl
    rw [e] at h
    cases e2 : addB (some s) b with
    | none => rw [e2, addAll_none] at h; cases h
    | some u =>
      rw [e2] at h
      obtain ⟨cs, hcs, _, rfl⟩ := addB_some e2
      cases hcs
      rw [addAll_some h]
      simp
theorem addAll_fitsL {l m : List Block} {b : Block} (h : (addAll (some []) (l ++ b :: m)).isSome = true) : fitsL l b := by
  have h1 : (addAll (some []) (l ++ [b])).isSome = true := addAll_some_of (m := m) (by simpa using h)
  rw [addAll_append] at h1
  cases e : addAll (some []) l with
  | none => rw [e, addAll_none] at h1; cases h1
  | some t =>
    have := addAll_some e
    rw [List.nil_append] at this
    subst this
    rw [e] at h1
    cases e2 : addAll (some t) [b] with
    | none => rw [e2] at h1; cases h1
    | some u =>
      have : addB (some t) b = some u := e2
      obtain ⟨cs, hcs, hf, _⟩ := addB_some this
      cases hcs
      exact hf
theorem addAll_good {l : List Block} (h : (addAll (some []) l).isSome = true) (hb : ∀ b ∈ l, 1 ≤ pw b.Order) : ∀ x ∈ l, 0 ≤ x.At ∧ 1 ≤ pw x.Order := by
  have hg := goodS_all (l := l) goodS_nil hb
  obtain ⟨t, ht⟩ := Option.isSome_iff_exists.1 h
  have e := addAll_some ht
  rw [List.nil_append] at e
  subst e
  exact hg _ ht

/-- a heap that may be, its zones, its pages in lists -/
structure DHeap (h : Heap) (z0 z1 : Zone) : Prop where
  zones : h.Zones = [z0, z1]
  may0 : ZoneMay z0
  may1 : ZoneMay z1
  from0 : z0.From = 0
  mid : z0.To = z1.From
  to1 : z1.To = 256
  all : (addAll (some []) (z0.Free ++ z1.Free ++ pagesB h.Lists)).isSome = true
theorem dheap_of {h : Heap} (hm : HeapMay h) : ∃ z0 z1, DHeap h z0 z1 := by
  obtain ⟨z0, z1, h1, h2, h3, h4, h5, h6, _, h8⟩ := hm.zones
  exact ⟨z0, z1, h1, h2, h3, h4, h5, h6, addAll_some_of h8⟩
theorem pagesB_ord {l : List PList} : ∀ b ∈ pagesB l, b.Order = 0 := fun b hb => by
  unfold pagesB at hb
  obtain ⟨x, _, hx⟩ := List.mem_flatMap.1 hb
  obtain ⟨p, _, rfl⟩ := List.mem_map.1 hx
  rfl
theorem DHeap.start {h : Heap} {z0 z1 : Zone} (d : DHeap h z0 z1) : DInv (z0, z1) (z0.Free ++ z1.Free) := ⟨d.may0, d.may1, d.from0, d.mid, d.to1, fun i => by rw [covP_append]⟩
theorem DHeap.pw {h : Heap} {z0 z1 : Zone} (d : DHeap h z0 z1) : ∀ b ∈ z0.Free ++ z1.Free ++ pagesB h.Lists, 1 ≤ pw b.Order := fun b hb => by
  rcases List.mem_append.1 hb with hb | hb
  · rcases List.mem_append.1 hb with hb | hb
    · exact (zone_good d.may0 b hb).2
    · exact (zone_good d.may1 b hb).2
  · rw [pagesB_ord b hb, pw_zero]; omega
/-- the next page in a list -/
theorem DHeap.next {h : Heap} {z0 z1 : Zone} (d : DHeap h z0 z1) {k : Nat} (hk : k < (pagesB h.Lists).length) : NextB (z0.Free ++ z1.Free ++ (pagesB h.Lists).take k) (pagesB h.Lists)[k] := by
  have hall := d.all
  have e : z0.Free ++ z1.Free ++ pagesB h.Lists = (z0.Free ++ z1.Free ++ (pagesB h.Lists).take k) ++ (pagesB h.Lists)[k] :: (pagesB h.Lists).drop (k + 1) := by simp
  rw [e] at hall
  have hf := addAll_fitsL hall
  have ho := pagesB_ord _ (List.getElem_mem hk)
  have hg := addAll_good (addAll_some_of hall) (fun b hb => d.pw b (by
    rcases List.mem_append.1 hb with hb | hb
    · exact List.mem_append_left _ hb
    · exact List.mem_append_right _ (List.mem_of_mem_take hb)))
  have hp := pw_zero
  refine ⟨by rw [ho]; decide, ⟨hf.1, ?_⟩, by rw [ho, hp]; omega, hf, hg⟩
  have := hf.2.1
  rw [ho, hp] at this
  omega
theorem DHeap.inv {h : Heap} {z0 z1 : Zone} (d : DHeap h z0 z1) : ∀ k, k ≤ (pagesB h.Lists).length → DInv (backAll (z0, z1) ((pagesB h.Lists).take k)) (z0.Free ++ z1.Free ++ (pagesB h.Lists).take k)
  | 0, _ => by simpa [backAll] using d.start
  | k + 1, hk => by
    have ih := (d.inv k (by omega)).back (d.next (show k < _ by omega))
    rw [backAll_take _ _ _ (by omega), List.take_succ_eq_append_getElem (by omega), ← List.append_assoc]
    exact ih.1
/-- how many pages the first lists have -/
def cntB (l : List PList) (i : Nat) : Nat := (pagesB (l.take i)).length
theorem cnt_succ {l : List PList} {i : Nat} (hi : i < l.length) : cntB l (i + 1) = cntB l i + l[i].Pages.length := by
  unfold cntB
  rw [pagesB_take _ _ hi]
  simp
theorem pagesB_cut (l : List PList) (i : Nat) : pagesB l = pagesB (l.take i) ++ pagesB (l.drop i) := by
  unfold pagesB
  rw [← List.flatMap_append, List.take_append_drop]
theorem cnt_get {l : List PList} {i j : Nat} (hi : i < l.length) (hj : j < l[i].Pages.length) : ∃ h : cntB l i + j < (pagesB l).length, (pagesB l)[cntB l i + j] = pageB (l[i].Pages[j]) := by
  have e := pagesB_cut l i
  have e2 : l.drop i = l[i] :: l.drop (i + 1) := by simp
  have e3 : pagesB (l.drop i) = l[i].Pages.map pageB ++ pagesB (l.drop (i + 1)) := by rw [e2]; rfl
  have hlt : cntB l i + j < (pagesB l).length := by rw [e, e3]; simp [cntB]; omega
  refine ⟨hlt, ?_⟩
  have : (pagesB l)[cntB l i + j]? = some (pageB (l[i].Pages[j])) := by
    rw [e, List.getElem?_append_right (by unfold cntB; omega)]
    have : cntB l i + j - (pagesB (l.take i)).length = j := by unfold cntB; omega
    rw [this, e3, List.getElem?_append_left (by simpa using hj)]
    simp [hj]
  rw [List.getElem?_eq_getElem hlt] at this
  exact Option.some.inj this
theorem cnt_all (l : List PList) : cntB l l.length = (pagesB l).length := by simp [cntB]
/-- P4.7 -/
noncomputable def drained (h : Heap) (z0 z1 : Zone) : Heap := ⟨[(backAll (z0, z1) (pagesB h.Lists)).1, (backAll (z0, z1) (pagesB h.Lists)).2], h.Mins, h.Cpus, [], h.Live⟩
end Go.Proofs.YtfommgdbahemfaaDoor
