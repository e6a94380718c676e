/-
  Plain law: which pages blocks have; when a heap may be.
-/
import Derived.Test.YtfommgdbahemfaaDoorPBack
import Derived.Test.YtfommgdbahemfaaDoorPBoot
set_option linter.unusedVariables false
namespace Go.Proofs.YtfommgdbahemfaaDoor

def inB (b : Block) (i : Nat) : Bool := decide (b.At ≤ (i : Int)) && decide ((i : Int) < b.At + pw b.Order)
def covP (bs : List Block) (i : Nat) : Bool := bs.any fun b => inB b i
/-- one block more may be -/
def fitsL (bs : List Block) (b : Block) : Prop := 0 ≤ b.At ∧ b.At + pw b.Order ≤ 256 ∧ overB bs b.At b.Order = false
instance (bs : List Block) (b : Block) : Decidable (fitsL bs b) := inferInstanceAs (Decidable (_ ∧ _))
/-- no block twice: the blocks in turn -/
def addB (s : Option (List Block)) (b : Block) : Option (List Block) := match s with
  | none => none
  | some bs => if fitsL bs b then some (bs ++ [b]) else none
def addAll (s : Option (List Block)) (l : List Block) : Option (List Block) := l.foldl addB s
theorem addAll_none : ∀ l, addAll none l = none
  | [] => rfl
  | b :: l => addAll_none l
theorem addAll_append (s : Option (List Block)) (l m : List Block) : addAll s (l ++ m) = addAll (addAll s l) m := List.foldl_append
theorem addAll_take (s : Option (List Block)) (l : List Block) (k : Nat) (h : k < l.length) : addAll s (l.take (k + 1)) = addB (addAll s (l.take k)) l[k] := by
  rw [List.take_succ_eq_append_getElem h, addAll_append]; rfl
theorem addAll_prefix {s : Option (List Block)} {l : List Block} {k : Nat} (h : addAll s (l.take k) = none) : addAll s l = none := by
  have : l = l.take k ++ l.drop k := by simp
  rw [this, addAll_append, h, addAll_none]
theorem addB_some {s : Option (List Block)} {b : Block} {bs : List Block} (h : addB s b = some bs) : ∃ cs, s = some cs ∧ fitsL cs b ∧ bs = cs ++ [b] := by
  cases s with
  | none => simp [addB] at h
  | some cs =>
    simp only [addB] at h
    split at h
    · rename_i hf; injection h with h; exact ⟨cs, rfl, hf, h.symm⟩
    · cases h

/-- pages are free of others, one by one or as a whole -/
def okM (p : Nat → Bool) (a n : Int) : Prop := 0 ≤ a ∧ a < 256 ∧ n ≤ 256 - a ∧ ∀ i : Nat, a ≤ (i : Int) → (i : Int) < a + n → p i = false
def addM (p : Nat → Bool) (a n : Int) (i : Nat) : Bool := p i || (decide (a ≤ (i : Int)) && decide ((i : Int) < a + n))
theorem okM_iff {bs : List Block} (hb : ∀ b ∈ bs, 0 ≤ b.At ∧ 1 ≤ pw b.Order) {b : Block} (h1 : 1 ≤ pw b.Order) : okM (covP bs) b.At (pw b.Order) ↔ fitsL bs b := by
  constructor
  · rintro ⟨h2, h3, h4, h5⟩
    refine ⟨h2, by omega, ?_⟩
    unfold overB
    rw [List.any_eq_false]
    intro x hx hh
    simp only [Bool.and_eq_true, decide_eq_true_eq] at hh
    obtain ⟨k1, k2⟩ := hh
    obtain ⟨q1, q2⟩ := hb x hx
    have h6 := h5 (max x.At b.At).toNat (by omega) (by omega)
    unfold covP at h6
    rw [List.any_eq_false] at h6
    apply h6 x hx
    simp only [inB, Bool.and_eq_true, decide_eq_true_eq]
    omega
  · rintro ⟨h2, h3, h4⟩
    refine ⟨h2, by omega, by omega, fun i k1 k2 => ?_⟩
    unfold covP
    rw [List.any_eq_false]
    intro x hx hh
    simp only [inB, Bool.and_eq_true, decide_eq_true_eq] at hh
    unfold overB at h4
    rw [List.any_eq_false] at h4
    apply h4 x hx
    simp only [Bool.and_eq_true, decide_eq_true_eq]
    omega
theorem addM_cov (bs : List Block) (b : Block) (i : Nat) : addM (covP bs) b.At (pw b.Order) i = covP (bs ++ [b]) i := by
  simp [addM, covP, inB]

/-- the blocks known so far are blocks -/
def goodS (s : Option (List Block)) : Prop := ∀ bs, s = some bs → ∀ x ∈ bs, 0 ≤ x.At ∧ 1 ≤ pw x.Order
theorem goodS_nil : goodS (some []) := fun bs h x hx => by cases h; simp at hx
theorem goodS_add {s : Option (List Block)} {b : Block} (h : goodS s) (hb : 1 ≤ pw b.Order) : goodS (addB s b) := fun bs hbs x hx => by
  obtain ⟨cs, rfl, hf, rfl⟩ := addB_some hbs
  rcases List.mem_append.1 hx with hx | hx
  · exact h cs rfl x hx
  · simp at hx; subst hx; exact ⟨hf.1, hb⟩
theorem goodS_all {s : Option (List Block)} : ∀ {l : List Block}, goodS s → (∀ b ∈ l, 1 ≤ pw b.Order) → goodS (addAll s l)
  | [], h, _ => h
  | b :: l, h, hb => goodS_all (l := l) (goodS_add h (hb b (by simp))) (fun x hx => hb x (by simp [hx]))

def pageB (p : Int) : Block := ⟨p, 0, 0⟩
def pagesB (l : List PList) : List Block := l.flatMap fun x => x.Pages.map pageB
theorem pw_zero : pw 0 = 1 := by decide

/-- P4.2, of one list -/
def aheadL (a b : PList) : Prop := a.Cpu < b.Cpu ∨ (a.Cpu = b.Cpu ∧ (a.Zone < b.Zone ∨ (a.Zone = b.Zone ∧ a.Ty < b.Ty)))
instance (a b : PList) : Decidable (aheadL a b) := inferInstanceAs (Decidable (_ ∨ _))
def listOk (cpus to : Int) (l : PList) : Prop := (0 ≤ l.Cpu ∧ l.Cpu < cpus) ∧ (0 ≤ l.Zone ∧ l.Zone ≤ 1) ∧ (0 ≤ l.Ty ∧ l.Ty ≤ 2) ∧ (1 ≤ l.Pages.length ∧ l.Pages.length ≤ 8) ∧ ∀ p ∈ l.Pages, (p < to ↔ l.Zone = 0)
def headOk (cpus : Int) (l : PList) : Prop := (0 ≤ l.Cpu ∧ l.Cpu < cpus) ∧ (0 ≤ l.Zone ∧ l.Zone ≤ 1) ∧ (0 ≤ l.Ty ∧ l.Ty ≤ 2) ∧ (1 ≤ l.Pages.length ∧ l.Pages.length ≤ 8)
instance (c : Int) (l : PList) : Decidable (headOk c l) := inferInstanceAs (Decidable (_ ∧ _))
structure ListsOk (cpus to : Int) (ls : List PList) : Prop where
  head : ∀ (i : Nat) (h : i < ls.length), headOk cpus ls[i]
  next : ∀ (i : Nat) (h : i + 1 < ls.length), aheadL ls[i] ls[i + 1]
  zone : ∀ (i : Nat) (h : i < ls.length), ∀ p ∈ (ls[i]).Pages, (p < to ↔ (ls[i]).Zone = 0)
def liveOk (b : Block) : Prop := (0 ≤ b.Order ∧ b.Order ≤ 4) ∧ (0 ≤ b.At ∧ b.At ≤ 255) ∧ b.At % pw b.Order = 0 ∧ tyOk b.Ty
instance (b : Block) : Decidable (liveOk b) := inferInstanceAs (Decidable (_ ∧ _))
structure LiveOk (l : List Block) : Prop where
  each : ∀ (i : Nat) (h : i < l.length), liveOk l[i]
  next : ∀ (i : Nat) (h : i + 1 < l.length), l[i].At < l[i + 1].At
structure HeapMay (h : Heap) : Prop where
  zones : ∃ z0 z1, h.Zones = [z0, z1] ∧ ZoneMay z0 ∧ ZoneMay z1 ∧ z0.From = 0 ∧ z0.To = z1.From ∧ z1.To = 256 ∧ ListsOk h.Cpus z0.To h.Lists ∧ (addAll (some []) (z0.Free ++ z1.Free ++ pagesB h.Lists ++ h.Live)).isSome = true
  mins : ∃ m0 m1, h.Mins = [m0, m1] ∧ (0 ≤ m0 ∧ m0 ≤ 256) ∧ (0 ≤ m1 ∧ m1 ≤ 256)
  cpus : 1 ≤ h.Cpus ∧ h.Cpus ≤ 4
  live : LiveOk h.Live
noncomputable def heapB (h : Heap) : Bool := @decide (HeapMay h) (Classical.propDecidable _)
theorem heapB_t {h : Heap} (a : HeapMay h) : heapB h = true := by unfold heapB; exact @decide_eq_true _ (Classical.propDecidable _) a
theorem heapB_f {h : Heap} (a : ¬ HeapMay h) : heapB h = false := by unfold heapB; exact @decide_eq_false _ (Classical.propDecidable _) a
theorem heapB_iff {h : Heap} : heapB h = true ↔ HeapMay h := by
  by_cases a : HeapMay h
  · simp [heapB_t a, a]
  · simp [heapB_f a, a]
theorem pagesB_take (l : List PList) (k : Nat) (h : k < l.length) : pagesB (l.take (k + 1)) = pagesB (l.take k) ++ l[k].Pages.map pageB := by
  unfold pagesB
  rw [List.take_succ_eq_append_getElem h, List.flatMap_append]
  simp
theorem addAll_some_of {s : Option (List Block)} {l m : List Block} (h : (addAll s (l ++ m)).isSome = true) : (addAll s l).isSome = true := by
  rw [addAll_append] at h
  cases e : addAll s l with
  | none => rw [e, addAll_none] at h; cases h
  | some x => rfl
end Go.Proofs.YtfommgdbahemfaaDoor
