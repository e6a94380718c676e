/-
  Plain law: blocks of a heap go back to its two zones, one after the other.
-/
import Derived.Test.YtfdmgflboibdoaaPKeep
set_option linter.unusedVariables false
namespace Go.Proofs.Ytfdmgflboibdoaa

/-- a block goes back to its zone -/
noncomputable def backP (s : Zone × Zone) (b : Block) : Zone × Zone := if b.At < s.1.To then ((backV s.1 b.At b.Order).2, s.2) else (s.1, (backV s.2 b.At b.Order).2)
noncomputable def backAll (s : Zone × Zone) (l : List Block) : Zone × Zone := l.foldl backP s
theorem backAll_take (s : Zone × Zone) (l : List Block) (k : Nat) (h : k < l.length) : backAll s (l.take (k + 1)) = backP (backAll s (l.take k)) l[k] := by
  unfold backAll
  rw [List.take_succ_eq_append_getElem h, List.foldl_append]; rfl
theorem backAll_append (s : Zone × Zone) (l m : List Block) : backAll s (l ++ m) = backAll (backAll s l) m := List.foldl_append

/-- what the two zones keep: they may be, where they were, and cover just these blocks -/
structure DInv (s : Zone × Zone) (bs : List Block) : Prop where
  may0 : ZoneMay s.1
  may1 : ZoneMay s.2
  from0 : s.1.From = 0
  mid : s.1.To = s.2.From
  to1 : s.2.To = 256
  cov : ∀ i, (covP s.1.Free i || covP s.2.Free i) = covP bs i

theorem covP_append (l m : List Block) (i : Nat) : covP (l ++ m) i = (covP l i || covP m i) := by simp [covP]
theorem zone_good {z : Zone} (h : ZoneMay z) : ∀ b ∈ z.Free, 0 ≤ b.At ∧ 1 ≤ pw b.Order := fun b hb => by
  obtain ⟨i, hi, rfl⟩ := List.getElem_of_mem hb
  have h1 := (h.blk i hi).1
  have h2 := h.ok.1
  have := pw_le h1.1 h1.2.1
  obtain ⟨_, _, h3, _, _⟩ := h1
  omega
/-- where the next block may go -/
structure NextB (bs : List Block) (b : Block) : Prop where
  ord : 0 ≤ b.Order ∧ b.Order ≤ 4
  at_ : 0 ≤ b.At ∧ b.At < 256
  al : b.At % pw b.Order = 0
  fits : fitsL bs b
  good : ∀ x ∈ bs, 0 ≤ x.At ∧ 1 ≤ pw x.Order

theorem DInv.free {s : Zone × Zone} {bs : List Block} (h : DInv s bs) {b : Block} (hb : NextB bs b) : overB s.1.Free b.At b.Order = false ∧ overB s.2.Free b.At b.Order = false := by
  have hp := pw_le hb.ord.1 hb.ord.2
  have hm := (okM_iff hb.good hp.1).2 hb.fits
  obtain ⟨m1, m2, m3, m4⟩ := hm
  have key : ∀ l : List Block, (∀ x ∈ l, 0 ≤ x.At ∧ 1 ≤ pw x.Order) → (∀ i, covP l i = true → covP bs i = true) → overB l b.At b.Order = false := fun l hl hc =>
    ((okM_iff hl hp.1).1 ⟨m1, m2, m3, fun i h1 h2 => by
      cases e : covP l i with
      | false => rfl
      | true => have := hc i e; rw [m4 i h1 h2] at this; cases this⟩).2.2
  exact ⟨key _ (zone_good h.may0) fun i hi => by rw [← h.cov i, hi]; rfl, key _ (zone_good h.may1) fun i hi => by rw [← h.cov i, hi]; simp⟩
theorem DInv.low {s : Zone × Zone} {bs : List Block} (h : DInv s bs) {b : Block} (hb : NextB bs b) (hl : b.At < s.1.To) : fitsZ s.1.From s.1.To b.At b.Order := ⟨hb.ord.1, hb.ord.2, by rw [h.from0]; exact hb.at_.1, hl, hb.al⟩
theorem DInv.high {s : Zone × Zone} {bs : List Block} (h : DInv s bs) {b : Block} (hb : NextB bs b) (hl : ¬ b.At < s.1.To) : fitsZ s.2.From s.2.To b.At b.Order := ⟨hb.ord.1, hb.ord.2, by rw [← h.mid]; omega, by rw [h.to1]; exact hb.at_.2, hb.al⟩
theorem cov_single (b : Block) (i : Nat) : covP [b] i = inB b i := by simp [covP]
theorem DInv.back {s : Zone × Zone} {bs : List Block} (h : DInv s bs) {b : Block} (hb : NextB bs b) : DInv (backP s b) (bs ++ [b]) ∧ (backP s b).1.To = s.1.To := by
  obtain ⟨o0, o1⟩ := h.free hb
  unfold backP
  by_cases hl : b.At < s.1.To
  · rw [if_pos hl]
    obtain ⟨_, k⟩ := backV_keep h.may0 (h.low hb hl) o0
    refine ⟨⟨k.may, h.may1, by rw [← h.from0]; exact k.from_, by rw [← h.mid]; exact k.to_, h.to1, fun i => ?_⟩, k.to_⟩
    rw [covP_append, cov_single, ← h.cov i]
    simp only
    rw [k.cov i]
    have : inB ⟨b.At, b.Order, 0⟩ i = inB b i := rfl
    rw [this]
    cases covP s.1.Free i <;> cases covP s.2.Free i <;> cases inB b i <;> rfl
  · rw [if_neg hl]
    obtain ⟨_, k⟩ := backV_keep h.may1 (h.high hb hl) o1
    refine ⟨⟨h.may0, k.may, h.from0, by simp only; rw [k.from_]; exact h.mid, by simp only; rw [k.to_]; exact h.to1, fun i => ?_⟩, rfl⟩
    rw [covP_append, cov_single, ← h.cov i]
    simp only
    rw [k.cov i]
    have : inB ⟨b.At, b.Order, 0⟩ i = inB b i := rfl
    rw [this, Bool.or_assoc]

/-! out of a list of blocks that are known to be apart -/
theorem addAll_some : ∀ {l s t : List Block}, addAll (some s) l = some t → t = s ++ l
  | [], s, t, h => by simp [addAll] at h; simp [h]
  | b :: l, s, t, h => by
    have e : addAll (some s) (b :: l) = addAll (addB (some s) b) l := rfl
    rw [e] at h
    cases e2 : addB (some s) b with
    | none => rw [e2, addAll_none] at h; cases h
    | some u =>
      rw [e2] at h
      obtain ⟨cs, hcs, _, rfl⟩ := addB_some e2
      cases hcs
      rw [addAll_some h]
      simp
theorem addAll_fitsL {l m : List Block} {b : Block} (h : (addAll (some []) (l ++ b :: m)).isSome = true) : fitsL l b := by
  have h1 : (addAll (some []) (l ++ [b])).isSome = true := addAll_some_of (m := m) (by simpa using h)
  rw [addAll_append] at h1
  cases e : addAll (some []) l with
  | none => rw [e, addAll_none] at h1; cases h1
  | some t =>
    have := addAll_some e
    rw [List.nil_append] at this
    subst this
    rw [e] at h1
    cases e2 : addAll (some t) [b] with
    | none => rw [e2] at h1; cases h1
    | some u =>
      have : addB (some t) b = some u := e2
      obtain ⟨cs, hcs, hf, _⟩ := addB_some this
      cases hcs
      exact hf
theorem addAll_good {l : List Block} (h : (addAll (some []) l).isSome = true) (hb : ∀ b ∈ l, 1 ≤ pw b.Order) : ∀ x ∈ l, 0 ≤ x.At ∧ 1 ≤ pw x.Order := by
  have hg := goodS_all (l := l) goodS_nil hb
  obtain ⟨t, ht⟩ := Option.isSome_iff_exists.1 h
  have e := addAll_some ht
  rw [List.nil_append] at e
  subst e
  exact hg _ ht

/-- a heap that may be, its zones, its pages in lists -/
structure DHeap (h : Heap) (z0 z1 : Zone) : Prop where
  zones : h.Zones = [z0, z1]
  may0 : ZoneMay z0
  may1 : ZoneMay z1
  from0 : z0.From = 0
  mid : z0.To = z1.From
  to1 : z1.To = 256
  all : (addAll (some []) (z0.Free ++ z1.Free ++ pagesB h.Lists)).isSome = true
theorem dheap_of {h : Heap} (hm : HeapMay h) : ∃ z0 z1, DHeap h z0 z1 := by
  obtain ⟨z0, z1, h1, h2, h3, h4, h5, h6, _, h8⟩ := hm.zones
  exact ⟨z0, z1, h1, h2, h3, h4, h5, h6, addAll_some_of h8⟩
theorem pagesB_ord {l : List PList} : ∀ b ∈ pagesB l, b.Order = 0 := fun b hb => by
  unfold pagesB at hb
  obtain ⟨x, _, hx⟩ := List.mem_flatMap.1 hb
  obtain ⟨p, _, rfl⟩ := List.mem_map.1 hx
  rfl
theorem DHeap.start {h : Heap} {z0 z1 : Zone} (d : DHeap h z0 z1) : DInv (z0, z1) (z0.Free ++ z1.Free) := ⟨d.may0, d.may1, d.from0, d.mid, d.to1, fun i => by rw [covP_append]⟩
theorem DHeap.pw {h : Heap} {z0 z1 : Zone} (d : DHeap h z0 z1) : ∀ b ∈ z0.Free ++ z1.Free ++ pagesB h.Lists, 1 ≤ pw b.Order := fun b hb => by
  rcases List.mem_append.1 hb with hb | hb
  · rcases List.mem_append.1 hb with hb | hb
    · exact (zone_good d.may0 b hb).2
    · exact (zone_good d.may1 b hb).2
  · rw [pagesB_ord b hb, pw_zero]; omega
/-- the next page in a list -/
theorem DHeap.next {h : Heap} {z0 z1 : Zone} (d : DHeap h z0 z1) {k : Nat} (hk : k < (pagesB h.Lists).length) : NextB (z0.Free ++ z1.Free ++ (pagesB h.Lists).take k) (pagesB h.Lists)[k] := by
  have hall := d.all
  have e : z0.Free ++ z1.Free ++ pagesB h.Lists = (z0.Free ++ z1.Free ++ (pagesB h.Lists).take k) ++ (pagesB h.Lists)[k] :: (pagesB h.Lists).drop (k + 1) := by simp
  rw [e] at hall
  have hf := addAll_fitsL hall
  have ho := pagesB_ord _ (List.getElem_mem hk)
  have hg := addAll_good (addAll_some_of hall) (fun b hb => d.pw b (by
    rcases List.mem_append.1 hb with hb | hb
    · exact List.mem_append_left _ hb
    · exact List.mem_append_right _ (List.mem_of_mem_take hb)))
  have hp := pw_zero
  refine ⟨by rw [ho]; decide, ⟨hf.1, ?_⟩, by rw [ho, hp]; omega, hf, hg⟩
  have := hf.2.1
  rw [ho, hp] at this
  omega
theorem DHeap.inv {h : Heap} {z0 z1 : Zone} (d : DHeap h z0 z1) : ∀ k, k ≤ (pagesB h.Lists).length → DInv (backAll (z0, z1) ((pagesB h.Lists).take k)) (z0.Free ++ z1.Free ++ (pagesB h.Lists).take k)
  | 0, _ => by simpa [backAll] using d.start
  | k + 1, hk => by
    have ih := (d.inv k (by omega)).back (d.next (show k < _ by omega))
    rw [backAll_take _ _ _ (by omega), List.take_succ_eq_append_getElem (by omega), ← List.append_assoc]
    exact ih.1
/-- how many pages the first lists have -/
def cntB (l : List PList) (i : Nat) : Nat := (pagesB (l.take i)).length
theorem cnt_succ {l : List PList} {i : Nat} (hi : i < l.length) : cntB l (i + 1) = cntB l i + l[i].Pages.length := by
  unfold cntB
  rw [pagesB_take _ _ hi]
  simp
theorem pagesB_cut (l : List PList) (i : Nat) : pagesB l = pagesB (l.take i) ++ pagesB (l.drop i) := by
  unfold pagesB
  rw [← List.flatMap_append, List.take_append_drop]
theorem cnt_get {l : List PList} {i j : Nat} (hi : i < l.length) (hj : j < l[i].Pages.length) : ∃ h : cntB l i + j < (pagesB l).length, (pagesB l)[cntB l i + j] = pageB (l[i].Pages[j]) := by
  have e := pagesB_cut l i
  have e2 : l.drop i = l[i] :: l.drop (i + 1) := by simp
  have e3 : pagesB (l.drop i) = l[i].Pages.map pageB ++ pagesB (l.drop (i + 1)) := by rw [e2]; rfl
  have hlt : cntB l i + j < (pagesB l).length := by rw [e, e3]; simp [cntB]; omega
  refine ⟨hlt, ?_⟩
  have : (pagesB l)[cntB l i + j]? = some (pageB (l[i].Pages[j])) := by
    rw [e, List.getElem?_append_right (by unfold cntB; omega)]
    have : cntB l i + j - (pagesB (l.take i)).length = j := by unfold cntB; omega
    rw [this, e3, List.getElem?_append_left (by simpa using hj)]
    simp [hj]
  rw [List.getElem?_eq_getElem hlt] at this
  exact Option.some.inj this
theorem cnt_all (l : List PList) : cntB l l.length = (pagesB l).length := by simp [cntB]
/-- P4.7 -/
noncomputable def drained (h : Heap) (z0 z1 : Zone) : Heap := ⟨[(backAll (z0, z1) (pagesB h.Lists)).1, (backAll (z0, z1) (pagesB h.Lists)).2], h.Mins, h.Cpus, [], h.Live⟩
end Go.Proofs.Ytfdmgflboibdoaa
