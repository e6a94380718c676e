/-
  Plain law: a block that goes back leaves a zone that may be, with just its pages more.
-/
import Derived.Test.YtfdmgflboibdoaaPGive
import Derived.Test.YtfdmgflboibdoaaPHeap
set_option linter.unusedVariables false
namespace Go.Proofs.Ytfdmgflboibdoaa

def nxs (l : List Block) : Prop := l.Pairwise nextOk
theorem beside_two {y o : Int} (h0 : 0 ≤ o) (h4 : o < 4) (hm : y % pw o = 0) : beside (beside y o) o = y ∧ (beside y o = y + pw o ∨ beside y o = y - pw o) := by
  unfold beside
  have hp := pw_cases h0 (show o ≤ 4 by omega)
  generalize pw o = q at *
  rcases hp with ⟨e, rfl⟩ | ⟨e, rfl⟩ | ⟨e, rfl⟩ | ⟨e, rfl⟩ | ⟨e, rfl⟩ <;> (refine ⟨?_, ?_⟩ <;> split <;> (try split) <;> omega)
theorem zone_nxs {z : Zone} (h : ZoneMay z) : nxs z.Free := by
  have hu := zone_ups h
  unfold nxs
  rw [List.pairwise_iff_getElem]
  intro i j hi hj hij
  by_cases e : j = i + 1
  · subst e; exact h.next i hj
  · refine ⟨ups_get hu hj hij, fun hh => ?_⟩
    obtain ⟨h1, h2, h3⟩ := hh
    have g1 := ups_get hu (show i + 1 < z.Free.length by omega) (Nat.lt_succ_self i)
    have g2 := ups_get hu hj (show i + 1 < j by omega)
    have b1 := (h.blk (i + 1) (by omega)).1
    have b2 := (h.blk j hj).1
    have p1 := pw_le b1.1 b1.2.1
    have p2 := (beside_two b2.1 h1 b2.2.2.2.2).2
    have p3 := pw_le b2.1 b2.2.1
    rw [h2] at g1
    omega
theorem inB_union {a o : Int} (h0 : 0 ≤ o) (h4 : o < 4) (hm : a % pw o = 0) (t1 t2 t3 : Int) (i : Nat) : inB ⟨min a (beside a o), o + 1, t1⟩ i = (inB ⟨a, o, t2⟩ i || inB ⟨beside a o, o, t3⟩ i) := by
  have h1 := (beside_two h0 h4 hm).2
  have h2 := pw_succ h0 (show o ≤ 4 by omega)
  have h3 := pw_le h0 (show o ≤ 4 by omega)
  rw [Bool.eq_iff_iff]
  simp only [inB, Bool.and_eq_true, Bool.or_eq_true, decide_eq_true_eq]
  rw [h2]
  omega
theorem inB_ty (a o t u : Int) (i : Nat) : inB ⟨a, o, t⟩ i = inB ⟨a, o, u⟩ i := rfl
theorem cov_without {l : List Block} {a o : Int} (h : l.any (isB a o) = true) (i : Nat) : covP l i = (covP (without l a o) i || inB ⟨a, o, 0⟩ i) := by
  rw [Bool.eq_iff_iff]
  simp only [Bool.or_eq_true, covP, List.any_eq_true, without, List.mem_filter]
  constructor
  · rintro ⟨x, hx, hi⟩
    by_cases e : isB a o x = true
    · obtain ⟨e1, e2⟩ := isB_iff.1 e
      right; rw [← hi, ← e1, ← e2]; rfl
    · left; exact ⟨x, ⟨hx, by simp [e]⟩, hi⟩
  · rintro (⟨x, ⟨hx, _⟩, hi⟩ | hi)
    · exact ⟨x, hx, hi⟩
    · obtain ⟨b, hb, hh⟩ := List.any_eq_true.1 h
      obtain ⟨e1, e2⟩ := isB_iff.1 hh
      exact ⟨b, hb, by rw [← hi, ← e1, ← e2]; rfl⟩
structure Joined (f t : Int) (l : List Block) (a o : Int) (l' : List Block) (a' o' : Int) : Prop where
  ok : JOk f t l' a' o'
  nx : nxs l'
  cov : ∀ i, (covP l' i || inB ⟨a', o', 0⟩ i) = (covP l i || inB ⟨a, o, 0⟩ i)
  fin : o' < 4 → l'.any (isB (beside a' o') o') = false
theorem joinL_joined {f t : Int} (h0 : 0 ≤ f) : ∀ (k : Nat) {l : List Block} {a o : Int}, 4 - o < k → JOk f t l a o → nxs l → Joined f t l a o (joinL k l a o).1 (joinL k l a o).2.1 (joinL k l a o).2.2
  | 0, l, a, o, hk, h, hn => by have := h.fit.2.1; omega
  | k + 1, l, a, o, hk, h, hn => by
    simp only [joinL]
    split
    · rename_i ho
      split
      · rename_i hany
        have ih := joinL_joined h0 k (by omega) (h.step h0 ho hany) (hn.sublist List.filter_sublist)
        refine ⟨ih.ok, ih.nx, fun i => ?_, ih.fin⟩
        rw [ih.cov i, inB_union h.fit.1 ho h.fit.2.2.2.2 0 0 0, cov_without hany i]
        rw [Bool.or_assoc, Bool.or_comm (inB _ i) (inB _ i)]
      · rename_i hany
        exact ⟨h, hn, fun _ => rfl, fun _ => by simpa using hany⟩
    · rename_i ho
      exact ⟨h, hn, fun _ => rfl, fun h => absurd h ho⟩
theorem ins_nxs {f t : Int} {l0 : List Block} {a0 o0 : Int} {l : List Block} {a o : Int} (h : Joined f t l0 a0 o0 l a o) (u : Int) : nxs (insAt l (lbOf l a) ⟨a, o, u⟩) := by
  have hk := h.ok
  have hp := pw_le hk.fit.1 hk.fit.2.1
  have hlow : ∀ x ∈ l.take (lbOf l a), nextOk x ⟨a, o, u⟩ := fun x hx => by
    obtain ⟨j, hj, rfl⟩ := List.getElem_of_mem hx
    simp only [List.length_take] at hj
    rw [List.getElem_take]
    have h1 := lb_below (l := l) (a := a) (k := j) (by omega)
    have h2 := hk.dis _ (List.getElem_mem (show j < l.length by omega))
    refine ⟨by simp only; omega, fun hh => ?_⟩
    obtain ⟨g1, g2, g3⟩ := hh
    have := h.fin g1
    rw [List.any_eq_false] at this
    exact this _ (List.getElem_mem (show j < l.length by omega)) (isB_iff.2 ⟨g3, g2⟩)
  have hhigh : ∀ y ∈ l.drop (lbOf l a), nextOk ⟨a, o, u⟩ y := fun y hy => by
    obtain ⟨j, hj, rfl⟩ := List.getElem_of_mem hy
    simp only [List.length_drop] at hj
    rw [List.getElem_drop]
    have hlt : lbOf l a < l.length := by omega
    have h1 := lb_at hlt
    have hm := List.getElem_mem (show lbOf l a + j < l.length by omega)
    have h2 := hk.dis _ hm
    have hb := (hk.blk _ hm).1
    have hpj := pw_le hb.1 hb.2.1
    have h3 : (l[lbOf l a]).At ≤ (l[lbOf l a + j]'(by omega)).At := by
      rcases Nat.eq_zero_or_pos j with e | e
      · subst e; simp
      · have := ups_get hk.ups (show lbOf l a + j < l.length by omega) (show lbOf l a < lbOf l a + j by omega)
        have hb0 := (hk.blk _ (List.getElem_mem hlt)).1
        have := pw_le hb0.1 hb0.2.1
        omega
    refine ⟨by simp only; omega, fun hh => ?_⟩
    obtain ⟨g1, g2, g3⟩ := hh
    simp only at g2 g3
    have e := (beside_two hb.1 g1 hb.2.2.2.2).1
    rw [← g3, ← g2] at e
    have := h.fin (by omega)
    rw [List.any_eq_false] at this
    exact this _ hm (isB_iff.2 ⟨e.symm, g2.symm⟩)
  have hall : (l.take (lbOf l a) ++ l.drop (lbOf l a)).Pairwise nextOk := by rw [List.take_append_drop]; exact h.nx
  rw [List.pairwise_append] at hall
  unfold nxs insAt
  rw [List.append_assoc, List.pairwise_append]
  refine ⟨hall.1, ?_, fun x hx y hy => ?_⟩
  · rw [List.singleton_append, List.pairwise_cons]
    exact ⟨hhigh, hall.2.1⟩
  · rw [List.singleton_append, List.mem_cons] at hy
    rcases hy with rfl | hy
    · exact hlow x hx
    · exact hall.2.2 x hx y hy
theorem cov_insAt (l : List Block) (i : Nat) (b : Block) (k : Nat) : covP (insAt l i b) k = (covP l k || inB b k) := by
  have : covP l k = (covP (l.take i) k || covP (l.drop i) k) := by
    unfold covP
    rw [← List.any_append, List.take_append_drop]
  rw [this]
  simp only [covP, insAt, List.any_append, List.any_cons, List.any_nil, Bool.or_false]
  cases (l.take i).any fun b => inB b k <;> cases inB b k <;> simp
theorem mem_insAt {l : List Block} {i : Nat} {b x : Block} (h : x ∈ insAt l i b) : x = b ∨ x ∈ l := by
  unfold insAt at h
  rw [List.mem_append, List.mem_append] at h
  rcases h with (h | h) | h
  · exact .inr (List.mem_of_mem_take h)
  · exact .inl (by simpa using h)
  · exact .inr (List.mem_of_mem_drop h)

structure Kept (z z' : Zone) (a o : Int) : Prop where
  may : ZoneMay z'
  from_ : z'.From = z.From
  to_ : z'.To = z.To
  types : z'.Types = z.Types
  cov : ∀ i, covP z'.Free i = (covP z.Free i || inB ⟨a, o, 0⟩ i)
theorem backV_keep {z : Zone} {a o : Int} (hz : ZoneMay z) (hf : fitsZ z.From z.To a o) (ho : overB z.Free a o = false) : (backV z a o).1 = 0 ∧ Kept z (backV z a o).2 a o := by
  have h0 : 0 ≤ z.From := hz.ok.1
  have hJ := over_dis (f := 0) (t := 0) hz hf ho
  have hj := joinL_joined h0 5 (by have := hf.1; omega) hJ (zone_nxs hz)
  obtain ⟨⟨l, a', o'⟩, hq⟩ : ∃ u, joinL 5 z.Free a o = u := ⟨_, rfl⟩
  rw [hq] at hj
  simp only at hj
  obtain ⟨t, ht⟩ : ∃ t, z.Types.getD ((a' - z.From) / 8).toNat 0 = t := ⟨_, rfl⟩
  rw [backV_0 (zoneB_t hz) hf ho hq ht]
  have htok : tyOk t := by
    subst ht
    rw [List.getD_eq_getElem?_getD]
    cases e : z.Types[((a' - z.From) / 8).toNat]? with
    | none => exact ⟨by decide, by decide⟩
    | some v =>
      obtain ⟨h, rfl⟩ := List.getElem?_eq_some_iff.1 e
      exact hz.types _ (List.getElem_mem h)
  have hn := ins_nxs hj t
  refine ⟨rfl, ⟨hz.ok, hz.len, hz.types, fun i hi => ?_, fun i hi => ?_⟩, rfl, rfl, rfl, fun i => ?_⟩
  · rcases mem_insAt (List.getElem_mem hi) with e | e
    · simp only at e ⊢
      rw [e]; exact ⟨hj.ok.fit, htok⟩
    · exact hj.ok.blk _ e
  · unfold nxs at hn
    rw [List.pairwise_iff_getElem] at hn
    exact hn i (i + 1) (by simp only at hi; omega) hi (Nat.lt_succ_self i)
  · rw [cov_insAt, ← hj.cov i]; rfl

/-- a page that no block covers does not overlap -/
theorem over_page {l : List Block} {p : Int} (hb : ∀ b ∈ l, 0 ≤ b.At) (h0 : 0 ≤ p) (h : covP l p.toNat = false) : overB l p 0 = false := by
  unfold overB
  rw [List.any_eq_false]
  intro x hx
  unfold covP at h
  rw [List.any_eq_false] at h
  have := h x hx
  have e := pw_zero
  simp only [inB, Bool.and_eq_true, decide_eq_true_eq, not_and] at this ⊢
  rw [Int.toNat_of_nonneg h0] at this
  omega
theorem page_cov {l : List Block} {p : Int} (h0 : 0 ≤ p) (h : overB l p 0 = false) : covP l p.toNat = false := by
  unfold covP
  rw [List.any_eq_false]
  intro x hx
  unfold overB at h
  rw [List.any_eq_false] at h
  have := h x hx
  have e := pw_zero
  simp only [inB, Bool.and_eq_true, decide_eq_true_eq, not_and] at this ⊢
  rw [Int.toNat_of_nonneg h0]
  omega
end Go.Proofs.Ytfdmgflboibdoaa
