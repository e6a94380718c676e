/-
  How an argument that is a heap is opened to what the contracts ask.
-/
import Derived.Test.YtfdmgflboibdoaaOpen
import Derived.Test.YtfdmgflboibdoaaH1
set_option linter.unusedVariables false
set_option maxRecDepth 100000
namespace Go.Proofs.Ytfdmgflboibdoaa
open Go.ChangeShapes Go.WideShapes Go.ChangeAt Go.RowKit Go.Deep Go.Joins

section
variable {H : Type} {enc : TypeId × Value → H} {W : World} {base : Nat} {spare : Nat → Bool} {held : Bool} {fuel : Nat} {cs : List Value} {x : DataW H × List MemPlace}

theorem weightsAll_mem {P : Program} {e : TypeId} : ∀ {l : List (DataW H)} {d : DataW H}, d ∈ l → ∀ n ∈ d.weights P e, n ∈ DataW.weightsAll P e l
  | a :: r, d, h, n, hn => by
    simp only [DataW.weightsAll, List.mem_append]
    rcases List.mem_cons.1 h with rfl | h
    · exact .inl hn
    · exact .inr (weightsAll_mem h n hn)

/-- each element has its reading -/
theorem all2_of {α β : Type} {R : α → β → Prop} : ∀ (l : List α), (∀ a ∈ l, ∃ b, R a b) → ∃ bs : List β, All2 R l bs
  | [], _ => ⟨[], .nil⟩
  | a :: r, h => by
    obtain ⟨b, hb⟩ := h a (by simp)
    obtain ⟨bs, hbs⟩ := all2_of r (fun x hx => h x (by simp [hx]))
    refine ⟨b :: bs, by simp [hbs.len], fun i h1 h2 => ?_⟩
    cases i with
    | zero => exact hb
    | succ i => exact hbs.get i (by simpa using h1) (by simpa using h2)

/-- a slice, read as a list; its elements lie within bounds -/
theorem open_slw {α : Type} {t e sz b : Nat} [S : SliceTy Try.prog t e sz] (hc : Try.prog.cellsOf e = sz) (hby : Try.prog.bytesOf e = b) {en : α → List Value} {Good : α → Prop}
    (hel : ∀ fuel cs x, DataW.trod enc Try.prog W base spare held fuel e cs = some x → (∀ y ∈ x.1.weights Try.prog e, y ≤ reachBytes) → ∃ a : α, cs = en a ∧ Good a) (h : DataW.trod enc Try.prog W base spare held fuel t cs = some x) (hw : ∀ y ∈ x.1.weights Try.prog t, y ≤ reachBytes) :
    ∃ A n c l, cs = [.slice A n c] ∧ Sl W sz en A n l ∧ n * b ≤ 140737488351232 ∧ ∀ a ∈ l, Good a := by
  rcases open_slice S.und h with ⟨h1, h2⟩ | ⟨a, len, cap, m, k, D, Pl, h1, hb, hl, hm, hmm, hx, hi⟩
  · exact ⟨none, 0, 0, [], h1, Sl.nil_ _ _ _ _, by simp, by simp⟩
  · have hlm : len ≤ m := by rw [hmm]; split <;> omega
    have hx1 : x.1 = .slice ((List.range len).map D) ((List.range (m - len)).map fun j => D (len + j)) := by rw [hx]
    have hnb : len * b ≤ 140737488351232 := by
      have := hw ((((List.range len).map D).length + ((List.range (m - len)).map fun j => D (len + j)).length) * Try.prog.bytesOf e) (by rw [hx1]; simp [DataW.weights, S.und])
      rw [hby] at this
      simp only [reachBytes] at this
      refine Nat.le_trans (Nat.mul_le_mul_right _ ?_) this
      simp
    have hex : ∀ i, i < len → ∃ q : α, Good q ∧ ∀ j u, (en q)[j]? = some u → W.cell? ((a.add (i * sz)).add j) = some u := fun i hlt => by
      obtain ⟨cs', hcs, ht⟩ := hi i (by omega)
      obtain ⟨q, rfl, hg⟩ := hel _ _ _ ht (fun y hy => by
        apply hw
        rw [hx1]
        simp only [DataW.weights, S.und, List.mem_cons, List.mem_append]
        exact .inr (.inl (weightsAll_mem (List.mem_map.2 ⟨i, by simpa using hlt, rfl⟩) y hy)))
      obtain ⟨_, hcl, hat⟩ := World.cells?_some hcs
      rw [hc] at hcl hat
      refine ⟨q, hg, fun j u hu => ?_⟩
      have hj : j < (en q).length := by
        rcases Nat.lt_or_ge j (en q).length with h | h
        · exact h
        · simp [List.getElem?_eq_none h] at hu
      rw [hat j (by omega)]
      exact hu
    by_cases h0 : len = 0
    · subst h0
      exact ⟨some a, 0, cap, [], h1, Sl.nil_ _ _ _ _, by simp, by simp⟩
    have hch : ∃ f : Nat → α, ∀ i, i < len → Good (f i) ∧ ∀ j u, (en (f i))[j]? = some u → W.cell? ((a.add (i * sz)).add j) = some u := by
      have hne : Nonempty α := ⟨(hex 0 (by omega)).choose⟩
      exact ⟨fun i => if h : i < len then (hex i h).choose else Classical.choice hne, fun i h => by simp only [h, dif_pos]; exact (hex i h).choose_spec⟩
    obtain ⟨f, hf⟩ := hch
    refine ⟨some a, len, cap, (List.range len).map f, h1, ⟨by simp, fun _ => rfl, fun i hi' j u hu => ?_⟩, hnb, ?_⟩
    · simp at hi'
      exact (hf i hi').2 j u (by simpa using hu)
    · intro q hq
      obtain ⟨i, hi', rfl⟩ := List.mem_map.1 hq
      exact (hf i (by simpa using hi')).1

theorem elw_int {t : TypeId} (ht : Try.prog.underlying t = some (.int .i64)) : ∀ fuel cs x, DataW.trod enc Try.prog W base spare held fuel t cs = some x → (∀ y ∈ x.1.weights Try.prog t, y ≤ reachBytes) → ∃ z : Int, cs = encI z ∧ in64 z := fun _ _ _ h _ => el_int ht h

theorem elw_block : ∀ fuel cs x, DataW.trod enc Try.prog W base spare held fuel 86 cs = some x → (∀ y ∈ x.1.weights Try.prog 86, y ≤ reachBytes) → ∃ r : Block, cs = encBk r ∧ True := fun _ _ _ h _ => el_block h

/-- what is known of a zone's data -/
def Zone.good (z : Zone) : Prop := in64 z.From ∧ in64 z.To ∧ z.Free.length * 24 ≤ 140737488351232 ∧ z.Types.length * 8 ≤ 140737488351232

theorem elw_zone : ∀ fuel cs x, DataW.trod enc Try.prog W base spare held fuel 38 cs = some x → (∀ y ∈ x.1.weights Try.prog 38, y ≤ reachBytes) → ∃ r : ZRow, cs = encZ r ∧ ∃ z : Zone, RdZ W r z ∧ z.good := by
  intro fuel cs x h hw
  obtain ⟨xs, n, _, rfl, hlen, hxl, hf⟩ := DataW.trod_struct Try.underlying38 h
  have hc : Try.prog.cellsOf 38 = 4 := by kernel_rfl
  have hi : Try.prog.cellsOf 3 = 1 := by kernel_rfl
  have hi2 : Try.prog.cellsOf 25 = 1 := by kernel_rfl
  have hi3 : Try.prog.cellsOf 23 = 1 := by kernel_rfl
  rw [hc] at hlen
  match cs, hlen with
  | [c0, c1, c2, c3], _ =>
    match xs, hxl with
    | [y0, y1, y2, y3], _ =>
      have h0 : DataW.trod enc Try.prog W base spare held n 3 (List.take (Try.prog.cellsOf 3) (List.drop 0 [c0, c1, c2, c3])) = some y0 := hf 0 _ rfl
      have h1 : DataW.trod enc Try.prog W base spare held n 3 (List.take (Try.prog.cellsOf 3) (List.drop 1 [c0, c1, c2, c3])) = some y1 := hf 1 _ rfl
      have h2 : DataW.trod enc Try.prog W base spare held n 25 (List.take (Try.prog.cellsOf 25) (List.drop 2 [c0, c1, c2, c3])) = some y2 := hf 2 _ rfl
      have h3 : DataW.trod enc Try.prog W base spare held n 23 (List.take (Try.prog.cellsOf 23) (List.drop 3 [c0, c1, c2, c3])) = some y3 := hf 3 _ rfl
      rw [hi] at h0 h1
      rw [hi2] at h2
      rw [hi3] at h3
      have w2 := bd_field Try.underlying38 (j := 2) rfl rfl hw
      have w3 := bd_field Try.underlying38 (j := 3) rfl rfl hw
      obtain ⟨a, ha, wa⟩ := el_int Try.underlying3 h0
      obtain ⟨b, hb, wb⟩ := el_int Try.underlying3 h1
      obtain ⟨A2, n2, k2, l2, e2, s2, b2, _⟩ := open_slw (t := 25) (b := 24) (by kernel_rfl) (by kernel_rfl) elw_block h2 w2
      obtain ⟨A3, n3, k3, l3, e3, s3, b3, _⟩ := open_slw (t := 23) (b := 8) (by kernel_rfl) (by kernel_rfl) (elw_int Try.underlying3) h3 w3
      simp [encI] at ha hb e2 e3
      subst ha hb e2 e3
      refine ⟨⟨a, b, ⟨A2, n2, k2⟩, ⟨A3, n3, k3⟩⟩, rfl, ⟨a, b, l2, l3⟩, ⟨rfl, rfl, s2, s3⟩, wa, wb, ?_, ?_⟩
      · simp only [s2.len]; exact b2
      · simp only [s3.len]; exact b3

theorem elw_list : ∀ fuel cs x, DataW.trod enc Try.prog W base spare held fuel 88 cs = some x → (∀ y ∈ x.1.weights Try.prog 88, y ≤ reachBytes) → ∃ r : LRow, cs = encL r ∧ ∃ l : PList, RdL W r l ∧ l.Pages.length * 8 ≤ 140737488351232 := by
  intro fuel cs x h hw
  obtain ⟨xs, n, _, rfl, hlen, hxl, hf⟩ := DataW.trod_struct Try.underlying88 h
  have hc : Try.prog.cellsOf 88 = 4 := by kernel_rfl
  have hi : Try.prog.cellsOf 3 = 1 := by kernel_rfl
  have hi3 : Try.prog.cellsOf 23 = 1 := by kernel_rfl
  rw [hc] at hlen
  match cs, hlen with
  | [c0, c1, c2, c3], _ =>
    match xs, hxl with
    | [y0, y1, y2, y3], _ =>
      have h0 : DataW.trod enc Try.prog W base spare held n 3 (List.take (Try.prog.cellsOf 3) (List.drop 0 [c0, c1, c2, c3])) = some y0 := hf 0 _ rfl
      have h1 : DataW.trod enc Try.prog W base spare held n 3 (List.take (Try.prog.cellsOf 3) (List.drop 1 [c0, c1, c2, c3])) = some y1 := hf 1 _ rfl
      have h2 : DataW.trod enc Try.prog W base spare held n 3 (List.take (Try.prog.cellsOf 3) (List.drop 2 [c0, c1, c2, c3])) = some y2 := hf 2 _ rfl
      have h3 : DataW.trod enc Try.prog W base spare held n 23 (List.take (Try.prog.cellsOf 23) (List.drop 3 [c0, c1, c2, c3])) = some y3 := hf 3 _ rfl
      rw [hi] at h0 h1 h2
      rw [hi3] at h3
      have w3 := bd_field Try.underlying88 (j := 3) rfl rfl hw
      obtain ⟨a, ha, wa⟩ := el_int Try.underlying3 h0
      obtain ⟨b, hb, wb⟩ := el_int Try.underlying3 h1
      obtain ⟨c, hcc, wc⟩ := el_int Try.underlying3 h2
      obtain ⟨A3, n3, k3, l3, e3, s3, b3, _⟩ := open_slw (t := 23) (b := 8) (by kernel_rfl) (by kernel_rfl) (elw_int Try.underlying3) h3 w3
      simp [encI] at ha hb hcc e3
      subst ha hb hcc e3
      refine ⟨⟨a, b, c, ⟨A3, n3, k3⟩⟩, rfl, ⟨a, b, c, l3⟩, ⟨rfl, rfl, rfl, s3⟩, ?_⟩
      simp only [s3.len]; exact b3

structure Heap.good (h : Heap) : Prop where
  small : h.small
  zones : ∀ z ∈ h.Zones, z.good

theorem elw_heap : ∀ fuel cs x, DataW.trod enc Try.prog W base spare held fuel 27 cs = some x → (∀ y ∈ x.1.weights Try.prog 27, y ≤ reachBytes) → ∃ r : HRow, cs = encH r ∧ ∃ h : Heap, RdH W r h ∧ h.good := by
  intro fuel cs x h hw
  obtain ⟨xs, n, _, rfl, hlen, hxl, hf⟩ := DataW.trod_struct Try.underlying27 h
  have hc : Try.prog.cellsOf 27 = 5 := by kernel_rfl
  have hi : Try.prog.cellsOf 3 = 1 := by kernel_rfl
  have hi1 : Try.prog.cellsOf 23 = 1 := by kernel_rfl
  have hi2 : Try.prog.cellsOf 22 = 1 := by kernel_rfl
  have hi3 : Try.prog.cellsOf 24 = 1 := by kernel_rfl
  have hi4 : Try.prog.cellsOf 25 = 1 := by kernel_rfl
  rw [hc] at hlen
  match cs, hlen with
  | [c0, c1, c2, c3, c4], _ =>
    match xs, hxl with
    | [y0, y1, y2, y3, y4], _ =>
      have h0 : DataW.trod enc Try.prog W base spare held n 22 (List.take (Try.prog.cellsOf 22) (List.drop 0 [c0, c1, c2, c3, c4])) = some y0 := hf 0 _ rfl
      have h1 : DataW.trod enc Try.prog W base spare held n 23 (List.take (Try.prog.cellsOf 23) (List.drop 1 [c0, c1, c2, c3, c4])) = some y1 := hf 1 _ rfl
      have h2 : DataW.trod enc Try.prog W base spare held n 3 (List.take (Try.prog.cellsOf 3) (List.drop 2 [c0, c1, c2, c3, c4])) = some y2 := hf 2 _ rfl
      have h3 : DataW.trod enc Try.prog W base spare held n 24 (List.take (Try.prog.cellsOf 24) (List.drop 3 [c0, c1, c2, c3, c4])) = some y3 := hf 3 _ rfl
      have h4 : DataW.trod enc Try.prog W base spare held n 25 (List.take (Try.prog.cellsOf 25) (List.drop 4 [c0, c1, c2, c3, c4])) = some y4 := hf 4 _ rfl
      rw [hi2] at h0
      rw [hi1] at h1
      rw [hi] at h2
      rw [hi3] at h3
      rw [hi4] at h4
      have w0 := bd_field Try.underlying27 (j := 0) rfl rfl hw
      have w1 := bd_field Try.underlying27 (j := 1) rfl rfl hw
      have w3 := bd_field Try.underlying27 (j := 3) rfl rfl hw
      have w4 := bd_field Try.underlying27 (j := 4) rfl rfl hw
      obtain ⟨A0, n0, k0, l0, e0, s0, b0, g0⟩ := open_slw (t := 22) (b := 64) (by kernel_rfl) (by kernel_rfl) elw_zone h0 w0
      obtain ⟨A1, n1, k1, l1, e1, s1, b1, _⟩ := open_slw (t := 23) (b := 8) (by kernel_rfl) (by kernel_rfl) (elw_int Try.underlying3) h1 w1
      obtain ⟨b, hb, wb⟩ := el_int Try.underlying3 h2
      obtain ⟨A3, n3, k3, l3, e3, s3, b3, g3⟩ := open_slw (t := 24) (b := 48) (by kernel_rfl) (by kernel_rfl) elw_list h3 w3
      obtain ⟨A4, n4, k4, l4, e4, s4, b4, _⟩ := open_slw (t := 25) (b := 24) (by kernel_rfl) (by kernel_rfl) elw_block h4 w4
      obtain ⟨Z, hZ⟩ := all2_of l0 g0
      obtain ⟨L, hL⟩ := all2_of l3 g3
      simp [encI] at e0 e1 hb e3 e4
      subst e0 e1 hb e3 e4
      refine ⟨⟨⟨A0, n0, k0⟩, ⟨A1, n1, k1⟩, b, ⟨A3, n3, k3⟩, ⟨A4, n4, k4⟩⟩, rfl, ⟨Z, l1, b, L, l4⟩, ⟨rfl, s1, s4, ⟨l0, s0, hZ.mono fun _ _ h => h.1⟩, ⟨l3, s3, hL.mono fun _ _ h => h.1⟩⟩, ⟨?_, ?_, ?_, ?_, ?_, ?_⟩, ?_⟩
      · simp only [← hZ.len, s0.len]; omega
      · simp only [s1.len]; omega
      · simp only [← hL.len, s3.len]; omega
      · simp only [s4.len]; omega
      · intro z hz
        obtain ⟨i, hi, rfl⟩ := List.getElem_of_mem hz
        have := (hZ.get i (by have := hZ.len; simp only at hi; omega) hi).2
        exact ⟨by have := this.2.2.1; simp only at this ⊢; omega, by have := this.2.2.2; simp only at this ⊢; omega⟩
      · intro z hz
        obtain ⟨i, hi, rfl⟩ := List.getElem_of_mem hz
        have := (hL.get i (by have := hL.len; simp only at hi; omega) hi).2
        simp only at this ⊢
        omega
      · intro z hz
        obtain ⟨i, hi, rfl⟩ := List.getElem_of_mem hz
        exact (hZ.get i (by have := hZ.len; simp only at hi; omega) hi).2

theorem open_heap {r : Reach} {b0 : Nat} {v : Value} {d : DataW H} {p : List MemPlace} (hv : Value.okWide Try.prog W r b0 27 v) (h : DataW.Trod enc Try.prog W base spare held 27 v d p) (hw : ∀ y ∈ d.weights Try.prog 27, y ≤ reachBytes) :
    ∃ (r : HRow) (h : Heap), v = .agg (encH r).toArray ∧ RdH W r h ∧ h.good := by
  obtain ⟨cs, rfl, hsz⟩ := okWide_struct Try.underlying27 hv
  obtain ⟨fuel, hf⟩ := h
  obtain ⟨r, hr, hh, h1, h2⟩ := elw_heap _ _ _ hf hw
  refine ⟨r, hh, ?_, h1, h2⟩
  have : cs.toList = encH r := hr
  rw [← this]
end
end Go.Proofs.Ytfdmgflboibdoaa
