/-
  How an argument that is a system is opened to what the contracts ask.
-/
import Derived.Test.YtfdmgflboibdoaaOpenH
import Derived.Test.YtfdmgflboibdoaaS1
set_option linter.unusedVariables false
set_option maxRecDepth 100000
namespace Go.Proofs.Ytfdmgflboibdoaa
open Go.ChangeShapes Go.WideShapes Go.ChangeAt Go.RowKit Go.Deep Go.Joins

section
variable {H : Type} {enc : TypeId × Value → H} {W : World} {base : Nat} {spare : Nat → Bool} {held : Bool} {fuel : Nat} {cs : List Value} {x : DataW H × List MemPlace}

theorem elw_str : ∀ fuel cs x, DataW.trod enc Try.prog W base spare held fuel 9 cs = some x → (∀ y ∈ x.1.weights Try.prog 9, y ≤ reachBytes) → ∃ s : ByteArray, cs = encStr s ∧ s.size ≤ 140737488351232 := by
  intro fuel cs x h hw
  obtain ⟨s, rfl, rfl, _⟩ := DataW.trod_string Try.underlying9 h
  refine ⟨s, rfl, ?_⟩
  have := hw s.data.toList.length (by simp [DataW.weights])
  simp only [reachBytes] at this
  simpa using this

theorem elw_slab : ∀ fuel cs x, DataW.trod enc Try.prog W base spare held fuel 98 cs = some x → (∀ y ∈ x.1.weights Try.prog 98, y ≤ reachBytes) → ∃ r : Slab, cs = encSb r ∧ True := by
  intro fuel cs x h _
  obtain ⟨xs, n, _, _, hlen, hxl, hf⟩ := DataW.trod_struct Try.underlying98 h
  have hc : Try.prog.cellsOf 98 = 3 := by kernel_rfl
  have hi : Try.prog.cellsOf 3 = 1 := by kernel_rfl
  rw [hc] at hlen
  match cs, hlen with
  | [c0, c1, c2], _ =>
    match xs, hxl with
    | [y0, y1, y2], _ =>
      have h0 : DataW.trod enc Try.prog W base spare held n 3 (List.take (Try.prog.cellsOf 3) (List.drop 0 [c0, c1, c2])) = some y0 := hf 0 _ rfl
      have h1 : DataW.trod enc Try.prog W base spare held n 3 (List.take (Try.prog.cellsOf 3) (List.drop 1 [c0, c1, c2])) = some y1 := hf 1 _ rfl
      have h2 : DataW.trod enc Try.prog W base spare held n 3 (List.take (Try.prog.cellsOf 3) (List.drop 2 [c0, c1, c2])) = some y2 := hf 2 _ rfl
      rw [hi] at h0 h1 h2
      obtain ⟨a, ha, wa⟩ := el_int Try.underlying3 h0
      obtain ⟨b, hb, wb⟩ := el_int Try.underlying3 h1
      obtain ⟨c, hcc, wc⟩ := el_int Try.underlying3 h2
      simp [encI] at ha hb hcc
      subst ha hb hcc
      exact ⟨⟨a, b, c⟩, rfl, trivial⟩

structure KCache.good (c : KCache) : Prop where
  small : c.small
  size : in64 c.Size ∧ in64 c.Per ∧ in64 c.Order
  names : ∀ s ∈ c.Names, s.size ≤ 140737488351232

theorem elw_cache : ∀ fuel cs x, DataW.trod enc Try.prog W base spare held fuel 94 cs = some x → (∀ y ∈ x.1.weights Try.prog 94, y ≤ reachBytes) → ∃ r : CRow, cs = encC r ∧ ∃ c : KCache, RdC W r c ∧ c.good := by
  intro fuel cs x h hw
  obtain ⟨xs, n, _, rfl, hlen, hxl, hf⟩ := DataW.trod_struct Try.underlying94 h
  have hc : Try.prog.cellsOf 94 = 6 := by kernel_rfl
  have hi : Try.prog.cellsOf 3 = 1 := by kernel_rfl
  have hi0 : Try.prog.cellsOf 91 = 1 := by kernel_rfl
  have hi4 : Try.prog.cellsOf 92 = 1 := by kernel_rfl
  have hi5 : Try.prog.cellsOf 23 = 1 := by kernel_rfl
  rw [hc] at hlen
  match cs, hlen with
  | [c0, c1, c2, c3, c4, c5], _ =>
    match xs, hxl with
    | [y0, y1, y2, y3, y4, y5], _ =>
      have h0 : DataW.trod enc Try.prog W base spare held n 91 (List.take (Try.prog.cellsOf 91) (List.drop 0 [c0, c1, c2, c3, c4, c5])) = some y0 := hf 0 _ rfl
      have h1 : DataW.trod enc Try.prog W base spare held n 3 (List.take (Try.prog.cellsOf 3) (List.drop 1 [c0, c1, c2, c3, c4, c5])) = some y1 := hf 1 _ rfl
      have h2 : DataW.trod enc Try.prog W base spare held n 3 (List.take (Try.prog.cellsOf 3) (List.drop 2 [c0, c1, c2, c3, c4, c5])) = some y2 := hf 2 _ rfl
      have h3 : DataW.trod enc Try.prog W base spare held n 3 (List.take (Try.prog.cellsOf 3) (List.drop 3 [c0, c1, c2, c3, c4, c5])) = some y3 := hf 3 _ rfl
      have h4 : DataW.trod enc Try.prog W base spare held n 92 (List.take (Try.prog.cellsOf 92) (List.drop 4 [c0, c1, c2, c3, c4, c5])) = some y4 := hf 4 _ rfl
      have h5 : DataW.trod enc Try.prog W base spare held n 23 (List.take (Try.prog.cellsOf 23) (List.drop 5 [c0, c1, c2, c3, c4, c5])) = some y5 := hf 5 _ rfl
      rw [hi0] at h0
      rw [hi] at h1 h2 h3
      rw [hi4] at h4
      rw [hi5] at h5
      have w0 := bd_field Try.underlying94 (j := 0) rfl rfl hw
      have w4 := bd_field Try.underlying94 (j := 4) rfl rfl hw
      have w5 := bd_field Try.underlying94 (j := 5) rfl rfl hw
      obtain ⟨A0, n0, k0, l0, e0, s0, b0, g0⟩ := open_slw (t := 91) (b := 16) (by kernel_rfl) (by kernel_rfl) elw_str h0 w0
      obtain ⟨a, ha, wa⟩ := el_int Try.underlying3 h1
      obtain ⟨b, hb, wb⟩ := el_int Try.underlying3 h2
      obtain ⟨c, hcc, wc⟩ := el_int Try.underlying3 h3
      obtain ⟨A4, n4, k4, l4, e4, s4, b4, _⟩ := open_slw (t := 92) (b := 24) (by kernel_rfl) (by kernel_rfl) elw_slab h4 w4
      obtain ⟨A5, n5, k5, l5, e5, s5, b5, _⟩ := open_slw (t := 23) (b := 8) (by kernel_rfl) (by kernel_rfl) (elw_int Try.underlying3) h5 w5
      simp [encI] at e0 ha hb hcc e4 e5
      subst e0 ha hb hcc e4 e5
      refine ⟨⟨⟨A0, n0, k0⟩, a, b, c, ⟨A4, n4, k4⟩, ⟨A5, n5, k5⟩⟩, rfl, ⟨l0, a, b, c, l4, l5⟩, ⟨rfl, rfl, rfl, s0, s4, s5⟩, ⟨?_, ?_, ?_⟩, ⟨wa, wb, wc⟩, g0⟩
      · simp only [s0.len]; omega
      · simp only [s4.len]; omega
      · simp only [s5.len]; omega

structure KSystem.good (s : KSystem) : Prop where
  small : s.small
  heap : s.Heap.good
  caches : ∀ c ∈ s.Caches, c.good

theorem elw_system : ∀ fuel cs x, DataW.trod enc Try.prog W base spare held fuel 33 cs = some x → (∀ y ∈ x.1.weights Try.prog 33, y ≤ reachBytes) → ∃ r : SRow, cs = encSys r ∧ ∃ s : KSystem, RdS W r s ∧ s.good := by
  intro fuel cs x h hw
  obtain ⟨xs, n, _, rfl, hlen, hxl, hf⟩ := DataW.trod_struct Try.underlying33 h
  have hc : Try.prog.cellsOf 33 = 7 := by kernel_rfl
  have hi0 : Try.prog.cellsOf 23 = 1 := by kernel_rfl
  have hi1 : Try.prog.cellsOf 27 = 5 := by kernel_rfl
  have hi2 : Try.prog.cellsOf 31 = 1 := by kernel_rfl
  rw [hc] at hlen
  match cs, hlen with
  | [c0, c1, c2, c3, c4, c5, c6], _ =>
    match xs, hxl with
    | [y0, y1, y2], _ =>
      have h0 : DataW.trod enc Try.prog W base spare held n 23 (List.take (Try.prog.cellsOf 23) (List.drop 0 [c0, c1, c2, c3, c4, c5, c6])) = some y0 := hf 0 _ rfl
      have h1 : DataW.trod enc Try.prog W base spare held n 27 (List.take (Try.prog.cellsOf 27) (List.drop 1 [c0, c1, c2, c3, c4, c5, c6])) = some y1 := hf 1 _ rfl
      have h2 : DataW.trod enc Try.prog W base spare held n 31 (List.take (Try.prog.cellsOf 31) (List.drop 6 [c0, c1, c2, c3, c4, c5, c6])) = some y2 := hf 2 _ rfl
      rw [hi0] at h0
      rw [hi1] at h1
      rw [hi2] at h2
      have w0 := bd_field Try.underlying33 (j := 0) rfl rfl hw
      have w1 := bd_field Try.underlying33 (j := 1) rfl rfl hw
      have w2 := bd_field Try.underlying33 (j := 2) rfl rfl hw
      obtain ⟨A0, n0, k0, l0, e0, s0, b0, _⟩ := open_slw (t := 23) (b := 8) (by kernel_rfl) (by kernel_rfl) (elw_int Try.underlying3) h0 w0
      obtain ⟨hr, e1, hh, hR, hG⟩ := elw_heap _ _ _ h1 w1
      obtain ⟨A2, n2, k2, l2, e2, s2, b2, g2⟩ := open_slw (t := 31) (b := 96) (by kernel_rfl) (by kernel_rfl) elw_cache h2 w2
      obtain ⟨C, hC⟩ := all2_of l2 g2
      simp [encH] at e0 e1 e2
      obtain ⟨e11, e12, e13, e14, e15⟩ := e1
      subst e0 e11 e12 e13 e14 e15 e2
      refine ⟨⟨⟨A0, n0, k0⟩, hr, ⟨A2, n2, k2⟩⟩, rfl, ⟨l0, hh, C⟩, ⟨s0, hR, ⟨l2, s2, hC.mono fun _ _ h => h.1⟩⟩, ⟨?_, hG.small, ?_, ?_⟩, hG, ?_⟩
      · simp only [s0.len]; omega
      · simp only [← hC.len, s2.len]; omega
      · intro z hz
        obtain ⟨i, hi, rfl⟩ := List.getElem_of_mem hz
        exact (hC.get i (by have := hC.len; simp only at hi; omega) hi).2.small
      · intro z hz
        obtain ⟨i, hi, rfl⟩ := List.getElem_of_mem hz
        exact (hC.get i (by have := hC.len; simp only at hi; omega) hi).2

theorem open_system {r : Reach} {b0 : Nat} {v : Value} {d : DataW H} {p : List MemPlace} (hv : Value.okWide Try.prog W r b0 33 v) (h : DataW.Trod enc Try.prog W base spare held 33 v d p) (hw : ∀ y ∈ d.weights Try.prog 33, y ≤ reachBytes) :
    ∃ (r : SRow) (s : KSystem), v = .agg (encSys r).toArray ∧ RdS W r s ∧ s.good := by
  obtain ⟨cs, rfl, hsz⟩ := okWide_struct Try.underlying33 hv
  obtain ⟨fuel, hf⟩ := h
  obtain ⟨r, hr, hh, h1, h2⟩ := elw_system _ _ _ hf hw
  refine ⟨r, hh, ?_, h1, h2⟩
  have : cs.toList = encSys r := hr
  rw [← this]
end
end Go.Proofs.Ytfdmgflboibdoaa
