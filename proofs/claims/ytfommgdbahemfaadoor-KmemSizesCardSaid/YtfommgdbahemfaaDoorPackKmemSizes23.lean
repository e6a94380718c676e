/-
  How an argument that is a heap is opened to what the contracts ask.
-/
import Derived.Test.YtfommgdbahemfaaDoorPackKmemSizes22
import Derived.Test.YtfommgdbahemfaaDoorPackKmemSizes5
import Derived.Test.YtfommgdbahemfaaDoorPackKmemSizes6
import Derived.Test.YtfommgdbahemfaaDoorPackKmemSizes19
import Derived.Test.YtfommgdbahemfaaDoorPackKmemSizes2
import Derived.Great.BuildSlice
set_option linter.unusedVariables false
set_option maxRecDepth 100000
namespace Go.Proofs.YtfommgdbahemfaaDoor
open Go.ChangeShapes Go.WideShapes Go.ChangeAt Go.RowKit Go.Deep Go.Joins

section
variable {H : Type} {enc : TypeId × Value → H} {W : World} {base : Nat} {spare : Nat → Bool} {held : Bool} {fuel : Nat} {cs : List Value} {x : DataW H × List MemPlace}

theorem weightsAll_mem {P : Program} {e : TypeId} : ∀ {l : List (DataW H)} {d : DataW H}, d ∈ l → ∀ n ∈ d.weights P e, n ∈ DataW.weightsAll P e l
  | a :: r, d, h, n, hn => by
    simp only [DataW.weightsAll, List.mem_append]
    rcases List.mem_cons.1 h with rfl | h
    · exact .inl hn
    · exact .inr (weightsAll_mem h n hn)

/-- each element has its reading -/
theorem all2_of {α β : Type} {R : α → β → Prop} : ∀ (l : List α), (∀ a ∈ l, ∃ b, R a b) → ∃ bs : List β, All2 R l bs
  | [], _ => ⟨[], .nil⟩
  | a :: r, h => by
    obtain ⟨b, hb⟩ := h a (by simp)
    obtain ⟨bs, hbs⟩ := all2_of r (fun x hx => h x (by simp [hx]))
    refine ⟨b :: bs, by simp [hbs.len], fun i h1 h2 => ?_⟩
    cases i with
    | zero => exact hb
    | succ i => exact hbs.get i (by simpa using h1) (by simpa using h2)

/-- a slice, read as a list; its elements lie within bounds -/
theorem open_slw {α : Type} {t e sz b : Nat} [S : SliceTy Tryd.prog t e sz] (hc : Tryd.prog.cellsOf e = sz) (hby : Tryd.prog.bytesOf e = b) {en : α → List Value} {Good : α → Prop}
    (hel : ∀ fuel cs x, DataW.trod enc Tryd.prog W base spare held fuel e cs = some x → (∀ y ∈ x.1.weights Tryd.prog e, y ≤ reachBytes) → ∃ a : α, cs = en a ∧ Good a) (h : DataW.trod enc Tryd.prog W base spare held fuel t cs = some x) (hw : ∀ y ∈ x.1.weights Tryd.prog t, y ≤ reachBytes) :
    ∃ A n c l, cs = [.slice A n c] ∧ Sl W sz en A n l ∧ n * b ≤ 140737488351232 ∧ ∀ a ∈ l, Good a := by
  rcases open_slice S.und h with ⟨h1, h2⟩ | ⟨a, len, cap, m, k, D, Pl, h1, hb, hl, hm, hmm, hx, hi⟩
  · exact ⟨none, 0, 0, [], h1, Sl.nil_ _ _ _ _, by simp, by simp⟩
  · have hlm : len ≤ m := by rw [hmm]; split <;> omega
    have hx1 : x.1 = .slice ((List.range len).map D) ((List.range (m - len)).map fun j => D (len + j)) := by rw [hx]
    have hnb : len * b ≤ 140737488351232 := by
      have := hw ((((List.range len).map D).length + ((List.range (m - len)).map fun j => D (len + j)).length) * Tryd.prog.bytesOf e) (by rw [hx1]; simp [DataW.weights, S.und])
      rw [hby] at this
      simp only [reachBytes] at this
      refine Nat.le_trans (Nat.mul_le_mul_right _ ?_) this
      simp
    have hex : ∀ i, i < len → ∃ q : α, Good q ∧ ∀ j u, (en q)[j]? = some u → W.cell? ((a.add (i * sz)).add j) = some u := fun i hlt => by
      obtain ⟨cs', hcs, ht⟩ := hi i (by omega)
      obtain ⟨q, rfl, hg⟩ := hel _ _ _ ht (fun y hy => by
        apply hw
        rw [hx1]
        simp only [DataW.weights, S.und, List.mem_cons, List.mem_append]
        exact .inr (.inl (weightsAll_mem (List.mem_map.2 ⟨i, by simpa using hlt, rfl⟩) y hy)))
      obtain ⟨_, hcl, hat⟩ := World.cells?_some hcs
      rw [hc] at hcl hat
      refine ⟨q, hg, fun j u hu => ?_⟩
      have hj : j < (en q).length := by
        rcases Nat.lt_or_ge j (en q).length with h | h
        · exact h
        · simp [List.getElem?_eq_none h] at hu
      rw [hat j (by omega)]
      exact hu
    by_cases h0 : len = 0
    · subst h0
      exact ⟨some a, 0, cap, [], h1, Sl.nil_ _ _ _ _, by simp, by simp⟩
    have hch : ∃ f : Nat → α, ∀ i, i < len → Good (f i) ∧ ∀ j u, (en (f i))[j]? = some u → W.cell? ((a.add (i * sz)).add j) = some u := by
      have hne : Nonempty α := ⟨(hex 0 (by omega)).choose⟩
      exact ⟨fun i => if h : i < len then (hex i h).choose else Classical.choice hne, fun i h => by simp only [h, dif_pos]; exact (hex i h).choose_spec⟩
    obtain ⟨f, hf⟩ := hch
    refine ⟨some a, len, cap, (List.range len).map f, h1, ⟨by simp, fun _ => rfl, fun i hi' j u hu => ?_⟩, hnb, ?_⟩
    · simp at hi'
      exact (hf i hi').2 j u (by simpa using hu)
    · intro q hq
      obtain ⟨i, hi', rfl⟩ := List.mem_map.1 hq
      exact (hf i (by simpa using hi')).1

theorem elw_int {t : TypeId} (ht : Tryd.prog.underlying t = some (.int .i64)) : ∀ fuel cs x, DataW.trod enc Tryd.prog W base spare held fuel t cs = some x → (∀ y ∈ x.1.weights Tryd.prog t, y ≤ reachBytes) → ∃ z : Int, cs = encI z ∧ in64 z := fun _ _ _ h _ => el_int ht h

theorem elw_block : ∀ fuel cs x, DataW.trod enc Tryd.prog W base spare held fuel 55 cs = some x → (∀ y ∈ x.1.weights Tryd.prog 55, y ≤ reachBytes) → ∃ r : Block, cs = encBk r ∧ True := fun _ _ _ h _ => el_block h

/-- what is known of a zone's data -/
def Zone.good (z : Zone) : Prop := in64 z.From ∧ in64 z.To ∧ z.Free.length * 24 ≤ 140737488351232 ∧ z.Types.length * 8 ≤ 140737488351232

theorem elw_zone : ∀ fuel cs x, DataW.trod enc Tryd.prog W base spare held fuel 25 cs = some x → (∀ y ∈ x.1.weights Tryd.prog 25, y ≤ reachBytes) → ∃ r : ZRow, cs = encZ r ∧ ∃ z : Zone, RdZ W r z ∧ z.good := by
  intro fuel cs x h hw
  obtain ⟨xs, n, _, rfl, hlen, hxl, hf⟩ := DataW.trod_struct Tryd.underlying25 h
  have hc : Tryd.prog.cellsOf 25 = 4 := by kernel_rfl
  have hi : Tryd.prog.cellsOf 3 = 1 := by kernel_rfl
  have hi2 : Tryd.prog.cellsOf 22 = 1 := by kernel_rfl
  have hi3 : Tryd.prog.cellsOf 23 = 1 := by kernel_rfl
  rw [hc] at hlen
  match cs, hlen with
  | [c0, c1, c2, c3], _ =>
    match xs, hxl with
    | [y0, y1, y2, y3], _ =>
      have h0 : DataW.trod enc Tryd.prog W base spare held n 3 (List.take (Tryd.prog.cellsOf 3) (List.drop 0 [c0, c1, c2, c3])) = some y0 := hf 0 _ rfl
      have h1 : DataW.trod enc Tryd.prog W base spare held n 3 (List.take (Tryd.prog.cellsOf 3) (List.drop 1 [c0, c1, c2, c3])) = some y1 := hf 1 _ rfl
      have h2 : DataW.trod enc Tryd.prog W base spare held n 22 (List.take (Tryd.prog.cellsOf 22) (List.drop 2 [c0, c1, c2, c3])) = some y2 := hf 2 _ rfl
      have h3 : DataW.trod enc Tryd.prog W base spare held n 23 (List.take (Tryd.prog.cellsOf 23) (List.drop 3 [c0, c1, c2, c3])) = some y3 := hf 3 _ rfl
      rw [hi] at h0 h1
      rw [hi2] at h2
      rw [hi3] at h3
      have w2 := bd_field Tryd.underlying25 (j := 2) rfl rfl hw
      have w3 := bd_field Tryd.underlying25 (j := 3) rfl rfl hw
      obtain ⟨a, ha, wa⟩ := el_int Tryd.underlying3 h0
      obtain ⟨b, hb, wb⟩ := el_int Tryd.underlying3 h1
      obtain ⟨A2, n2, k2, l2, e2, s2, b2, _⟩ := open_slw (t := 22) (b := 24) (by kernel_rfl) (by kernel_rfl) elw_block h2 w2
      obtain ⟨A3, n3, k3, l3, e3, s3, b3, _⟩ := open_slw (t := 23) (b := 8) (by kernel_rfl) (by kernel_rfl) (elw_int Tryd.underlying3) h3 w3
      simp [encI] at ha hb e2 e3
      subst ha hb e2 e3
      refine ⟨⟨a, b, ⟨A2, n2, k2⟩, ⟨A3, n3, k3⟩⟩, rfl, ⟨a, b, l2, l3⟩, ⟨rfl, rfl, s2, s3⟩, wa, wb, ?_, ?_⟩
      · simp only [s2.len]; exact b2
      · simp only [s3.len]; exact b3

theorem elw_list : ∀ fuel cs x, DataW.trod enc Tryd.prog W base spare held fuel 84 cs = some x → (∀ y ∈ x.1.weights Tryd.prog 84, y ≤ reachBytes) → ∃ r : LRow, cs = encL r ∧ ∃ l : PList, RdL W r l ∧ l.Pages.length * 8 ≤ 140737488351232 := by
  intro fuel cs x h hw
  obtain ⟨xs, n, _, rfl, hlen, hxl, hf⟩ := DataW.trod_struct Tryd.underlying84 h
  have hc : Tryd.prog.cellsOf 84 = 4 := by kernel_rfl
  have hi : Tryd.prog.cellsOf 3 = 1 := by kernel_rfl
  have hi3 : Tryd.prog.cellsOf 23 = 1 := by kernel_rfl
  rw [hc] at hlen
  match cs, hlen with
  | [c0, c1, c2, c3], _ =>
    match xs, hxl with
    | [y0, y1, y2, y3], _ =>
      have h0 : DataW.trod enc Tryd.prog W base spare held n 3 (List.take (Tryd.prog.cellsOf 3) (List.drop 0 [c0, c1, c2, c3])) = some y0 := hf 0 _ rfl
      have h1 : DataW.trod enc Tryd.prog W base spare held n 3 (List.take (Tryd.prog.cellsOf 3) (List.drop 1 [c0, c1, c2, c3])) = some y1 := hf 1 _ rfl
      have h2 : DataW.trod enc Tryd.prog W base spare held n 3 (List.take (Tryd.prog.cellsOf 3) (List.drop 2 [c0, c1, c2, c3])) = some y2 := hf 2 _ rfl
      have h3 : DataW.trod enc Tryd.prog W base spare held n 23 (List.take (Tryd.prog.cellsOf 23) (List.drop 3 [c0, c1, c2, c3])) = some y3 := hf 3 _ rfl
      rw [hi] at h0 h1 h2
      rw [hi3] at h3
      have w3 := bd_field Tryd.underlying84 (j := 3) rfl rfl hw
      obtain ⟨a, ha, wa⟩ := el_int Tryd.underlying3 h0
      obtain ⟨b, hb, wb⟩ := el_int Tryd.underlying3 h1
      obtain ⟨c, hcc, wc⟩ := el_int Tryd.underlying3 h2
      obtain ⟨A3, n3, k3, l3, e3, s3, b3, _⟩ := open_slw (t := 23) (b := 8) (by kernel_rfl) (by kernel_rfl) (elw_int Tryd.underlying3) h3 w3
      simp [encI] at ha hb hcc e3
      subst ha hb hcc e3
      refine ⟨⟨a, b, c, ⟨A3, n3, k3⟩⟩, rfl, ⟨a, b, c, l3⟩, ⟨rfl, rfl, rfl, s3⟩, ?_⟩
      simp only [s3.len]; exact b3

structure Heap.good (h : Heap) : Prop where
  small : h.small
  zones : ∀ z ∈ h.Zones, z.good

theorem elw_heap : ∀ fuel cs x, DataW.trod enc Tryd.prog W base spare held fuel 35 cs = some x → (∀ y ∈ x.1.weights Tryd.prog 35, y ≤ reachBytes) → ∃ r : HRow, cs = encH r ∧ ∃ h : Heap, RdH W r h ∧ h.good := by
  intro fuel cs x h hw
  obtain ⟨xs, n, _, rfl, hlen, hxl, hf⟩ := DataW.trod_struct Tryd.underlying35 h
  have hc : Tryd.prog.cellsOf 35 = 5 := by kernel_rfl
  have hi : Tryd.prog.cellsOf 3 = 1 := by kernel_rfl
  have hi1 : Tryd.prog.cellsOf 23 = 1 := by kernel_rfl
  have hi2 : Tryd.prog.cellsOf 32 = 1 := by kernel_rfl
  have hi3 : Tryd.prog.cellsOf 33 = 1 := by kernel_rfl
  have hi4 : Tryd.prog.cellsOf 22 = 1 := by kernel_rfl
  rw [hc] at hlen
  match cs, hlen with
  | [c0, c1, c2, c3, c4], _ =>
    match xs, hxl with
    | [y0, y1, y2, y3, y4], _ =>
      have h0 : DataW.trod enc Tryd.prog W base spare held n 32 (List.take (Tryd.prog.cellsOf 32) (List.drop 0 [c0, c1, c2, c3, c4])) = some y0 := hf 0 _ rfl
      have h1 : DataW.trod enc Tryd.prog W base spare held n 23 (List.take (Tryd.prog.cellsOf 23) (List.drop 1 [c0, c1, c2, c3, c4])) = some y1 := hf 1 _ rfl
      have h2 : DataW.trod enc Tryd.prog W base spare held n 3 (List.take (Tryd.prog.cellsOf 3) (List.drop 2 [c0, c1, c2, c3, c4])) = some y2 := hf 2 _ rfl
      have h3 : DataW.trod enc Tryd.prog W base spare held n 33 (List.take (Tryd.prog.cellsOf 33) (List.drop 3 [c0, c1, c2, c3, c4])) = some y3 := hf 3 _ rfl
      have h4 : DataW.trod enc Tryd.prog W base spare held n 22 (List.take (Tryd.prog.cellsOf 22) (List.drop 4 [c0, c1, c2, c3, c4])) = some y4 := hf 4 _ rfl
      rw [hi2] at h0
      rw [hi1] at h1
      rw [hi] at h2
      rw [hi3] at h3
      rw [hi4] at h4
      have w0 := bd_field Tryd.underlying35 (j := 0) rfl rfl hw
      have w1 := bd_field Tryd.underlying35 (j := 1) rfl rfl hw
      have w3 := bd_field Tryd.underlying35 (j := 3) rfl rfl hw
      have w4 := bd_field Tryd.underlying35 (j := 4) rfl rfl hw
      obtain ⟨A0, n0, k0, l0, e0, s0, b0, g0⟩ := open_slw (t := 32) (b := 64) (by kernel_rfl) (by kernel_rfl) elw_zone h0 w0
      obtain ⟨A1, n1, k1, l1, e1, s1, b1, _⟩ := open_slw (t := 23) (b := 8) (by kernel_rfl) (by kernel_rfl) (elw_int Tryd.underlying3) h1 w1
      obtain ⟨b, hb, wb⟩ := el_int Tryd.underlying3 h2
      obtain ⟨A3, n3, k3, l3, e3, s3, b3, g3⟩ := open_slw (t := 33) (b := 48) (by kernel_rfl) (by kernel_rfl) elw_list h3 w3
      obtain ⟨A4, n4, k4, l4, e4, s4, b4, _⟩ := open_slw (t := 22) (b := 24) (by kernel_rfl) (by kernel_rfl) elw_block h4 w4
      obtain ⟨Z, hZ⟩ := all2_of l0 g0
      obtain ⟨L, hL⟩ := all2_of l3 g3
      simp [encI] at e0 e1 hb e3 e4
      subst e0 e1 hb e3 e4
      refine ⟨⟨⟨A0, n0, k0⟩, ⟨A1, n1, k1⟩, b, ⟨A3, n3, k3⟩, ⟨A4, n4, k4⟩⟩, rfl, ⟨Z, l1, b, L, l4⟩, ⟨rfl, s1, s4, ⟨l0, s0, hZ.mono fun _ _ h => h.1⟩, ⟨l3, s3, hL.mono fun _ _ h => h.1⟩⟩, ⟨?_, ?_, ?_, ?_, ?_, ?_⟩, ?_⟩
      · simp only [← hZ.len, s0.len]; omega
      · simp only [s1.len]; omega
      · simp only [← hL.len, s3.len]; omega
      · simp only [s4.len]; omega
      · intro z hz
        obtain ⟨i, hi, rfl⟩ := List.getElem_of_mem hz
        have := (hZ.get i (by have := hZ.len; simp only at hi; omega) hi).2
        exact ⟨by have := this.2.2.1; simp only at this ⊢; omega, by have := this.2.2.2; simp only at this ⊢; omega⟩
      · intro z hz
        obtain ⟨i, hi, rfl⟩ := List.getElem_of_mem hz
        have := (hL.get i (by have := hL.len; simp only at hi; omega) hi).2
        simp only at this ⊢
        omega
      · intro z hz
        obtain ⟨i, hi, rfl⟩ := List.getElem_of_mem hz
        exact (hZ.get i (by have := hZ.len; simp only at hi; omega) hi).2

theorem open_heap {r : Reach} {b0 : Nat} {v : Value} {d : DataW H} {p : List MemPlace} (hv : Value.okWide Tryd.prog W r b0 35 v) (h : DataW.Trod enc Tryd.prog W base spare held 35 v d p) (hw : ∀ y ∈ d.weights Tryd.prog 35, y ≤ reachBytes) :
    ∃ (r : HRow) (h : Heap), v = .agg (encH r).toArray ∧ RdH W r h ∧ h.good := by
  obtain ⟨cs, rfl, hsz⟩ := okWide_struct Tryd.underlying35 hv
  obtain ⟨fuel, hf⟩ := h
  obtain ⟨r, hr, hh, h1, h2⟩ := elw_heap _ _ _ hf hw
  refine ⟨r, hh, ?_, h1, h2⟩
  have : cs.toList = encH r := hr
  rw [← this]
end
end Go.Proofs.YtfommgdbahemfaaDoor

/-
  How an argument that is a system is opened to what the contracts ask.
-/
set_option linter.unusedVariables false
set_option maxRecDepth 100000
namespace Go.Proofs.YtfommgdbahemfaaDoor
open Go.ChangeShapes Go.WideShapes Go.ChangeAt Go.RowKit Go.Deep Go.Joins

section
variable {H : Type} {enc : TypeId × Value → H} {W : World} {base : Nat} {spare : Nat → Bool} {held : Bool} {fuel : Nat} {cs : List Value} {x : DataW H × List MemPlace}

theorem cap_slw {α : Type} {t e sz : Nat} [S : SliceTy Tryd.prog t e sz] {x : DataW H × List MemPlace} {A : Option Addr} {n c : Nat} (h : DataW.trod enc Tryd.prog W base spare held fuel t cs = some x) (hcs : cs = [.slice A n c]) : n ≤ c := by
  rcases open_slice S.und h with ⟨h1, h2⟩ | ⟨a, len, cap, m, k, D, Pl, h1, hb, hl, hm, hmm, hx, hi⟩
  · rw [hcs] at h1
    simp at h1
    omega
  · rw [hcs] at h1
    simp at h1
    omega

theorem elw_str : ∀ fuel cs x, DataW.trod enc Tryd.prog W base spare held fuel 9 cs = some x → (∀ y ∈ x.1.weights Tryd.prog 9, y ≤ reachBytes) → ∃ s : ByteArray, cs = encStr s ∧ s.size ≤ 140737488351232 := by
  intro fuel cs x h hw
  obtain ⟨s, rfl, rfl, _⟩ := DataW.trod_string Tryd.underlying9 h
  refine ⟨s, rfl, ?_⟩
  have := hw s.data.toList.length (by simp [DataW.weights])
  simp only [reachBytes] at this
  simpa using this

theorem elw_slab : ∀ fuel cs x, DataW.trod enc Tryd.prog W base spare held fuel 110 cs = some x → (∀ y ∈ x.1.weights Tryd.prog 110, y ≤ reachBytes) → ∃ r : Slab, cs = encSb r ∧ in64 r.At := by
  intro fuel cs x h _
  obtain ⟨xs, n, _, _, hlen, hxl, hf⟩ := DataW.trod_struct Tryd.underlying110 h
  have hc : Tryd.prog.cellsOf 110 = 3 := by kernel_rfl
  have hi : Tryd.prog.cellsOf 3 = 1 := by kernel_rfl
  rw [hc] at hlen
  match cs, hlen with
  | [c0, c1, c2], _ =>
    match xs, hxl with
    | [y0, y1, y2], _ =>
      have h0 : DataW.trod enc Tryd.prog W base spare held n 3 (List.take (Tryd.prog.cellsOf 3) (List.drop 0 [c0, c1, c2])) = some y0 := hf 0 _ rfl
      have h1 : DataW.trod enc Tryd.prog W base spare held n 3 (List.take (Tryd.prog.cellsOf 3) (List.drop 1 [c0, c1, c2])) = some y1 := hf 1 _ rfl
      have h2 : DataW.trod enc Tryd.prog W base spare held n 3 (List.take (Tryd.prog.cellsOf 3) (List.drop 2 [c0, c1, c2])) = some y2 := hf 2 _ rfl
      rw [hi] at h0 h1 h2
      obtain ⟨a, ha, wa⟩ := el_int Tryd.underlying3 h0
      obtain ⟨b, hb, wb⟩ := el_int Tryd.underlying3 h1
      obtain ⟨c, hcc, wc⟩ := el_int Tryd.underlying3 h2
      simp [encI] at ha hb hcc
      subst ha hb hcc
      exact ⟨⟨a, b, c⟩, rfl, wa⟩

structure KCache.good (c : KCache) : Prop where
  small : c.small
  size : in64 c.Size ∧ in64 c.Per ∧ in64 c.Order
  names : ∀ s ∈ c.Names, s.size ≤ 140737488351232
  slabs : ∀ x ∈ c.Slabs, in64 x.At

theorem elw_cache : ∀ fuel cs x, DataW.trod enc Tryd.prog W base spare held fuel 79 cs = some x → (∀ y ∈ x.1.weights Tryd.prog 79, y ≤ reachBytes) → ∃ r : CRow, cs = encC r ∧ ∃ c : KCache, RdC W r c ∧ c.good := by
  intro fuel cs x h hw
  obtain ⟨xs, n, _, rfl, hlen, hxl, hf⟩ := DataW.trod_struct Tryd.underlying79 h
  have hc : Tryd.prog.cellsOf 79 = 6 := by kernel_rfl
  have hi : Tryd.prog.cellsOf 3 = 1 := by kernel_rfl
  have hi0 : Tryd.prog.cellsOf 76 = 1 := by kernel_rfl
  have hi4 : Tryd.prog.cellsOf 77 = 1 := by kernel_rfl
  have hi5 : Tryd.prog.cellsOf 23 = 1 := by kernel_rfl
  rw [hc] at hlen
  match cs, hlen with
  | [c0, c1, c2, c3, c4, c5], _ =>
    match xs, hxl with
    | [y0, y1, y2, y3, y4, y5], _ =>
      have h0 : DataW.trod enc Tryd.prog W base spare held n 76 (List.take (Tryd.prog.cellsOf 76) (List.drop 0 [c0, c1, c2, c3, c4, c5])) = some y0 := hf 0 _ rfl
      have h1 : DataW.trod enc Tryd.prog W base spare held n 3 (List.take (Tryd.prog.cellsOf 3) (List.drop 1 [c0, c1, c2, c3, c4, c5])) = some y1 := hf 1 _ rfl
      have h2 : DataW.trod enc Tryd.prog W base spare held n 3 (List.take (Tryd.prog.cellsOf 3) (List.drop 2 [c0, c1, c2, c3, c4, c5])) = some y2 := hf 2 _ rfl
      have h3 : DataW.trod enc Tryd.prog W base spare held n 3 (List.take (Tryd.prog.cellsOf 3) (List.drop 3 [c0, c1, c2, c3, c4, c5])) = some y3 := hf 3 _ rfl
      have h4 : DataW.trod enc Tryd.prog W base spare held n 77 (List.take (Tryd.prog.cellsOf 77) (List.drop 4 [c0, c1, c2, c3, c4, c5])) = some y4 := hf 4 _ rfl
      have h5 : DataW.trod enc Tryd.prog W base spare held n 23 (List.take (Tryd.prog.cellsOf 23) (List.drop 5 [c0, c1, c2, c3, c4, c5])) = some y5 := hf 5 _ rfl
      rw [hi0] at h0
      rw [hi] at h1 h2 h3
      rw [hi4] at h4
      rw [hi5] at h5
      have w0 := bd_field Tryd.underlying79 (j := 0) rfl rfl hw
      have w4 := bd_field Tryd.underlying79 (j := 4) rfl rfl hw
      have w5 := bd_field Tryd.underlying79 (j := 5) rfl rfl hw
      obtain ⟨A0, n0, k0, l0, e0, s0, b0, g0⟩ := open_slw (t := 76) (b := 16) (by kernel_rfl) (by kernel_rfl) elw_str h0 w0
      obtain ⟨a, ha, wa⟩ := el_int Tryd.underlying3 h1
      obtain ⟨b, hb, wb⟩ := el_int Tryd.underlying3 h2
      obtain ⟨c, hcc, wc⟩ := el_int Tryd.underlying3 h3
      obtain ⟨A4, n4, k4, l4, e4, s4, b4, g4⟩ := open_slw (t := 77) (b := 24) (by kernel_rfl) (by kernel_rfl) elw_slab h4 w4
      obtain ⟨A5, n5, k5, l5, e5, s5, b5, _⟩ := open_slw (t := 23) (b := 8) (by kernel_rfl) (by kernel_rfl) (elw_int Tryd.underlying3) h5 w5
      have kc := cap_slw (α := Int) h5 e5
      simp [encI] at e0 ha hb hcc e4 e5
      subst e0 ha hb hcc e4 e5
      refine ⟨⟨⟨A0, n0, k0⟩, a, b, c, ⟨A4, n4, k4⟩, ⟨A5, n5, k5⟩⟩, rfl, ⟨l0, a, b, c, l4, l5⟩, ⟨rfl, rfl, rfl, s0, s4, s5, kc⟩, ⟨?_, ?_, ?_⟩, ⟨wa, wb, wc⟩, g0, g4⟩
      · simp only [s0.len]; omega
      · simp only [s4.len]; omega
      · simp only [s5.len]; omega

structure KSystem.good (s : KSystem) : Prop where
  small : s.small
  heap : s.Heap.good
  caches : ∀ c ∈ s.Caches, c.good

theorem elw_system : ∀ fuel cs x, DataW.trod enc Tryd.prog W base spare held fuel 38 cs = some x → (∀ y ∈ x.1.weights Tryd.prog 38, y ≤ reachBytes) → ∃ r : SRow, cs = encSys r ∧ ∃ s : KSystem, RdS W r s ∧ s.good := by
  intro fuel cs x h hw
  obtain ⟨xs, n, _, rfl, hlen, hxl, hf⟩ := DataW.trod_struct Tryd.underlying38 h
  have hc : Tryd.prog.cellsOf 38 = 7 := by kernel_rfl
  have hi0 : Tryd.prog.cellsOf 23 = 1 := by kernel_rfl
  have hi1 : Tryd.prog.cellsOf 35 = 5 := by kernel_rfl
  have hi2 : Tryd.prog.cellsOf 36 = 1 := by kernel_rfl
  rw [hc] at hlen
  match cs, hlen with
  | [c0, c1, c2, c3, c4, c5, c6], _ =>
    match xs, hxl with
    | [y0, y1, y2], _ =>
      have h0 : DataW.trod enc Tryd.prog W base spare held n 23 (List.take (Tryd.prog.cellsOf 23) (List.drop 0 [c0, c1, c2, c3, c4, c5, c6])) = some y0 := hf 0 _ rfl
      have h1 : DataW.trod enc Tryd.prog W base spare held n 35 (List.take (Tryd.prog.cellsOf 35) (List.drop 1 [c0, c1, c2, c3, c4, c5, c6])) = some y1 := hf 1 _ rfl
      have h2 : DataW.trod enc Tryd.prog W base spare held n 36 (List.take (Tryd.prog.cellsOf 36) (List.drop 6 [c0, c1, c2, c3, c4, c5, c6])) = some y2 := hf 2 _ rfl
      rw [hi0] at h0
      rw [hi1] at h1
      rw [hi2] at h2
      have w0 := bd_field Tryd.underlying38 (j := 0) rfl rfl hw
      have w1 := bd_field Tryd.underlying38 (j := 1) rfl rfl hw
      have w2 := bd_field Tryd.underlying38 (j := 2) rfl rfl hw
      obtain ⟨A0, n0, k0, l0, e0, s0, b0, _⟩ := open_slw (t := 23) (b := 8) (by kernel_rfl) (by kernel_rfl) (elw_int Tryd.underlying3) h0 w0
      obtain ⟨hr, e1, hh, hR, hG⟩ := elw_heap _ _ _ h1 w1
      obtain ⟨A2, n2, k2, l2, e2, s2, b2, g2⟩ := open_slw (t := 36) (b := 96) (by kernel_rfl) (by kernel_rfl) elw_cache h2 w2
      obtain ⟨C, hC⟩ := all2_of l2 g2
      have kc := cap_slw (α := CRow) h2 e2
      simp [encH] at e0 e1 e2
      obtain ⟨e11, e12, e13, e14, e15⟩ := e1
      subst e0 e11 e12 e13 e14 e15 e2
      refine ⟨⟨⟨A0, n0, k0⟩, hr, ⟨A2, n2, k2⟩⟩, rfl, ⟨l0, hh, C⟩, ⟨s0, hR, ⟨l2, s2, hC.mono fun _ _ h => h.1, kc⟩⟩, ⟨?_, hG.small, ?_, ?_⟩, hG, ?_⟩
      · simp only [s0.len]; omega
      · simp only [← hC.len, s2.len]; omega
      · intro z hz
        obtain ⟨i, hi, rfl⟩ := List.getElem_of_mem hz
        exact (hC.get i (by have := hC.len; simp only at hi; omega) hi).2.small
      · intro z hz
        obtain ⟨i, hi, rfl⟩ := List.getElem_of_mem hz
        exact (hC.get i (by have := hC.len; simp only at hi; omega) hi).2

theorem open_system {r : Reach} {b0 : Nat} {v : Value} {d : DataW H} {p : List MemPlace} (hv : Value.okWide Tryd.prog W r b0 38 v) (h : DataW.Trod enc Tryd.prog W base spare held 38 v d p) (hw : ∀ y ∈ d.weights Tryd.prog 38, y ≤ reachBytes) :
    ∃ (r : SRow) (s : KSystem), v = .agg (encSys r).toArray ∧ RdS W r s ∧ s.good := by
  obtain ⟨cs, rfl, hsz⟩ := okWide_struct Tryd.underlying38 hv
  obtain ⟨fuel, hf⟩ := h
  obtain ⟨r, hr, hh, h1, h2⟩ := elw_system _ _ _ hf hw
  refine ⟨r, hh, ?_, h1, h2⟩
  have : cs.toList = encSys r := hr
  rw [← this]
theorem open_str {r : Reach} {b0 : Nat} {v : Value} {d : DataW H} {p : List MemPlace} (hv : Value.okWide Tryd.prog W r b0 9 v) (h : DataW.Trod enc Tryd.prog W base spare held 9 v d p) (hw : ∀ y ∈ d.weights Tryd.prog 9, y ≤ reachBytes) :
    ∃ s : ByteArray, v = .string s ∧ s.size ≤ 140737488351232 := by
  obtain ⟨s, rfl⟩ := okWide_string Tryd.underlying9 hv
  obtain ⟨fuel, hf⟩ := h
  obtain ⟨s', hs, hz⟩ := elw_str _ _ _ hf hw
  simp [Value.cells, encStr] at hs
  subst hs
  exact ⟨_, rfl, hz⟩
end
end Go.Proofs.YtfommgdbahemfaaDoor

/-
  Contracts: the law SlabChecks.
-/
set_option linter.unusedVariables false
namespace Go.Proofs.YtfommgdbahemfaaDoor
open Go.RowKit

theorem KSystem.good.fine {s : KSystem} (h : s.good) : s.fine :=
  ⟨h.small, fun z hz => ⟨(h.heap.zones z hz).1, (h.heap.zones z hz).2.1⟩, fun c hc x hx => (h.caches c hc).slabs x hx, fun c hc n hn => (h.caches c hc).names n hn⟩

end Go.Proofs.YtfommgdbahemfaaDoor

/-
  Contracts: slices.Index, Contains, BinarySearch on strings; named, cacheOf.
-/
set_option linter.unusedVariables false
namespace Go.Proofs.YtfommgdbahemfaaDoor
open Go.RowKit

theorem IndexString_ans (A : Option Addr) (n c : Nat) (l : List ByteArray) (x : ByteArray) (w : World) (hl : Sl w 1 encStr A n l) (hn : n ≤ 9223372036854775807) :
    Ans Tryd.prog 112 [.slice A n c, .string x] w fun v _ => ∃ i : Int, v = .int .i64 i ∧ decide (0 ≤ i) = hasS l x := by
  refine ans_of Tryd.func112 rfl Tryd.ntmps112 rfl ?_
  have hw := Ext.refl w
  have hA := hl.base
  have hll := hl.len
  repeat' (first | (show CW _ _ _ _ _ _; first | refine CW.seq ?_ | refine CW.region ?_ | refine CW.block ?_) | (show Post _ _ _ _ _; refine Post.seq ?_) | refine SW.nil ?_ | refine SW.pure rfl rfl ?_ | (show SW _ _ _ _ (⟨_, Op.call ⟨.builtin .len, _, _⟩, _, _, _, none⟩ :: _) _ _; refine SW.st (st_len rfl) rfl ?_))
  refine CW.loop (fun k : Nat => [(0, .slice A n c), (1, .string x), (7, .int .i64 (n : Int)), (8, .int .i64 (k : Int))]) (fun k w' => k ≤ n ∧ Ext w w' ∧ ∀ (i : Nat) (h : i < l.length), i < k → l[i] ≠ x)
    (fun k => n - k) 0 ⟨rfl, rfl, rfl, rfl, trivial⟩ ⟨by omega, hw, fun i h hi => by omega⟩ ?_
  clear hw
  rintro k w' ⟨hk, hw, hI⟩
  by_cases hkn : k < n
  · by_cases hx : x = l[k]
    · repeat' (first | (show CW _ _ _ _ _ _; first | refine CW.seq ?_ | refine CW.region ?_ | refine CW.block ?_ | refine CW.condtr rfl (by with_reducible rfl) ?_ | refine CW.condd_t rfl (by omega) ?_ | refine CW.skip ?_ | refine CW.ret ?_) | (show Post _ _ _ _ _; first | refine Post.seq ?_ | refine Post.seq_ret ?_ | refine Post.blk_ret ?_ | refine Post.again_ret ?_) | refine SW.nil ?_ | refine SW.pure rfl rfl ?_ | (show SW _ _ _ _ (⟨_, Op.indexAddr _ _ _, _, _, _, none⟩ :: _) _ _; refine SW.st (st_indexN rfl rfl (by assumption) (by omega)) rfl ?_) | (show SW _ _ _ _ (⟨_, Op.load _ _, _, _, _, none⟩ :: _) _ _; refine SW.st (st_loadx hw rfl (hl.one hkn rfl)) rfl ?_) | (refine SW.st ((st_eqStr rfl rfl).eq (congrArg Value.bool (decide_eq_true hx))) rfl ?_))
      refine Post.ret1 rfl rfl ⟨_, rfl, hw, _, rfl, ?_⟩
      rw [hasS_iff.2 (hx ▸ List.getElem_mem (hl.lt hkn))]
      simp
    · repeat' (first | (show CW _ _ _ _ _ _; first | refine CW.seq ?_ | refine CW.region ?_ | refine CW.block ?_ | refine CW.condfr rfl (by with_reducible rfl) ?_ | refine CW.condd_t rfl (by omega) ?_ | refine CW.skip ?_) | (show Post _ _ _ _ _; first | refine Post.seq ?_ | refine Post.blk ?_) | refine SW.nil ?_ | refine SW.pure rfl rfl ?_ | (show SW _ _ _ _ (⟨_, Op.binOp _ _ _ _ _, _, _, _, none⟩ :: _) _ _; refine SW.st (st_add rfl rfl (by omega) (by omega)) rfl ?_) | (show SW _ _ _ _ (⟨_, Op.indexAddr _ _ _, _, _, _, none⟩ :: _) _ _; refine SW.st (st_indexN rfl rfl (by assumption) (by omega)) rfl ?_) | (show SW _ _ _ _ (⟨_, Op.load _ _, _, _, _, none⟩ :: _) _ _; refine SW.st (st_loadx hw rfl (hl.one hkn rfl)) rfl ?_) | (refine SW.st ((st_eqStr rfl rfl).eq (congrArg Value.bool (decide_eq_false hx))) rfl ?_))
      refine Post.again (k + 1) ⟨rfl, rfl, rfl, rfl, trivial⟩ (by omega) ⟨by omega, hw, fun i h' hi => ?_⟩
      by_cases hik : i = k
      · subst hik
        exact fun e => hx e.symm
      · exact hI i h' (by omega)
  · repeat' (first | (show CW _ _ _ _ _ _; first | refine CW.seq ?_ | refine CW.region ?_ | refine CW.condd_f rfl (by omega) ?_ | refine CW.ret ?_ | refine CW.exit ?_) | (show Post _ _ _ _ _; first | refine Post.seq ?_ | refine Post.seq_exit ?_ | refine Post.hit ?_ | refine Post.again_exit ?_) | refine SW.nil ?_ | refine SW.pure rfl rfl ?_)
    refine Post.ret1 rfl rfl ⟨_, rfl, hw, _, rfl, ?_⟩
    have hx : hasS l x = false := by
      cases e : hasS l x
      · rfl
      · obtain ⟨i, hi, e⟩ := List.getElem_of_mem (hasS_iff.1 e)
        exact absurd e (hI i hi (by omega))
    rw [hx]
    simp

theorem ContainsString_ans (A : Option Addr) (n c : Nat) (l : List ByteArray) (x : ByteArray) (w : World) (hl : Sl w 1 encStr A n l) (hn : n ≤ 9223372036854775807) :
    Ans Tryd.prog 74 [.slice A n c, .string x] w fun v _ => v = .bool (hasS l x) := by
  refine ans_of Tryd.func74 rfl Tryd.ntmps74 rfl ?_
  have hw := Ext.refl w
  repeat' (first | (show CW _ _ _ _ _ _; first | refine CW.seq ?_ | refine CW.region ?_) | (show Post _ _ _ _ _; refine Post.seq ?_) | refine SW.nil ?_ | refine SW.pure rfl rfl ?_)
  refine SW.call rfl rfl (IndexString_ans _ _ _ _ _ _ (hl.ext hw) hn) fun v w1 hw1 hv => ?_
  obtain ⟨i, rfl, hi⟩ := hv
  replace hw := Ext.trans hw hw1
  repeat' (first | (show CW _ _ _ _ _ _; refine CW.ret ?_) | (show Post _ _ _ _ _; refine Post.seq ?_) | refine SW.nil ?_ | refine SW.pure rfl rfl ?_)
  exact Post.ret1 rfl rfl ⟨_, rfl, hw, by rw [hi]⟩
theorem idxOf_congr {α β : Type} {p : α → Bool} {q : β → Bool} {l : List α} {m : List β} (hl : l.length = m.length) (h : ∀ (k : Nat) (h1 : k < l.length) (h2 : k < m.length), p l[k] = q m[k]) : idxOf p l = idxOf q m ∧ l.any p = m.any q := by
  have e : l.map p = m.map q := List.ext_getElem (by simp [hl]) fun k h1 h2 => by simpa using h k (by simpa using h1) (by simpa using h2)
  have a1 : l.any p = m.any q := by
    have x1 : (l.map p).any id = l.any p := by rw [List.any_map]; rfl
    have x2 : (m.map q).any id = m.any q := by rw [List.any_map]; rfl
    rw [← x1, ← x2, e]
  have a2 : l.findIdx p = m.findIdx q := by
    have x1 : (l.map p).findIdx id = l.findIdx p := by rw [List.findIdx_map]; rfl
    have x2 : (m.map q).findIdx id = m.findIdx q := by rw [List.findIdx_map]; rfl
    rw [← x1, ← x2, e]
  unfold idxOf
  rw [a1, a2]
  exact ⟨rfl, rfl⟩
theorem SlStr_uniq {w : World} {A : Option Addr} {n : Nat} {l l' : List ByteArray} (h : Sl w 1 encStr A n l) (h' : Sl w 1 encStr A n l') : l = l' := by
  have e1 := h.len
  have e2 := h'.len
  refine List.ext_getElem (by omega) fun k h1 h2 => ?_
  have a := h.one (i := k) (by omega) (u := .string l[k]) rfl
  have b := h'.one (i := k) (by omega) (u := .string l'[k]) rfl
  rw [a] at b
  simpa using b
theorem namedP_ex (w : World) (n : ByteArray) : ∃ p : CRow → Bool, ∀ x c, RdC w x c → p x = hasN n c := by
  classical
  refine ⟨fun x => decide (∃ c, RdC w x c ∧ hasN n c = true), fun x c h => ?_⟩
  cases e : hasN n c
  · refine decide_eq_false ?_
    rintro ⟨c', h', e'⟩
    unfold hasN at e e'
    rw [SlStr_uniq h'.names h.names, e] at e'
    cases e'
  · exact decide_eq_true ⟨c, h, e⟩













theorem cacheOf_ans (r : SRow) (s : KSystem) (n : ByteArray) (w : World) (hr : RdS w r s) (hs : s.small) :
    Ans Tryd.prog 83 [.agg (encSys r).toArray, .string n] w fun v _ => v = .int .i64 (idxOf (hasN n) s.Caches) := by
  refine ans_of Tryd.func83 rfl Tryd.ntmps83 rfl ?_
  refine CW.seq (CW.region (SW.box rfl rfl fun b2 w1 hw hb2b hb2 => ?_))
  obtain ⟨cs, hc⟩ := hr.caches
  obtain ⟨z1, z2⟩ := hc.len
  have m3 := hs.caches
  repeat' (first | (show CW _ _ _ _ _ _; first | refine CW.seq ?_ | refine CW.region ?_ | refine CW.block ?_ | refine CW.condtr rfl (by with_reducible rfl) ?_ | refine CW.condfr rfl (by with_reducible rfl) ?_ | refine CW.condd_t rfl (by omega) ?_ | refine CW.condd_f rfl (by omega) ?_ | refine CW.condn_t rfl (by omega) ?_ | refine CW.condn_f rfl (by omega) ?_ | refine CW.condd rfl (fun h => ?_) (fun h => ?_) | refine CW.condn rfl (fun h => ?_) (fun h => ?_) | refine CW.condt rfl ?_ | refine CW.condf rfl ?_ | refine CW.cond rfl (fun h => ?_) (fun h => ?_) | refine CW.skip ?_ | refine CW.ret ?_ | refine CW.exit ?_) | (show Post _ _ _ _ _; first | refine Post.seq ?_ | refine Post.seq_ret ?_ | refine Post.seq_exit ?_ | refine Post.hit ?_ | refine Post.pass rfl ?_ | refine Post.blk ?_ | refine Post.blk_ret ?_ | refine Post.again_exit ?_ | refine Post.again_ret ?_ | refine Post.np ?_) | refine SW.nil ?_ | (show SW _ _ _ _ (⟨_, _, _, _, _, some _⟩ :: _) _ _; first | refine SW.want_t rfl rfl (by with_reducible rfl) ?_ | refine SW.want_f rfl rfl (by with_reducible rfl) ?_ | refine SW.skip_t rfl rfl (by with_reducible rfl) rfl ?_ | refine SW.skip_f rfl rfl (by with_reducible rfl) rfl ?_ | refine SW.skip_u rfl rfl (by with_reducible rfl) rfl ?_ | refine SW.splitd_t rfl rfl rfl (by omega) ?_ | refine SW.splitd_f rfl rfl rfl (by omega) ?_ | refine SW.splitn_t rfl rfl rfl (by omega) ?_ | refine SW.splitn_f rfl rfl rfl (by omega) ?_ | refine SW.splitd rfl rfl rfl (fun h => ?_) (fun h => ?_) | refine SW.splitn rfl rfl rfl (fun h => ?_) (fun h => ?_) | refine SW.want rfl rfl ?_ | refine SW.skip rfl rfl rfl rfl ?_ | refine SW.skipu rfl rfl rfl ?_ | refine SW.split rfl rfl rfl (fun h => ?_) (fun h => ?_)) | refine SW.pure rfl rfl ?_ | (show SW _ _ _ _ (⟨_, Op.fieldAddr _ _ _, _, _, _, none⟩ :: _) _ _; refine SW.st (st_field rfl) rfl ?_) | (show SW _ _ _ _ (⟨_, Op.nilCheck _, _, _, _, none⟩ :: _) _ _; refine SW.st (st_nilCheck rfl) rfl ?_) | (show SW _ _ _ _ (⟨_, Op.build _ _, _, _, _, none⟩ :: _) _ _; refine SW.st (st_build rfl rfl) rfl ?_) | (show SW _ _ _ _ (⟨_, Op.binOp _ _ _ _ _, _, _, _, none⟩ :: _) _ _; first | refine SW.st (st_add rfl rfl (by omega) (by omega)) rfl ?_ | refine SW.st (st_sub rfl rfl (by omega) (by omega)) rfl ?_ | refine SW.st (st_mul rfl rfl (by omega) (by omega)) rfl ?_ | refine SW.st (st_quo rfl rfl (by omega) (by omega) (by omega)) rfl ?_ | refine SW.st (st_rem rfl rfl (by omega)) rfl ?_) | (show SW _ _ _ _ (⟨_, Op.indexAddr _ _ _, _, _, _, none⟩ :: _) _ _; refine SW.st (st_indexN rfl rfl (by assumption) (by omega)) rfl ?_) | (show SW _ _ _ _ (⟨_, Op.call ⟨.builtin .len, _, _⟩, _, _, _, none⟩ :: _) _ _; refine SW.st (st_len rfl) rfl ?_) | (show SW _ _ _ _ (⟨_, Op.call ⟨.builtin .cap, _, _⟩, _, _, _, none⟩ :: _) _ _; refine SW.st (st_cap rfl) rfl ?_))
  refine CW.loop (fun k : Nat => [(1, .string n), (2, .pointer (some ⟨b2, 0, none⟩)), (5, .int .i64 (k : Int))])
    (fun k w' => k ≤ r.Caches.n ∧ Ext w w' ∧ Blk w' b2 38 (encSys r) ∧ ∀ (j : Nat) (hj : j < s.Caches.length), j < k → hasN n s.Caches[j] = false) (fun k => r.Caches.n - k) 0
    ⟨rfl, rfl, rfl, trivial⟩ ⟨by omega, hw, hb2, fun j hj h => by omega⟩ ?_
  clear hw hb2
  rintro i w' ⟨hk, hw, hb2, hI⟩
  have hA := hc.row.base
  by_cases hin : i < r.Caches.n
  · have hic : i < cs.length := by omega
    have hil : i < s.Caches.length := by omega
    have hck := hc.each.get i hic hil
    have sm := (hs.each _ (List.getElem_mem hil)).names
    have q1 := hck.names.len
    have g0 := hc.row.fld hin (j := 0) (u := .slice cs[i].Names.A cs[i].Names.n cs[i].Names.c) rfl
    repeat' (first | (show CW _ _ _ _ _ _; first | refine CW.seq ?_ | refine CW.region ?_ | refine CW.block ?_ | refine CW.condtr rfl (by with_reducible rfl) ?_ | refine CW.condfr rfl (by with_reducible rfl) ?_ | refine CW.condd_t rfl (by omega) ?_ | refine CW.condd_f rfl (by omega) ?_ | refine CW.condn_t rfl (by omega) ?_ | refine CW.condn_f rfl (by omega) ?_ | refine CW.condd rfl (fun h => ?_) (fun h => ?_) | refine CW.condn rfl (fun h => ?_) (fun h => ?_) | refine CW.condt rfl ?_ | refine CW.condf rfl ?_ | refine CW.cond rfl (fun h => ?_) (fun h => ?_) | refine CW.skip ?_ | refine CW.ret ?_ | refine CW.exit ?_) | (show Post _ _ _ _ _; first | refine Post.seq ?_ | refine Post.seq_ret ?_ | refine Post.seq_exit ?_ | refine Post.hit ?_ | refine Post.pass rfl ?_ | refine Post.blk ?_ | refine Post.blk_ret ?_ | refine Post.again_exit ?_ | refine Post.again_ret ?_ | refine Post.np ?_) | refine SW.nil ?_ | (show SW _ _ _ _ (⟨_, _, _, _, _, some _⟩ :: _) _ _; first | refine SW.want_t rfl rfl (by with_reducible rfl) ?_ | refine SW.want_f rfl rfl (by with_reducible rfl) ?_ | refine SW.skip_t rfl rfl (by with_reducible rfl) rfl ?_ | refine SW.skip_f rfl rfl (by with_reducible rfl) rfl ?_ | refine SW.skip_u rfl rfl (by with_reducible rfl) rfl ?_ | refine SW.splitd_t rfl rfl rfl (by omega) ?_ | refine SW.splitd_f rfl rfl rfl (by omega) ?_ | refine SW.splitn_t rfl rfl rfl (by omega) ?_ | refine SW.splitn_f rfl rfl rfl (by omega) ?_ | refine SW.splitd rfl rfl rfl (fun h => ?_) (fun h => ?_) | refine SW.splitn rfl rfl rfl (fun h => ?_) (fun h => ?_) | refine SW.want rfl rfl ?_ | refine SW.skip rfl rfl rfl rfl ?_ | refine SW.skipu rfl rfl rfl ?_ | refine SW.split rfl rfl rfl (fun h => ?_) (fun h => ?_)) | refine SW.pure rfl rfl ?_ | (show SW _ _ _ _ (⟨_, Op.fieldAddr _ _ _, _, _, _, none⟩ :: _) _ _; refine SW.st (st_field rfl) rfl ?_) | (show SW _ _ _ _ (⟨_, Op.nilCheck _, _, _, _, none⟩ :: _) _ _; refine SW.st (st_nilCheck rfl) rfl ?_) | (show SW _ _ _ _ (⟨_, Op.build _ _, _, _, _, none⟩ :: _) _ _; refine SW.st (st_build rfl rfl) rfl ?_) | (show SW _ _ _ _ (⟨_, Op.binOp _ _ _ _ _, _, _, _, none⟩ :: _) _ _; first | refine SW.st (st_add rfl rfl (by omega) (by omega)) rfl ?_ | refine SW.st (st_sub rfl rfl (by omega) (by omega)) rfl ?_ | refine SW.st (st_mul rfl rfl (by omega) (by omega)) rfl ?_ | refine SW.st (st_quo rfl rfl (by omega) (by omega) (by omega)) rfl ?_ | refine SW.st (st_rem rfl rfl (by omega)) rfl ?_) | (show SW _ _ _ _ (⟨_, Op.indexAddr _ _ _, _, _, _, none⟩ :: _) _ _; refine SW.st (st_indexN rfl rfl (by assumption) (by omega)) rfl ?_) | (show SW _ _ _ _ (⟨_, Op.call ⟨.builtin .len, _, _⟩, _, _, _, none⟩ :: _) _ _; refine SW.st (st_len rfl) rfl ?_) | (show SW _ _ _ _ (⟨_, Op.call ⟨.builtin .cap, _, _⟩, _, _, _, none⟩ :: _) _ _; refine SW.st (st_cap rfl) rfl ?_) | (show SW _ _ _ _ (⟨_, Op.load _ _, _, _, _, none⟩ :: _) _ _; first | refine SW.st (st_load rfl (hb2.cell (i := 6) (v := .slice r.Caches.A r.Caches.n r.Caches.c) rfl)) rfl ?_ | refine SW.st (st_loadx hw rfl (hb2.cell (i := 6) (v := .slice r.Caches.A r.Caches.n r.Caches.c) rfl)) rfl ?_))
    refine CW.loop (fun k : Nat => [(1, .string n), (2, .pointer (some ⟨b2, 0, none⟩)), (5, .int .i64 (i : Int)), (6, .int .i64 (k : Int))])
      (fun k w' => k ≤ cs[i].Names.n ∧ Ext w w' ∧ Blk w' b2 38 (encSys r) ∧ ∀ (j : Nat) (hj : j < s.Caches[i].Names.length), j < k → s.Caches[i].Names[j] ≠ n) (fun k => cs[i].Names.n - k) 0
      ⟨rfl, rfl, rfl, rfl, trivial⟩ ⟨by omega, hw, hb2, fun j hj h => by omega⟩ ?_
    clear hw hb2
    rintro k w' ⟨hk, hw, hb2, hJ⟩
    have hA1 := hck.names.base
    by_cases hkn : k < cs[i].Names.n
    · have hkl : k < s.Caches[i].Names.length := by omega
      by_cases he : s.Caches[i].Names[k] = n
      · have hh : hasN n s.Caches[i] = true := hasS_iff.2 (he ▸ List.getElem_mem hkl)
        repeat' (first | (show CW _ _ _ _ _ _; first | refine CW.seq ?_ | refine CW.region ?_ | refine CW.block ?_ | refine CW.condtr rfl (by with_reducible rfl) ?_ | refine CW.condfr rfl (by with_reducible rfl) ?_ | refine CW.condd_t rfl (by omega) ?_ | refine CW.condd_f rfl (by omega) ?_ | refine CW.condn_t rfl (by omega) ?_ | refine CW.condn_f rfl (by omega) ?_ | refine CW.condd rfl (fun h => ?_) (fun h => ?_) | refine CW.condn rfl (fun h => ?_) (fun h => ?_) | refine CW.condt rfl ?_ | refine CW.condf rfl ?_ | refine CW.cond rfl (fun h => ?_) (fun h => ?_) | refine CW.skip ?_ | refine CW.ret ?_ | refine CW.exit ?_) | (show Post _ _ _ _ _; first | refine Post.seq ?_ | refine Post.seq_ret ?_ | refine Post.seq_exit ?_ | refine Post.hit ?_ | refine Post.pass rfl ?_ | refine Post.blk ?_ | refine Post.blk_ret ?_ | refine Post.again_exit ?_ | refine Post.again_ret ?_ | refine Post.np ?_) | refine SW.nil ?_ | (show SW _ _ _ _ (⟨_, _, _, _, _, some _⟩ :: _) _ _; first | refine SW.want_t rfl rfl (by with_reducible rfl) ?_ | refine SW.want_f rfl rfl (by with_reducible rfl) ?_ | refine SW.skip_t rfl rfl (by with_reducible rfl) rfl ?_ | refine SW.skip_f rfl rfl (by with_reducible rfl) rfl ?_ | refine SW.skip_u rfl rfl (by with_reducible rfl) rfl ?_ | refine SW.splitd_t rfl rfl rfl (by omega) ?_ | refine SW.splitd_f rfl rfl rfl (by omega) ?_ | refine SW.splitn_t rfl rfl rfl (by omega) ?_ | refine SW.splitn_f rfl rfl rfl (by omega) ?_ | refine SW.splitd rfl rfl rfl (fun h => ?_) (fun h => ?_) | refine SW.splitn rfl rfl rfl (fun h => ?_) (fun h => ?_) | refine SW.want rfl rfl ?_ | refine SW.skip rfl rfl rfl rfl ?_ | refine SW.skipu rfl rfl rfl ?_ | refine SW.split rfl rfl rfl (fun h => ?_) (fun h => ?_)) | refine SW.pure rfl rfl ?_ | (show SW _ _ _ _ (⟨_, Op.fieldAddr _ _ _, _, _, _, none⟩ :: _) _ _; refine SW.st (st_field rfl) rfl ?_) | (show SW _ _ _ _ (⟨_, Op.nilCheck _, _, _, _, none⟩ :: _) _ _; refine SW.st (st_nilCheck rfl) rfl ?_) | (show SW _ _ _ _ (⟨_, Op.build _ _, _, _, _, none⟩ :: _) _ _; refine SW.st (st_build rfl rfl) rfl ?_) | (show SW _ _ _ _ (⟨_, Op.binOp _ _ _ _ _, _, _, _, none⟩ :: _) _ _; first | refine SW.st (st_add rfl rfl (by omega) (by omega)) rfl ?_ | refine SW.st (st_sub rfl rfl (by omega) (by omega)) rfl ?_ | refine SW.st (st_mul rfl rfl (by omega) (by omega)) rfl ?_ | refine SW.st (st_quo rfl rfl (by omega) (by omega) (by omega)) rfl ?_ | refine SW.st (st_rem rfl rfl (by omega)) rfl ?_) | (show SW _ _ _ _ (⟨_, Op.indexAddr _ _ _, _, _, _, none⟩ :: _) _ _; first | refine SW.st (st_indexN rfl rfl (by assumption) (by omega)) rfl ?_ | refine SW.st (st_indexI (i) rfl rfl (by assumption) (by omega) (by omega)) rfl ?_ | refine SW.st (st_indexI (k) rfl rfl (by assumption) (by omega) (by omega)) rfl ?_) | (show SW _ _ _ _ (⟨_, Op.call ⟨.builtin .len, _, _⟩, _, _, _, none⟩ :: _) _ _; refine SW.st (st_len rfl) rfl ?_) | (show SW _ _ _ _ (⟨_, Op.call ⟨.builtin .cap, _, _⟩, _, _, _, none⟩ :: _) _ _; refine SW.st (st_cap rfl) rfl ?_) | (show SW _ _ _ _ (⟨_, Op.load _ _, _, _, _, none⟩ :: _) _ _; first | refine SW.st (st_load rfl (hb2.cell (i := 6) (v := .slice r.Caches.A r.Caches.n r.Caches.c) rfl)) rfl ?_ | refine SW.st (st_loadx hw rfl (hb2.cell (i := 6) (v := .slice r.Caches.A r.Caches.n r.Caches.c) rfl)) rfl ?_ | refine SW.st (st_load rfl g0) rfl ?_ | refine SW.st (st_loadx hw rfl g0) rfl ?_ | refine SW.st (st_load rfl (hck.names.one hkn rfl)) rfl ?_ | refine SW.st (st_loadx hw rfl (hck.names.one hkn rfl)) rfl ?_) | (refine SW.st ((st_eqStr rfl rfl).eq (congrArg Value.bool (decide_eq_true he))) rfl ?_))
        exact Post.ret1 rfl rfl ⟨_, rfl, hw, by rw [idxOf_hit hil hh hI]⟩
      · repeat' (first | (show CW _ _ _ _ _ _; first | refine CW.seq ?_ | refine CW.region ?_ | refine CW.block ?_ | refine CW.condtr rfl (by with_reducible rfl) ?_ | refine CW.condfr rfl (by with_reducible rfl) ?_ | refine CW.condd_t rfl (by omega) ?_ | refine CW.condd_f rfl (by omega) ?_ | refine CW.condn_t rfl (by omega) ?_ | refine CW.condn_f rfl (by omega) ?_ | refine CW.condd rfl (fun h => ?_) (fun h => ?_) | refine CW.condn rfl (fun h => ?_) (fun h => ?_) | refine CW.condt rfl ?_ | refine CW.condf rfl ?_ | refine CW.cond rfl (fun h => ?_) (fun h => ?_) | refine CW.skip ?_ | refine CW.ret ?_ | refine CW.exit ?_) | (show Post _ _ _ _ _; first | refine Post.seq ?_ | refine Post.seq_ret ?_ | refine Post.seq_exit ?_ | refine Post.hit ?_ | refine Post.pass rfl ?_ | refine Post.blk ?_ | refine Post.blk_ret ?_ | refine Post.again_exit ?_ | refine Post.again_ret ?_ | refine Post.np ?_) | refine SW.nil ?_ | (show SW _ _ _ _ (⟨_, _, _, _, _, some _⟩ :: _) _ _; first | refine SW.want_t rfl rfl (by with_reducible rfl) ?_ | refine SW.want_f rfl rfl (by with_reducible rfl) ?_ | refine SW.skip_t rfl rfl (by with_reducible rfl) rfl ?_ | refine SW.skip_f rfl rfl (by with_reducible rfl) rfl ?_ | refine SW.skip_u rfl rfl (by with_reducible rfl) rfl ?_ | refine SW.splitd_t rfl rfl rfl (by omega) ?_ | refine SW.splitd_f rfl rfl rfl (by omega) ?_ | refine SW.splitn_t rfl rfl rfl (by omega) ?_ | refine SW.splitn_f rfl rfl rfl (by omega) ?_ | refine SW.splitd rfl rfl rfl (fun h => ?_) (fun h => ?_) | refine SW.splitn rfl rfl rfl (fun h => ?_) (fun h => ?_) | refine SW.want rfl rfl ?_ | refine SW.skip rfl rfl rfl rfl ?_ | refine SW.skipu rfl rfl rfl ?_ | refine SW.split rfl rfl rfl (fun h => ?_) (fun h => ?_)) | refine SW.pure rfl rfl ?_ | (show SW _ _ _ _ (⟨_, Op.fieldAddr _ _ _, _, _, _, none⟩ :: _) _ _; refine SW.st (st_field rfl) rfl ?_) | (show SW _ _ _ _ (⟨_, Op.nilCheck _, _, _, _, none⟩ :: _) _ _; refine SW.st (st_nilCheck rfl) rfl ?_) | (show SW _ _ _ _ (⟨_, Op.build _ _, _, _, _, none⟩ :: _) _ _; refine SW.st (st_build rfl rfl) rfl ?_) | (show SW _ _ _ _ (⟨_, Op.binOp _ _ _ _ _, _, _, _, none⟩ :: _) _ _; first | refine SW.st (st_add rfl rfl (by omega) (by omega)) rfl ?_ | refine SW.st (st_sub rfl rfl (by omega) (by omega)) rfl ?_ | refine SW.st (st_mul rfl rfl (by omega) (by omega)) rfl ?_ | refine SW.st (st_quo rfl rfl (by omega) (by omega) (by omega)) rfl ?_ | refine SW.st (st_rem rfl rfl (by omega)) rfl ?_) | (show SW _ _ _ _ (⟨_, Op.indexAddr _ _ _, _, _, _, none⟩ :: _) _ _; first | refine SW.st (st_indexN rfl rfl (by assumption) (by omega)) rfl ?_ | refine SW.st (st_indexI (i) rfl rfl (by assumption) (by omega) (by omega)) rfl ?_ | refine SW.st (st_indexI (k) rfl rfl (by assumption) (by omega) (by omega)) rfl ?_) | (show SW _ _ _ _ (⟨_, Op.call ⟨.builtin .len, _, _⟩, _, _, _, none⟩ :: _) _ _; refine SW.st (st_len rfl) rfl ?_) | (show SW _ _ _ _ (⟨_, Op.call ⟨.builtin .cap, _, _⟩, _, _, _, none⟩ :: _) _ _; refine SW.st (st_cap rfl) rfl ?_) | (show SW _ _ _ _ (⟨_, Op.load _ _, _, _, _, none⟩ :: _) _ _; first | refine SW.st (st_load rfl (hb2.cell (i := 6) (v := .slice r.Caches.A r.Caches.n r.Caches.c) rfl)) rfl ?_ | refine SW.st (st_loadx hw rfl (hb2.cell (i := 6) (v := .slice r.Caches.A r.Caches.n r.Caches.c) rfl)) rfl ?_ | refine SW.st (st_load rfl g0) rfl ?_ | refine SW.st (st_loadx hw rfl g0) rfl ?_ | refine SW.st (st_load rfl (hck.names.one hkn rfl)) rfl ?_ | refine SW.st (st_loadx hw rfl (hck.names.one hkn rfl)) rfl ?_) | (refine SW.st ((st_eqStr rfl rfl).eq (congrArg Value.bool (decide_eq_false he))) rfl ?_))
        exact Post.again (k + 1) ⟨rfl, rfl, rfl, rfl, trivial⟩ (by omega) ⟨by omega, hw, hb2, fun j hj h => by
          by_cases e : j = k
          · subst e; exact he
          · exact hJ j hj (by omega)⟩
    · have hh : hasN n s.Caches[i] = false := by
        cases e : hasN n s.Caches[i]
        · rfl
        · obtain ⟨j, hj, e⟩ := List.getElem_of_mem (hasS_iff.1 e)
          exact absurd e (hJ j hj (by omega))
      repeat' (first | (show CW _ _ _ _ _ _; first | refine CW.seq ?_ | refine CW.region ?_ | refine CW.block ?_ | refine CW.condtr rfl (by with_reducible rfl) ?_ | refine CW.condfr rfl (by with_reducible rfl) ?_ | refine CW.condd_t rfl (by omega) ?_ | refine CW.condd_f rfl (by omega) ?_ | refine CW.condn_t rfl (by omega) ?_ | refine CW.condn_f rfl (by omega) ?_ | refine CW.condd rfl (fun h => ?_) (fun h => ?_) | refine CW.condn rfl (fun h => ?_) (fun h => ?_) | refine CW.condt rfl ?_ | refine CW.condf rfl ?_ | refine CW.cond rfl (fun h => ?_) (fun h => ?_) | refine CW.skip ?_ | refine CW.ret ?_ | refine CW.exit ?_) | (show Post _ _ _ _ _; first | refine Post.seq ?_ | refine Post.seq_ret ?_ | refine Post.seq_exit ?_ | refine Post.hit ?_ | refine Post.pass rfl ?_ | refine Post.blk ?_ | refine Post.blk_ret ?_ | refine Post.again_exit ?_ | refine Post.again_ret ?_ | refine Post.np ?_) | refine SW.nil ?_ | (show SW _ _ _ _ (⟨_, _, _, _, _, some _⟩ :: _) _ _; first | refine SW.want_t rfl rfl (by with_reducible rfl) ?_ | refine SW.want_f rfl rfl (by with_reducible rfl) ?_ | refine SW.skip_t rfl rfl (by with_reducible rfl) rfl ?_ | refine SW.skip_f rfl rfl (by with_reducible rfl) rfl ?_ | refine SW.skip_u rfl rfl (by with_reducible rfl) rfl ?_ | refine SW.splitd_t rfl rfl rfl (by omega) ?_ | refine SW.splitd_f rfl rfl rfl (by omega) ?_ | refine SW.splitn_t rfl rfl rfl (by omega) ?_ | refine SW.splitn_f rfl rfl rfl (by omega) ?_ | refine SW.splitd rfl rfl rfl (fun h => ?_) (fun h => ?_) | refine SW.splitn rfl rfl rfl (fun h => ?_) (fun h => ?_) | refine SW.want rfl rfl ?_ | refine SW.skip rfl rfl rfl rfl ?_ | refine SW.skipu rfl rfl rfl ?_ | refine SW.split rfl rfl rfl (fun h => ?_) (fun h => ?_)) | refine SW.pure rfl rfl ?_ | (show SW _ _ _ _ (⟨_, Op.fieldAddr _ _ _, _, _, _, none⟩ :: _) _ _; refine SW.st (st_field rfl) rfl ?_) | (show SW _ _ _ _ (⟨_, Op.nilCheck _, _, _, _, none⟩ :: _) _ _; refine SW.st (st_nilCheck rfl) rfl ?_) | (show SW _ _ _ _ (⟨_, Op.build _ _, _, _, _, none⟩ :: _) _ _; refine SW.st (st_build rfl rfl) rfl ?_) | (show SW _ _ _ _ (⟨_, Op.binOp _ _ _ _ _, _, _, _, none⟩ :: _) _ _; first | refine SW.st (st_add rfl rfl (by omega) (by omega)) rfl ?_ | refine SW.st (st_sub rfl rfl (by omega) (by omega)) rfl ?_ | refine SW.st (st_mul rfl rfl (by omega) (by omega)) rfl ?_ | refine SW.st (st_quo rfl rfl (by omega) (by omega) (by omega)) rfl ?_ | refine SW.st (st_rem rfl rfl (by omega)) rfl ?_) | (show SW _ _ _ _ (⟨_, Op.indexAddr _ _ _, _, _, _, none⟩ :: _) _ _; first | refine SW.st (st_indexN rfl rfl (by assumption) (by omega)) rfl ?_ | refine SW.st (st_indexI (i) rfl rfl (by assumption) (by omega) (by omega)) rfl ?_ | refine SW.st (st_indexI (k) rfl rfl (by assumption) (by omega) (by omega)) rfl ?_) | (show SW _ _ _ _ (⟨_, Op.call ⟨.builtin .len, _, _⟩, _, _, _, none⟩ :: _) _ _; refine SW.st (st_len rfl) rfl ?_) | (show SW _ _ _ _ (⟨_, Op.call ⟨.builtin .cap, _, _⟩, _, _, _, none⟩ :: _) _ _; refine SW.st (st_cap rfl) rfl ?_) | (show SW _ _ _ _ (⟨_, Op.load _ _, _, _, _, none⟩ :: _) _ _; first | refine SW.st (st_load rfl (hb2.cell (i := 6) (v := .slice r.Caches.A r.Caches.n r.Caches.c) rfl)) rfl ?_ | refine SW.st (st_loadx hw rfl (hb2.cell (i := 6) (v := .slice r.Caches.A r.Caches.n r.Caches.c) rfl)) rfl ?_ | refine SW.st (st_load rfl g0) rfl ?_ | refine SW.st (st_loadx hw rfl g0) rfl ?_))
      exact Post.again (i + 1) ⟨rfl, rfl, rfl, trivial⟩ (by omega) ⟨by omega, hw, hb2, fun j hj h => by
        by_cases e : j = i
        · subst e; exact hh
        · exact hI j hj (by omega)⟩
  · repeat' (first | (show CW _ _ _ _ _ _; first | refine CW.seq ?_ | refine CW.region ?_ | refine CW.block ?_ | refine CW.condtr rfl (by with_reducible rfl) ?_ | refine CW.condfr rfl (by with_reducible rfl) ?_ | refine CW.condd_t rfl (by omega) ?_ | refine CW.condd_f rfl (by omega) ?_ | refine CW.condn_t rfl (by omega) ?_ | refine CW.condn_f rfl (by omega) ?_ | refine CW.condd rfl (fun h => ?_) (fun h => ?_) | refine CW.condn rfl (fun h => ?_) (fun h => ?_) | refine CW.condt rfl ?_ | refine CW.condf rfl ?_ | refine CW.cond rfl (fun h => ?_) (fun h => ?_) | refine CW.skip ?_ | refine CW.ret ?_ | refine CW.exit ?_) | (show Post _ _ _ _ _; first | refine Post.seq ?_ | refine Post.seq_ret ?_ | refine Post.seq_exit ?_ | refine Post.hit ?_ | refine Post.pass rfl ?_ | refine Post.blk ?_ | refine Post.blk_ret ?_ | refine Post.again_exit ?_ | refine Post.again_ret ?_ | refine Post.np ?_) | refine SW.nil ?_ | (show SW _ _ _ _ (⟨_, _, _, _, _, some _⟩ :: _) _ _; first | refine SW.want_t rfl rfl (by with_reducible rfl) ?_ | refine SW.want_f rfl rfl (by with_reducible rfl) ?_ | refine SW.skip_t rfl rfl (by with_reducible rfl) rfl ?_ | refine SW.skip_f rfl rfl (by with_reducible rfl) rfl ?_ | refine SW.skip_u rfl rfl (by with_reducible rfl) rfl ?_ | refine SW.splitd_t rfl rfl rfl (by omega) ?_ | refine SW.splitd_f rfl rfl rfl (by omega) ?_ | refine SW.splitn_t rfl rfl rfl (by omega) ?_ | refine SW.splitn_f rfl rfl rfl (by omega) ?_ | refine SW.splitd rfl rfl rfl (fun h => ?_) (fun h => ?_) | refine SW.splitn rfl rfl rfl (fun h => ?_) (fun h => ?_) | refine SW.want rfl rfl ?_ | refine SW.skip rfl rfl rfl rfl ?_ | refine SW.skipu rfl rfl rfl ?_ | refine SW.split rfl rfl rfl (fun h => ?_) (fun h => ?_)) | refine SW.pure rfl rfl ?_ | (show SW _ _ _ _ (⟨_, Op.fieldAddr _ _ _, _, _, _, none⟩ :: _) _ _; refine SW.st (st_field rfl) rfl ?_) | (show SW _ _ _ _ (⟨_, Op.nilCheck _, _, _, _, none⟩ :: _) _ _; refine SW.st (st_nilCheck rfl) rfl ?_) | (show SW _ _ _ _ (⟨_, Op.build _ _, _, _, _, none⟩ :: _) _ _; refine SW.st (st_build rfl rfl) rfl ?_) | (show SW _ _ _ _ (⟨_, Op.binOp _ _ _ _ _, _, _, _, none⟩ :: _) _ _; first | refine SW.st (st_add rfl rfl (by omega) (by omega)) rfl ?_ | refine SW.st (st_sub rfl rfl (by omega) (by omega)) rfl ?_ | refine SW.st (st_mul rfl rfl (by omega) (by omega)) rfl ?_ | refine SW.st (st_quo rfl rfl (by omega) (by omega) (by omega)) rfl ?_ | refine SW.st (st_rem rfl rfl (by omega)) rfl ?_) | (show SW _ _ _ _ (⟨_, Op.indexAddr _ _ _, _, _, _, none⟩ :: _) _ _; refine SW.st (st_indexN rfl rfl (by assumption) (by omega)) rfl ?_) | (show SW _ _ _ _ (⟨_, Op.call ⟨.builtin .len, _, _⟩, _, _, _, none⟩ :: _) _ _; refine SW.st (st_len rfl) rfl ?_) | (show SW _ _ _ _ (⟨_, Op.call ⟨.builtin .cap, _, _⟩, _, _, _, none⟩ :: _) _ _; refine SW.st (st_cap rfl) rfl ?_) | (show SW _ _ _ _ (⟨_, Op.load _ _, _, _, _, none⟩ :: _) _ _; first | refine SW.st (st_load rfl (hb2.cell (i := 6) (v := .slice r.Caches.A r.Caches.n r.Caches.c) rfl)) rfl ?_ | refine SW.st (st_loadx hw rfl (hb2.cell (i := 6) (v := .slice r.Caches.A r.Caches.n r.Caches.c) rfl)) rfl ?_))
    exact Post.ret1 rfl rfl ⟨_, rfl, hw, by rw [(idxOf_none (fun j hj => hI j hj (by omega))).1]⟩
end Go.Proofs.YtfommgdbahemfaaDoor

/-
  Literals of two elements, for the stepper. No program in sight.
-/
set_option linter.unusedVariables false
namespace Go.Proofs.YtfommgdbahemfaaDoor
open Go.RowKit

theorem setAt_app : ∀ (vs X Y Z : List Value), vs.length = Y.length → setAt (X ++ Y ++ Z) X.length vs = X ++ vs ++ Z
  | [], X, Y, Z, h => by
    have : Y = [] := List.length_eq_zero_iff.1 (by simpa using h.symm)
    subst this; rfl
  | v :: r, X, [], Z, h => by simp at h
  | v :: r, X, y :: Y, Z, h => by
    have e := setAt_app r (X ++ [v]) Y Z (by simpa using h)
    simp only [List.length_append, List.length_singleton] at e
    simp only [setAt]
    have e2 : (X ++ (y :: Y) ++ Z).set X.length v = X ++ [v] ++ Y ++ Z := by
      rw [List.append_assoc, List.set_append_right _ _ (Nat.le_refl _)]
      simp
    rw [e2, e]
    simp
theorem fill_two {sz : Nat} {u v : Value} {cs ds Z : List Value} (hu : u.cells.toList = cs) (hv : v.cells.toList = ds) (hc : cs.length = sz) (hd : ds.length = sz) (hZ : Z.length = 2 * sz) :
    Instr.fill (fun i => some (i * sz, sz)) Z.toArray [(0, u), (1, v)] = some (cs ++ ds).toArray := by
  have h1 : u.cells.size = sz := by rw [← Array.length_toList, hu, hc]
  have h2 : v.cells.size = sz := by rw [← Array.length_toList, hv, hd]
  have eZ : Z = [] ++ Z.take sz ++ Z.drop sz := by simp
  have s1 : setAt Z 0 cs = cs ++ Z.drop sz := by
    have := setAt_app cs [] (Z.take sz) (Z.drop sz) (by simp; omega)
    rw [← eZ] at this
    simpa using this
  have s2 : setAt (cs ++ Z.drop sz) sz ds = cs ++ ds := by
    have := setAt_app ds cs (Z.drop sz) [] (by simp; omega)
    rw [List.append_nil, hc] at this
    simpa using this
  have fold : ∀ (x : Value) (off : Nat) (X : List Value), Array.foldl (fun (cs : Array Value) (p : Value × Nat) => cs.setIfInBounds (off + p.2) p.1) X.toArray x.cells.zipIdx = (setAt X off x.cells.toList).toArray := fun x off X => by
    have := fold_setAt x.cells.toList 0 off X
    rw [Nat.add_zero] at this
    rw [← this, ← Array.foldl_toList]
    simp [Array.toList_zipIdx]
  simp only [Instr.fill]
  rw [if_neg (by simp; omega)]
  have f1 := fold u (0 * sz) Z
  rw [hu, Nat.zero_mul, s1] at f1
  have f2 := fold v (1 * sz) (cs ++ Z.drop sz)
  rw [hv, Nat.one_mul, s2] at f2
  simp only [Nat.zero_mul, Nat.one_mul] at f1 f2 ⊢
  simp only [f1, f2]
  rw [if_neg (by simp; omega)]

/-- '[]T{x, y}' -/
theorem SW.build2 {α : Type} {P : Program} {n : Nat} {ops : Array Oper} {Q : Exit → Act → World → Prop} {rest : List Oper} {L : Env} {w : World} {d : Nat} {T : TypeId} {pos : String} {af : Array Edge} {t e : TypeId} {z : Value} {sz bytes : Nat} {enc : α → List Value}
    [S : SliceTy P t e sz] [E : ElemTy P e z sz bytes] [C : Enc enc sz] {x y : Operand} {u v : Value} (a b : α) (hx : opv L x = some u) (hy : opv L y = some v) (hu : u.cells.toList = enc a) (hv : v.cells.toList = enc b) (hs : Nat.ble sz 1000 = true)
    (hn : Nat.blt d n = true) (h : ∀ g w', Ext w w' → w.heap.size ≤ g → Own w' w.heap.size e sz enc (some ⟨g, 0, none⟩) 2 2 [a, b] → SW P n ops (.eff Q) rest ((d, .slice (some ⟨g, 0, none⟩) 2 2) :: L) w') :
    SW P n ops (.eff Q) (⟨some d, .buildSlice t 2 #[(0, x), (1, y)], T, pos, af, none⟩ :: rest) L w :=
  ⟨fun q hq => by
    obtain ⟨i, hi, hz, hs', hby⟩ := elem_parts P e (z := z) (sz := sz) (bytes := bytes)
    have hle : sz ≤ 1000 := by simpa using hs
    have hp : 0 < sz := E.pos
    simp only [swp]
    refine wpList_buildSlice rfl t e 2 _ rfl (enc a ++ enc b).toArray i z S.und hi hz (by rw [hs']; omega) (by rw [hs']; omega) ?_ ?_
    · have e1 : (Array.map (fun (p : Nat × Operand) => (p.1, q.eval p.2)) #[(0, x), (1, y)]).toList = [(0, u), (1, v)] := by
        simp [hq.eval hx, hq.eval hy]
      have e2 : ∀ X : Array Value, X = X.toList.toArray := fun X => rfl
      rw [e1, e2 (Array.map _ (Array.range _)), hs']
      exact fill_two hu hv (C.len a) (C.len b) (by simp)
    · refine (h w.heap.size _ (Ext.alloc w _) (Nat.le_refl _) ⟨rfl, .inr ⟨by omega, w.heap.size, _, rfl, Nat.le_refl _, Blk.new w e (enc a ++ enc b), Nat.le_refl _, by simp only [maxLen]; omega, by simp [C.len]; omega, ?_⟩⟩).out _ (hq.put hn _)
      simp only [List.flatMap_cons, List.flatMap_nil, List.append_nil]
      exact List.take_of_length_le (by simp [C.len]; omega)⟩
end Go.Proofs.YtfommgdbahemfaaDoor
