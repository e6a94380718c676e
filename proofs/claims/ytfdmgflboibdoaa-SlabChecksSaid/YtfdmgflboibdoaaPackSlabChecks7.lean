/-
  How a system lies in memory: caches, their names and slabs; what is read, what is the call's own.
-/
import Derived.Test.YtfdmgflboibdoaaPackSlabChecks6
import Derived.Test.YtfdmgflboibdoaaPackSlabChecks5
import Derived.Test.YtfdmgflboibdoaaPackSlabChecks2
import Derived.Lib.ConvBytes
import Derived.Laws.Strings
set_option linter.unusedVariables false
namespace Go.Proofs.Ytfdmgflboibdoaa
open Go.RowKit

structure KCache where
  Names : List ByteArray
  Size : Int
  Per : Int
  Order : Int
  Slabs : List Slab
  Active : List Int
structure KSystem where
  Words : List Int
  Heap : Heap
  Caches : List KCache

def encStr (s : ByteArray) : List Value := [.string s]
instance : Enc encStr 1 := ⟨fun _ => rfl, fun r u hu => by simp [encStr] at hu; subst hu; rfl⟩
structure CRow where
  Names : Sli
  Size : Int
  Per : Int
  Order : Int
  Slabs : Sli
  Active : Sli
def encC (r : CRow) : List Value := [r.Names.v, .int .i64 r.Size, .int .i64 r.Per, .int .i64 r.Order, r.Slabs.v, r.Active.v]
instance : Enc encC 6 := ⟨fun _ => rfl, fun r u hu => by simp [encC, Sli.v] at hu; rcases hu with rfl | rfl | rfl | rfl | rfl | rfl <;> rfl⟩
structure SRow where
  Words : Sli
  Heap : HRow
  Caches : Sli
def encSys (r : SRow) : List Value := [r.Words.v, r.Heap.Zones.v, r.Heap.Mins.v, .int .i64 r.Heap.Cpus, r.Heap.Lists.v, r.Heap.Live.v, r.Caches.v]
instance : Enc encSys 7 := ⟨fun _ => rfl, fun r u hu => by simp [encSys, Sli.v] at hu; rcases hu with rfl | rfl | rfl | rfl | rfl | rfl | rfl <;> rfl⟩
def SRow.zero : SRow := ⟨.nil, .zero, .nil⟩
theorem one_c (r : CRow) : ∀ v ∈ encC r, v.oneCell' = true := Enc.one (enc := encC) r
theorem one_s (r : SRow) : ∀ v ∈ encSys r, v.oneCell' = true := Enc.one (enc := encSys) r
/-- the heap within a system's block -/
theorem heapIn {w : World} {b t : Nat} {r : SRow} (h : Blk w b t (encSys r)) : ∀ j v, (encH r.Heap)[j]? = some v → w.cell? ((((⟨b, 0, none⟩ : Addr)).add 1).add j) = some v := fun j v hv => by
  rw [add_add]
  refine h.cell (i := 1 + j) ?_
  match j, hv with
  | 0, hv => exact hv
  | 1, hv => exact hv
  | 2, hv => exact hv
  | 3, hv => exact hv
  | 4, hv => exact hv
  | j + 5, hv => simp [encH] at hv

theorem Own.capLe {α : Type} {w : World} {lo : Nat} {e : TypeId} {sz : Nat} {enc : α → List Value} {A : Option Addr} {n c : Nat} {l : List α} (h : Own w lo e sz enc A n c l) : n ≤ c := by
  rcases h.row with ⟨rfl, rfl⟩ | ⟨_, _, _, _, _, _, h, _⟩
  · exact Nat.le_refl _
  · exact h
structure RdC (w : World) (r : CRow) (c : KCache) : Prop where
  size : r.Size = c.Size
  per : r.Per = c.Per
  order : r.Order = c.Order
  names : Sl w 1 encStr r.Names.A r.Names.n c.Names
  slabs : Sl w 3 encSb r.Slabs.A r.Slabs.n c.Slabs
  active : Sl w 1 encI r.Active.A r.Active.n c.Active
  cap : r.Active.n ≤ r.Active.c
structure OwnC (w : World) (lo : Nat) (r : CRow) (c : KCache) : Prop where
  size : r.Size = c.Size
  per : r.Per = c.Per
  order : r.Order = c.Order
  names : Own w lo 9 1 encStr r.Names.A r.Names.n r.Names.c c.Names
  slabs : Own w lo 98 3 encSb r.Slabs.A r.Slabs.n r.Slabs.c c.Slabs
  active : Own w lo 3 1 encI r.Active.A r.Active.n r.Active.c c.Active
section
variable {w w' : World} {lo lo' t : Nat} {r : CRow} {c : KCache}
theorem RdC.ext (h : RdC w r c) (hx : Ext w w') : RdC w' r c := ⟨h.size, h.per, h.order, h.names.ext hx, h.slabs.ext hx, h.active.ext hx, h.cap⟩
theorem OwnC.ext (h : OwnC w lo r c) (hx : Ext w w') : OwnC w' lo r c := ⟨h.size, h.per, h.order, h.names.ext hx, h.slabs.ext hx, h.active.ext hx⟩
theorem OwnC.low (h : OwnC w lo r c) (hl : lo' ≤ lo) : OwnC w lo' r c := ⟨h.size, h.per, h.order, h.names.low hl, h.slabs.low hl, h.active.low hl⟩
theorem OwnC.rd (h : OwnC w lo r c) : RdC w r c := ⟨h.size, h.per, h.order, h.names.sl, h.slabs.sl, h.active.sl, h.active.capLe⟩
theorem OwnC.grT (h : OwnC w lo r c) (hG : GrT w w' t) (hne : (Nat.beq t 9 || (Nat.beq t 98 || Nat.beq t 3)) = false) : OwnC w' lo r c := by
  simp only [Bool.or_eq_false_iff] at hne
  exact ⟨h.size, h.per, h.order, h.names.grT hG hne.1, h.slabs.grT hG hne.2.1, h.active.grT hG hne.2.2⟩
end
structure RdCs (w : World) (s : Sli) (cs : List CRow) (l : List KCache) : Prop where
  row : Sl w 6 encC s.A s.n cs
  each : All2 (RdC w) cs l
  cap : s.n ≤ s.c
structure OwnCs (w : World) (lo : Nat) (s : Sli) (cs : List CRow) (l : List KCache) : Prop where
  row : Own w lo 94 6 encC s.A s.n s.c cs
  each : All2 (OwnC w lo) cs l
section
variable {w w' : World} {lo lo' t : Nat} {s : Sli} {cs : List CRow} {l : List KCache}
theorem RdCs.ext (h : RdCs w s cs l) (hx : Ext w w') : RdCs w' s cs l := ⟨h.row.ext hx, h.each.mono fun _ _ h => h.ext hx, h.cap⟩
theorem OwnCs.ext (h : OwnCs w lo s cs l) (hx : Ext w w') : OwnCs w' lo s cs l := ⟨h.row.ext hx, h.each.mono fun _ _ h => h.ext hx⟩
theorem OwnCs.low (h : OwnCs w lo s cs l) (hl : lo' ≤ lo) : OwnCs w lo' s cs l := ⟨h.row.low hl, h.each.mono fun _ _ h => h.low hl⟩
theorem OwnCs.rd (h : OwnCs w lo s cs l) : RdCs w s cs l := ⟨h.row.sl, h.each.mono fun _ _ h => h.rd, h.row.capLe⟩
theorem OwnCs.grT (h : OwnCs w lo s cs l) (hG : GrT w w' t) (hne : (Nat.beq t 94 || (Nat.beq t 9 || (Nat.beq t 98 || Nat.beq t 3))) = false) : OwnCs w' lo s cs l := by
  rw [Bool.or_eq_false_iff] at hne
  exact ⟨h.row.grT hG hne.1, h.each.mono fun _ _ h => h.grT hG hne.2⟩
theorem OwnCs.nil (w : World) (lo : Nat) : OwnCs w lo .nil [] [] := ⟨Own.nil_ _ _ _ _ _ _, .nil⟩
theorem RdCs.len (h : RdCs w s cs l) : cs.length = s.n ∧ l.length = s.n := ⟨h.row.len, by rw [← h.each.len, h.row.len]⟩
/-- a change in a block of caches that is not theirs -/
theorem OwnCs.blk {b : Nat} {vs : List Value} (h : OwnCs w lo s cs l) (hB : Blk w b 94 vs) (hg : w.grownBy w' (some b)) (hlt : ∀ k, ownB s.A s.c = some k → k < lo') (hm : lo' ≤ b) : OwnCs w' lo s cs l :=
  ⟨h.row.grown hg (.inr (fun e => by have := hlt _ e; omega)), h.each.mono fun _ _ h => h.grT (hB.gr hg) rfl⟩
end

structure RdS (w : World) (r : SRow) (s : KSystem) : Prop where
  words : Sl w 1 encI r.Words.A r.Words.n s.Words
  heap : RdH w r.Heap s.Heap
  caches : ∃ cs, RdCs w r.Caches cs s.Caches
structure OwnS (w : World) (lo : Nat) (r : SRow) (s : KSystem) : Prop where
  words : Own w lo 3 1 encI r.Words.A r.Words.n r.Words.c s.Words
  heap : OwnH w lo r.Heap s.Heap
  caches : ∃ cs, OwnCs w lo r.Caches cs s.Caches
section
variable {w w' : World} {lo lo' t : Nat} {r : SRow} {s : KSystem}
theorem RdS.ext (h : RdS w r s) (hx : Ext w w') : RdS w' r s := by
  obtain ⟨cs, hc⟩ := h.caches
  exact ⟨h.words.ext hx, h.heap.ext hx, ⟨cs, hc.ext hx⟩⟩
theorem OwnS.ext (h : OwnS w lo r s) (hx : Ext w w') : OwnS w' lo r s := by
  obtain ⟨cs, hc⟩ := h.caches
  exact ⟨h.words.ext hx, h.heap.ext hx, ⟨cs, hc.ext hx⟩⟩
theorem OwnS.low (h : OwnS w lo r s) (hl : lo' ≤ lo) : OwnS w lo' r s := by
  obtain ⟨cs, hc⟩ := h.caches
  exact ⟨h.words.low hl, h.heap.low hl, ⟨cs, hc.low hl⟩⟩
theorem OwnS.rd (h : OwnS w lo r s) : RdS w r s := by
  obtain ⟨cs, hc⟩ := h.caches
  exact ⟨h.words.sl, h.heap.rd, ⟨cs, hc.rd⟩⟩
end

structure KCache.small (c : KCache) : Prop where
  names : c.Names.length * 16 ≤ 140737488355328
  slabs : c.Slabs.length * 24 ≤ 140737488355328
  active : c.Active.length * 8 ≤ 140737488355328
structure KSystem.small (s : KSystem) : Prop where
  words : s.Words.length * 8 ≤ 140737488355328
  heap : s.Heap.small
  caches : s.Caches.length * 96 ≤ 140737488355328
  each : ∀ c ∈ s.Caches, c.small
end Go.Proofs.Ytfdmgflboibdoaa

/-
  How an argument that is a system is opened to what the contracts ask.
-/
set_option linter.unusedVariables false
set_option maxRecDepth 100000
namespace Go.Proofs.Ytfdmgflboibdoaa
open Go.ChangeShapes Go.WideShapes Go.ChangeAt Go.RowKit Go.Deep Go.Joins

section
variable {H : Type} {enc : TypeId × Value → H} {W : World} {base : Nat} {spare : Nat → Bool} {held : Bool} {fuel : Nat} {cs : List Value} {x : DataW H × List MemPlace}

theorem cap_slw {α : Type} {t e sz : Nat} [S : SliceTy Try.prog t e sz] {x : DataW H × List MemPlace} {A : Option Addr} {n c : Nat} (h : DataW.trod enc Try.prog W base spare held fuel t cs = some x) (hcs : cs = [.slice A n c]) : n ≤ c := by
  rcases open_slice S.und h with ⟨h1, h2⟩ | ⟨a, len, cap, m, k, D, Pl, h1, hb, hl, hm, hmm, hx, hi⟩
  · rw [hcs] at h1
    simp at h1
    omega
  · rw [hcs] at h1
    simp at h1
    omega

theorem elw_str : ∀ fuel cs x, DataW.trod enc Try.prog W base spare held fuel 9 cs = some x → (∀ y ∈ x.1.weights Try.prog 9, y ≤ reachBytes) → ∃ s : ByteArray, cs = encStr s ∧ s.size ≤ 140737488351232 := by
  intro fuel cs x h hw
  obtain ⟨s, rfl, rfl, _⟩ := DataW.trod_string Try.underlying9 h
  refine ⟨s, rfl, ?_⟩
  have := hw s.data.toList.length (by simp [DataW.weights])
  simp only [reachBytes] at this
  simpa using this

theorem elw_slab : ∀ fuel cs x, DataW.trod enc Try.prog W base spare held fuel 98 cs = some x → (∀ y ∈ x.1.weights Try.prog 98, y ≤ reachBytes) → ∃ r : Slab, cs = encSb r ∧ in64 r.At := by
  intro fuel cs x h _
  obtain ⟨xs, n, _, _, hlen, hxl, hf⟩ := DataW.trod_struct Try.underlying98 h
  have hc : Try.prog.cellsOf 98 = 3 := by kernel_rfl
  have hi : Try.prog.cellsOf 3 = 1 := by kernel_rfl
  rw [hc] at hlen
  match cs, hlen with
  | [c0, c1, c2], _ =>
    match xs, hxl with
    | [y0, y1, y2], _ =>
      have h0 : DataW.trod enc Try.prog W base spare held n 3 (List.take (Try.prog.cellsOf 3) (List.drop 0 [c0, c1, c2])) = some y0 := hf 0 _ rfl
      have h1 : DataW.trod enc Try.prog W base spare held n 3 (List.take (Try.prog.cellsOf 3) (List.drop 1 [c0, c1, c2])) = some y1 := hf 1 _ rfl
      have h2 : DataW.trod enc Try.prog W base spare held n 3 (List.take (Try.prog.cellsOf 3) (List.drop 2 [c0, c1, c2])) = some y2 := hf 2 _ rfl
      rw [hi] at h0 h1 h2
      obtain ⟨a, ha, wa⟩ := el_int Try.underlying3 h0
      obtain ⟨b, hb, wb⟩ := el_int Try.underlying3 h1
      obtain ⟨c, hcc, wc⟩ := el_int Try.underlying3 h2
      simp [encI] at ha hb hcc
      subst ha hb hcc
      exact ⟨⟨a, b, c⟩, rfl, wa⟩

structure KCache.good (c : KCache) : Prop where
  small : c.small
  size : in64 c.Size ∧ in64 c.Per ∧ in64 c.Order
  names : ∀ s ∈ c.Names, s.size ≤ 140737488351232
  slabs : ∀ x ∈ c.Slabs, in64 x.At

theorem elw_cache : ∀ fuel cs x, DataW.trod enc Try.prog W base spare held fuel 94 cs = some x → (∀ y ∈ x.1.weights Try.prog 94, y ≤ reachBytes) → ∃ r : CRow, cs = encC r ∧ ∃ c : KCache, RdC W r c ∧ c.good := by
  intro fuel cs x h hw
  obtain ⟨xs, n, _, rfl, hlen, hxl, hf⟩ := DataW.trod_struct Try.underlying94 h
  have hc : Try.prog.cellsOf 94 = 6 := by kernel_rfl
  have hi : Try.prog.cellsOf 3 = 1 := by kernel_rfl
  have hi0 : Try.prog.cellsOf 91 = 1 := by kernel_rfl
  have hi4 : Try.prog.cellsOf 92 = 1 := by kernel_rfl
  have hi5 : Try.prog.cellsOf 23 = 1 := by kernel_rfl
  rw [hc] at hlen
  match cs, hlen with
  | [c0, c1, c2, c3, c4, c5], _ =>
    match xs, hxl with
    | [y0, y1, y2, y3, y4, y5], _ =>
      have h0 : DataW.trod enc Try.prog W base spare held n 91 (List.take (Try.prog.cellsOf 91) (List.drop 0 [c0, c1, c2, c3, c4, c5])) = some y0 := hf 0 _ rfl
      have h1 : DataW.trod enc Try.prog W base spare held n 3 (List.take (Try.prog.cellsOf 3) (List.drop 1 [c0, c1, c2, c3, c4, c5])) = some y1 := hf 1 _ rfl
      have h2 : DataW.trod enc Try.prog W base spare held n 3 (List.take (Try.prog.cellsOf 3) (List.drop 2 [c0, c1, c2, c3, c4, c5])) = some y2 := hf 2 _ rfl
      have h3 : DataW.trod enc Try.prog W base spare held n 3 (List.take (Try.prog.cellsOf 3) (List.drop 3 [c0, c1, c2, c3, c4, c5])) = some y3 := hf 3 _ rfl
      have h4 : DataW.trod enc Try.prog W base spare held n 92 (List.take (Try.prog.cellsOf 92) (List.drop 4 [c0, c1, c2, c3, c4, c5])) = some y4 := hf 4 _ rfl
      have h5 : DataW.trod enc Try.prog W base spare held n 23 (List.take (Try.prog.cellsOf 23) (List.drop 5 [c0, c1, c2, c3, c4, c5])) = some y5 := hf 5 _ rfl
      rw [hi0] at h0
      rw [hi] at h1 h2 h3
      rw [hi4] at h4
      rw [hi5] at h5
      have w0 := bd_field Try.underlying94 (j := 0) rfl rfl hw
      have w4 := bd_field Try.underlying94 (j := 4) rfl rfl hw
      have w5 := bd_field Try.underlying94 (j := 5) rfl rfl hw
      obtain ⟨A0, n0, k0, l0, e0, s0, b0, g0⟩ := open_slw (t := 91) (b := 16) (by kernel_rfl) (by kernel_rfl) elw_str h0 w0
      obtain ⟨a, ha, wa⟩ := el_int Try.underlying3 h1
      obtain ⟨b, hb, wb⟩ := el_int Try.underlying3 h2
      obtain ⟨c, hcc, wc⟩ := el_int Try.underlying3 h3
      obtain ⟨A4, n4, k4, l4, e4, s4, b4, g4⟩ := open_slw (t := 92) (b := 24) (by kernel_rfl) (by kernel_rfl) elw_slab h4 w4
      obtain ⟨A5, n5, k5, l5, e5, s5, b5, _⟩ := open_slw (t := 23) (b := 8) (by kernel_rfl) (by kernel_rfl) (elw_int Try.underlying3) h5 w5
      have kc := cap_slw (α := Int) h5 e5
      simp [encI] at e0 ha hb hcc e4 e5
      subst e0 ha hb hcc e4 e5
      refine ⟨⟨⟨A0, n0, k0⟩, a, b, c, ⟨A4, n4, k4⟩, ⟨A5, n5, k5⟩⟩, rfl, ⟨l0, a, b, c, l4, l5⟩, ⟨rfl, rfl, rfl, s0, s4, s5, kc⟩, ⟨?_, ?_, ?_⟩, ⟨wa, wb, wc⟩, g0, g4⟩
      · simp only [s0.len]; omega
      · simp only [s4.len]; omega
      · simp only [s5.len]; omega

structure KSystem.good (s : KSystem) : Prop where
  small : s.small
  heap : s.Heap.good
  caches : ∀ c ∈ s.Caches, c.good

theorem elw_system : ∀ fuel cs x, DataW.trod enc Try.prog W base spare held fuel 33 cs = some x → (∀ y ∈ x.1.weights Try.prog 33, y ≤ reachBytes) → ∃ r : SRow, cs = encSys r ∧ ∃ s : KSystem, RdS W r s ∧ s.good := by
  intro fuel cs x h hw
  obtain ⟨xs, n, _, rfl, hlen, hxl, hf⟩ := DataW.trod_struct Try.underlying33 h
  have hc : Try.prog.cellsOf 33 = 7 := by kernel_rfl
  have hi0 : Try.prog.cellsOf 23 = 1 := by kernel_rfl
  have hi1 : Try.prog.cellsOf 27 = 5 := by kernel_rfl
  have hi2 : Try.prog.cellsOf 31 = 1 := by kernel_rfl
  rw [hc] at hlen
  match cs, hlen with
  | [c0, c1, c2, c3, c4, c5, c6], _ =>
    match xs, hxl with
    | [y0, y1, y2], _ =>
      have h0 : DataW.trod enc Try.prog W base spare held n 23 (List.take (Try.prog.cellsOf 23) (List.drop 0 [c0, c1, c2, c3, c4, c5, c6])) = some y0 := hf 0 _ rfl
      have h1 : DataW.trod enc Try.prog W base spare held n 27 (List.take (Try.prog.cellsOf 27) (List.drop 1 [c0, c1, c2, c3, c4, c5, c6])) = some y1 := hf 1 _ rfl
      have h2 : DataW.trod enc Try.prog W base spare held n 31 (List.take (Try.prog.cellsOf 31) (List.drop 6 [c0, c1, c2, c3, c4, c5, c6])) = some y2 := hf 2 _ rfl
      rw [hi0] at h0
      rw [hi1] at h1
      rw [hi2] at h2
      have w0 := bd_field Try.underlying33 (j := 0) rfl rfl hw
      have w1 := bd_field Try.underlying33 (j := 1) rfl rfl hw
      have w2 := bd_field Try.underlying33 (j := 2) rfl rfl hw
      obtain ⟨A0, n0, k0, l0, e0, s0, b0, _⟩ := open_slw (t := 23) (b := 8) (by kernel_rfl) (by kernel_rfl) (elw_int Try.underlying3) h0 w0
      obtain ⟨hr, e1, hh, hR, hG⟩ := elw_heap _ _ _ h1 w1
      obtain ⟨A2, n2, k2, l2, e2, s2, b2, g2⟩ := open_slw (t := 31) (b := 96) (by kernel_rfl) (by kernel_rfl) elw_cache h2 w2
      obtain ⟨C, hC⟩ := all2_of l2 g2
      have kc := cap_slw (α := CRow) h2 e2
      simp [encH] at e0 e1 e2
      obtain ⟨e11, e12, e13, e14, e15⟩ := e1
      subst e0 e11 e12 e13 e14 e15 e2
      refine ⟨⟨⟨A0, n0, k0⟩, hr, ⟨A2, n2, k2⟩⟩, rfl, ⟨l0, hh, C⟩, ⟨s0, hR, ⟨l2, s2, hC.mono fun _ _ h => h.1, kc⟩⟩, ⟨?_, hG.small, ?_, ?_⟩, hG, ?_⟩
      · simp only [s0.len]; omega
      · simp only [← hC.len, s2.len]; omega
      · intro z hz
        obtain ⟨i, hi, rfl⟩ := List.getElem_of_mem hz
        exact (hC.get i (by have := hC.len; simp only at hi; omega) hi).2.small
      · intro z hz
        obtain ⟨i, hi, rfl⟩ := List.getElem_of_mem hz
        exact (hC.get i (by have := hC.len; simp only at hi; omega) hi).2

theorem open_system {r : Reach} {b0 : Nat} {v : Value} {d : DataW H} {p : List MemPlace} (hv : Value.okWide Try.prog W r b0 33 v) (h : DataW.Trod enc Try.prog W base spare held 33 v d p) (hw : ∀ y ∈ d.weights Try.prog 33, y ≤ reachBytes) :
    ∃ (r : SRow) (s : KSystem), v = .agg (encSys r).toArray ∧ RdS W r s ∧ s.good := by
  obtain ⟨cs, rfl, hsz⟩ := okWide_struct Try.underlying33 hv
  obtain ⟨fuel, hf⟩ := h
  obtain ⟨r, hr, hh, h1, h2⟩ := elw_system _ _ _ hf hw
  refine ⟨r, hh, ?_, h1, h2⟩
  have : cs.toList = encSys r := hr
  rw [← this]
theorem open_str {r : Reach} {b0 : Nat} {v : Value} {d : DataW H} {p : List MemPlace} (hv : Value.okWide Try.prog W r b0 9 v) (h : DataW.Trod enc Try.prog W base spare held 9 v d p) (hw : ∀ y ∈ d.weights Try.prog 9, y ≤ reachBytes) :
    ∃ s : ByteArray, v = .string s ∧ s.size ≤ 140737488351232 := by
  obtain ⟨s, rfl⟩ := okWide_string Try.underlying9 hv
  obtain ⟨fuel, hf⟩ := h
  obtain ⟨s', hs, hz⟩ := elw_str _ _ _ hf hw
  simp [Value.cells, encStr] at hs
  subst hs
  exact ⟨_, rfl, hz⟩
end
end Go.Proofs.Ytfdmgflboibdoaa

/-
  Strings for the stepper: their order and equality, length, bytes; []byte of a string. No program in sight.
-/
set_option linter.unusedVariables false
namespace Go.Proofs.Ytfdmgflboibdoaa
open Go.RowKit

def lessS (a b : ByteArray) : Bool := Op.bytesLess a.toList b.toList
theorem bytes_irrefl : ∀ x : List UInt8, Op.bytesLess x x = false
  | [] => rfl
  | a :: x => by simp [Op.bytesLess, bytes_irrefl x]
theorem bytes_tri : ∀ x y : List UInt8, Op.bytesLess x y = (!(Op.bytesLess y x || decide (x = y)))
  | [], [] => by simp [Op.bytesLess]
  | [], _ :: _ => by simp [Op.bytesLess]
  | _ :: _, [] => by simp [Op.bytesLess]
  | a :: x, b :: y => by
    have ih := bytes_tri x y
    simp only [Op.bytesLess, List.cons.injEq]
    rcases Nat.lt_trichotomy a.toNat b.toNat with h | h | h
    · have h1 : a < b := h
      have h2 : ¬ b < a := fun e => by have : b.toNat < a.toNat := e; omega
      have h3 : ¬ a = b := fun e => by subst e; omega
      have h4 : ¬ b = a := fun e => h3 e.symm
      simp [h1, h2, h3, h4]
    · have h3 : a = b := UInt8.toNat_inj.1 h
      subst h3
      have h1 : ¬ a < a := fun e => by have : a.toNat < a.toNat := e; omega
      simp [h1, ih]
    · have h1 : b < a := h
      have h2 : ¬ a < b := fun e => by have : a.toNat < b.toNat := e; omega
      have h3 : ¬ a = b := fun e => by subst e; omega
      have h4 : ¬ b = a := fun e => h3 e.symm
      simp [h1, h2, h3]
theorem bytes_trans : ∀ x y z : List UInt8, Op.bytesLess x y = true → Op.bytesLess y z = true → Op.bytesLess x z = true
  | _, [], _, h, _ => by simp [Op.bytesLess] at h
  | _, _ :: _, [], _, h => by simp [Op.bytesLess] at h
  | [], _ :: _, _ :: _, _, _ => by simp [Op.bytesLess]
  | a :: x, b :: y, c :: z, h, k => by
    simp only [Op.bytesLess, Bool.or_eq_true, decide_eq_true_eq, Bool.and_eq_true, beq_iff_eq] at h k ⊢
    rcases h with h | ⟨rfl, h⟩ <;> rcases k with k | ⟨rfl, k⟩
    · have h' : a.toNat < b.toNat := h
      have k' : b.toNat < c.toNat := k
      exact .inl (show a.toNat < c.toNat by omega)
    · exact .inl h
    · exact .inl k
    · exact .inr ⟨rfl, bytes_trans x y z h k⟩
theorem bytesEq (a b : ByteArray) : (a.toList == b.toList) = decide (a = b) := by
  by_cases h : a = b
  · subst h; simp
  · have : ¬ a.toList = b.toList := fun e => h (by
      have e1 := congrArg (fun l : List UInt8 => ByteArray.mk l.toArray) e
      simp only [ByteArray.toList_eq] at e1
      cases a; cases b; simpa using e1)
    simp [h, this]
theorem lessS_irrefl (a : ByteArray) : lessS a a = false := bytes_irrefl _
theorem lessS_trans {a b c : ByteArray} (h : lessS a b = true) (k : lessS b c = true) : lessS a c = true := bytes_trans _ _ _ h k
theorem lessS_tri (a b : ByteArray) : lessS a b = !(lessS b a || decide (a = b)) := by
  unfold lessS
  rw [bytes_tri]
  have : decide (a.toList = b.toList) = decide (a = b) := by rw [← bytesEq]; exact (Bool.beq_eq_decide_eq _ _).symm
  rw [this]

class StrTy (P : Program) (t : TypeId) : Prop where
  und : P.underlying t = some .string
def encU (b : UInt8) : List Value := [.int .u8 b.toNat]

section
variable {P : Program} {L : Env} {w : World} {d : Option Nat} {T : TypeId} {pos : String} {af : Array Edge} {g : Option (Nat × Bool)}
theorem st_eqStr {t ty : TypeId} {x y : Operand} {a b : ByteArray} (hx : opv L x = some (.string a)) (hy : opv L y = some (.string b)) : St P ⟨d, .binOp .eql t x y ty, T, pos, af, g⟩ L w (.bool (decide (a = b))) :=
  ⟨fun _ A hA w' _ => by
    have e1 := hA.eval hx
    have e2 := hA.eval hy
    generalize A.eval = ρ at *
    have h1 : (binOp .eql t (.string a) (.string b)).run P w' = .ok (.bool (decide (a = b))) w' := by
      have : binOp .eql t (.string a) (.string b) = Op.stringOp .eql a b := by simp [binOp]
      rw [this, ← bytesEq]
      simp [Op.stringOp, pure]
    simp [execOp, e1, e2, eqGuard, h1]⟩
theorem st_geStr {t ty : TypeId} {x y : Operand} {a b : ByteArray} (hx : opv L x = some (.string a)) (hy : opv L y = some (.string b)) : St P ⟨d, .binOp .geq t x y ty, T, pos, af, g⟩ L w (.bool (!lessS a b)) :=
  ⟨fun _ A hA w' _ => by
    have e1 := hA.eval hx
    have e2 := hA.eval hy
    generalize A.eval = ρ at *
    have h1 : (binOp .geq t (.string a) (.string b)).run P w' = .ok (.bool (!lessS a b)) w' := by
      have : binOp .geq t (.string a) (.string b) = Op.stringOp .geq a b := by simp [binOp]
      rw [this]
      simp [Op.stringOp, pure, lessS]
    simp [execOp, e1, e2, eqGuard, h1]⟩
theorem st_leStr {t ty : TypeId} {x y : Operand} {a b : ByteArray} (hx : opv L x = some (.string a)) (hy : opv L y = some (.string b)) : St P ⟨d, .binOp .leq t x y ty, T, pos, af, g⟩ L w (.bool (!lessS b a)) :=
  ⟨fun _ A hA w' _ => by
    have e1 := hA.eval hx
    have e2 := hA.eval hy
    generalize A.eval = ρ at *
    have h1 : (binOp .leq t (.string a) (.string b)).run P w' = .ok (.bool (!lessS b a)) w' := by
      have : binOp .leq t (.string a) (.string b) = Op.stringOp .leq a b := by simp [binOp]
      rw [this, lessS_tri b a]
      have e : decide (b = a) = decide (a = b) := by simp [eq_comm]
      rw [e, ← bytesEq]
      simp [Op.stringOp, pure, lessS]
    simp [execOp, e1, e2, eqGuard, h1]⟩
theorem st_ltStr {t ty : TypeId} {x y : Operand} {a b : ByteArray} (hx : opv L x = some (.string a)) (hy : opv L y = some (.string b)) : St P ⟨d, .binOp .lss t x y ty, T, pos, af, g⟩ L w (.bool (lessS a b)) :=
  ⟨fun _ A hA w' _ => by
    have e1 := hA.eval hx
    have e2 := hA.eval hy
    generalize A.eval = ρ at *
    have h1 : (binOp .lss t (.string a) (.string b)).run P w' = .ok (.bool (lessS a b)) w' := by
      have : binOp .lss t (.string a) (.string b) = Op.stringOp .lss a b := by simp [binOp]
      rw [this]
      simp [Op.stringOp, pure, lessS]
    simp [execOp, e1, e2, eqGuard, h1]⟩
theorem st_neStr' {t ty : TypeId} {x y : Operand} {a b : ByteArray} (hx : opv L x = some (.string a)) (hy : opv L y = some (.string b)) : St P ⟨d, .binOp .neq t x y ty, T, pos, af, g⟩ L w (.bool (decide (a ≠ b))) :=
  ⟨fun _ A hA w' _ => by
    have e1 := hA.eval hx
    have e2 := hA.eval hy
    generalize A.eval = ρ at *
    have h1 : (binOp .neq t (.string a) (.string b)).run P w' = .ok (.bool (decide (a ≠ b))) w' := by
      have : binOp .neq t (.string a) (.string b) = Op.stringOp .neq a b := by simp [binOp]
      rw [this]
      have e : decide (a ≠ b) = !(a.toList == b.toList) := by rw [bytesEq]; simp
      rw [e]
      simp [Op.stringOp, pure]
    simp [execOp, e1, e2, eqGuard, h1]⟩
theorem st_lenS {t : TypeId} [c : StrTy P t] {x : Operand} {s : ByteArray} (hx : opv L x = some (.string s)) :
    St P ⟨d, .call ⟨.builtin .len, #[x], #[t]⟩, T, pos, af, g⟩ L w (.int .i64 (s.size : Int)) :=
  ⟨fun _ a ha w' _ => by simp [execOp, resolve, invoke, builtin, ha.eval hx, Builtin.len_, run_underlying c.und, goInt]⟩
theorem st_idxS {t : TypeId} [c : StrTy P t] {x y : Operand} {s : ByteArray} {i : Int} (k : Nat) (hx : opv L x = some (.string s)) (hy : opv L y = some (.int .i64 i)) (hi : i = (k : Int)) (hk : k < s.size) :
    St P ⟨d, .index t x y, T, pos, af, g⟩ L w (.int .u8 (s[k]'hk).toNat) :=
  ⟨fun _ a ha w' _ => by
    subst hi
    have e1 := ha.eval hx; have e2 := ha.eval hy; generalize a.eval = ρ at *
    have := run_index_string (P := P) w' t s .i64 (k : Int) c.und
    rw [dif_pos ⟨by omega, by omega⟩] at this
    simp [execOp, e1, e2, this]⟩
end
section
variable {P : Program} {n : Nat} {ops : Array Oper} {Q : Exit → Act → World → Prop} {rest : List Oper} {L : Env} {w : World} {T : TypeId} {pos : String} {af : Array Edge}
/-- '[]byte(s)' -/
theorem SW.convBytes {d : Nat} {src dst e : TypeId} [S : StrTy P src] [D : SliceTy P dst e 1] (he : P.underlying e = some (.int .u8)) {x : Operand} {s : ByteArray} (hx : opv L x = some (.string s)) (hn : Nat.blt d n = true)
    (h : ∀ b c w', Ext w w' → w.heap.size ≤ b → Sl w' 1 encU (some ⟨b, 0, none⟩) s.size s.data.toList → SW P n ops (.eff Q) rest ((d, .slice (some ⟨b, 0, none⟩) s.size c) :: L) w') :
    SW P n ops (.eff Q) (⟨some d, .convert src dst x, T, pos, af, none⟩ :: rest) L w :=
  ⟨fun a ha => by
    simp only [swp, wpList, Region.wanted, if_true]
    refine .inl ?_
    unfold Oper.wp
    have hr := Lib.run_convert_string_bytes (P := P) w src dst e s S.und D.und he
    have : (execOp a.eval ⟨some d, .convert src dst x, T, pos, af, none⟩).run P w = .ok (.value (.slice (some ⟨w.heap.size, 0, none⟩) s.size (grownCap w s.size 0 e))) (Lib.bytesWorld w e s) := by
      simp [execOp, ha.eval hx, hr]
    rw [this, Oper.upon_value]
    have hE : Ext w (Lib.bytesWorld w e s) := ⟨rfl, rfl, rfl, by rw [Lib.bytesWorld_size]; omega, fun j hj => Lib.bytesWorld_at_old w e s j hj⟩
    refine (h _ _ _ hE (Nat.le_refl _) ⟨?_, fun _ => rfl, fun i hi j u hu => ?_⟩).out _ (ha.put hn _)
    · exact Array.length_toList
    · have hi' : i < s.size := by rw [Array.length_toList] at hi; exact hi
      have := Lib.bytesWorld_cell w e s i hi'
      match j, hu with
      | 0, hu =>
        simp only [encU, List.getElem?_cons_zero, Option.some.injEq] at hu
        rw [add_zero]
        have e2 : (((some (⟨w.heap.size, 0, none⟩ : Addr)).getD default).add (i * 1)) = ⟨w.heap.size, i, none⟩ := by
          simp only [Option.getD_some, Nat.mul_one]
          unfold Addr.add
          split <;> simp_all
        rw [e2, this, ← hu]
        have e3 : s.data.toList.getD i 0 = s.data.toList[i] := by simp [List.getD, hi']
        rw [e3]
      | j + 1, hu => simp [encU] at hu⟩
end
end Go.Proofs.Ytfdmgflboibdoaa

/-
  Contracts: ZoneNew; the law BuddyNew.
-/
set_option linter.unusedVariables false
namespace Go.Proofs.Ytfdmgflboibdoaa
open Go.RowKit

theorem ZoneNew_ans (f t : Int) (w : World) (hf : -9223372036854775808 ≤ f ∧ f ≤ 9223372036854775807) (ht : -9223372036854775808 ≤ t ∧ t ≤ 9223372036854775807) : Ans Try.prog 79 [.int .i64 f, .int .i64 t] w (ZoneOut w.heap.size (zoneNewV f t)) := by
  refine ans_of Try.func79 rfl Try.ntmps79 rfl ?_
  refine CW.seq (CW.region (SW.alloc rfl fun b4 w1 hw hb4b hb4 => ?_))
  have hb4w := hb4b
  by_cases hok : zoneOk f t
  · obtain ⟨h1, h2, h3, h4, h5⟩ := id hok
    have m1 := tmod16 h1
    have m2 := tmod16 (show 0 ≤ t by omega)
    rw [zoneNewV_t hok]
    obtain ⟨k, hk⟩ : ∃ k : Nat, (t - f) / 8 = k := ⟨((t - f) / 8).toNat, by omega⟩
    repeat' (first | (show CW _ _ _ _ _ _; first | refine CW.seq ?_ | refine CW.region ?_ | refine CW.condn_f rfl (by omega) ?_ | refine CW.skip ?_) | (show Post _ _ _ _ _; refine Post.seq ?_) | refine SW.nil ?_ | (show SW _ _ _ _ (⟨_, _, _, _, _, some _⟩ :: _) _ _; first | refine SW.want_f rfl rfl (by with_reducible rfl) ?_ | refine SW.splitn_f rfl rfl rfl (by omega) ?_) | refine SW.pure rfl rfl ?_ | (show SW _ _ _ _ (⟨_, Op.build _ _, _, _, _, none⟩ :: _) _ _; refine SW.st (st_build rfl rfl) rfl ?_) | (show SW _ _ _ _ (⟨_, Op.binOp _ _ _ _ _, _, _, _, none⟩ :: _) _ _; refine SW.st (st_rem rfl rfl (by omega)) rfl ?_) | (show SW _ _ _ _ (⟨_, Op.call ⟨.value (.func _), _, _⟩, _, _, _, none⟩ :: _) _ _; (refine SW.call rfl rfl (In_ans _ _ _ _) ?_; intro v w1 hw1 hv; subst hv; replace hw := Ext.trans hw hw1; replace hb4 := hb4.ext hw1; clear hw1)))
    refine SW.alloc rfl fun b6 w1 hw1 hb6b hb6 => ?_
    have hb6w : w.heap.size ≤ b6 := Nat.le_trans hw.size hb6b
    have hne_b4 : b4 ≠ b6 := by have := hb4.lt; omega
    replace hw := Ext.trans hw hw1
    replace hb4 := hb4.ext hw1
    refine SW.storeAgg hb6 rfl rfl rfl rfl (one_z ⟨f, t, .nil, .nil⟩) fun w2 hb6' hg => ?_
    replace hw := hw.own hb6w hg
    replace hb4 := hb4.grown hg (by simpa using hne_b4)
    replace hb6 := hb6'
    clear hb6' hw1 hg hb6b
    repeat' (first | (show CW _ _ _ _ _ _; first | refine CW.seq ?_ | refine CW.region ?_ | refine CW.block ?_) | (show Post _ _ _ _ _; refine Post.seq ?_) | refine SW.nil ?_ | refine SW.pure rfl rfl ?_)
    refine CW.loop (fun s : Nat × Option Addr × Nat => [(1, .int .i64 t), (4, .pointer (some ⟨b4, 0, none⟩)), (6, .pointer (some ⟨b6, 0, none⟩)), (7, .int .i64 (f + 8 * (s.1 : Int)))])
      (fun s w' => s.1 ≤ k ∧ Ext w w' ∧ Blk w' b4 38 (encZ .zero) ∧ Blk w' b6 38 (encZ ⟨f, t, .nil, ⟨s.2.1, s.1, s.2.2⟩⟩) ∧ Own w' w.heap.size 3 1 encI s.2.1 s.1 s.2.2 (List.replicate s.1 1)) (fun s => k - s.1) (0, none, 0)
      ⟨rfl, rfl, rfl, by simp; rfl, trivial⟩ ⟨by omega, hw, hb4, hb6, Own.nil_ _ _ _ _ _ _⟩ ?_
    clear hw hb4 hb6
    rintro ⟨i, A, c⟩ w' ⟨hi, hw, hb4, hb6, hO⟩
    simp only at hi hb6 hO ⊢
    by_cases hik : i < k
    · repeat' (first | (show CW _ _ _ _ _ _; first | refine CW.seq ?_ | refine CW.region ?_ | refine CW.block ?_ | refine CW.condd_t rfl (by omega) ?_ | refine CW.skip ?_) | (show Post _ _ _ _ _; refine Post.seq ?_) | refine SW.nil ?_ | refine SW.pure rfl rfl ?_ | (show SW _ _ _ _ (⟨_, Op.fieldAddr _ _ _, _, _, _, none⟩ :: _) _ _; refine SW.st (st_field rfl) rfl ?_) | (show SW _ _ _ _ (⟨_, Op.load _ _, _, _, _, none⟩ :: _) _ _; refine SW.st (st_load rfl (hb6.cell rfl)) rfl ?_))
      refine SW.build1 rfl rfl rfl rfl rfl fun b w1 hw1 hb hB => ?_
      (replace hw := Ext.trans hw hw1; replace hb4 := hb4.ext hw1; replace hb6 := hb6.ext hw1; replace hO := hO.ext hw1)
      refine SW.append hO (Blk.sl1 (enc := encI) (x := 1) hB) hw.size rfl rfl rfl (by omega) (by omega) fun A2 c2 w2 hO1 hg => ?_
      replace hw := ext_grown hw hg (Nat.le_refl _) hO.row_ge
      replace hb4 := hb4.grown hg (fun e => hO.ne_blk hb4 rfl e.symm)
      replace hb6 := hb6.grown hg (fun e => hO.ne_blk hb6 rfl e.symm)
      repeat' ((show SW _ _ _ _ (⟨_, Op.fieldAddr _ _ _, _, _, _, none⟩ :: _) _ _; refine SW.st (st_field rfl) rfl ?_))
      refine SW.storeB (i := 3) hb6 rfl rfl rfl rfl fun w5 hb6' hg => ?_
      replace hw := hw.own hb6w hg
      replace hO1 := hO1.grown hg (.inr (hO1.ne_blk hb6 rfl))
      replace hb4 := hb4.grown hg (by simpa using hne_b4)
      repeat' (first | (show CW _ _ _ _ _ _; refine CW.region ?_) | (show Post _ _ _ _ _; first | refine Post.seq ?_ | refine Post.blk ?_) | refine SW.nil ?_ | refine SW.pure rfl rfl ?_ | (show SW _ _ _ _ (⟨_, Op.binOp _ _ _ _ _, _, _, _, none⟩ :: _) _ _; refine SW.st (st_add rfl rfl (by omega) (by omega)) rfl ?_))
      refine Post.again (i + 1, A2, c2) ⟨rfl, rfl, rfl, by simp only [get]; simp; omega, trivial⟩ (by simp only; omega) ⟨by simp only; omega, hw, hb4, hb6', ?_⟩
      simp only [List.replicate_succ']
      exact hO1
    · obtain rfl : i = k := by omega
      repeat' (first | (show CW _ _ _ _ _ _; first | refine CW.seq ?_ | refine CW.region ?_ | refine CW.condd_f rfl (by omega) ?_ | refine CW.exit ?_) | (show Post _ _ _ _ _; first | refine Post.seq ?_ | refine Post.seq_exit ?_ | refine Post.hit ?_ | refine Post.again_exit ?_) | refine SW.nil ?_ | refine SW.pure rfl rfl ?_ | (show SW _ _ _ _ (⟨_, Op.load _ _, _, _, _, none⟩ :: _) _ _; refine SW.st (st_loads rfl rfl ((fun _ _ => hb6.cell))) rfl ?_))
      refine SW.storeAgg hb4 rfl rfl rfl rfl (one_z ⟨f, t, .nil, ⟨A, i, c⟩⟩) fun w5 hR2 hg => ?_
      replace hw := hw.own hb4w hg
      replace hO := hO.grown hg (.inr (hO.ne_blk hb4 rfl))
      repeat' (first | (show CW _ _ _ _ _ _; refine CW.ret ?_) | (show Post _ _ _ _ _; refine Post.seq ?_) | refine SW.nil ?_ | refine SW.pure rfl rfl ?_)
      refine Post.ret2c rfl rfl rfl hR2 rfl ⟨_, rfl, hw, ⟨f, t, .nil, ⟨A, i, c⟩⟩, rfl, rfl, rfl, Own.nil_ _ _ _ _ _ _, ?_⟩
      simp only [hk, Int.toNat_natCast]
      exact hO
  · rw [zoneNewV_f hok]
    unfold zoneOk at hok
    have m1 := fun h => @tmod16 f h
    have m2 := fun h => @tmod16 t h
    by_cases h1 : 0 ≤ f
    · have m1 := m1 h1
      by_cases h2 : f ≤ t
      · have m2 := m2 (by omega)
        repeat' (first | (show CW _ _ _ _ _ _; first | refine CW.seq ?_ | refine CW.region ?_ | refine CW.condtr rfl (by with_reducible rfl) ?_ | refine CW.condn_t rfl (by omega) ?_) | (show Post _ _ _ _ _; refine Post.seq ?_) | refine SW.nil ?_ | (show SW _ _ _ _ (⟨_, _, _, _, _, some _⟩ :: _) _ _; first | refine SW.want_f rfl rfl (by with_reducible rfl) ?_ | refine SW.skip_f rfl rfl (by with_reducible rfl) rfl ?_ | refine SW.splitn rfl rfl rfl (fun h => ?_) (fun h => ?_)) | refine SW.pure rfl rfl ?_ | (show SW _ _ _ _ (⟨_, Op.build _ _, _, _, _, none⟩ :: _) _ _; refine SW.st (st_build rfl rfl) rfl ?_) | (show SW _ _ _ _ (⟨_, Op.binOp _ _ _ _ _, _, _, _, none⟩ :: _) _ _; refine SW.st (st_rem rfl rfl (by omega)) rfl ?_) | (show SW _ _ _ _ (⟨_, Op.call ⟨.value (.func _), _, _⟩, _, _, _, none⟩ :: _) _ _; (refine SW.call rfl rfl (In_ans _ _ _ _) ?_; intro v w1 hw1 hv; subst hv; replace hw := Ext.trans hw hw1; replace hb4 := hb4.ext hw1; clear hw1)))
        all_goals
          first
            | (exfalso; omega)
            | (refine SW.storeAgg hb4 rfl rfl rfl rfl (one_z .zero) fun w5 hR2 hg => ?_
               replace hw := hw.own hb4w hg
               repeat' (first | (show CW _ _ _ _ _ _; refine CW.ret ?_) | (show Post _ _ _ _ _; first | refine Post.seq ?_ | refine Post.seq_ret ?_) | refine SW.nil ?_ | refine SW.pure rfl rfl ?_)
               exact Post.ret2c rfl rfl rfl hR2 rfl ⟨_, rfl, hw, .zero, rfl, OwnZ.zero _ _⟩)
      · repeat' (first | (show CW _ _ _ _ _ _; first | refine CW.seq ?_ | refine CW.region ?_ | refine CW.condtr rfl (by with_reducible rfl) ?_) | (show Post _ _ _ _ _; refine Post.seq ?_) | refine SW.nil ?_ | (show SW _ _ _ _ (⟨_, _, _, _, _, some _⟩ :: _) _ _; first | refine SW.want_f rfl rfl (by with_reducible rfl) ?_ | refine SW.skip_f rfl rfl (by with_reducible rfl) rfl ?_ | refine SW.splitn_t rfl rfl rfl (by omega) ?_ | refine SW.splitn rfl rfl rfl (fun h => ?_) (fun h => ?_)) | refine SW.pure rfl rfl ?_ | (show SW _ _ _ _ (⟨_, Op.build _ _, _, _, _, none⟩ :: _) _ _; refine SW.st (st_build rfl rfl) rfl ?_) | (show SW _ _ _ _ (⟨_, Op.call ⟨.value (.func _), _, _⟩, _, _, _, none⟩ :: _) _ _; (refine SW.call rfl rfl (In_ans _ _ _ _) ?_; intro v w1 hw1 hv; subst hv; replace hw := Ext.trans hw hw1; replace hb4 := hb4.ext hw1; clear hw1)))
        all_goals
          refine SW.storeAgg hb4 rfl rfl rfl rfl (one_z .zero) fun w5 hR2 hg => ?_
          replace hw := hw.own hb4w hg
          repeat' (first | (show CW _ _ _ _ _ _; refine CW.ret ?_) | (show Post _ _ _ _ _; first | refine Post.seq ?_ | refine Post.seq_ret ?_) | refine SW.nil ?_ | refine SW.pure rfl rfl ?_)
          exact Post.ret2c rfl rfl rfl hR2 rfl ⟨_, rfl, hw, .zero, rfl, OwnZ.zero _ _⟩
    · repeat' (first | (show CW _ _ _ _ _ _; first | refine CW.seq ?_ | refine CW.region ?_ | refine CW.condtr rfl (by with_reducible rfl) ?_) | (show Post _ _ _ _ _; refine Post.seq ?_) | refine SW.nil ?_ | (show SW _ _ _ _ (⟨_, _, _, _, _, some _⟩ :: _) _ _; first | refine SW.skip_f rfl rfl (by with_reducible rfl) rfl ?_ | refine SW.splitn_t rfl rfl rfl (by omega) ?_) | refine SW.pure rfl rfl ?_ | (show SW _ _ _ _ (⟨_, Op.build _ _, _, _, _, none⟩ :: _) _ _; refine SW.st (st_build rfl rfl) rfl ?_) | (show SW _ _ _ _ (⟨_, Op.call ⟨.value (.func _), _, _⟩, _, _, _, none⟩ :: _) _ _; (refine SW.call rfl rfl (In_ans _ _ _ _) ?_; intro v w1 hw1 hv; subst hv; replace hw := Ext.trans hw hw1; replace hb4 := hb4.ext hw1; clear hw1)))
      all_goals
        refine SW.storeAgg hb4 rfl rfl rfl rfl (one_z .zero) fun w5 hR2 hg => ?_
        replace hw := hw.own hb4w hg
        repeat' (first | (show CW _ _ _ _ _ _; refine CW.ret ?_) | (show Post _ _ _ _ _; first | refine Post.seq ?_ | refine Post.seq_ret ?_) | refine SW.nil ?_ | refine SW.pure rfl rfl ?_)
        exact Post.ret2c rfl rfl rfl hR2 rfl ⟨_, rfl, hw, .zero, rfl, OwnZ.zero _ _⟩

theorem zoneNewV_le (f t : Int) : (zoneNewV f t).2.Free.length ≤ 256 ∧ (zoneNewV f t).2.Types.length ≤ 256 := by
  by_cases h : zoneOk f t
  · rw [zoneNewV_t h]
    obtain ⟨h1, h2, h3, h4, h5⟩ := h
    simp; omega
  · rw [zoneNewV_f h]; simp [Zone.zero]

end Go.Proofs.Ytfdmgflboibdoaa
