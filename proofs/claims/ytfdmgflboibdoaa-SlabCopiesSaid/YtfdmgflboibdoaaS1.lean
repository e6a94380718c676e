/-
  How a system lies in memory: caches, their names and slabs; what is read, what is the call's own.
-/
import Derived.Test.YtfdmgflboibdoaaH3
set_option linter.unusedVariables false
namespace Go.Proofs.Ytfdmgflboibdoaa
open Go.RowKit

structure KCache where
  Names : List ByteArray
  Size : Int
  Per : Int
  Order : Int
  Slabs : List Slab
  Active : List Int
structure KSystem where
  Words : List Int
  Heap : Heap
  Caches : List KCache

def encStr (s : ByteArray) : List Value := [.string s]
instance : Enc encStr 1 := ⟨fun _ => rfl, fun r u hu => by simp [encStr] at hu; subst hu; rfl⟩
structure CRow where
  Names : Sli
  Size : Int
  Per : Int
  Order : Int
  Slabs : Sli
  Active : Sli
def encC (r : CRow) : List Value := [r.Names.v, .int .i64 r.Size, .int .i64 r.Per, .int .i64 r.Order, r.Slabs.v, r.Active.v]
instance : Enc encC 6 := ⟨fun _ => rfl, fun r u hu => by simp [encC, Sli.v] at hu; rcases hu with rfl | rfl | rfl | rfl | rfl | rfl <;> rfl⟩
structure SRow where
  Words : Sli
  Heap : HRow
  Caches : Sli
def encSys (r : SRow) : List Value := [r.Words.v, r.Heap.Zones.v, r.Heap.Mins.v, .int .i64 r.Heap.Cpus, r.Heap.Lists.v, r.Heap.Live.v, r.Caches.v]
instance : Enc encSys 7 := ⟨fun _ => rfl, fun r u hu => by simp [encSys, Sli.v] at hu; rcases hu with rfl | rfl | rfl | rfl | rfl | rfl | rfl <;> rfl⟩
def SRow.zero : SRow := ⟨.nil, .zero, .nil⟩
theorem one_c (r : CRow) : ∀ v ∈ encC r, v.oneCell' = true := Enc.one (enc := encC) r
theorem one_s (r : SRow) : ∀ v ∈ encSys r, v.oneCell' = true := Enc.one (enc := encSys) r
/-- the heap within a system's block -/
theorem heapIn {w : World} {b t : Nat} {r : SRow} (h : Blk w b t (encSys r)) : ∀ j v, (encH r.Heap)[j]? = some v → w.cell? ((((⟨b, 0, none⟩ : Addr)).add 1).add j) = some v := fun j v hv => by
  rw [add_add]
  refine h.cell (i := 1 + j) ?_
  match j, hv with
  | 0, hv => exact hv
  | 1, hv => exact hv
  | 2, hv => exact hv
  | 3, hv => exact hv
  | 4, hv => exact hv
  | j + 5, hv => simp [encH] at hv

structure RdC (w : World) (r : CRow) (c : KCache) : Prop where
  size : r.Size = c.Size
  per : r.Per = c.Per
  order : r.Order = c.Order
  names : Sl w 1 encStr r.Names.A r.Names.n c.Names
  slabs : Sl w 3 encSb r.Slabs.A r.Slabs.n c.Slabs
  active : Sl w 1 encI r.Active.A r.Active.n c.Active
structure OwnC (w : World) (lo : Nat) (r : CRow) (c : KCache) : Prop where
  size : r.Size = c.Size
  per : r.Per = c.Per
  order : r.Order = c.Order
  names : Own w lo 9 1 encStr r.Names.A r.Names.n r.Names.c c.Names
  slabs : Own w lo 98 3 encSb r.Slabs.A r.Slabs.n r.Slabs.c c.Slabs
  active : Own w lo 3 1 encI r.Active.A r.Active.n r.Active.c c.Active
section
variable {w w' : World} {lo lo' t : Nat} {r : CRow} {c : KCache}
theorem RdC.ext (h : RdC w r c) (hx : Ext w w') : RdC w' r c := ⟨h.size, h.per, h.order, h.names.ext hx, h.slabs.ext hx, h.active.ext hx⟩
theorem OwnC.ext (h : OwnC w lo r c) (hx : Ext w w') : OwnC w' lo r c := ⟨h.size, h.per, h.order, h.names.ext hx, h.slabs.ext hx, h.active.ext hx⟩
theorem OwnC.low (h : OwnC w lo r c) (hl : lo' ≤ lo) : OwnC w lo' r c := ⟨h.size, h.per, h.order, h.names.low hl, h.slabs.low hl, h.active.low hl⟩
theorem OwnC.rd (h : OwnC w lo r c) : RdC w r c := ⟨h.size, h.per, h.order, h.names.sl, h.slabs.sl, h.active.sl⟩
theorem OwnC.grT (h : OwnC w lo r c) (hG : GrT w w' t) (hne : (Nat.beq t 9 || (Nat.beq t 98 || Nat.beq t 3)) = false) : OwnC w' lo r c := by
  simp only [Bool.or_eq_false_iff] at hne
  exact ⟨h.size, h.per, h.order, h.names.grT hG hne.1, h.slabs.grT hG hne.2.1, h.active.grT hG hne.2.2⟩
end
structure RdCs (w : World) (s : Sli) (cs : List CRow) (l : List KCache) : Prop where
  row : Sl w 6 encC s.A s.n cs
  each : All2 (RdC w) cs l
structure OwnCs (w : World) (lo : Nat) (s : Sli) (cs : List CRow) (l : List KCache) : Prop where
  row : Own w lo 94 6 encC s.A s.n s.c cs
  each : All2 (OwnC w lo) cs l
section
variable {w w' : World} {lo lo' t : Nat} {s : Sli} {cs : List CRow} {l : List KCache}
theorem RdCs.ext (h : RdCs w s cs l) (hx : Ext w w') : RdCs w' s cs l := ⟨h.row.ext hx, h.each.mono fun _ _ h => h.ext hx⟩
theorem OwnCs.ext (h : OwnCs w lo s cs l) (hx : Ext w w') : OwnCs w' lo s cs l := ⟨h.row.ext hx, h.each.mono fun _ _ h => h.ext hx⟩
theorem OwnCs.low (h : OwnCs w lo s cs l) (hl : lo' ≤ lo) : OwnCs w lo' s cs l := ⟨h.row.low hl, h.each.mono fun _ _ h => h.low hl⟩
theorem OwnCs.rd (h : OwnCs w lo s cs l) : RdCs w s cs l := ⟨h.row.sl, h.each.mono fun _ _ h => h.rd⟩
theorem OwnCs.grT (h : OwnCs w lo s cs l) (hG : GrT w w' t) (hne : (Nat.beq t 94 || (Nat.beq t 9 || (Nat.beq t 98 || Nat.beq t 3))) = false) : OwnCs w' lo s cs l := by
  rw [Bool.or_eq_false_iff] at hne
  exact ⟨h.row.grT hG hne.1, h.each.mono fun _ _ h => h.grT hG hne.2⟩
theorem OwnCs.nil (w : World) (lo : Nat) : OwnCs w lo .nil [] [] := ⟨Own.nil_ _ _ _ _ _ _, .nil⟩
theorem RdCs.len (h : RdCs w s cs l) : cs.length = s.n ∧ l.length = s.n := ⟨h.row.len, by rw [← h.each.len, h.row.len]⟩
/-- a change in a block of caches that is not theirs -/
theorem OwnCs.blk {b : Nat} {vs : List Value} (h : OwnCs w lo s cs l) (hB : Blk w b 94 vs) (hg : w.grownBy w' (some b)) (hlt : ∀ k, ownB s.A s.c = some k → k < lo') (hm : lo' ≤ b) : OwnCs w' lo s cs l :=
  ⟨h.row.grown hg (.inr (fun e => by have := hlt _ e; omega)), h.each.mono fun _ _ h => h.grT (hB.gr hg) rfl⟩
end

structure RdS (w : World) (r : SRow) (s : KSystem) : Prop where
  words : Sl w 1 encI r.Words.A r.Words.n s.Words
  heap : RdH w r.Heap s.Heap
  caches : ∃ cs, RdCs w r.Caches cs s.Caches
structure OwnS (w : World) (lo : Nat) (r : SRow) (s : KSystem) : Prop where
  words : Own w lo 3 1 encI r.Words.A r.Words.n r.Words.c s.Words
  heap : OwnH w lo r.Heap s.Heap
  caches : ∃ cs, OwnCs w lo r.Caches cs s.Caches
section
variable {w w' : World} {lo lo' t : Nat} {r : SRow} {s : KSystem}
theorem RdS.ext (h : RdS w r s) (hx : Ext w w') : RdS w' r s := by
  obtain ⟨cs, hc⟩ := h.caches
  exact ⟨h.words.ext hx, h.heap.ext hx, ⟨cs, hc.ext hx⟩⟩
theorem OwnS.ext (h : OwnS w lo r s) (hx : Ext w w') : OwnS w' lo r s := by
  obtain ⟨cs, hc⟩ := h.caches
  exact ⟨h.words.ext hx, h.heap.ext hx, ⟨cs, hc.ext hx⟩⟩
theorem OwnS.low (h : OwnS w lo r s) (hl : lo' ≤ lo) : OwnS w lo' r s := by
  obtain ⟨cs, hc⟩ := h.caches
  exact ⟨h.words.low hl, h.heap.low hl, ⟨cs, hc.low hl⟩⟩
theorem OwnS.rd (h : OwnS w lo r s) : RdS w r s := by
  obtain ⟨cs, hc⟩ := h.caches
  exact ⟨h.words.sl, h.heap.rd, ⟨cs, hc.rd⟩⟩
end

structure KCache.small (c : KCache) : Prop where
  names : c.Names.length * 16 ≤ 140737488355328
  slabs : c.Slabs.length * 24 ≤ 140737488355328
  active : c.Active.length * 8 ≤ 140737488355328
structure KSystem.small (s : KSystem) : Prop where
  words : s.Words.length * 8 ≤ 140737488355328
  heap : s.Heap.small
  caches : s.Caches.length * 96 ≤ 140737488355328
  each : ∀ c ∈ s.Caches, c.small
end Go.Proofs.Ytfdmgflboibdoaa
