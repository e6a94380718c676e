/-
  How a heap of pages lies in memory: what is read, what is the call's own; changes in a block of one type leave blocks of other types as they were.
-/
import Derived.Test.YtfommgdbahemfaaDoorZ1
set_option linter.unusedVariables false
namespace Go.Proofs.YtfommgdbahemfaaDoor
open Go.RowKit

/-- a change in one block alone, of element type t -/
def GrT (w w' : World) (t : TypeId) : Prop := ∃ row, w.grownBy w' row ∧ ∀ k, row = some k → ∃ cs, w.heap[k]? = some (.cells cs t (0, 0))
theorem Own.gr {α : Type} {w w' : World} {lo : Nat} {e : TypeId} {sz : Nat} {enc : α → List Value} {A : Option Addr} {n c : Nat} {l : List α} (h : Own w lo e sz enc A n c l) (hg : w.grownBy w' (ownB A c)) : GrT w w' e := by
  refine ⟨_, hg, fun k hk => ?_⟩
  rcases h.row with ⟨_, rfl⟩ | ⟨hc, g, cur, rfl, _, h2, _⟩
  · simp [ownB] at hk
  · simp [ownB, Nat.pos_iff_ne_zero.1 hc] at hk
    subst hk
    exact ⟨cur, h2⟩
theorem Blk.gr {w w' : World} {b : Nat} {t : TypeId} {cs : List Value} (h : Blk w b t cs) (hg : w.grownBy w' (some b)) : GrT w w' t := ⟨_, hg, fun k hk => by cases hk; exact ⟨_, h⟩⟩
theorem Own.grT {α : Type} {w w' : World} {t lo : Nat} {e : TypeId} {sz : Nat} {enc : α → List Value} {A : Option Addr} {n c : Nat} {l : List α} (h : Own w lo e sz enc A n c l) (hG : GrT w w' t) (hne : Nat.beq t e = false) : Own w' lo e sz enc A n c l := by
  obtain ⟨row, hg, hr⟩ := hG
  refine h.grown hg ?_
  rcases h.row with ⟨_, rfl⟩ | ⟨hc, g, cur, rfl, _, h2, _⟩
  · simp [ownB]
  · right
    rintro rfl
    obtain ⟨cs, h3⟩ := hr g (by simp [ownB, Nat.pos_iff_ne_zero.1 hc])
    rw [h2] at h3
    injection h3 with h3
    injection h3 with _ h _
    subst h
    simp at hne
theorem Blk.grT {w w' : World} {b t : Nat} {t' : TypeId} {cs : List Value} (h : Blk w b t' cs) (hG : GrT w w' t) (hne : Nat.beq t t' = false) : Blk w' b t' cs := by
  obtain ⟨row, hg, hr⟩ := hG
  refine h.grown hg ?_
  rintro rfl
  obtain ⟨cs, h3⟩ := hr b rfl
  unfold Blk at h
  rw [h] at h3
  injection h3 with h3
  injection h3 with _ h _
  subst h
  simp at hne

theorem Own.lt_size {α : Type} {w : World} {lo : Nat} {e : TypeId} {sz : Nat} {enc : α → List Value} {A : Option Addr} {n c : Nat} {l : List α} (h : Own w lo e sz enc A n c l) : ∀ k, ownB A c = some k → k < w.heap.size := by
  intro k hk
  rcases h.row with ⟨_, rfl⟩ | ⟨hc, g, cur, rfl, _, h2, _⟩
  · simp [ownB] at hk
  · simp [ownB, Nat.pos_iff_ne_zero.1 hc] at hk
    subst hk
    exact (Array.getElem?_eq_some_iff.1 h2).1

structure All2 {α β : Type} (R : α → β → Prop) (xs : List α) (ys : List β) : Prop where
  len : xs.length = ys.length
  get : ∀ (i : Nat) (h1 : i < xs.length) (h2 : i < ys.length), R xs[i] ys[i]
theorem All2.mono {α β : Type} {R R' : α → β → Prop} {xs : List α} {ys : List β} (h : All2 R xs ys) (hm : ∀ a b, R a b → R' a b) : All2 R' xs ys := ⟨h.len, fun i h1 h2 => hm _ _ (h.get i h1 h2)⟩
theorem All2.nil {α β : Type} {R : α → β → Prop} : All2 R ([] : List α) ([] : List β) := ⟨rfl, fun i h1 h2 => by simp at h1⟩
theorem All2.snoc {α β : Type} {R : α → β → Prop} {xs : List α} {ys : List β} (h : All2 R xs ys) {x : α} {y : β} (hr : R x y) : All2 R (xs ++ [x]) (ys ++ [y]) := by
  refine ⟨by simp [h.len], fun i h1 h2 => ?_⟩
  have hl := h.len
  by_cases hi : i < xs.length
  · rw [List.getElem_append_left hi, List.getElem_append_left (by omega)]
    exact h.get i hi (by omega)
  · have e : i = xs.length := by simp at h1; omega
    subst e
    simp [hl]
    exact hr

/-- a list's cells -/
structure LRow where
  Cpu : Int
  Zone : Int
  Ty : Int
  Pages : Sli
def encL (r : LRow) : List Value := [.int .i64 r.Cpu, .int .i64 r.Zone, .int .i64 r.Ty, r.Pages.v]
instance : Enc encL 4 := ⟨fun _ => rfl, fun r u hu => by simp [encL, Sli.v] at hu; rcases hu with rfl | rfl | rfl | rfl <;> rfl⟩
structure HRow where
  Zones : Sli
  Mins : Sli
  Cpus : Int
  Lists : Sli
  Live : Sli
def encH (r : HRow) : List Value := [r.Zones.v, r.Mins.v, .int .i64 r.Cpus, r.Lists.v, r.Live.v]
instance : Enc encH 5 := ⟨fun _ => rfl, fun r u hu => by simp [encH, Sli.v] at hu; rcases hu with rfl | rfl | rfl | rfl | rfl <;> rfl⟩
def HRow.zero : HRow := ⟨.nil, .nil, 0, .nil, .nil⟩
def Heap.zero : Heap := ⟨[], [], 0, [], []⟩

structure RdL (w : World) (r : LRow) (l : PList) : Prop where
  cpu : r.Cpu = l.Cpu
  zone : r.Zone = l.Zone
  ty : r.Ty = l.Ty
  pages : Sl w 1 encI r.Pages.A r.Pages.n l.Pages
structure OwnL (w : World) (lo : Nat) (r : LRow) (l : PList) : Prop where
  cpu : r.Cpu = l.Cpu
  zone : r.Zone = l.Zone
  ty : r.Ty = l.Ty
  pages : Own w lo 3 1 encI r.Pages.A r.Pages.n r.Pages.c l.Pages
theorem RdL.ext {w w' : World} {r : LRow} {l : PList} (h : RdL w r l) (hx : Ext w w') : RdL w' r l := ⟨h.cpu, h.zone, h.ty, h.pages.ext hx⟩
theorem OwnL.ext {w w' : World} {lo : Nat} {r : LRow} {l : PList} (h : OwnL w lo r l) (hx : Ext w w') : OwnL w' lo r l := ⟨h.cpu, h.zone, h.ty, h.pages.ext hx⟩
theorem OwnL.low {w : World} {lo lo' : Nat} {r : LRow} {l : PList} (h : OwnL w lo r l) (hl : lo' ≤ lo) : OwnL w lo' r l := ⟨h.cpu, h.zone, h.ty, h.pages.low hl⟩
theorem OwnL.rd {w : World} {lo : Nat} {r : LRow} {l : PList} (h : OwnL w lo r l) : RdL w r l := ⟨h.cpu, h.zone, h.ty, h.pages.sl⟩
theorem OwnL.grT {w w' : World} {t lo : Nat} {r : LRow} {l : PList} (h : OwnL w lo r l) (hG : GrT w w' t) (hne : Nat.beq t 3 = false) : OwnL w' lo r l := ⟨h.cpu, h.zone, h.ty, h.pages.grT hG hne⟩
theorem OwnZ.grT {w w' : World} {t lo : Nat} {r : ZRow} {z : Zone} (h : OwnZ w lo r z) (hG : GrT w w' t) (hne : (Nat.beq t 3 || Nat.beq t 55) = false) : OwnZ w' lo r z := by
  simp only [Bool.or_eq_false_iff] at hne
  exact ⟨h.from_, h.to_, h.free.grT hG hne.2, h.types.grT hG hne.1⟩

/-- the zones of a heap: their rows, read -/
structure RdZs (w : World) (s : Sli) (zs : List ZRow) (l : List Zone) : Prop where
  row : Sl w 4 encZ s.A s.n zs
  each : All2 (RdZ w) zs l
structure OwnZs (w : World) (lo : Nat) (s : Sli) (zs : List ZRow) (l : List Zone) : Prop where
  row : Own w lo 25 4 encZ s.A s.n s.c zs
  each : All2 (OwnZ w lo) zs l
structure RdLs (w : World) (s : Sli) (ls : List LRow) (l : List PList) : Prop where
  row : Sl w 4 encL s.A s.n ls
  each : All2 (RdL w) ls l
structure OwnLs (w : World) (lo : Nat) (s : Sli) (ls : List LRow) (l : List PList) : Prop where
  row : Own w lo 84 4 encL s.A s.n s.c ls
  each : All2 (OwnL w lo) ls l
section
variable {w w' : World} {lo lo' t : Nat} {s : Sli} {zs : List ZRow} {z : List Zone} {ls : List LRow} {l : List PList}
theorem RdZs.ext (h : RdZs w s zs z) (hx : Ext w w') : RdZs w' s zs z := ⟨h.row.ext hx, h.each.mono fun _ _ h => h.ext hx⟩
theorem RdLs.ext (h : RdLs w s ls l) (hx : Ext w w') : RdLs w' s ls l := ⟨h.row.ext hx, h.each.mono fun _ _ h => h.ext hx⟩
theorem OwnZs.ext (h : OwnZs w lo s zs z) (hx : Ext w w') : OwnZs w' lo s zs z := ⟨h.row.ext hx, h.each.mono fun _ _ h => h.ext hx⟩
theorem OwnLs.ext (h : OwnLs w lo s ls l) (hx : Ext w w') : OwnLs w' lo s ls l := ⟨h.row.ext hx, h.each.mono fun _ _ h => h.ext hx⟩
theorem OwnZs.low (h : OwnZs w lo s zs z) (hl : lo' ≤ lo) : OwnZs w lo' s zs z := ⟨h.row.low hl, h.each.mono fun _ _ h => h.low hl⟩
theorem OwnLs.low (h : OwnLs w lo s ls l) (hl : lo' ≤ lo) : OwnLs w lo' s ls l := ⟨h.row.low hl, h.each.mono fun _ _ h => h.low hl⟩
theorem OwnZs.rd (h : OwnZs w lo s zs z) : RdZs w s zs z := ⟨h.row.sl, h.each.mono fun _ _ h => h.rd⟩
theorem OwnLs.rd (h : OwnLs w lo s ls l) : RdLs w s ls l := ⟨h.row.sl, h.each.mono fun _ _ h => h.rd⟩
theorem OwnZs.grT (h : OwnZs w lo s zs z) (hG : GrT w w' t) (hne : (Nat.beq t 25 || (Nat.beq t 3 || Nat.beq t 55)) = false) : OwnZs w' lo s zs z := by
  rw [Bool.or_eq_false_iff] at hne
  exact ⟨h.row.grT hG hne.1, h.each.mono fun _ _ h => h.grT hG hne.2⟩
theorem OwnLs.grT (h : OwnLs w lo s ls l) (hG : GrT w w' t) (hne : (Nat.beq t 84 || Nat.beq t 3) = false) : OwnLs w' lo s ls l := by
  rw [Bool.or_eq_false_iff] at hne
  exact ⟨h.row.grT hG hne.1, h.each.mono fun _ _ h => h.grT hG hne.2⟩
theorem OwnZs.nil (w : World) (lo : Nat) : OwnZs w lo .nil [] [] := ⟨Own.nil_ _ _ _ _ _ _, .nil⟩
theorem OwnLs.nil (w : World) (lo : Nat) : OwnLs w lo .nil [] [] := ⟨Own.nil_ _ _ _ _ _ _, .nil⟩
theorem RdZs.len (h : RdZs w s zs z) : zs.length = s.n ∧ z.length = s.n := ⟨h.row.len, by rw [← h.each.len, h.row.len]⟩
theorem RdLs.len (h : RdLs w s ls l) : ls.length = s.n ∧ l.length = s.n := ⟨h.row.len, by rw [← h.each.len, h.row.len]⟩
end

/-- a heap, read -/
structure RdH (w : World) (r : HRow) (h : Heap) : Prop where
  cpus : r.Cpus = h.Cpus
  mins : Sl w 1 encI r.Mins.A r.Mins.n h.Mins
  live : Sl w 3 encBk r.Live.A r.Live.n h.Live
  zones : ∃ zs, RdZs w r.Zones zs h.Zones
  lists : ∃ ls, RdLs w r.Lists ls h.Lists
structure OwnH (w : World) (lo : Nat) (r : HRow) (h : Heap) : Prop where
  cpus : r.Cpus = h.Cpus
  mins : Own w lo 3 1 encI r.Mins.A r.Mins.n r.Mins.c h.Mins
  live : Own w lo 55 3 encBk r.Live.A r.Live.n r.Live.c h.Live
  zones : ∃ zs, OwnZs w lo r.Zones zs h.Zones
  lists : ∃ ls, OwnLs w lo r.Lists ls h.Lists
section
variable {w w' : World} {lo lo' t : Nat} {r : HRow} {h : Heap}
theorem RdH.ext (a : RdH w r h) (hx : Ext w w') : RdH w' r h := by
  obtain ⟨zs, hz⟩ := a.zones
  obtain ⟨ls, hl⟩ := a.lists
  exact ⟨a.cpus, a.mins.ext hx, a.live.ext hx, ⟨zs, hz.ext hx⟩, ⟨ls, hl.ext hx⟩⟩
theorem OwnH.ext (a : OwnH w lo r h) (hx : Ext w w') : OwnH w' lo r h := by
  obtain ⟨zs, hz⟩ := a.zones
  obtain ⟨ls, hl⟩ := a.lists
  exact ⟨a.cpus, a.mins.ext hx, a.live.ext hx, ⟨zs, hz.ext hx⟩, ⟨ls, hl.ext hx⟩⟩
theorem OwnH.low (a : OwnH w lo r h) (hl' : lo' ≤ lo) : OwnH w lo' r h := by
  obtain ⟨zs, hz⟩ := a.zones
  obtain ⟨ls, hl⟩ := a.lists
  exact ⟨a.cpus, a.mins.low hl', a.live.low hl', ⟨zs, hz.low hl'⟩, ⟨ls, hl.low hl'⟩⟩
theorem OwnH.rd (a : OwnH w lo r h) : RdH w r h := by
  obtain ⟨zs, hz⟩ := a.zones
  obtain ⟨ls, hl⟩ := a.lists
  exact ⟨a.cpus, a.mins.sl, a.live.sl, ⟨zs, hz.rd⟩, ⟨ls, hl.rd⟩⟩
theorem OwnH.grT (a : OwnH w lo r h) (hG : GrT w w' t) (hne : (Nat.beq t 3 || (Nat.beq t 55 || (Nat.beq t 25 || Nat.beq t 84))) = false) : OwnH w' lo r h := by
  obtain ⟨zs, hz⟩ := a.zones
  obtain ⟨ls, hl⟩ := a.lists
  simp only [Bool.or_eq_false_iff] at hne
  obtain ⟨h1, h2, h3, h4⟩ := hne
  exact ⟨a.cpus, a.mins.grT hG h1, a.live.grT hG h2, ⟨zs, hz.grT hG (by simp [h1, h2, h3])⟩, ⟨ls, hl.grT hG (by simp [h1, h4])⟩⟩
theorem OwnH.zero (w : World) (lo : Nat) : OwnH w lo .zero .zero := ⟨rfl, Own.nil_ _ _ _ _ _ _, Own.nil_ _ _ _ _ _ _, ⟨[], .nil _ _⟩, ⟨[], .nil _ _⟩⟩
end

/-- no list of a heap is longer than memory -/
structure Heap.small (h : Heap) : Prop where
  zones : h.Zones.length * 64 ≤ 140737488355328
  mins : h.Mins.length * 8 ≤ 140737488355328
  lists : h.Lists.length * 48 ≤ 140737488355328
  live : h.Live.length * 24 ≤ 140737488355328
  free : ∀ z ∈ h.Zones, z.Free.length * 24 ≤ 140737488355328 ∧ z.Types.length * 8 ≤ 140737488355328
  pages : ∀ l ∈ h.Lists, l.Pages.length * 8 ≤ 140737488355328
end Go.Proofs.YtfommgdbahemfaaDoor
