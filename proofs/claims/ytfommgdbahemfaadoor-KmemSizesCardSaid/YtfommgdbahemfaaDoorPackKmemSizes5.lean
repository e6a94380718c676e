/-
  How a heap of pages lies in memory: what is read, what is the call's own; changes in a block of one type leave blocks of other types as they were.
-/
import Derived.Test.YtfommgdbahemfaaDoorPackKmemSizes4
set_option linter.unusedVariables false
namespace Go.Proofs.YtfommgdbahemfaaDoor
open Go.RowKit

/-- a change in one block alone, of element type t -/
def GrT (w w' : World) (t : TypeId) : Prop := ∃ row, w.grownBy w' row ∧ ∀ k, row = some k → ∃ cs, w.heap[k]? = some (.cells cs t (0, 0))
theorem Own.gr {α : Type} {w w' : World} {lo : Nat} {e : TypeId} {sz : Nat} {enc : α → List Value} {A : Option Addr} {n c : Nat} {l : List α} (h : Own w lo e sz enc A n c l) (hg : w.grownBy w' (ownB A c)) : GrT w w' e := by
  refine ⟨_, hg, fun k hk => ?_⟩
  rcases h.row with ⟨_, rfl⟩ | ⟨hc, g, cur, rfl, _, h2, _⟩
  · simp [ownB] at hk
  · simp [ownB, Nat.pos_iff_ne_zero.1 hc] at hk
    subst hk
    exact ⟨cur, h2⟩
theorem Blk.gr {w w' : World} {b : Nat} {t : TypeId} {cs : List Value} (h : Blk w b t cs) (hg : w.grownBy w' (some b)) : GrT w w' t := ⟨_, hg, fun k hk => by cases hk; exact ⟨_, h⟩⟩
theorem Own.grT {α : Type} {w w' : World} {t lo : Nat} {e : TypeId} {sz : Nat} {enc : α → List Value} {A : Option Addr} {n c : Nat} {l : List α} (h : Own w lo e sz enc A n c l) (hG : GrT w w' t) (hne : Nat.beq t e = false) : Own w' lo e sz enc A n c l := by
  obtain ⟨row, hg, hr⟩ := hG
  refine h.grown hg ?_
  rcases h.row with ⟨_, rfl⟩ | ⟨hc, g, cur, rfl, _, h2, _⟩
  · simp [ownB]
  · right
    rintro rfl
    obtain ⟨cs, h3⟩ := hr g (by simp [ownB, Nat.pos_iff_ne_zero.1 hc])
    rw [h2] at h3
    injection h3 with h3
    injection h3 with _ h _
    subst h
    simp at hne
theorem Blk.grT {w w' : World} {b t : Nat} {t' : TypeId} {cs : List Value} (h : Blk w b t' cs) (hG : GrT w w' t) (hne : Nat.beq t t' = false) : Blk w' b t' cs := by
  obtain ⟨row, hg, hr⟩ := hG
  refine h.grown hg ?_
  rintro rfl
  obtain ⟨cs, h3⟩ := hr b rfl
  unfold Blk at h
  rw [h] at h3
  injection h3 with h3
  injection h3 with _ h _
  subst h
  simp at hne

theorem Own.lt_size {α : Type} {w : World} {lo : Nat} {e : TypeId} {sz : Nat} {enc : α → List Value} {A : Option Addr} {n c : Nat} {l : List α} (h : Own w lo e sz enc A n c l) : ∀ k, ownB A c = some k → k < w.heap.size := by
  intro k hk
  rcases h.row with ⟨_, rfl⟩ | ⟨hc, g, cur, rfl, _, h2, _⟩
  · simp [ownB] at hk
  · simp [ownB, Nat.pos_iff_ne_zero.1 hc] at hk
    subst hk
    exact (Array.getElem?_eq_some_iff.1 h2).1

structure All2 {α β : Type} (R : α → β → Prop) (xs : List α) (ys : List β) : Prop where
  len : xs.length = ys.length
  get : ∀ (i : Nat) (h1 : i < xs.length) (h2 : i < ys.length), R xs[i] ys[i]
theorem All2.mono {α β : Type} {R R' : α → β → Prop} {xs : List α} {ys : List β} (h : All2 R xs ys) (hm : ∀ a b, R a b → R' a b) : All2 R' xs ys := ⟨h.len, fun i h1 h2 => hm _ _ (h.get i h1 h2)⟩
theorem All2.nil {α β : Type} {R : α → β → Prop} : All2 R ([] : List α) ([] : List β) := ⟨rfl, fun i h1 h2 => by simp at h1⟩
theorem All2.snoc {α β : Type} {R : α → β → Prop} {xs : List α} {ys : List β} (h : All2 R xs ys) {x : α} {y : β} (hr : R x y) : All2 R (xs ++ [x]) (ys ++ [y]) := by
  refine ⟨by simp [h.len], fun i h1 h2 => ?_⟩
  have hl := h.len
  by_cases hi : i < xs.length
  · rw [List.getElem_append_left hi, List.getElem_append_left (by omega)]
    exact h.get i hi (by omega)
  · have e : i = xs.length := by simp at h1; omega
    subst e
    simp [hl]
    exact hr

/-- a list's cells -/
structure LRow where
  Cpu : Int
  Zone : Int
  Ty : Int
  Pages : Sli
def encL (r : LRow) : List Value := [.int .i64 r.Cpu, .int .i64 r.Zone, .int .i64 r.Ty, r.Pages.v]
instance : Enc encL 4 := ⟨fun _ => rfl, fun r u hu => by simp [encL, Sli.v] at hu; rcases hu with rfl | rfl | rfl | rfl <;> rfl⟩
structure HRow where
  Zones : Sli
  Mins : Sli
  Cpus : Int
  Lists : Sli
  Live : Sli
def encH (r : HRow) : List Value := [r.Zones.v, r.Mins.v, .int .i64 r.Cpus, r.Lists.v, r.Live.v]
instance : Enc encH 5 := ⟨fun _ => rfl, fun r u hu => by simp [encH, Sli.v] at hu; rcases hu with rfl | rfl | rfl | rfl | rfl <;> rfl⟩
def HRow.zero : HRow := ⟨.nil, .nil, 0, .nil, .nil⟩
def Heap.zero : Heap := ⟨[], [], 0, [], []⟩

structure RdL (w : World) (r : LRow) (l : PList) : Prop where
  cpu : r.Cpu = l.Cpu
  zone : r.Zone = l.Zone
  ty : r.Ty = l.Ty
  pages : Sl w 1 encI r.Pages.A r.Pages.n l.Pages
structure OwnL (w : World) (lo : Nat) (r : LRow) (l : PList) : Prop where
  cpu : r.Cpu = l.Cpu
  zone : r.Zone = l.Zone
  ty : r.Ty = l.Ty
  pages : Own w lo 3 1 encI r.Pages.A r.Pages.n r.Pages.c l.Pages
theorem RdL.ext {w w' : World} {r : LRow} {l : PList} (h : RdL w r l) (hx : Ext w w') : RdL w' r l := ⟨h.cpu, h.zone, h.ty, h.pages.ext hx⟩
theorem OwnL.ext {w w' : World} {lo : Nat} {r : LRow} {l : PList} (h : OwnL w lo r l) (hx : Ext w w') : OwnL w' lo r l := ⟨h.cpu, h.zone, h.ty, h.pages.ext hx⟩
theorem OwnL.low {w : World} {lo lo' : Nat} {r : LRow} {l : PList} (h : OwnL w lo r l) (hl : lo' ≤ lo) : OwnL w lo' r l := ⟨h.cpu, h.zone, h.ty, h.pages.low hl⟩
theorem OwnL.rd {w : World} {lo : Nat} {r : LRow} {l : PList} (h : OwnL w lo r l) : RdL w r l := ⟨h.cpu, h.zone, h.ty, h.pages.sl⟩
theorem OwnL.grT {w w' : World} {t lo : Nat} {r : LRow} {l : PList} (h : OwnL w lo r l) (hG : GrT w w' t) (hne : Nat.beq t 3 = false) : OwnL w' lo r l := ⟨h.cpu, h.zone, h.ty, h.pages.grT hG hne⟩
theorem OwnZ.grT {w w' : World} {t lo : Nat} {r : ZRow} {z : Zone} (h : OwnZ w lo r z) (hG : GrT w w' t) (hne : (Nat.beq t 3 || Nat.beq t 55) = false) : OwnZ w' lo r z := by
  simp only [Bool.or_eq_false_iff] at hne
  exact ⟨h.from_, h.to_, h.free.grT hG hne.2, h.types.grT hG hne.1⟩

/-- the zones of a heap: their rows, read -/
structure RdZs (w : World) (s : Sli) (zs : List ZRow) (l : List Zone) : Prop where
  row : Sl w 4 encZ s.A s.n zs
  each : All2 (RdZ w) zs l
structure OwnZs (w : World) (lo : Nat) (s : Sli) (zs : List ZRow) (l : List Zone) : Prop where
  row : Own w lo 25 4 encZ s.A s.n s.c zs
  each : All2 (OwnZ w lo) zs l
structure RdLs (w : World) (s : Sli) (ls : List LRow) (l : List PList) : Prop where
  row : Sl w 4 encL s.A s.n ls
  each : All2 (RdL w) ls l
structure OwnLs (w : World) (lo : Nat) (s : Sli) (ls : List LRow) (l : List PList) : Prop where
  row : Own w lo 84 4 encL s.A s.n s.c ls
  each : All2 (OwnL w lo) ls l
section
variable {w w' : World} {lo lo' t : Nat} {s : Sli} {zs : List ZRow} {z : List Zone} {ls : List LRow} {l : List PList}
theorem RdZs.ext (h : RdZs w s zs z) (hx : Ext w w') : RdZs w' s zs z := ⟨h.row.ext hx, h.each.mono fun _ _ h => h.ext hx⟩
theorem RdLs.ext (h : RdLs w s ls l) (hx : Ext w w') : RdLs w' s ls l := ⟨h.row.ext hx, h.each.mono fun _ _ h => h.ext hx⟩
theorem OwnZs.ext (h : OwnZs w lo s zs z) (hx : Ext w w') : OwnZs w' lo s zs z := ⟨h.row.ext hx, h.each.mono fun _ _ h => h.ext hx⟩
theorem OwnLs.ext (h : OwnLs w lo s ls l) (hx : Ext w w') : OwnLs w' lo s ls l := ⟨h.row.ext hx, h.each.mono fun _ _ h => h.ext hx⟩
theorem OwnZs.low (h : OwnZs w lo s zs z) (hl : lo' ≤ lo) : OwnZs w lo' s zs z := ⟨h.row.low hl, h.each.mono fun _ _ h => h.low hl⟩
theorem OwnLs.low (h : OwnLs w lo s ls l) (hl : lo' ≤ lo) : OwnLs w lo' s ls l := ⟨h.row.low hl, h.each.mono fun _ _ h => h.low hl⟩
theorem OwnZs.rd (h : OwnZs w lo s zs z) : RdZs w s zs z := ⟨h.row.sl, h.each.mono fun _ _ h => h.rd⟩
theorem OwnLs.rd (h : OwnLs w lo s ls l) : RdLs w s ls l := ⟨h.row.sl, h.each.mono fun _ _ h => h.rd⟩
theorem OwnZs.grT (h : OwnZs w lo s zs z) (hG : GrT w w' t) (hne : (Nat.beq t 25 || (Nat.beq t 3 || Nat.beq t 55)) = false) : OwnZs w' lo s zs z := by
  rw [Bool.or_eq_false_iff] at hne
  exact ⟨h.row.grT hG hne.1, h.each.mono fun _ _ h => h.grT hG hne.2⟩
theorem OwnLs.grT (h : OwnLs w lo s ls l) (hG : GrT w w' t) (hne : (Nat.beq t 84 || Nat.beq t 3) = false) : OwnLs w' lo s ls l := by
  rw [Bool.or_eq_false_iff] at hne
  exact ⟨h.row.grT hG hne.1, h.each.mono fun _ _ h => h.grT hG hne.2⟩
theorem OwnZs.nil (w : World) (lo : Nat) : OwnZs w lo .nil [] [] := ⟨Own.nil_ _ _ _ _ _ _, .nil⟩
theorem OwnLs.nil (w : World) (lo : Nat) : OwnLs w lo .nil [] [] := ⟨Own.nil_ _ _ _ _ _ _, .nil⟩
theorem RdZs.len (h : RdZs w s zs z) : zs.length = s.n ∧ z.length = s.n := ⟨h.row.len, by rw [← h.each.len, h.row.len]⟩
theorem RdLs.len (h : RdLs w s ls l) : ls.length = s.n ∧ l.length = s.n := ⟨h.row.len, by rw [← h.each.len, h.row.len]⟩
end

/-- a heap, read -/
structure RdH (w : World) (r : HRow) (h : Heap) : Prop where
  cpus : r.Cpus = h.Cpus
  mins : Sl w 1 encI r.Mins.A r.Mins.n h.Mins
  live : Sl w 3 encBk r.Live.A r.Live.n h.Live
  zones : ∃ zs, RdZs w r.Zones zs h.Zones
  lists : ∃ ls, RdLs w r.Lists ls h.Lists
structure OwnH (w : World) (lo : Nat) (r : HRow) (h : Heap) : Prop where
  cpus : r.Cpus = h.Cpus
  mins : Own w lo 3 1 encI r.Mins.A r.Mins.n r.Mins.c h.Mins
  live : Own w lo 55 3 encBk r.Live.A r.Live.n r.Live.c h.Live
  zones : ∃ zs, OwnZs w lo r.Zones zs h.Zones
  lists : ∃ ls, OwnLs w lo r.Lists ls h.Lists
section
variable {w w' : World} {lo lo' t : Nat} {r : HRow} {h : Heap}
theorem RdH.ext (a : RdH w r h) (hx : Ext w w') : RdH w' r h := by
  obtain ⟨zs, hz⟩ := a.zones
  obtain ⟨ls, hl⟩ := a.lists
  exact ⟨a.cpus, a.mins.ext hx, a.live.ext hx, ⟨zs, hz.ext hx⟩, ⟨ls, hl.ext hx⟩⟩
theorem OwnH.ext (a : OwnH w lo r h) (hx : Ext w w') : OwnH w' lo r h := by
  obtain ⟨zs, hz⟩ := a.zones
  obtain ⟨ls, hl⟩ := a.lists
  exact ⟨a.cpus, a.mins.ext hx, a.live.ext hx, ⟨zs, hz.ext hx⟩, ⟨ls, hl.ext hx⟩⟩
theorem OwnH.low (a : OwnH w lo r h) (hl' : lo' ≤ lo) : OwnH w lo' r h := by
  obtain ⟨zs, hz⟩ := a.zones
  obtain ⟨ls, hl⟩ := a.lists
  exact ⟨a.cpus, a.mins.low hl', a.live.low hl', ⟨zs, hz.low hl'⟩, ⟨ls, hl.low hl'⟩⟩
theorem OwnH.rd (a : OwnH w lo r h) : RdH w r h := by
  obtain ⟨zs, hz⟩ := a.zones
  obtain ⟨ls, hl⟩ := a.lists
  exact ⟨a.cpus, a.mins.sl, a.live.sl, ⟨zs, hz.rd⟩, ⟨ls, hl.rd⟩⟩
theorem OwnH.grT (a : OwnH w lo r h) (hG : GrT w w' t) (hne : (Nat.beq t 3 || (Nat.beq t 55 || (Nat.beq t 25 || Nat.beq t 84))) = false) : OwnH w' lo r h := by
  obtain ⟨zs, hz⟩ := a.zones
  obtain ⟨ls, hl⟩ := a.lists
  simp only [Bool.or_eq_false_iff] at hne
  obtain ⟨h1, h2, h3, h4⟩ := hne
  exact ⟨a.cpus, a.mins.grT hG h1, a.live.grT hG h2, ⟨zs, hz.grT hG (by simp [h1, h2, h3])⟩, ⟨ls, hl.grT hG (by simp [h1, h4])⟩⟩
theorem OwnH.zero (w : World) (lo : Nat) : OwnH w lo .zero .zero := ⟨rfl, Own.nil_ _ _ _ _ _ _, Own.nil_ _ _ _ _ _ _, ⟨[], .nil _ _⟩, ⟨[], .nil _ _⟩⟩
end

/-- no list of a heap is longer than memory -/
structure Heap.small (h : Heap) : Prop where
  zones : h.Zones.length * 64 ≤ 140737488355328
  mins : h.Mins.length * 8 ≤ 140737488355328
  lists : h.Lists.length * 48 ≤ 140737488355328
  live : h.Live.length * 24 ≤ 140737488355328
  free : ∀ z ∈ h.Zones, z.Free.length * 24 ≤ 140737488355328 ∧ z.Types.length * 8 ≤ 140737488355328
  pages : ∀ l ∈ h.Lists, l.Pages.length * 8 ≤ 140737488355328
end Go.Proofs.YtfommgdbahemfaaDoor

/-
  Contracts: pages.Copy, sameHeap; the law PagesCopies.
-/
set_option linter.unusedVariables false
namespace Go.Proofs.YtfommgdbahemfaaDoor
open Go.RowKit

theorem one_h (r : HRow) : ∀ v ∈ encH r, v.oneCell' = true := Enc.one (enc := encH) r
theorem one_l (r : LRow) : ∀ v ∈ encL r, v.oneCell' = true := Enc.one (enc := encL) r

/-- the pages of two lists do not lie in one block -/
def SepL (ls : List LRow) : Prop := ∀ (i j : Nat) (hi : i < ls.length) (hj : j < ls.length), i ≠ j → ∀ g, ownB ls[i].Pages.A ls[i].Pages.c = some g → ownB ls[j].Pages.A ls[j].Pages.c ≠ some g
/-- the pages of the lists lie apart from each other, and from the other lists of integers -/
structure SepM (m : Sli) (zs : List ZRow) (ls : List LRow) : Prop where
  mins : ∀ (i : Nat) (hi : i < ls.length) (g : Nat), ownB ls[i].Pages.A ls[i].Pages.c = some g → ownB m.A m.c ≠ some g
  types : ∀ (i : Nat) (hi : i < ls.length) (g : Nat), ownB ls[i].Pages.A ls[i].Pages.c = some g → ∀ u ∈ zs, ownB u.Types.A u.Types.c ≠ some g
  sep : SepL ls
theorem SepM.nil (m : Sli) (zs : List ZRow) : SepM m zs [] := ⟨fun i hi => by simp at hi, fun i hi => by simp at hi, fun i j hi => by simp at hi⟩
theorem SepM.snoc {w : World} {lo : Nat} {m : Sli} {zs : List ZRow} {ls : List LRow} {s li : Sli} {x : List Int} {zl : List Zone} {L : List PList} {y : LRow} (h : SepM m zs ls) (hm : Own w lo 3 1 encI m.A m.n m.c x) (hz : OwnZs w lo s zs zl) (hl : OwnLs w lo li ls L) (hy : ∀ g, ownB y.Pages.A y.Pages.c = some g → w.heap.size ≤ g) : SepM m zs (ls ++ [y]) := by
  have hlt : ∀ (i : Nat) (hi : i < ls.length) (g : Nat), ownB ls[i].Pages.A ls[i].Pages.c = some g → g < w.heap.size := fun i hi g e => (hl.each.get i hi (by rw [← hl.each.len]; exact hi)).pages.lt_size g e
  have key : ∀ (i : Nat) (hi : i < (ls ++ [y]).length), (∃ h : i < ls.length, (ls ++ [y])[i] = ls[i]) ∨ (i = ls.length ∧ (ls ++ [y])[i] = y) := fun i hi => by
    by_cases e : i < ls.length
    · exact .inl ⟨e, List.getElem_append_left e⟩
    · have : i = ls.length := by simp at hi; omega
      subst this
      exact .inr ⟨rfl, by simp⟩
  refine ⟨fun i hi g e => ?_, fun i hi g e u hu => ?_, fun i j hi hj hij g e e2 => ?_⟩
  · rcases key i hi with ⟨h1, h2⟩ | ⟨h1, h2⟩
    · rw [h2] at e; exact h.mins i h1 g e
    · rw [h2] at e; intro e3; have := hm.lt_size g e3; have := hy g e; omega
  · rcases key i hi with ⟨h1, h2⟩ | ⟨h1, h2⟩
    · rw [h2] at e; exact h.types i h1 g e u hu
    · rw [h2] at e
      intro e3
      obtain ⟨j, hj, rfl⟩ := List.getElem_of_mem hu
      have := (hz.each.get j hj (by rw [← hz.each.len]; exact hj)).types.lt_size g e3
      have := hy g e
      omega
  · rcases key i hi with ⟨h1, h2⟩ | ⟨h1, h2⟩
    · rw [h2] at e
      rcases key j hj with ⟨h3, h4⟩ | ⟨h3, h4⟩
      · rw [h4] at e2; exact h.sep i j h1 h3 hij g e e2
      · rw [h4] at e2; have := hlt i h1 g e; have := hy g e2; omega
    · rw [h2] at e
      rcases key j hj with ⟨h3, h4⟩ | ⟨h3, h4⟩
      · rw [h4] at e2; have := hlt j h3 g e2; have := hy g e; omega
      · omega
/-- what was given away lies apart from what is free -/
def SepF (lv : Sli) (zs : List ZRow) : Prop := ∀ u ∈ zs, ∀ g, ownB u.Free.A u.Free.c = some g → ownB lv.A lv.c ≠ some g
theorem SepF.nil (lv : Sli) : SepF lv [] := fun u hu => by simp at hu
theorem SepF.snoc {w : World} {lo : Nat} {lv : Sli} {zs : List ZRow} {x : List Block} {u : ZRow} (h : SepF lv zs) (hl : Own w lo 55 3 encBk lv.A lv.n lv.c x) (hu : ∀ g, ownB u.Free.A u.Free.c = some g → w.heap.size ≤ g) : SepF lv (zs ++ [u]) := fun y hy g e e2 => by
  rcases List.mem_append.1 hy with hy | hy
  · exact h y hy g e e2
  · simp at hy; subst hy
    have := hu g e
    have := hl.lt_size g e2
    omega
structure OwnHS (w : World) (lo : Nat) (r : HRow) (h : Heap) : Prop where
  own : OwnH w lo r h
  all : ∃ zs ls, OwnZs w lo r.Zones zs h.Zones ∧ OwnLs w lo r.Lists ls h.Lists ∧ SepM r.Mins zs ls ∧ SepF r.Live zs

set_option maxHeartbeats 4000000 in
theorem HcopyS_ans (r : HRow) (h : Heap) (w : World) (hr : RdH w r h) (hs : h.small) :
    Ans Tryd.prog 44 [.agg (encH r).toArray] w fun v w' => ∃ s, v = .agg (encH s).toArray ∧ OwnHS w' w.heap.size s h := by
  refine ans_of Tryd.func44 rfl Tryd.ntmps44 rfl ?_
  refine CW.seq (CW.region (SW.box rfl rfl fun b1 w1 hw hb1b hb1 => ?_))
  refine SW.alloc rfl fun b2 w2 hw2 hb2b hb2 => ?_
  have hb2w : w.heap.size ≤ b2 := Nat.le_trans hw.size hb2b
  have hne2 : b2 ≠ b1 := by have := hb1.lt; omega
  (replace hw := Ext.trans hw hw2; replace hb1 := hb1.ext hw2)
  obtain ⟨zs, hz⟩ := hr.zones
  obtain ⟨ls, hl⟩ := hr.lists
  have hml := hr.mins.len
  have hvl := hr.live.len
  have s1 := hs.mins
  have s2 := hs.live
  have s3 := hs.zones
  have s4 := hs.lists
  obtain ⟨z1, z2⟩ := hz.len
  obtain ⟨l1, l2⟩ := hl.len
  repeat' (first | (show CW _ _ _ _ _ _; refine CW.seq ?_) | (show Post _ _ _ _ _; refine Post.seq ?_) | refine SW.nil ?_)
  obtain ⟨K, hK⟩ : ∃ K : Env → World → Prop, K = fun L' w' => ∃ X c1 Y d1 b3, subEnv L' [(1, .pointer (some ⟨b1, 0, none⟩)), (2, .pointer (some ⟨b2, 0, none⟩)), (3, .pointer (some ⟨b3, 0, none⟩))] ∧ Ext w w' ∧ Blk w' b1 35 (encH r) ∧ Blk w' b2 35 (encH .zero) ∧
    Blk w' b3 35 (encH ⟨.nil, ⟨X, r.Mins.n, c1⟩, r.Cpus, .nil, ⟨Y, r.Live.n, d1⟩⟩) ∧ Own w' w.heap.size 3 1 encI X r.Mins.n c1 h.Mins ∧ Own w' w.heap.size 55 3 encBk Y r.Live.n d1 h.Live ∧ w.heap.size ≤ b3 ∧ b1 ≠ b3 ∧ b2 ≠ b3 := ⟨_, rfl⟩
  refine CW.cut K ?_ ?_
  · refine CW.any 10 mixed (rb_tail (by kernel_rfl)) rfl fun w1 hw1 hRB => ?_
    replace hw := Ext.trans hw hw1; replace hb1 := hb1.ext hw1; replace hb2 := hb2.ext hw1; clear hw1
    refine SA.take 0 hRB rfl (by kernel_rfl) (by kernel_rfl) rfl ?_
    repeat ((show SW _ _ _ _ (⟨_, Op.fieldAddr _ _ _, _, _, _, none⟩ :: _) _ _; refine SW.st (st_field rfl) rfl ?_))
    refine SW.tknil ?_
    refine SA.take 1 hRB rfl (by kernel_rfl) (by kernel_rfl) rfl ?_
    repeat ((show SW _ _ _ _ (⟨_, Op.load _ _, _, _, _, none⟩ :: _) _ _; refine SW.st (st_load rfl (hb1.cell rfl)) rfl ?_))
    refine SW.tknil ?_
    refine SA.take 3 hRB rfl (by kernel_rfl) (by kernel_rfl) rfl ?_
    repeat ((show SW _ _ _ _ (⟨_, Op.fieldAddr _ _ _, _, _, _, none⟩ :: _) _ _; refine SW.st (st_field rfl) rfl ?_))
    refine SW.tknil ?_
    refine SA.take 4 hRB rfl (by kernel_rfl) (by kernel_rfl) rfl ?_
    repeat ((show SW _ _ _ _ (⟨_, Op.load _ _, _, _, _, none⟩ :: _) _ _; refine SW.st (st_load rfl (hb1.cell rfl)) rfl ?_))
    refine SW.tknil ?_
    refine SA.take 5 hRB rfl (by kernel_rfl) (by kernel_rfl) rfl ?_
    repeat ((show SW _ _ _ _ (⟨_, Op.fieldAddr _ _ _, _, _, _, none⟩ :: _) _ _; refine SW.st (st_field rfl) rfl ?_))
    refine SW.tknil ?_
    refine SA.take 6 hRB rfl (by kernel_rfl) (by kernel_rfl) rfl ?_
    repeat ((show SW _ _ _ _ (⟨_, Op.load _ _, _, _, _, none⟩ :: _) _ _; refine SW.st (st_load rfl (hb1.cell rfl)) rfl ?_))
    refine SW.tknil ?_
    refine SA.two 2 9 rfl rfl (by kernel_rfl) rfl rfl ?_ ?_
    · refine SW.call rfl rfl (CloneInt_ans _ _ _ _ _ (hr.mins.ext hw) (by omega)) fun v w4 hXX hv => ?_
      obtain ⟨X, c4, rfl, hX⟩ := hv
      replace hX := hX.low hw.size
      replace hw := Ext.trans hw hXX
      replace hb1 := hb1.ext hXX
      replace hb2 := hb2.ext hXX
      try replace hb3 := hb3.ext hXX
      refine SW.nil (Post.sa hXX ?_)
      refine SA.two 7 9 rfl rfl (by kernel_rfl) rfl rfl ?_ ?_
      · refine SW.call rfl rfl (CloneBlock_ans _ _ _ _ _ (hr.live.ext hw) (by omega)) fun v w4 hXX hv => ?_
        obtain ⟨Y, d4, rfl, hY⟩ := hv
        replace hY := hY.low hw.size
        replace hX := hX.ext hXX
        replace hw := Ext.trans hw hXX
        replace hb1 := hb1.ext hXX
        replace hb2 := hb2.ext hXX
        try replace hb3 := hb3.ext hXX
        refine SW.nil (Post.sa hXX ?_)
        refine SA.take 8 hRB rfl (by kernel_rfl) (by kernel_rfl) rfl ?_
        repeat ((show SW _ _ _ _ (⟨_, Op.build _ _, _, _, _, none⟩ :: _) _ _; refine SW.st (st_build rfl rfl) rfl ?_))
        refine SW.tknil ?_
        refine SA.one 9 rfl (by kernel_rfl) rfl ?_
        refine SW.alloc rfl fun b3 w4 hXX hb3b hb3 => ?_
        have hb3w : w.heap.size ≤ b3 := Nat.le_trans hw.size hb3b
        have hne3 : b1 ≠ b3 := by have := hb1.lt; omega
        have hne4 : b2 ≠ b3 := by have := hb2.lt; omega
        replace hw := Ext.trans hw hXX
        replace hb1 := hb1.ext hXX
        replace hb2 := hb2.ext hXX
        try replace hX := hX.ext hXX
        try replace hY := hY.ext hXX
        refine SW.nil (Post.sa hXX ?_)
        refine SA.done (by kernel_rfl) ?_
        skip
        refine SW.storeAgg hb3 rfl rfl rfl rfl (one_h ⟨.nil, ⟨X, r.Mins.n, c4⟩, r.Cpus, .nil, ⟨Y, r.Live.n, d4⟩⟩) fun w5 hR2 hg => ?_
        have hG := hb3.gr hg
        replace hw := hw.own hb3w hg
        (replace hX := hX.grT hG rfl; replace hY := hY.grT hG rfl)
        replace hb1 := hb1.grown hg (by simpa using hne3)
        replace hb2 := hb2.grown hg (by simpa using hne4)
        repeat' (first | (show Post _ _ _ _ _; refine Post.np ?_) | refine SW.nil ?_)
        exact Post.cut (K := K) (by rw [hK]; exact ⟨X, c4, Y, d4, b3, ⟨rfl, rfl, rfl, trivial⟩, hw, hb1, hb2, hR2, hX, hY, hb3w, hne3, hne4⟩)
      · refine SW.alloc rfl fun b3 w4 hXX hb3b hb3 => ?_
        have hb3w : w.heap.size ≤ b3 := Nat.le_trans hw.size hb3b
        have hne3 : b1 ≠ b3 := by have := hb1.lt; omega
        have hne4 : b2 ≠ b3 := by have := hb2.lt; omega
        replace hw := Ext.trans hw hXX
        replace hb1 := hb1.ext hXX
        replace hb2 := hb2.ext hXX
        try replace hX := hX.ext hXX
        try replace hY := hY.ext hXX
        refine SW.nil (Post.sa hXX ?_)
        refine SA.one 7 rfl (by kernel_rfl) rfl ?_
        refine SW.call rfl rfl (CloneBlock_ans _ _ _ _ _ (hr.live.ext hw) (by omega)) fun v w4 hXX hv => ?_
        obtain ⟨Y, d4, rfl, hY⟩ := hv
        replace hY := hY.low hw.size
        replace hX := hX.ext hXX
        replace hw := Ext.trans hw hXX
        replace hb1 := hb1.ext hXX
        replace hb2 := hb2.ext hXX
        try replace hb3 := hb3.ext hXX
        refine SW.nil (Post.sa hXX ?_)
        refine SA.take 8 hRB rfl (by kernel_rfl) (by kernel_rfl) rfl ?_
        repeat ((show SW _ _ _ _ (⟨_, Op.build _ _, _, _, _, none⟩ :: _) _ _; refine SW.st (st_build rfl rfl) rfl ?_))
        refine SW.tknil ?_
        refine SA.done (by kernel_rfl) ?_
        skip
        refine SW.storeAgg hb3 rfl rfl rfl rfl (one_h ⟨.nil, ⟨X, r.Mins.n, c4⟩, r.Cpus, .nil, ⟨Y, r.Live.n, d4⟩⟩) fun w5 hR2 hg => ?_
        have hG := hb3.gr hg
        replace hw := hw.own hb3w hg
        (replace hX := hX.grT hG rfl; replace hY := hY.grT hG rfl)
        replace hb1 := hb1.grown hg (by simpa using hne3)
        replace hb2 := hb2.grown hg (by simpa using hne4)
        repeat' (first | (show Post _ _ _ _ _; refine Post.np ?_) | refine SW.nil ?_)
        exact Post.cut (K := K) (by rw [hK]; exact ⟨X, c4, Y, d4, b3, ⟨rfl, rfl, rfl, trivial⟩, hw, hb1, hb2, hR2, hX, hY, hb3w, hne3, hne4⟩)
    · refine SW.alloc rfl fun b3 w4 hXX hb3b hb3 => ?_
      have hb3w : w.heap.size ≤ b3 := Nat.le_trans hw.size hb3b
      have hne3 : b1 ≠ b3 := by have := hb1.lt; omega
      have hne4 : b2 ≠ b3 := by have := hb2.lt; omega
      replace hw := Ext.trans hw hXX
      replace hb1 := hb1.ext hXX
      replace hb2 := hb2.ext hXX
      try replace hX := hX.ext hXX
      try replace hY := hY.ext hXX
      refine SW.nil (Post.sa hXX ?_)
      refine SA.one 2 rfl (by kernel_rfl) rfl ?_
      refine SW.call rfl rfl (CloneInt_ans _ _ _ _ _ (hr.mins.ext hw) (by omega)) fun v w4 hXX hv => ?_
      obtain ⟨X, c4, rfl, hX⟩ := hv
      replace hX := hX.low hw.size
      replace hw := Ext.trans hw hXX
      replace hb1 := hb1.ext hXX
      replace hb2 := hb2.ext hXX
      try replace hb3 := hb3.ext hXX
      refine SW.nil (Post.sa hXX ?_)
      refine SA.one 7 rfl (by kernel_rfl) rfl ?_
      refine SW.call rfl rfl (CloneBlock_ans _ _ _ _ _ (hr.live.ext hw) (by omega)) fun v w4 hXX hv => ?_
      obtain ⟨Y, d4, rfl, hY⟩ := hv
      replace hY := hY.low hw.size
      replace hX := hX.ext hXX
      replace hw := Ext.trans hw hXX
      replace hb1 := hb1.ext hXX
      replace hb2 := hb2.ext hXX
      try replace hb3 := hb3.ext hXX
      refine SW.nil (Post.sa hXX ?_)
      refine SA.take 8 hRB rfl (by kernel_rfl) (by kernel_rfl) rfl ?_
      repeat ((show SW _ _ _ _ (⟨_, Op.build _ _, _, _, _, none⟩ :: _) _ _; refine SW.st (st_build rfl rfl) rfl ?_))
      refine SW.tknil ?_
      refine SA.done (by kernel_rfl) ?_
      skip
      refine SW.storeAgg hb3 rfl rfl rfl rfl (one_h ⟨.nil, ⟨X, r.Mins.n, c4⟩, r.Cpus, .nil, ⟨Y, r.Live.n, d4⟩⟩) fun w5 hR2 hg => ?_
      have hG := hb3.gr hg
      replace hw := hw.own hb3w hg
      (replace hX := hX.grT hG rfl; replace hY := hY.grT hG rfl)
      replace hb1 := hb1.grown hg (by simpa using hne3)
      replace hb2 := hb2.grown hg (by simpa using hne4)
      repeat' (first | (show Post _ _ _ _ _; refine Post.np ?_) | refine SW.nil ?_)
      exact Post.cut (K := K) (by rw [hK]; exact ⟨X, c4, Y, d4, b3, ⟨rfl, rfl, rfl, trivial⟩, hw, hb1, hb2, hR2, hX, hY, hb3w, hne3, hne4⟩)
  · clear hb1 hb2 hw
    subst hK
    rintro L' w' ⟨X, c4, Y, d4, b3, hsub, hw, hb1, hb2, hb3, hX, hY, hb3w, hne3, hne4⟩
    refine Post.sub hsub ?_
    repeat' (first | (show CW _ _ _ _ _ _; first | refine CW.seq ?_ | refine CW.region ?_ | refine CW.block ?_) | (show Post _ _ _ _ _; refine Post.seq ?_) | refine SW.nil ?_ | refine SW.pure rfl rfl ?_ | (show SW _ _ _ _ (⟨_, Op.fieldAddr _ _ _, _, _, _, none⟩ :: _) _ _; refine SW.st (st_field rfl) rfl ?_) | (show SW _ _ _ _ (⟨_, Op.call ⟨.builtin .len, _, _⟩, _, _, _, none⟩ :: _) _ _; refine SW.st (st_len rfl) rfl ?_) | (show SW _ _ _ _ (⟨_, Op.load _ _, _, _, _, none⟩ :: _) _ _; refine SW.st (st_load rfl (hb1.cell rfl)) rfl ?_))
    refine CW.loop (fun s : Nat × Option Addr × Nat × List ZRow => [(1, .pointer (some ⟨b1, 0, none⟩)), (2, .pointer (some ⟨b2, 0, none⟩)), (3, .pointer (some ⟨b3, 0, none⟩)), (18, .slice r.Zones.A r.Zones.n r.Zones.c), (19, .int .i64 (r.Zones.n : Int)), (20, .int .i64 (s.1 : Int))])
      (fun s w' => s.1 ≤ r.Zones.n ∧ Ext w w' ∧ Blk w' b1 35 (encH r) ∧ Blk w' b2 35 (encH .zero) ∧ Blk w' b3 35 (encH ⟨⟨s.2.1, s.1, s.2.2.1⟩, ⟨X, r.Mins.n, c4⟩, r.Cpus, .nil, ⟨Y, r.Live.n, d4⟩⟩) ∧ Own w' w.heap.size 3 1 encI X r.Mins.n c4 h.Mins ∧ Own w' w.heap.size 55 3 encBk Y r.Live.n d4 h.Live ∧
        OwnZs w' w.heap.size ⟨s.2.1, s.1, s.2.2.1⟩ s.2.2.2 (h.Zones.take s.1) ∧ SepF ⟨Y, r.Live.n, d4⟩ s.2.2.2) (fun s => r.Zones.n - s.1) (0, none, 0, []) ⟨rfl, rfl, rfl, rfl, rfl, rfl, trivial⟩ ⟨by omega, hw, hb1, hb2, hb3, hX, hY, OwnZs.nil _ _, SepF.nil _⟩ ?_
    clear hb1 hb2 hb3 hX hY hw hsub
    rintro ⟨k, A, c, zr⟩ w' ⟨hk, hw, hb1, hb2, hb3, hX, hY, hO, hSf⟩
    simp only at hk hb3 hO hSf ⊢
    have hA := hz.row.base
    by_cases hkn : k < r.Zones.n
    · have hzk := hz.each.get k (by omega) (by omega)
      have hin : h.Zones[k]'(by omega) ∈ h.Zones := List.getElem_mem _
      have q := hs.free _ hin
      have q1 := hzk.free.len
      have q2 := hzk.types.len
      repeat' (first | (show CW _ _ _ _ _ _; first | refine CW.seq ?_ | refine CW.region ?_ | refine CW.block ?_ | refine CW.condd_t rfl (by omega) ?_ | refine CW.skip ?_) | (show Post _ _ _ _ _; refine Post.seq ?_) | refine SW.nil ?_ | refine SW.pure rfl rfl ?_ | (show SW _ _ _ _ (⟨_, Op.indexAddr _ _ _, _, _, _, none⟩ :: _) _ _; refine SW.st (st_indexN rfl rfl (by assumption) (by omega)) rfl ?_) | (show SW _ _ _ _ (⟨_, Op.load _ _, _, _, _, none⟩ :: _) _ _; refine SW.st (st_loadsx hw rfl rfl ((hz.row.all hkn))) rfl ?_))
      refine SW.alloc rfl fun b5 w1 hw1 hb5b hb5 => ?_
      skip
      refine SW.storeAgg hb5 rfl rfl rfl rfl (one_z _) fun w2 hb5' hg => ?_
      have hXX := hw1.own hb5b hg
      have hb5w : w.heap.size ≤ b5 := Nat.le_trans hw.size hb5b
      replace hw := Ext.trans hw hXX
      replace hb1 := hb1.ext hXX
      replace hb2 := hb2.ext hXX
      replace hb3 := hb3.ext hXX
      replace hX := hX.ext hXX
      replace hY := hY.ext hXX
      replace hO := hO.ext hXX
      replace hb5 := hb5'
      clear hb5' hw1 hg hXX
      repeat' (first | (show Post _ _ _ _ _; refine Post.seq ?_) | refine SW.nil ?_)
      refine CW.any 5 mixed (rb_tail (by kernel_rfl)) rfl fun w1 hw1 hRB => ?_
      replace hw := Ext.trans hw hw1; replace hb1 := hb1.ext hw1; replace hb2 := hb2.ext hw1; replace hb3 := hb3.ext hw1; replace hb5 := hb5.ext hw1; replace hX := hX.ext hw1; replace hY := hY.ext hw1; replace hO := hO.ext hw1; clear hw1
      refine SA.take 0 hRB rfl (by kernel_rfl) (by kernel_rfl) rfl ?_
      repeat ((show SW _ _ _ _ (⟨_, Op.fieldAddr _ _ _, _, _, _, none⟩ :: _) _ _; refine SW.st (st_field rfl) rfl ?_))
      refine SW.tknil ?_
      refine SA.take 1 hRB rfl (by kernel_rfl) (by kernel_rfl) rfl ?_
      repeat ((show SW _ _ _ _ (⟨_, Op.load _ _, _, _, _, none⟩ :: _) _ _; refine SW.st (st_load rfl (hb3.cell rfl)) rfl ?_))
      refine SW.tknil ?_
      refine SA.take 2 hRB rfl (by kernel_rfl) (by kernel_rfl) rfl ?_
      repeat ((show SW _ _ _ _ (⟨_, Op.load _ _, _, _, _, none⟩ :: _) _ _; refine SW.st (st_loads rfl rfl ((fun _ _ => hb5.cell))) rfl ?_))
      refine SW.tknil ?_
      refine SA.one 3 rfl (by kernel_rfl) rfl ?_
      refine SW.call rfl rfl (Zcopy_ans _ _ _ (hzk.ext hw) (by omega) (by omega)) fun v w4 hXX hv => ?_
      obtain ⟨s, rfl, hs', e1, e2⟩ := hv
      have hSf' := hSf.snoc (u := s) hY hs'.free.row_ge
      replace hs' := hs'.low hw.size
      (replace hw := Ext.trans hw hXX; replace hb1 := hb1.ext hXX; replace hb2 := hb2.ext hXX; replace hb3 := hb3.ext hXX; replace hb5 := hb5.ext hXX; replace hX := hX.ext hXX; replace hY := hY.ext hXX; replace hO := hO.ext hXX)
      refine SW.nil (Post.sa hXX ?_)
      refine SA.one 4 rfl (by kernel_rfl) rfl ?_
      refine SW.build1 rfl rfl rfl rfl rfl fun b w4 hXX hb hB => ?_
      (replace hw := Ext.trans hw hXX; replace hb1 := hb1.ext hXX; replace hb2 := hb2.ext hXX; replace hb3 := hb3.ext hXX; replace hb5 := hb5.ext hXX; replace hX := hX.ext hXX; replace hY := hY.ext hXX; replace hO := hO.ext hXX; replace hs' := hs'.ext hXX)
      refine SW.nil (Post.sa hXX ?_)
      refine SA.done (by kernel_rfl) ?_
      refine SW.append hO.row (Blk.sl1 (enc := encZ) hB) hw.size rfl rfl rfl (by simp only; omega) (by simp only; omega) fun A2 c2 w5 hO1 hg => ?_
      have hG := hO.row.gr hg
      replace hw := ext_grown hw hg (Nat.le_refl _) hO.row.row_ge
      (replace hb1 := hb1.grT hG rfl; replace hb2 := hb2.grT hG rfl; replace hb3 := hb3.grT hG rfl; replace hX := hX.grT hG rfl; replace hY := hY.grT hG rfl; replace hs' := hs'.grT hG rfl)
      have hE := hO.each.mono fun _ _ h => h.grT hG rfl
      repeat' ((show SW _ _ _ _ (⟨_, Op.fieldAddr _ _ _, _, _, _, none⟩ :: _) _ _; refine SW.st (st_field rfl) rfl ?_))
      refine SW.storeB (i := 0) hb3 rfl rfl rfl rfl fun w6 hb3' hg => ?_
      have hG := hb3.gr hg
      replace hw := hw.own hb3w hg
      replace hb1 := hb1.grown hg (by simpa using hne3)
      replace hb2 := hb2.grown hg (by simpa using hne4)
      (replace hX := hX.grT hG rfl; replace hY := hY.grT hG rfl; replace hs' := hs'.grT hG rfl; replace hO1 := hO1.grT hG rfl)
      replace hE := hE.mono fun _ _ h => h.grT hG rfl
      repeat' (first | (show CW _ _ _ _ _ _; refine CW.region ?_) | (show Post _ _ _ _ _; first | refine Post.seq ?_ | refine Post.blk ?_ | refine Post.np ?_) | refine SW.nil ?_ | refine SW.pure rfl rfl ?_ | (show SW _ _ _ _ (⟨_, Op.binOp _ _ _ _ _, _, _, _, none⟩ :: _) _ _; refine SW.st (st_add rfl rfl (by omega) (by omega)) rfl ?_))
      refine Post.again (k + 1, A2, c2, zr ++ [s]) ⟨rfl, rfl, rfl, rfl, rfl, rfl, trivial⟩ (by simp only; omega) ⟨by simp only; omega, hw, hb1, hb2, hb3', hX, hY, ⟨hO1, ?_⟩, hSf'⟩
      rw [List.take_succ_eq_append_getElem (by omega)]
      exact hE.snoc hs'
    · obtain rfl : k = r.Zones.n := by omega
      rw [List.take_of_length_le (by omega)] at hO
      repeat' (first | (show CW _ _ _ _ _ _; first | refine CW.seq ?_ | refine CW.region ?_ | refine CW.block ?_ | refine CW.condd_f rfl (by omega) ?_ | refine CW.exit ?_) | (show Post _ _ _ _ _; first | refine Post.seq ?_ | refine Post.seq_exit ?_ | refine Post.hit ?_ | refine Post.again_exit ?_) | refine SW.nil ?_ | refine SW.pure rfl rfl ?_ | (show SW _ _ _ _ (⟨_, Op.fieldAddr _ _ _, _, _, _, none⟩ :: _) _ _; refine SW.st (st_field rfl) rfl ?_) | (show SW _ _ _ _ (⟨_, Op.call ⟨.builtin .len, _, _⟩, _, _, _, none⟩ :: _) _ _; refine SW.st (st_len rfl) rfl ?_) | (show SW _ _ _ _ (⟨_, Op.load _ _, _, _, _, none⟩ :: _) _ _; refine SW.st (st_load rfl (hb1.cell rfl)) rfl ?_))
      refine CW.loop (fun s : Nat × Option Addr × Nat × List LRow => [(2, .pointer (some ⟨b2, 0, none⟩)), (3, .pointer (some ⟨b3, 0, none⟩)), (33, .slice r.Lists.A r.Lists.n r.Lists.c), (34, .int .i64 (r.Lists.n : Int)), (35, .int .i64 (s.1 : Int))])
        (fun s w' => s.1 ≤ r.Lists.n ∧ Ext w w' ∧ Blk w' b2 35 (encH .zero) ∧ Blk w' b3 35 (encH ⟨⟨A, r.Zones.n, c⟩, ⟨X, r.Mins.n, c4⟩, r.Cpus, ⟨s.2.1, s.1, s.2.2.1⟩, ⟨Y, r.Live.n, d4⟩⟩) ∧ Own w' w.heap.size 3 1 encI X r.Mins.n c4 h.Mins ∧ Own w' w.heap.size 55 3 encBk Y r.Live.n d4 h.Live ∧
          OwnZs w' w.heap.size ⟨A, r.Zones.n, c⟩ zr h.Zones ∧ OwnLs w' w.heap.size ⟨s.2.1, s.1, s.2.2.1⟩ s.2.2.2 (h.Lists.take s.1) ∧ SepM ⟨X, r.Mins.n, c4⟩ zr s.2.2.2) (fun s => r.Lists.n - s.1) (0, none, 0, []) ⟨rfl, rfl, rfl, rfl, rfl, trivial⟩ ⟨by omega, hw, hb2, hb3, hX, hY, hO, OwnLs.nil _ _, SepM.nil _ _⟩ ?_
      clear hb1 hb2 hb3 hX hY hw hO
      rintro ⟨k, B, d, lr⟩ w' ⟨hk, hw, hb2, hb3, hX, hY, hO, hP, hSp⟩
      simp only at hk hb3 hP hSp ⊢
      have hA := hl.row.base
      by_cases hkn : k < r.Lists.n
      · have hlk := hl.each.get k (by omega) (by omega)
        have hin : h.Lists[k]'(by omega) ∈ h.Lists := List.getElem_mem _
        have q := hs.pages _ hin
        have q1 := hlk.pages.len
        repeat' (first | (show CW _ _ _ _ _ _; first | refine CW.seq ?_ | refine CW.region ?_ | refine CW.block ?_ | refine CW.condd_t rfl (by omega) ?_ | refine CW.skip ?_) | (show Post _ _ _ _ _; refine Post.seq ?_) | refine SW.nil ?_ | refine SW.pure rfl rfl ?_ | (show SW _ _ _ _ (⟨_, Op.indexAddr _ _ _, _, _, _, none⟩ :: _) _ _; refine SW.st (st_indexN rfl rfl (by assumption) (by omega)) rfl ?_) | (show SW _ _ _ _ (⟨_, Op.load _ _, _, _, _, none⟩ :: _) _ _; refine SW.st (st_loadsx hw rfl rfl ((hl.row.all hkn))) rfl ?_))
        have hlt7 := hP.row.lt_size
        refine SW.alloc rfl fun b7 w1 hw1 hb7b hb7 => ?_
        skip
        refine SW.storeAgg hb7 rfl rfl rfl rfl (one_l _) fun w2 hb7' hg => ?_
        have hXX := hw1.own hb7b hg
        have hb7w : w.heap.size ≤ b7 := Nat.le_trans hw.size hb7b
        replace hw := Ext.trans hw hXX
        replace hb2 := hb2.ext hXX
        replace hb3 := hb3.ext hXX
        replace hX := hX.ext hXX
        replace hY := hY.ext hXX
        replace hO := hO.ext hXX
        replace hP := hP.ext hXX
        replace hb7 := hb7'
        clear hb7' hw1 hg hXX
        repeat' (first | (show CW _ _ _ _ _ _; first | refine CW.seq ?_ | refine CW.region ?_) | (show Post _ _ _ _ _; refine Post.seq ?_) | refine SW.nil ?_ | (show SW _ _ _ _ (⟨_, Op.fieldAddr _ _ _, _, _, _, none⟩ :: _) _ _; refine SW.st (st_field rfl) rfl ?_) | (show SW _ _ _ _ (⟨_, Op.load _ _, _, _, _, none⟩ :: _) _ _; refine SW.st (st_load rfl (hb7.cell rfl)) rfl ?_))
        refine SW.call rfl rfl (CloneInt_ans _ _ _ _ _ (hlk.pages.ext hw) (by omega)) fun v w4 hXX hv => ?_
        obtain ⟨W, e4, rfl, hW⟩ := hv
        replace hSp := hSp.snoc (y := ⟨ls[k].Cpu, ls[k].Zone, ls[k].Ty, ⟨W, ls[k].Pages.n, e4⟩⟩) hX hO hP hW.row_ge
        replace hW := hW.low hw.size
        (replace hw := Ext.trans hw hXX; replace hb2 := hb2.ext hXX; replace hb3 := hb3.ext hXX; replace hb7 := hb7.ext hXX; replace hX := hX.ext hXX; replace hY := hY.ext hXX; replace hO := hO.ext hXX; replace hP := hP.ext hXX)
        repeat' ((show SW _ _ _ _ (⟨_, Op.fieldAddr _ _ _, _, _, _, none⟩ :: _) _ _; refine SW.st (st_field rfl) rfl ?_))
        refine SW.storeB (i := 3) hb7 rfl rfl rfl rfl fun w5 hb7' hg => ?_
        have hG := hb7.gr hg
        replace hw := hw.own hb7w hg
        (replace hb2 := hb2.grT hG rfl; replace hb3 := hb3.grT hG rfl; replace hX := hX.grT hG rfl; replace hY := hY.grT hG rfl; replace hO := hO.grT hG rfl; replace hW := hW.grT hG rfl)
        replace hP : OwnLs w5 w.heap.size ⟨B, k, d⟩ lr (h.Lists.take k) := ⟨hP.row.grown hg (.inr (fun e => by have := hlt7 _ e; omega)), hP.each.mono fun _ _ h => h.grT hG rfl⟩
        repeat' (first | (show CW _ _ _ _ _ _; refine CW.region ?_) | (show Post _ _ _ _ _; refine Post.seq ?_) | refine SW.nil ?_ | (show SW _ _ _ _ (⟨_, Op.fieldAddr _ _ _, _, _, _, none⟩ :: _) _ _; refine SW.st (st_field rfl) rfl ?_) | (show SW _ _ _ _ (⟨_, Op.load _ _, _, _, _, none⟩ :: _) _ _; first | refine SW.st (st_load rfl (hb3.cell rfl)) rfl ?_ | refine SW.st (st_loads rfl rfl ((fun _ _ => hb7'.cell))) rfl ?_))
        refine SW.build1 rfl rfl rfl rfl rfl fun b w6 hXX hb hB => ?_
        (replace hw := Ext.trans hw hXX; replace hb2 := hb2.ext hXX; replace hb3 := hb3.ext hXX; replace hX := hX.ext hXX; replace hY := hY.ext hXX; replace hO := hO.ext hXX; replace hP := hP.ext hXX; replace hW := hW.ext hXX)
        refine SW.append hP.row (Blk.sl1 (enc := encL) (x := ⟨ls[k].Cpu, ls[k].Zone, ls[k].Ty, ⟨W, _, e4⟩⟩) hB) hw.size rfl rfl rfl (by simp only; omega) (by simp only; omega) fun A2 c2 w7 hP1 hg => ?_
        have hG := hP.row.gr hg
        replace hw := ext_grown hw hg (Nat.le_refl _) hP.row.row_ge
        (replace hb2 := hb2.grT hG rfl; replace hb3 := hb3.grT hG rfl; replace hX := hX.grT hG rfl; replace hY := hY.grT hG rfl; replace hO := hO.grT hG rfl; replace hW := hW.grT hG rfl)
        have hE := hP.each.mono fun _ _ h => h.grT hG rfl
        repeat' ((show SW _ _ _ _ (⟨_, Op.fieldAddr _ _ _, _, _, _, none⟩ :: _) _ _; refine SW.st (st_field rfl) rfl ?_))
        refine SW.storeB (i := 3) hb3 rfl rfl rfl rfl fun w8 hb3' hg => ?_
        have hG := hb3.gr hg
        replace hw := hw.own hb3w hg
        replace hb2 := hb2.grown hg (by simpa using hne4)
        (replace hX := hX.grT hG rfl; replace hY := hY.grT hG rfl; replace hO := hO.grT hG rfl; replace hP1 := hP1.grT hG rfl; replace hW := hW.grT hG rfl)
        replace hE := hE.mono fun _ _ h => h.grT hG rfl
        repeat' (first | (show CW _ _ _ _ _ _; refine CW.region ?_) | (show Post _ _ _ _ _; first | refine Post.seq ?_ | refine Post.blk ?_) | refine SW.nil ?_ | refine SW.pure rfl rfl ?_ | (show SW _ _ _ _ (⟨_, Op.binOp _ _ _ _ _, _, _, _, none⟩ :: _) _ _; refine SW.st (st_add rfl rfl (by omega) (by omega)) rfl ?_))
        refine Post.again (k + 1, A2, c2, lr ++ [⟨ls[k].Cpu, ls[k].Zone, ls[k].Ty, ⟨W, _, e4⟩⟩]) ⟨rfl, rfl, rfl, rfl, rfl, trivial⟩ (by simp only; omega) ⟨by simp only; omega, hw, hb2, hb3', hX, hY, hO, ⟨hP1, ?_⟩, hSp⟩
        rw [List.take_succ_eq_append_getElem (by omega)]
        exact hE.snoc ⟨hlk.cpu, hlk.zone, hlk.ty, hW⟩
      · obtain rfl : k = r.Lists.n := by omega
        rw [List.take_of_length_le (by omega)] at hP
        repeat' (first | (show CW _ _ _ _ _ _; first | refine CW.seq ?_ | refine CW.region ?_ | refine CW.condd_f rfl (by omega) ?_ | refine CW.exit ?_) | (show Post _ _ _ _ _; first | refine Post.seq ?_ | refine Post.seq_exit ?_ | refine Post.hit ?_ | refine Post.again_exit ?_) | refine SW.nil ?_ | refine SW.pure rfl rfl ?_ | (show SW _ _ _ _ (⟨_, Op.load _ _, _, _, _, none⟩ :: _) _ _; refine SW.st (st_loads rfl rfl ((fun _ _ => hb3.cell))) rfl ?_))
        refine SW.storeAgg hb2 rfl rfl rfl rfl (one_h _) fun w5 hR2 hg => ?_
        have hG := hb2.gr hg
        replace hw := hw.own hb2w hg
        (replace hX := hX.grT hG rfl; replace hY := hY.grT hG rfl; replace hO := hO.grT hG rfl; replace hP := hP.grT hG rfl)
        repeat' (first | (show CW _ _ _ _ _ _; refine CW.ret ?_) | (show Post _ _ _ _ _; refine Post.seq ?_) | refine SW.nil ?_)
        exact Post.ret1c rfl rfl hR2 rfl ⟨_, rfl, hw, ⟨⟨A, r.Zones.n, c⟩, ⟨X, r.Mins.n, c4⟩, r.Cpus, ⟨B, r.Lists.n, d⟩, ⟨Y, r.Live.n, d4⟩⟩, rfl, ⟨hr.cpus, hX, hY, ⟨zr, hO⟩, ⟨lr, hP⟩⟩, zr, lr, hO, hP, hSp, hSf⟩

theorem Hcopy_ans (r : HRow) (h : Heap) (w : World) (hr : RdH w r h) (hs : h.small) :
    Ans Tryd.prog 44 [.agg (encH r).toArray] w fun v w' => ∃ s, v = .agg (encH s).toArray ∧ OwnH w' w.heap.size s h :=
  (HcopyS_ans r h w hr hs).mono fun _ _ _ ⟨s, hv, ho⟩ => ⟨s, hv, ho.own⟩
end Go.Proofs.YtfommgdbahemfaaDoor

/-
  Contracts: sameHeap; the law PagesCopies.
-/
set_option linter.unusedVariables false
namespace Go.Proofs.YtfommgdbahemfaaDoor
open Go.RowKit

set_option maxHeartbeats 4000000 in
theorem sameHeap_ans (r s : HRow) (h : Heap) (w : World) (ha : RdH w r h) (hb : RdH w s h) (hs : h.small) :
    Ans Tryd.prog 15 [.agg (encH r).toArray, .agg (encH s).toArray] w fun v _ => v = .bool true := by
  refine ans_of Tryd.func15 rfl Tryd.ntmps15 rfl ?_
  refine CW.seq (CW.region (SW.box rfl rfl fun b2 w1 hw hb2b hb2 => ?_))
  refine SW.box rfl rfl fun b3 w2 hw2 hb3b hb3 => ?_
  (replace hw := Ext.trans hw hw2; replace hb2 := hb2.ext hw2)
  obtain ⟨zs, hz⟩ := ha.zones
  obtain ⟨ls, hl⟩ := ha.lists
  obtain ⟨zs', hz'⟩ := hb.zones
  obtain ⟨ls', hl'⟩ := hb.lists
  obtain ⟨z1, z2⟩ := hz.len
  obtain ⟨l1, l2⟩ := hl.len
  obtain ⟨z3, z4⟩ := hz'.len
  obtain ⟨l3, l4⟩ := hl'.len
  have s1 := hs.mins
  have s2 := hs.live
  have s3 := hs.zones
  have s4 := hs.lists
  have m1 := ha.mins.len
  have m2 := ha.live.len
  have e1 := ha.cpus
  have e2 := hb.cpus
  have cM : ∀ w', Ext w w' → Ans Tryd.prog 34 [.slice r.Mins.A r.Mins.n r.Mins.c, .slice s.Mins.A s.Mins.n s.Mins.c] w' fun v _ => v = .bool true := fun w' hx => by
    have := sameInts_ans _ _ _ _ r.Mins.c s.Mins.c _ _ w' (ha.mins.ext hx) (hb.mins.ext hx) (by omega)
    simpa using this
  have cL : ∀ w', Ext w w' → Ans Tryd.prog 33 [.slice r.Live.A r.Live.n r.Live.c, .slice s.Live.A s.Live.n s.Live.c] w' fun v _ => v = .bool true := fun w' hx => by
    have := sameBlocks_ans _ _ _ _ r.Live.c s.Live.c _ _ w' (ha.live.ext hx) (hb.live.ext hx) (by omega)
    simpa using this
  repeat' (first | (show CW _ _ _ _ _ _; first | refine CW.seq ?_ | refine CW.region ?_ | refine CW.block ?_ | refine CW.condf rfl ?_ | refine CW.skip ?_) | (show Post _ _ _ _ _; refine Post.seq ?_) | refine SW.nil ?_ | (show SW _ _ _ _ (⟨_, _, _, _, _, some _⟩ :: _) _ _; first | refine SW.want_f rfl rfl (by with_reducible rfl) ?_ | refine SW.splitn_f rfl rfl rfl (by omega) ?_ | refine SW.want rfl rfl ?_) | refine SW.pure rfl rfl ?_ | (show SW _ _ _ _ (⟨_, Op.fieldAddr _ _ _, _, _, _, none⟩ :: _) _ _; refine SW.st (st_field rfl) rfl ?_) | (show SW _ _ _ _ (⟨_, Op.call ⟨.builtin .len, _, _⟩, _, _, _, none⟩ :: _) _ _; refine SW.st (st_len rfl) rfl ?_) | (show SW _ _ _ _ (⟨_, Op.load _ _, _, _, _, none⟩ :: _) _ _; first | refine SW.st (st_load rfl (hb2.cell rfl)) rfl ?_ | refine SW.st (st_load rfl (hb3.cell rfl)) rfl ?_) | (show SW _ _ _ _ (⟨_, Op.call ⟨.value (.func _), _, _⟩, _, _, _, none⟩ :: _) _ _; first | (refine SW.call rfl rfl (cM _ hw) ?_; intro v w1 hw1 hv; subst hv; replace hw := Ext.trans hw hw1; replace hb2 := hb2.ext hw1; replace hb3 := hb3.ext hw1; clear hw1) | (refine SW.call rfl rfl (cL _ hw) ?_; intro v w1 hw1 hv; subst hv; replace hw := Ext.trans hw hw1; replace hb2 := hb2.ext hw1; replace hb3 := hb3.ext hw1; clear hw1)))
  all_goals first | (exfalso; omega) | skip
  refine CW.loop (fun k : Nat => [(2, .pointer (some ⟨b2, 0, none⟩)), (3, .pointer (some ⟨b3, 0, none⟩)), (5, .int .i64 (k : Int))]) (fun k w' => k ≤ r.Zones.n ∧ Ext w w' ∧ Blk w' b2 35 (encH r) ∧ Blk w' b3 35 (encH s)) (fun k => r.Zones.n - k) 0
    ⟨rfl, rfl, rfl, trivial⟩ ⟨by omega, hw, hb2, hb3⟩ ?_
  clear hw hb2 hb3
  rintro k w' ⟨hk, hw, hb2, hb3⟩
  have hA := hz.row.base
  have hB := hz'.row.base
  by_cases hkn : k < r.Zones.n
  · have hkn' : k < s.Zones.n := by omega
    have hzk := hz.each.get k (by omega) (by omega)
    have hzk' := hz'.each.get k (by omega) (by omega)
    have q := hs.free _ (List.getElem_mem (show k < h.Zones.length by omega))
    have q1 := hzk.free.len
    have q2 := hzk.types.len
    have cZ : ∀ w', Ext w w' → Ans Tryd.prog 9 [.agg (encZ zs[k]).toArray, .agg (encZ zs'[k]).toArray] w' fun v _ => v = .bool true := fun w' hx => by
      have := sameZone_ans zs[k] zs'[k] _ _ w' (hzk.ext hx) (hzk'.ext hx) (by omega) (by omega)
      simpa using this
    repeat' (first | (show CW _ _ _ _ _ _; first | refine CW.seq ?_ | refine CW.region ?_ | refine CW.block ?_ | refine CW.condd_t rfl (by omega) ?_ | refine CW.condf rfl ?_ | refine CW.skip ?_ | (apply CW.quiet1 mixed; (· kernel_rfl); rotate_left; intro w1 hw1; replace hw := Ext.trans hw hw1; replace hb2 := hb2.ext hw1; replace hb3 := hb3.ext hw1; clear hw1; rotate_right)) | (show Post _ _ _ _ _; first | refine Post.seq ?_ | refine Post.blk ?_) | refine SW.nil ?_ | refine SW.pure rfl rfl ?_ | (show SW _ _ _ _ (⟨_, Op.fieldAddr _ _ _, _, _, _, none⟩ :: _) _ _; refine SW.st (st_field rfl) rfl ?_) | (show SW _ _ _ _ (⟨_, Op.binOp _ _ _ _ _, _, _, _, none⟩ :: _) _ _; refine SW.st (st_add rfl rfl (by omega) (by omega)) rfl ?_) | (show SW _ _ _ _ (⟨_, Op.indexAddr _ _ _, _, _, _, none⟩ :: _) _ _; refine SW.st (st_indexN rfl rfl (by assumption) (by omega)) rfl ?_) | (show SW _ _ _ _ (⟨_, Op.call ⟨.builtin .len, _, _⟩, _, _, _, none⟩ :: _) _ _; refine SW.st (st_len rfl) rfl ?_) | (show SW _ _ _ _ (⟨_, Op.load _ _, _, _, _, none⟩ :: _) _ _; first | refine SW.st (st_load rfl (hb2.cell rfl)) rfl ?_ | refine SW.st (st_load rfl (hb3.cell rfl)) rfl ?_ | refine SW.st (st_loadsx hw rfl rfl ((hz.row.all hkn))) rfl ?_ | refine SW.st (st_loadsx hw rfl rfl ((hz'.row.all hkn'))) rfl ?_) | (show SW _ _ _ _ (⟨_, Op.call ⟨.value (.func _), _, _⟩, _, _, _, none⟩ :: _) _ _; refine SW.qcall rfl rfl (fun w1 hw1 => (cZ _ (Ext.trans hw hw1))) ?_) | exact SW.qnil rfl)
    exact Post.again (k + 1) ⟨rfl, rfl, rfl, trivial⟩ (by omega) ⟨by omega, hw, hb2, hb3⟩
  · repeat' (first | (show CW _ _ _ _ _ _; first | refine CW.seq ?_ | refine CW.region ?_ | refine CW.block ?_ | refine CW.condd_f rfl (by omega) ?_ | refine CW.exit ?_) | (show Post _ _ _ _ _; first | refine Post.seq ?_ | refine Post.seq_exit ?_ | refine Post.hit ?_ | refine Post.again_exit ?_) | refine SW.nil ?_ | refine SW.pure rfl rfl ?_ | (show SW _ _ _ _ (⟨_, Op.fieldAddr _ _ _, _, _, _, none⟩ :: _) _ _; refine SW.st (st_field rfl) rfl ?_) | (show SW _ _ _ _ (⟨_, Op.call ⟨.builtin .len, _, _⟩, _, _, _, none⟩ :: _) _ _; refine SW.st (st_len rfl) rfl ?_) | (show SW _ _ _ _ (⟨_, Op.load _ _, _, _, _, none⟩ :: _) _ _; refine SW.st (st_load rfl (hb2.cell rfl)) rfl ?_))
    clear hkn hk hA hB
    refine CW.loop (fun k : Nat => [(2, .pointer (some ⟨b2, 0, none⟩)), (3, .pointer (some ⟨b3, 0, none⟩)), (6, .int .i64 (k : Int))]) (fun k w' => k ≤ r.Lists.n ∧ Ext w w' ∧ Blk w' b2 35 (encH r) ∧ Blk w' b3 35 (encH s)) (fun k => r.Lists.n - k) 0
      ⟨rfl, rfl, rfl, trivial⟩ ⟨by omega, hw, hb2, hb3⟩ ?_
    clear hw hb2 hb3
    rintro k w' ⟨hk, hw, hb2, hb3⟩
    have hA := hl.row.base
    have hB := hl'.row.base
    by_cases hkn : k < r.Lists.n
    · have hkn' : k < s.Lists.n := by omega
      have hlk := hl.each.get k (by omega) (by omega)
      have hlk' := hl'.each.get k (by omega) (by omega)
      have q := hs.pages _ (List.getElem_mem (show k < h.Lists.length by omega))
      have q1 := hlk.pages.len
      have g1 := hlk.cpu
      have g2 := hlk.zone
      have g3 := hlk.ty
      have g4 := hlk'.cpu
      have g5 := hlk'.zone
      have g6 := hlk'.ty
      have cP : ∀ w', Ext w w' → Ans Tryd.prog 34 [.slice ls[k].Pages.A ls[k].Pages.n ls[k].Pages.c, .slice ls'[k].Pages.A ls'[k].Pages.n ls'[k].Pages.c] w' fun v _ => v = .bool true := fun w' hx => by
        have := sameInts_ans _ _ _ _ ls[k].Pages.c ls'[k].Pages.c _ _ w' (hlk.pages.ext hx) (hlk'.pages.ext hx) (by omega)
        simpa using this
      repeat' (first | (show CW _ _ _ _ _ _; first | refine CW.seq ?_ | refine CW.region ?_ | refine CW.block ?_ | refine CW.condd_t rfl (by omega) ?_ | refine CW.skip ?_) | (show Post _ _ _ _ _; refine Post.seq ?_) | refine SW.nil ?_ | refine SW.pure rfl rfl ?_ | (show SW _ _ _ _ (⟨_, Op.fieldAddr _ _ _, _, _, _, none⟩ :: _) _ _; refine SW.st (st_field rfl) rfl ?_) | (show SW _ _ _ _ (⟨_, Op.indexAddr _ _ _, _, _, _, none⟩ :: _) _ _; refine SW.st (st_indexN rfl rfl (by assumption) (by omega)) rfl ?_) | (show SW _ _ _ _ (⟨_, Op.call ⟨.builtin .len, _, _⟩, _, _, _, none⟩ :: _) _ _; refine SW.st (st_len rfl) rfl ?_) | (show SW _ _ _ _ (⟨_, Op.load _ _, _, _, _, none⟩ :: _) _ _; first | refine SW.st (st_load rfl (hb2.cell rfl)) rfl ?_ | refine SW.st (st_loadsx hw rfl rfl ((hl.row.all hkn))) rfl ?_))
      refine SW.alloc rfl fun b7 w1 hw1 hb7b hb7 => ?_
      skip
      refine SW.storeAgg hb7 rfl rfl rfl rfl (one_l _) fun w2 hb7' hg => ?_
      have hXX := hw1.own hb7b hg
      have hb7w : w.heap.size ≤ b7 := Nat.le_trans hw.size hb7b
      replace hw := Ext.trans hw hXX
      replace hb2 := hb2.ext hXX
      replace hb3 := hb3.ext hXX
      replace hb7 := hb7'
      clear hb7' hw1 hg hXX
      repeat' (first | (show CW _ _ _ _ _ _; first | refine CW.seq ?_ | refine CW.region ?_) | (show Post _ _ _ _ _; refine Post.seq ?_) | refine SW.nil ?_ | refine SW.pure rfl rfl ?_ | (show SW _ _ _ _ (⟨_, Op.fieldAddr _ _ _, _, _, _, none⟩ :: _) _ _; refine SW.st (st_field rfl) rfl ?_) | (show SW _ _ _ _ (⟨_, Op.indexAddr _ _ _, _, _, _, none⟩ :: _) _ _; refine SW.st (st_indexN rfl rfl (by assumption) (by omega)) rfl ?_) | (show SW _ _ _ _ (⟨_, Op.load _ _, _, _, _, none⟩ :: _) _ _; first | refine SW.st (st_load rfl (hb3.cell rfl)) rfl ?_ | refine SW.st (st_loadsx hw rfl rfl ((hl'.row.all hkn'))) rfl ?_))
      refine SW.alloc rfl fun b8 w1 hw1 hb8b hb8 => ?_
      skip
      refine SW.storeAgg hb8 rfl rfl rfl rfl (one_l _) fun w2 hb8' hg => ?_
      have hXX := hw1.own hb8b hg
      have hb8w : w.heap.size ≤ b8 := Nat.le_trans hw.size hb8b
      replace hw := Ext.trans hw hXX
      replace hb2 := hb2.ext hXX
      replace hb3 := hb3.ext hXX
      replace hb7 := hb7.ext hXX
      replace hb8 := hb8'
      clear hb8' hw1 hg hXX
      repeat' (first | (show CW _ _ _ _ _ _; first | refine CW.seq ?_ | refine CW.region ?_ | refine CW.condf rfl ?_ | refine CW.skip ?_) | (show Post _ _ _ _ _; first | refine Post.seq ?_ | refine Post.blk ?_) | refine SW.nil ?_ | (show SW _ _ _ _ (⟨_, _, _, _, _, some _⟩ :: _) _ _; first | refine SW.want_f rfl rfl (by with_reducible rfl) ?_ | refine SW.splitn_f rfl rfl rfl (by omega) ?_) | refine SW.pure rfl rfl ?_ | (show SW _ _ _ _ (⟨_, Op.fieldAddr _ _ _, _, _, _, none⟩ :: _) _ _; refine SW.st (st_field rfl) rfl ?_) | (show SW _ _ _ _ (⟨_, Op.binOp _ _ _ _ _, _, _, _, none⟩ :: _) _ _; refine SW.st (st_add rfl rfl (by omega) (by omega)) rfl ?_) | (show SW _ _ _ _ (⟨_, Op.load _ _, _, _, _, none⟩ :: _) _ _; first | refine SW.st (st_load rfl (hb7.cell rfl)) rfl ?_ | refine SW.st (st_load rfl (hb8.cell rfl)) rfl ?_) | (show SW _ _ _ _ (⟨_, Op.call ⟨.value (.func _), _, _⟩, _, _, _, none⟩ :: _) _ _; (refine SW.call rfl rfl (cP _ hw) ?_; intro v w1 hw1 hv; subst hv; replace hw := Ext.trans hw hw1; replace hb2 := hb2.ext hw1; replace hb3 := hb3.ext hw1; clear hw1)))
      all_goals first | (exfalso; omega) | skip
      exact Post.again (k + 1) ⟨rfl, rfl, rfl, trivial⟩ (by omega) ⟨by omega, hw, hb2, hb3⟩
    · repeat' (first | (show CW _ _ _ _ _ _; first | refine CW.seq ?_ | refine CW.region ?_ | refine CW.condd_f rfl (by omega) ?_ | refine CW.ret ?_ | refine CW.exit ?_) | (show Post _ _ _ _ _; first | refine Post.seq ?_ | refine Post.seq_exit ?_ | refine Post.hit ?_ | refine Post.again_exit ?_) | refine SW.nil ?_ | refine SW.pure rfl rfl ?_ | (show SW _ _ _ _ (⟨_, Op.fieldAddr _ _ _, _, _, _, none⟩ :: _) _ _; refine SW.st (st_field rfl) rfl ?_) | (show SW _ _ _ _ (⟨_, Op.call ⟨.builtin .len, _, _⟩, _, _, _, none⟩ :: _) _ _; refine SW.st (st_len rfl) rfl ?_) | (show SW _ _ _ _ (⟨_, Op.load _ _, _, _, _, none⟩ :: _) _ _; refine SW.st (st_load rfl (hb2.cell rfl)) rfl ?_))
      exact Post.ret1 rfl rfl ⟨_, rfl, hw, rfl⟩

end Go.Proofs.YtfommgdbahemfaaDoor

/-
  Contracts: lists of regions and of slabs, copied and held against each other.
-/
set_option linter.unusedVariables false
namespace Go.Proofs.YtfommgdbahemfaaDoor
open Go.RowKit









end Go.Proofs.YtfommgdbahemfaaDoor
