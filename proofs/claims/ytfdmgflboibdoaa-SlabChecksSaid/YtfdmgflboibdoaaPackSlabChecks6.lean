/-
  Contracts: pages.Copy, sameHeap; the law PagesCopies.
-/
import Derived.Test.YtfdmgflboibdoaaPackSlabChecks5
import Derived.Test.YtfdmgflboibdoaaPackSlabChecks4
set_option linter.unusedVariables false
namespace Go.Proofs.Ytfdmgflboibdoaa
open Go.RowKit

theorem one_h (r : HRow) : ∀ v ∈ encH r, v.oneCell' = true := Enc.one (enc := encH) r
theorem one_l (r : LRow) : ∀ v ∈ encL r, v.oneCell' = true := Enc.one (enc := encL) r

/-- the pages of two lists do not lie in one block -/
def SepL (ls : List LRow) : Prop := ∀ (i j : Nat) (hi : i < ls.length) (hj : j < ls.length), i ≠ j → ∀ g, ownB ls[i].Pages.A ls[i].Pages.c = some g → ownB ls[j].Pages.A ls[j].Pages.c ≠ some g
/-- the pages of the lists lie apart from each other, and from the other lists of integers -/
structure SepM (m : Sli) (zs : List ZRow) (ls : List LRow) : Prop where
  mins : ∀ (i : Nat) (hi : i < ls.length) (g : Nat), ownB ls[i].Pages.A ls[i].Pages.c = some g → ownB m.A m.c ≠ some g
  types : ∀ (i : Nat) (hi : i < ls.length) (g : Nat), ownB ls[i].Pages.A ls[i].Pages.c = some g → ∀ u ∈ zs, ownB u.Types.A u.Types.c ≠ some g
  sep : SepL ls
theorem SepM.nil (m : Sli) (zs : List ZRow) : SepM m zs [] := ⟨fun i hi => by simp at hi, fun i hi => by simp at hi, fun i j hi => by simp at hi⟩
theorem SepM.snoc {w : World} {lo : Nat} {m : Sli} {zs : List ZRow} {ls : List LRow} {s li : Sli} {x : List Int} {zl : List Zone} {L : List PList} {y : LRow} (h : SepM m zs ls) (hm : Own w lo 3 1 encI m.A m.n m.c x) (hz : OwnZs w lo s zs zl) (hl : OwnLs w lo li ls L) (hy : ∀ g, ownB y.Pages.A y.Pages.c = some g → w.heap.size ≤ g) : SepM m zs (ls ++ [y]) := by
  have hlt : ∀ (i : Nat) (hi : i < ls.length) (g : Nat), ownB ls[i].Pages.A ls[i].Pages.c = some g → g < w.heap.size := fun i hi g e => (hl.each.get i hi (by rw [← hl.each.len]; exact hi)).pages.lt_size g e
  have key : ∀ (i : Nat) (hi : i < (ls ++ [y]).length), (∃ h : i < ls.length, (ls ++ [y])[i] = ls[i]) ∨ (i = ls.length ∧ (ls ++ [y])[i] = y) := fun i hi => by
    by_cases e : i < ls.length
    · exact .inl ⟨e, List.getElem_append_left e⟩
    · have : i = ls.length := by simp at hi; omega
      subst this
      exact .inr ⟨rfl, by simp⟩
  refine ⟨fun i hi g e => ?_, fun i hi g e u hu => ?_, fun i j hi hj hij g e e2 => ?_⟩
  · rcases key i hi with ⟨h1, h2⟩ | ⟨h1, h2⟩
    · rw [h2] at e; exact h.mins i h1 g e
    · rw [h2] at e; intro e3; have := hm.lt_size g e3; have := hy g e; omega
  · rcases key i hi with ⟨h1, h2⟩ | ⟨h1, h2⟩
    · rw [h2] at e; exact h.types i h1 g e u hu
    · rw [h2] at e
      intro e3
      obtain ⟨j, hj, rfl⟩ := List.getElem_of_mem hu
      have := (hz.each.get j hj (by rw [← hz.each.len]; exact hj)).types.lt_size g e3
      have := hy g e
      omega
  · rcases key i hi with ⟨h1, h2⟩ | ⟨h1, h2⟩
    · rw [h2] at e
      rcases key j hj with ⟨h3, h4⟩ | ⟨h3, h4⟩
      · rw [h4] at e2; exact h.sep i j h1 h3 hij g e e2
      · rw [h4] at e2; have := hlt i h1 g e; have := hy g e2; omega
    · rw [h2] at e
      rcases key j hj with ⟨h3, h4⟩ | ⟨h3, h4⟩
      · rw [h4] at e2; have := hlt j h3 g e2; have := hy g e; omega
      · omega
/-- what was given away lies apart from what is free -/
def SepF (lv : Sli) (zs : List ZRow) : Prop := ∀ u ∈ zs, ∀ g, ownB u.Free.A u.Free.c = some g → ownB lv.A lv.c ≠ some g
theorem SepF.nil (lv : Sli) : SepF lv [] := fun u hu => by simp at hu
theorem SepF.snoc {w : World} {lo : Nat} {lv : Sli} {zs : List ZRow} {x : List Block} {u : ZRow} (h : SepF lv zs) (hl : Own w lo 86 3 encBk lv.A lv.n lv.c x) (hu : ∀ g, ownB u.Free.A u.Free.c = some g → w.heap.size ≤ g) : SepF lv (zs ++ [u]) := fun y hy g e e2 => by
  rcases List.mem_append.1 hy with hy | hy
  · exact h y hy g e e2
  · simp at hy; subst hy
    have := hu g e
    have := hl.lt_size g e2
    omega
structure OwnHS (w : World) (lo : Nat) (r : HRow) (h : Heap) : Prop where
  own : OwnH w lo r h
  all : ∃ zs ls, OwnZs w lo r.Zones zs h.Zones ∧ OwnLs w lo r.Lists ls h.Lists ∧ SepM r.Mins zs ls ∧ SepF r.Live zs

set_option maxHeartbeats 4000000 in
theorem HcopyS_ans (r : HRow) (h : Heap) (w : World) (hr : RdH w r h) (hs : h.small) :
    Ans Try.prog 23 [.agg (encH r).toArray] w fun v w' => ∃ s, v = .agg (encH s).toArray ∧ OwnHS w' w.heap.size s h := by
  refine ans_of Try.func23 rfl Try.ntmps23 rfl ?_
  refine CW.seq (CW.region (SW.box rfl rfl fun b1 w1 hw hb1b hb1 => ?_))
  refine SW.alloc rfl fun b2 w2 hw2 hb2b hb2 => ?_
  have hb2w : w.heap.size ≤ b2 := Nat.le_trans hw.size hb2b
  have hne2 : b2 ≠ b1 := by have := hb1.lt; omega
  (replace hw := Ext.trans hw hw2; replace hb1 := hb1.ext hw2)
  obtain ⟨zs, hz⟩ := hr.zones
  obtain ⟨ls, hl⟩ := hr.lists
  have hml := hr.mins.len
  have hvl := hr.live.len
  have s1 := hs.mins
  have s2 := hs.live
  have s3 := hs.zones
  have s4 := hs.lists
  obtain ⟨z1, z2⟩ := hz.len
  obtain ⟨l1, l2⟩ := hl.len
  repeat' (first | (show CW _ _ _ _ _ _; refine CW.seq ?_) | (show Post _ _ _ _ _; refine Post.seq ?_) | refine SW.nil ?_)
  obtain ⟨K, hK⟩ : ∃ K : Env → World → Prop, K = fun L' w' => ∃ X c1 Y d1 b3, subEnv L' [(1, .pointer (some ⟨b1, 0, none⟩)), (2, .pointer (some ⟨b2, 0, none⟩)), (3, .pointer (some ⟨b3, 0, none⟩))] ∧ Ext w w' ∧ Blk w' b1 27 (encH r) ∧ Blk w' b2 27 (encH .zero) ∧
    Blk w' b3 27 (encH ⟨.nil, ⟨X, r.Mins.n, c1⟩, r.Cpus, .nil, ⟨Y, r.Live.n, d1⟩⟩) ∧ Own w' w.heap.size 3 1 encI X r.Mins.n c1 h.Mins ∧ Own w' w.heap.size 86 3 encBk Y r.Live.n d1 h.Live ∧ w.heap.size ≤ b3 ∧ b1 ≠ b3 ∧ b2 ≠ b3 := ⟨_, rfl⟩
  refine CW.cut K ?_ ?_
  · refine CW.any 10 mixed (rb_tail (by kernel_rfl)) rfl fun w1 hw1 hRB => ?_
    replace hw := Ext.trans hw hw1; replace hb1 := hb1.ext hw1; replace hb2 := hb2.ext hw1; clear hw1
    refine SA.take 0 hRB rfl (by kernel_rfl) (by kernel_rfl) rfl ?_
    repeat ((show SW _ _ _ _ (⟨_, Op.fieldAddr _ _ _, _, _, _, none⟩ :: _) _ _; refine SW.st (st_field rfl) rfl ?_))
    refine SW.tknil ?_
    refine SA.take 1 hRB rfl (by kernel_rfl) (by kernel_rfl) rfl ?_
    repeat ((show SW _ _ _ _ (⟨_, Op.load _ _, _, _, _, none⟩ :: _) _ _; refine SW.st (st_load rfl (hb1.cell rfl)) rfl ?_))
    refine SW.tknil ?_
    refine SA.take 3 hRB rfl (by kernel_rfl) (by kernel_rfl) rfl ?_
    repeat ((show SW _ _ _ _ (⟨_, Op.fieldAddr _ _ _, _, _, _, none⟩ :: _) _ _; refine SW.st (st_field rfl) rfl ?_))
    refine SW.tknil ?_
    refine SA.take 4 hRB rfl (by kernel_rfl) (by kernel_rfl) rfl ?_
    repeat ((show SW _ _ _ _ (⟨_, Op.load _ _, _, _, _, none⟩ :: _) _ _; refine SW.st (st_load rfl (hb1.cell rfl)) rfl ?_))
    refine SW.tknil ?_
    refine SA.take 5 hRB rfl (by kernel_rfl) (by kernel_rfl) rfl ?_
    repeat ((show SW _ _ _ _ (⟨_, Op.fieldAddr _ _ _, _, _, _, none⟩ :: _) _ _; refine SW.st (st_field rfl) rfl ?_))
    refine SW.tknil ?_
    refine SA.take 6 hRB rfl (by kernel_rfl) (by kernel_rfl) rfl ?_
    repeat ((show SW _ _ _ _ (⟨_, Op.load _ _, _, _, _, none⟩ :: _) _ _; refine SW.st (st_load rfl (hb1.cell rfl)) rfl ?_))
    refine SW.tknil ?_
    refine SA.two 2 9 rfl rfl (by kernel_rfl) rfl rfl ?_ ?_
    · refine SW.call rfl rfl (CloneInt_ans _ _ _ _ _ (hr.mins.ext hw) (by omega)) fun v w4 hXX hv => ?_
      obtain ⟨X, c4, rfl, hX⟩ := hv
      replace hX := hX.low hw.size
      replace hw := Ext.trans hw hXX
      replace hb1 := hb1.ext hXX
      replace hb2 := hb2.ext hXX
      try replace hb3 := hb3.ext hXX
      refine SW.nil (Post.sa hXX ?_)
      refine SA.two 7 9 rfl rfl (by kernel_rfl) rfl rfl ?_ ?_
      · refine SW.call rfl rfl (CloneBlock_ans _ _ _ _ _ (hr.live.ext hw) (by omega)) fun v w4 hXX hv => ?_
        obtain ⟨Y, d4, rfl, hY⟩ := hv
        replace hY := hY.low hw.size
        replace hX := hX.ext hXX
        replace hw := Ext.trans hw hXX
        replace hb1 := hb1.ext hXX
        replace hb2 := hb2.ext hXX
        try replace hb3 := hb3.ext hXX
        refine SW.nil (Post.sa hXX ?_)
        refine SA.take 8 hRB rfl (by kernel_rfl) (by kernel_rfl) rfl ?_
        repeat ((show SW _ _ _ _ (⟨_, Op.build _ _, _, _, _, none⟩ :: _) _ _; refine SW.st (st_build rfl rfl) rfl ?_))
        refine SW.tknil ?_
        refine SA.one 9 rfl (by kernel_rfl) rfl ?_
        refine SW.alloc rfl fun b3 w4 hXX hb3b hb3 => ?_
        have hb3w : w.heap.size ≤ b3 := Nat.le_trans hw.size hb3b
        have hne3 : b1 ≠ b3 := by have := hb1.lt; omega
        have hne4 : b2 ≠ b3 := by have := hb2.lt; omega
        replace hw := Ext.trans hw hXX
        replace hb1 := hb1.ext hXX
        replace hb2 := hb2.ext hXX
        try replace hX := hX.ext hXX
        try replace hY := hY.ext hXX
        refine SW.nil (Post.sa hXX ?_)
        refine SA.done (by kernel_rfl) ?_
        skip
        refine SW.storeAgg hb3 rfl rfl rfl rfl (one_h ⟨.nil, ⟨X, r.Mins.n, c4⟩, r.Cpus, .nil, ⟨Y, r.Live.n, d4⟩⟩) fun w5 hR2 hg => ?_
        have hG := hb3.gr hg
        replace hw := hw.own hb3w hg
        (replace hX := hX.grT hG rfl; replace hY := hY.grT hG rfl)
        replace hb1 := hb1.grown hg (by simpa using hne3)
        replace hb2 := hb2.grown hg (by simpa using hne4)
        repeat' (first | (show Post _ _ _ _ _; refine Post.np ?_) | refine SW.nil ?_)
        exact Post.cut (K := K) (by rw [hK]; exact ⟨X, c4, Y, d4, b3, ⟨rfl, rfl, rfl, trivial⟩, hw, hb1, hb2, hR2, hX, hY, hb3w, hne3, hne4⟩)
      · refine SW.alloc rfl fun b3 w4 hXX hb3b hb3 => ?_
        have hb3w : w.heap.size ≤ b3 := Nat.le_trans hw.size hb3b
        have hne3 : b1 ≠ b3 := by have := hb1.lt; omega
        have hne4 : b2 ≠ b3 := by have := hb2.lt; omega
        replace hw := Ext.trans hw hXX
        replace hb1 := hb1.ext hXX
        replace hb2 := hb2.ext hXX
        try replace hX := hX.ext hXX
        try replace hY := hY.ext hXX
        refine SW.nil (Post.sa hXX ?_)
        refine SA.one 7 rfl (by kernel_rfl) rfl ?_
        refine SW.call rfl rfl (CloneBlock_ans _ _ _ _ _ (hr.live.ext hw) (by omega)) fun v w4 hXX hv => ?_
        obtain ⟨Y, d4, rfl, hY⟩ := hv
        replace hY := hY.low hw.size
        replace hX := hX.ext hXX
        replace hw := Ext.trans hw hXX
        replace hb1 := hb1.ext hXX
        replace hb2 := hb2.ext hXX
        try replace hb3 := hb3.ext hXX
        refine SW.nil (Post.sa hXX ?_)
        refine SA.take 8 hRB rfl (by kernel_rfl) (by kernel_rfl) rfl ?_
        repeat ((show SW _ _ _ _ (⟨_, Op.build _ _, _, _, _, none⟩ :: _) _ _; refine SW.st (st_build rfl rfl) rfl ?_))
        refine SW.tknil ?_
        refine SA.done (by kernel_rfl) ?_
        skip
        refine SW.storeAgg hb3 rfl rfl rfl rfl (one_h ⟨.nil, ⟨X, r.Mins.n, c4⟩, r.Cpus, .nil, ⟨Y, r.Live.n, d4⟩⟩) fun w5 hR2 hg => ?_
        have hG := hb3.gr hg
        replace hw := hw.own hb3w hg
        (replace hX := hX.grT hG rfl; replace hY := hY.grT hG rfl)
        replace hb1 := hb1.grown hg (by simpa using hne3)
        replace hb2 := hb2.grown hg (by simpa using hne4)
        repeat' (first | (show Post _ _ _ _ _; refine Post.np ?_) | refine SW.nil ?_)
        exact Post.cut (K := K) (by rw [hK]; exact ⟨X, c4, Y, d4, b3, ⟨rfl, rfl, rfl, trivial⟩, hw, hb1, hb2, hR2, hX, hY, hb3w, hne3, hne4⟩)
    · refine SW.alloc rfl fun b3 w4 hXX hb3b hb3 => ?_
      have hb3w : w.heap.size ≤ b3 := Nat.le_trans hw.size hb3b
      have hne3 : b1 ≠ b3 := by have := hb1.lt; omega
      have hne4 : b2 ≠ b3 := by have := hb2.lt; omega
      replace hw := Ext.trans hw hXX
      replace hb1 := hb1.ext hXX
      replace hb2 := hb2.ext hXX
      try replace hX := hX.ext hXX
      try replace hY := hY.ext hXX
      refine SW.nil (Post.sa hXX ?_)
      refine SA.one 2 rfl (by kernel_rfl) rfl ?_
      refine SW.call rfl rfl (CloneInt_ans _ _ _ _ _ (hr.mins.ext hw) (by omega)) fun v w4 hXX hv => ?_
      obtain ⟨X, c4, rfl, hX⟩ := hv
      replace hX := hX.low hw.size
      replace hw := Ext.trans hw hXX
      replace hb1 := hb1.ext hXX
      replace hb2 := hb2.ext hXX
      try replace hb3 := hb3.ext hXX
      refine SW.nil (Post.sa hXX ?_)
      refine SA.one 7 rfl (by kernel_rfl) rfl ?_
      refine SW.call rfl rfl (CloneBlock_ans _ _ _ _ _ (hr.live.ext hw) (by omega)) fun v w4 hXX hv => ?_
      obtain ⟨Y, d4, rfl, hY⟩ := hv
      replace hY := hY.low hw.size
      replace hX := hX.ext hXX
      replace hw := Ext.trans hw hXX
      replace hb1 := hb1.ext hXX
      replace hb2 := hb2.ext hXX
      try replace hb3 := hb3.ext hXX
      refine SW.nil (Post.sa hXX ?_)
      refine SA.take 8 hRB rfl (by kernel_rfl) (by kernel_rfl) rfl ?_
      repeat ((show SW _ _ _ _ (⟨_, Op.build _ _, _, _, _, none⟩ :: _) _ _; refine SW.st (st_build rfl rfl) rfl ?_))
      refine SW.tknil ?_
      refine SA.done (by kernel_rfl) ?_
      skip
      refine SW.storeAgg hb3 rfl rfl rfl rfl (one_h ⟨.nil, ⟨X, r.Mins.n, c4⟩, r.Cpus, .nil, ⟨Y, r.Live.n, d4⟩⟩) fun w5 hR2 hg => ?_
      have hG := hb3.gr hg
      replace hw := hw.own hb3w hg
      (replace hX := hX.grT hG rfl; replace hY := hY.grT hG rfl)
      replace hb1 := hb1.grown hg (by simpa using hne3)
      replace hb2 := hb2.grown hg (by simpa using hne4)
      repeat' (first | (show Post _ _ _ _ _; refine Post.np ?_) | refine SW.nil ?_)
      exact Post.cut (K := K) (by rw [hK]; exact ⟨X, c4, Y, d4, b3, ⟨rfl, rfl, rfl, trivial⟩, hw, hb1, hb2, hR2, hX, hY, hb3w, hne3, hne4⟩)
  · clear hb1 hb2 hw
    subst hK
    rintro L' w' ⟨X, c4, Y, d4, b3, hsub, hw, hb1, hb2, hb3, hX, hY, hb3w, hne3, hne4⟩
    refine Post.sub hsub ?_
    repeat' (first | (show CW _ _ _ _ _ _; first | refine CW.seq ?_ | refine CW.region ?_ | refine CW.block ?_) | (show Post _ _ _ _ _; refine Post.seq ?_) | refine SW.nil ?_ | refine SW.pure rfl rfl ?_ | (show SW _ _ _ _ (⟨_, Op.fieldAddr _ _ _, _, _, _, none⟩ :: _) _ _; refine SW.st (st_field rfl) rfl ?_) | (show SW _ _ _ _ (⟨_, Op.call ⟨.builtin .len, _, _⟩, _, _, _, none⟩ :: _) _ _; refine SW.st (st_len rfl) rfl ?_) | (show SW _ _ _ _ (⟨_, Op.load _ _, _, _, _, none⟩ :: _) _ _; refine SW.st (st_load rfl (hb1.cell rfl)) rfl ?_))
    refine CW.loop (fun s : Nat × Option Addr × Nat × List ZRow => [(1, .pointer (some ⟨b1, 0, none⟩)), (2, .pointer (some ⟨b2, 0, none⟩)), (3, .pointer (some ⟨b3, 0, none⟩)), (18, .slice r.Zones.A r.Zones.n r.Zones.c), (19, .int .i64 (r.Zones.n : Int)), (20, .int .i64 (s.1 : Int))])
      (fun s w' => s.1 ≤ r.Zones.n ∧ Ext w w' ∧ Blk w' b1 27 (encH r) ∧ Blk w' b2 27 (encH .zero) ∧ Blk w' b3 27 (encH ⟨⟨s.2.1, s.1, s.2.2.1⟩, ⟨X, r.Mins.n, c4⟩, r.Cpus, .nil, ⟨Y, r.Live.n, d4⟩⟩) ∧ Own w' w.heap.size 3 1 encI X r.Mins.n c4 h.Mins ∧ Own w' w.heap.size 86 3 encBk Y r.Live.n d4 h.Live ∧
        OwnZs w' w.heap.size ⟨s.2.1, s.1, s.2.2.1⟩ s.2.2.2 (h.Zones.take s.1) ∧ SepF ⟨Y, r.Live.n, d4⟩ s.2.2.2) (fun s => r.Zones.n - s.1) (0, none, 0, []) ⟨rfl, rfl, rfl, rfl, rfl, rfl, trivial⟩ ⟨by omega, hw, hb1, hb2, hb3, hX, hY, OwnZs.nil _ _, SepF.nil _⟩ ?_
    clear hb1 hb2 hb3 hX hY hw hsub
    rintro ⟨k, A, c, zr⟩ w' ⟨hk, hw, hb1, hb2, hb3, hX, hY, hO, hSf⟩
    simp only at hk hb3 hO hSf ⊢
    have hA := hz.row.base
    by_cases hkn : k < r.Zones.n
    · have hzk := hz.each.get k (by omega) (by omega)
      have hin : h.Zones[k]'(by omega) ∈ h.Zones := List.getElem_mem _
      have q := hs.free _ hin
      have q1 := hzk.free.len
      have q2 := hzk.types.len
      repeat' (first | (show CW _ _ _ _ _ _; first | refine CW.seq ?_ | refine CW.region ?_ | refine CW.block ?_ | refine CW.condd_t rfl (by omega) ?_ | refine CW.skip ?_) | (show Post _ _ _ _ _; refine Post.seq ?_) | refine SW.nil ?_ | refine SW.pure rfl rfl ?_ | (show SW _ _ _ _ (⟨_, Op.indexAddr _ _ _, _, _, _, none⟩ :: _) _ _; refine SW.st (st_indexN rfl rfl (by assumption) (by omega)) rfl ?_) | (show SW _ _ _ _ (⟨_, Op.load _ _, _, _, _, none⟩ :: _) _ _; refine SW.st (st_loadsx hw rfl rfl ((hz.row.all hkn))) rfl ?_))
      refine SW.alloc rfl fun b5 w1 hw1 hb5b hb5 => ?_
      skip
      refine SW.storeAgg hb5 rfl rfl rfl rfl (one_z _) fun w2 hb5' hg => ?_
      have hXX := hw1.own hb5b hg
      have hb5w : w.heap.size ≤ b5 := Nat.le_trans hw.size hb5b
      replace hw := Ext.trans hw hXX
      replace hb1 := hb1.ext hXX
      replace hb2 := hb2.ext hXX
      replace hb3 := hb3.ext hXX
      replace hX := hX.ext hXX
      replace hY := hY.ext hXX
      replace hO := hO.ext hXX
      replace hb5 := hb5'
      clear hb5' hw1 hg hXX
      repeat' (first | (show Post _ _ _ _ _; refine Post.seq ?_) | refine SW.nil ?_)
      refine CW.any 5 mixed (rb_tail (by kernel_rfl)) rfl fun w1 hw1 hRB => ?_
      replace hw := Ext.trans hw hw1; replace hb1 := hb1.ext hw1; replace hb2 := hb2.ext hw1; replace hb3 := hb3.ext hw1; replace hb5 := hb5.ext hw1; replace hX := hX.ext hw1; replace hY := hY.ext hw1; replace hO := hO.ext hw1; clear hw1
      refine SA.take 0 hRB rfl (by kernel_rfl) (by kernel_rfl) rfl ?_
      repeat ((show SW _ _ _ _ (⟨_, Op.fieldAddr _ _ _, _, _, _, none⟩ :: _) _ _; refine SW.st (st_field rfl) rfl ?_))
      refine SW.tknil ?_
      refine SA.take 1 hRB rfl (by kernel_rfl) (by kernel_rfl) rfl ?_
      repeat ((show SW _ _ _ _ (⟨_, Op.load _ _, _, _, _, none⟩ :: _) _ _; refine SW.st (st_load rfl (hb3.cell rfl)) rfl ?_))
      refine SW.tknil ?_
      refine SA.take 2 hRB rfl (by kernel_rfl) (by kernel_rfl) rfl ?_
      repeat ((show SW _ _ _ _ (⟨_, Op.load _ _, _, _, _, none⟩ :: _) _ _; refine SW.st (st_loads rfl rfl ((fun _ _ => hb5.cell))) rfl ?_))
      refine SW.tknil ?_
      refine SA.one 3 rfl (by kernel_rfl) rfl ?_
      refine SW.call rfl rfl (Zcopy_ans _ _ _ (hzk.ext hw) (by omega) (by omega)) fun v w4 hXX hv => ?_
      obtain ⟨s, rfl, hs', e1, e2⟩ := hv
      have hSf' := hSf.snoc (u := s) hY hs'.free.row_ge
      replace hs' := hs'.low hw.size
      (replace hw := Ext.trans hw hXX; replace hb1 := hb1.ext hXX; replace hb2 := hb2.ext hXX; replace hb3 := hb3.ext hXX; replace hb5 := hb5.ext hXX; replace hX := hX.ext hXX; replace hY := hY.ext hXX; replace hO := hO.ext hXX)
      refine SW.nil (Post.sa hXX ?_)
      refine SA.one 4 rfl (by kernel_rfl) rfl ?_
      refine SW.build1 rfl rfl rfl rfl rfl fun b w4 hXX hb hB => ?_
      (replace hw := Ext.trans hw hXX; replace hb1 := hb1.ext hXX; replace hb2 := hb2.ext hXX; replace hb3 := hb3.ext hXX; replace hb5 := hb5.ext hXX; replace hX := hX.ext hXX; replace hY := hY.ext hXX; replace hO := hO.ext hXX; replace hs' := hs'.ext hXX)
      refine SW.nil (Post.sa hXX ?_)
      refine SA.done (by kernel_rfl) ?_
      refine SW.append hO.row (Blk.sl1 (enc := encZ) hB) hw.size rfl rfl rfl (by simp only; omega) (by simp only; omega) fun A2 c2 w5 hO1 hg => ?_
      have hG := hO.row.gr hg
      replace hw := ext_grown hw hg (Nat.le_refl _) hO.row.row_ge
      (replace hb1 := hb1.grT hG rfl; replace hb2 := hb2.grT hG rfl; replace hb3 := hb3.grT hG rfl; replace hX := hX.grT hG rfl; replace hY := hY.grT hG rfl; replace hs' := hs'.grT hG rfl)
      have hE := hO.each.mono fun _ _ h => h.grT hG rfl
      repeat' ((show SW _ _ _ _ (⟨_, Op.fieldAddr _ _ _, _, _, _, none⟩ :: _) _ _; refine SW.st (st_field rfl) rfl ?_))
      refine SW.storeB (i := 0) hb3 rfl rfl rfl rfl fun w6 hb3' hg => ?_
      have hG := hb3.gr hg
      replace hw := hw.own hb3w hg
      replace hb1 := hb1.grown hg (by simpa using hne3)
      replace hb2 := hb2.grown hg (by simpa using hne4)
      (replace hX := hX.grT hG rfl; replace hY := hY.grT hG rfl; replace hs' := hs'.grT hG rfl; replace hO1 := hO1.grT hG rfl)
      replace hE := hE.mono fun _ _ h => h.grT hG rfl
      repeat' (first | (show CW _ _ _ _ _ _; refine CW.region ?_) | (show Post _ _ _ _ _; first | refine Post.seq ?_ | refine Post.blk ?_ | refine Post.np ?_) | refine SW.nil ?_ | refine SW.pure rfl rfl ?_ | (show SW _ _ _ _ (⟨_, Op.binOp _ _ _ _ _, _, _, _, none⟩ :: _) _ _; refine SW.st (st_add rfl rfl (by omega) (by omega)) rfl ?_))
      refine Post.again (k + 1, A2, c2, zr ++ [s]) ⟨rfl, rfl, rfl, rfl, rfl, rfl, trivial⟩ (by simp only; omega) ⟨by simp only; omega, hw, hb1, hb2, hb3', hX, hY, ⟨hO1, ?_⟩, hSf'⟩
      rw [List.take_succ_eq_append_getElem (by omega)]
      exact hE.snoc hs'
    · obtain rfl : k = r.Zones.n := by omega
      rw [List.take_of_length_le (by omega)] at hO
      repeat' (first | (show CW _ _ _ _ _ _; first | refine CW.seq ?_ | refine CW.region ?_ | refine CW.block ?_ | refine CW.condd_f rfl (by omega) ?_ | refine CW.exit ?_) | (show Post _ _ _ _ _; first | refine Post.seq ?_ | refine Post.seq_exit ?_ | refine Post.hit ?_ | refine Post.again_exit ?_) | refine SW.nil ?_ | refine SW.pure rfl rfl ?_ | (show SW _ _ _ _ (⟨_, Op.fieldAddr _ _ _, _, _, _, none⟩ :: _) _ _; refine SW.st (st_field rfl) rfl ?_) | (show SW _ _ _ _ (⟨_, Op.call ⟨.builtin .len, _, _⟩, _, _, _, none⟩ :: _) _ _; refine SW.st (st_len rfl) rfl ?_) | (show SW _ _ _ _ (⟨_, Op.load _ _, _, _, _, none⟩ :: _) _ _; refine SW.st (st_load rfl (hb1.cell rfl)) rfl ?_))
      refine CW.loop (fun s : Nat × Option Addr × Nat × List LRow => [(2, .pointer (some ⟨b2, 0, none⟩)), (3, .pointer (some ⟨b3, 0, none⟩)), (33, .slice r.Lists.A r.Lists.n r.Lists.c), (34, .int .i64 (r.Lists.n : Int)), (35, .int .i64 (s.1 : Int))])
        (fun s w' => s.1 ≤ r.Lists.n ∧ Ext w w' ∧ Blk w' b2 27 (encH .zero) ∧ Blk w' b3 27 (encH ⟨⟨A, r.Zones.n, c⟩, ⟨X, r.Mins.n, c4⟩, r.Cpus, ⟨s.2.1, s.1, s.2.2.1⟩, ⟨Y, r.Live.n, d4⟩⟩) ∧ Own w' w.heap.size 3 1 encI X r.Mins.n c4 h.Mins ∧ Own w' w.heap.size 86 3 encBk Y r.Live.n d4 h.Live ∧
          OwnZs w' w.heap.size ⟨A, r.Zones.n, c⟩ zr h.Zones ∧ OwnLs w' w.heap.size ⟨s.2.1, s.1, s.2.2.1⟩ s.2.2.2 (h.Lists.take s.1) ∧ SepM ⟨X, r.Mins.n, c4⟩ zr s.2.2.2) (fun s => r.Lists.n - s.1) (0, none, 0, []) ⟨rfl, rfl, rfl, rfl, rfl, trivial⟩ ⟨by omega, hw, hb2, hb3, hX, hY, hO, OwnLs.nil _ _, SepM.nil _ _⟩ ?_
      clear hb1 hb2 hb3 hX hY hw hO
      rintro ⟨k, B, d, lr⟩ w' ⟨hk, hw, hb2, hb3, hX, hY, hO, hP, hSp⟩
      simp only at hk hb3 hP hSp ⊢
      have hA := hl.row.base
      by_cases hkn : k < r.Lists.n
      · have hlk := hl.each.get k (by omega) (by omega)
        have hin : h.Lists[k]'(by omega) ∈ h.Lists := List.getElem_mem _
        have q := hs.pages _ hin
        have q1 := hlk.pages.len
        repeat' (first | (show CW _ _ _ _ _ _; first | refine CW.seq ?_ | refine CW.region ?_ | refine CW.block ?_ | refine CW.condd_t rfl (by omega) ?_ | refine CW.skip ?_) | (show Post _ _ _ _ _; refine Post.seq ?_) | refine SW.nil ?_ | refine SW.pure rfl rfl ?_ | (show SW _ _ _ _ (⟨_, Op.indexAddr _ _ _, _, _, _, none⟩ :: _) _ _; refine SW.st (st_indexN rfl rfl (by assumption) (by omega)) rfl ?_) | (show SW _ _ _ _ (⟨_, Op.load _ _, _, _, _, none⟩ :: _) _ _; refine SW.st (st_loadsx hw rfl rfl ((hl.row.all hkn))) rfl ?_))
        have hlt7 := hP.row.lt_size
        refine SW.alloc rfl fun b7 w1 hw1 hb7b hb7 => ?_
        skip
        refine SW.storeAgg hb7 rfl rfl rfl rfl (one_l _) fun w2 hb7' hg => ?_
        have hXX := hw1.own hb7b hg
        have hb7w : w.heap.size ≤ b7 := Nat.le_trans hw.size hb7b
        replace hw := Ext.trans hw hXX
        replace hb2 := hb2.ext hXX
        replace hb3 := hb3.ext hXX
        replace hX := hX.ext hXX
        replace hY := hY.ext hXX
        replace hO := hO.ext hXX
        replace hP := hP.ext hXX
        replace hb7 := hb7'
        clear hb7' hw1 hg hXX
        repeat' (first | (show CW _ _ _ _ _ _; first | refine CW.seq ?_ | refine CW.region ?_) | (show Post _ _ _ _ _; refine Post.seq ?_) | refine SW.nil ?_ | (show SW _ _ _ _ (⟨_, Op.fieldAddr _ _ _, _, _, _, none⟩ :: _) _ _; refine SW.st (st_field rfl) rfl ?_) | (show SW _ _ _ _ (⟨_, Op.load _ _, _, _, _, none⟩ :: _) _ _; refine SW.st (st_load rfl (hb7.cell rfl)) rfl ?_))
        refine SW.call rfl rfl (CloneInt_ans _ _ _ _ _ (hlk.pages.ext hw) (by omega)) fun v w4 hXX hv => ?_
        obtain ⟨W, e4, rfl, hW⟩ := hv
        replace hSp := hSp.snoc (y := ⟨ls[k].Cpu, ls[k].Zone, ls[k].Ty, ⟨W, ls[k].Pages.n, e4⟩⟩) hX hO hP hW.row_ge
        replace hW := hW.low hw.size
        (replace hw := Ext.trans hw hXX; replace hb2 := hb2.ext hXX; replace hb3 := hb3.ext hXX; replace hb7 := hb7.ext hXX; replace hX := hX.ext hXX; replace hY := hY.ext hXX; replace hO := hO.ext hXX; replace hP := hP.ext hXX)
        repeat' ((show SW _ _ _ _ (⟨_, Op.fieldAddr _ _ _, _, _, _, none⟩ :: _) _ _; refine SW.st (st_field rfl) rfl ?_))
        refine SW.storeB (i := 3) hb7 rfl rfl rfl rfl fun w5 hb7' hg => ?_
        have hG := hb7.gr hg
        replace hw := hw.own hb7w hg
        (replace hb2 := hb2.grT hG rfl; replace hb3 := hb3.grT hG rfl; replace hX := hX.grT hG rfl; replace hY := hY.grT hG rfl; replace hO := hO.grT hG rfl; replace hW := hW.grT hG rfl)
        replace hP : OwnLs w5 w.heap.size ⟨B, k, d⟩ lr (h.Lists.take k) := ⟨hP.row.grown hg (.inr (fun e => by have := hlt7 _ e; omega)), hP.each.mono fun _ _ h => h.grT hG rfl⟩
        repeat' (first | (show CW _ _ _ _ _ _; refine CW.region ?_) | (show Post _ _ _ _ _; refine Post.seq ?_) | refine SW.nil ?_ | (show SW _ _ _ _ (⟨_, Op.fieldAddr _ _ _, _, _, _, none⟩ :: _) _ _; refine SW.st (st_field rfl) rfl ?_) | (show SW _ _ _ _ (⟨_, Op.load _ _, _, _, _, none⟩ :: _) _ _; first | refine SW.st (st_load rfl (hb3.cell rfl)) rfl ?_ | refine SW.st (st_loads rfl rfl ((fun _ _ => hb7'.cell))) rfl ?_))
        refine SW.build1 rfl rfl rfl rfl rfl fun b w6 hXX hb hB => ?_
        (replace hw := Ext.trans hw hXX; replace hb2 := hb2.ext hXX; replace hb3 := hb3.ext hXX; replace hX := hX.ext hXX; replace hY := hY.ext hXX; replace hO := hO.ext hXX; replace hP := hP.ext hXX; replace hW := hW.ext hXX)
        refine SW.append hP.row (Blk.sl1 (enc := encL) (x := ⟨ls[k].Cpu, ls[k].Zone, ls[k].Ty, ⟨W, _, e4⟩⟩) hB) hw.size rfl rfl rfl (by simp only; omega) (by simp only; omega) fun A2 c2 w7 hP1 hg => ?_
        have hG := hP.row.gr hg
        replace hw := ext_grown hw hg (Nat.le_refl _) hP.row.row_ge
        (replace hb2 := hb2.grT hG rfl; replace hb3 := hb3.grT hG rfl; replace hX := hX.grT hG rfl; replace hY := hY.grT hG rfl; replace hO := hO.grT hG rfl; replace hW := hW.grT hG rfl)
        have hE := hP.each.mono fun _ _ h => h.grT hG rfl
        repeat' ((show SW _ _ _ _ (⟨_, Op.fieldAddr _ _ _, _, _, _, none⟩ :: _) _ _; refine SW.st (st_field rfl) rfl ?_))
        refine SW.storeB (i := 3) hb3 rfl rfl rfl rfl fun w8 hb3' hg => ?_
        have hG := hb3.gr hg
        replace hw := hw.own hb3w hg
        replace hb2 := hb2.grown hg (by simpa using hne4)
        (replace hX := hX.grT hG rfl; replace hY := hY.grT hG rfl; replace hO := hO.grT hG rfl; replace hP1 := hP1.grT hG rfl; replace hW := hW.grT hG rfl)
        replace hE := hE.mono fun _ _ h => h.grT hG rfl
        repeat' (first | (show CW _ _ _ _ _ _; refine CW.region ?_) | (show Post _ _ _ _ _; first | refine Post.seq ?_ | refine Post.blk ?_) | refine SW.nil ?_ | refine SW.pure rfl rfl ?_ | (show SW _ _ _ _ (⟨_, Op.binOp _ _ _ _ _, _, _, _, none⟩ :: _) _ _; refine SW.st (st_add rfl rfl (by omega) (by omega)) rfl ?_))
        refine Post.again (k + 1, A2, c2, lr ++ [⟨ls[k].Cpu, ls[k].Zone, ls[k].Ty, ⟨W, _, e4⟩⟩]) ⟨rfl, rfl, rfl, rfl, rfl, trivial⟩ (by simp only; omega) ⟨by simp only; omega, hw, hb2, hb3', hX, hY, hO, ⟨hP1, ?_⟩, hSp⟩
        rw [List.take_succ_eq_append_getElem (by omega)]
        exact hE.snoc ⟨hlk.cpu, hlk.zone, hlk.ty, hW⟩
      · obtain rfl : k = r.Lists.n := by omega
        rw [List.take_of_length_le (by omega)] at hP
        repeat' (first | (show CW _ _ _ _ _ _; first | refine CW.seq ?_ | refine CW.region ?_ | refine CW.condd_f rfl (by omega) ?_ | refine CW.exit ?_) | (show Post _ _ _ _ _; first | refine Post.seq ?_ | refine Post.seq_exit ?_ | refine Post.hit ?_ | refine Post.again_exit ?_) | refine SW.nil ?_ | refine SW.pure rfl rfl ?_ | (show SW _ _ _ _ (⟨_, Op.load _ _, _, _, _, none⟩ :: _) _ _; refine SW.st (st_loads rfl rfl ((fun _ _ => hb3.cell))) rfl ?_))
        refine SW.storeAgg hb2 rfl rfl rfl rfl (one_h _) fun w5 hR2 hg => ?_
        have hG := hb2.gr hg
        replace hw := hw.own hb2w hg
        (replace hX := hX.grT hG rfl; replace hY := hY.grT hG rfl; replace hO := hO.grT hG rfl; replace hP := hP.grT hG rfl)
        repeat' (first | (show CW _ _ _ _ _ _; refine CW.ret ?_) | (show Post _ _ _ _ _; refine Post.seq ?_) | refine SW.nil ?_)
        exact Post.ret1c rfl rfl hR2 rfl ⟨_, rfl, hw, ⟨⟨A, r.Zones.n, c⟩, ⟨X, r.Mins.n, c4⟩, r.Cpus, ⟨B, r.Lists.n, d⟩, ⟨Y, r.Live.n, d4⟩⟩, rfl, ⟨hr.cpus, hX, hY, ⟨zr, hO⟩, ⟨lr, hP⟩⟩, zr, lr, hO, hP, hSp, hSf⟩

theorem Hcopy_ans (r : HRow) (h : Heap) (w : World) (hr : RdH w r h) (hs : h.small) :
    Ans Try.prog 23 [.agg (encH r).toArray] w fun v w' => ∃ s, v = .agg (encH s).toArray ∧ OwnH w' w.heap.size s h :=
  (HcopyS_ans r h w hr hs).mono fun _ _ _ ⟨s, hv, ho⟩ => ⟨s, hv, ho.own⟩
end Go.Proofs.Ytfdmgflboibdoaa

/-
  Contracts: sameHeap; the law PagesCopies.
-/
set_option linter.unusedVariables false
namespace Go.Proofs.Ytfdmgflboibdoaa
open Go.RowKit

set_option maxHeartbeats 4000000 in
theorem sameHeap_ans (r s : HRow) (h : Heap) (w : World) (ha : RdH w r h) (hb : RdH w s h) (hs : h.small) :
    Ans Try.prog 24 [.agg (encH r).toArray, .agg (encH s).toArray] w fun v _ => v = .bool true := by
  refine ans_of Try.func24 rfl Try.ntmps24 rfl ?_
  refine CW.seq (CW.region (SW.box rfl rfl fun b2 w1 hw hb2b hb2 => ?_))
  refine SW.box rfl rfl fun b3 w2 hw2 hb3b hb3 => ?_
  (replace hw := Ext.trans hw hw2; replace hb2 := hb2.ext hw2)
  obtain ⟨zs, hz⟩ := ha.zones
  obtain ⟨ls, hl⟩ := ha.lists
  obtain ⟨zs', hz'⟩ := hb.zones
  obtain ⟨ls', hl'⟩ := hb.lists
  obtain ⟨z1, z2⟩ := hz.len
  obtain ⟨l1, l2⟩ := hl.len
  obtain ⟨z3, z4⟩ := hz'.len
  obtain ⟨l3, l4⟩ := hl'.len
  have s1 := hs.mins
  have s2 := hs.live
  have s3 := hs.zones
  have s4 := hs.lists
  have m1 := ha.mins.len
  have m2 := ha.live.len
  have e1 := ha.cpus
  have e2 := hb.cpus
  have cM : ∀ w', Ext w w' → Ans Try.prog 70 [.slice r.Mins.A r.Mins.n r.Mins.c, .slice s.Mins.A s.Mins.n s.Mins.c] w' fun v _ => v = .bool true := fun w' hx => by
    have := sameInts_ans _ _ _ _ r.Mins.c s.Mins.c _ _ w' (ha.mins.ext hx) (hb.mins.ext hx) (by omega)
    simpa using this
  have cL : ∀ w', Ext w w' → Ans Try.prog 71 [.slice r.Live.A r.Live.n r.Live.c, .slice s.Live.A s.Live.n s.Live.c] w' fun v _ => v = .bool true := fun w' hx => by
    have := sameBlocks_ans _ _ _ _ r.Live.c s.Live.c _ _ w' (ha.live.ext hx) (hb.live.ext hx) (by omega)
    simpa using this
  repeat' (first | (show CW _ _ _ _ _ _; first | refine CW.seq ?_ | refine CW.region ?_ | refine CW.block ?_ | refine CW.condf rfl ?_ | refine CW.skip ?_) | (show Post _ _ _ _ _; refine Post.seq ?_) | refine SW.nil ?_ | (show SW _ _ _ _ (⟨_, _, _, _, _, some _⟩ :: _) _ _; first | refine SW.want_f rfl rfl (by with_reducible rfl) ?_ | refine SW.splitn_f rfl rfl rfl (by omega) ?_ | refine SW.want rfl rfl ?_) | refine SW.pure rfl rfl ?_ | (show SW _ _ _ _ (⟨_, Op.fieldAddr _ _ _, _, _, _, none⟩ :: _) _ _; refine SW.st (st_field rfl) rfl ?_) | (show SW _ _ _ _ (⟨_, Op.call ⟨.builtin .len, _, _⟩, _, _, _, none⟩ :: _) _ _; refine SW.st (st_len rfl) rfl ?_) | (show SW _ _ _ _ (⟨_, Op.load _ _, _, _, _, none⟩ :: _) _ _; first | refine SW.st (st_load rfl (hb2.cell rfl)) rfl ?_ | refine SW.st (st_load rfl (hb3.cell rfl)) rfl ?_) | (show SW _ _ _ _ (⟨_, Op.call ⟨.value (.func _), _, _⟩, _, _, _, none⟩ :: _) _ _; first | (refine SW.call rfl rfl (cM _ hw) ?_; intro v w1 hw1 hv; subst hv; replace hw := Ext.trans hw hw1; replace hb2 := hb2.ext hw1; replace hb3 := hb3.ext hw1; clear hw1) | (refine SW.call rfl rfl (cL _ hw) ?_; intro v w1 hw1 hv; subst hv; replace hw := Ext.trans hw hw1; replace hb2 := hb2.ext hw1; replace hb3 := hb3.ext hw1; clear hw1)))
  all_goals first | (exfalso; omega) | skip
  refine CW.loop (fun k : Nat => [(2, .pointer (some ⟨b2, 0, none⟩)), (3, .pointer (some ⟨b3, 0, none⟩)), (5, .int .i64 (k : Int))]) (fun k w' => k ≤ r.Zones.n ∧ Ext w w' ∧ Blk w' b2 27 (encH r) ∧ Blk w' b3 27 (encH s)) (fun k => r.Zones.n - k) 0
    ⟨rfl, rfl, rfl, trivial⟩ ⟨by omega, hw, hb2, hb3⟩ ?_
  clear hw hb2 hb3
  rintro k w' ⟨hk, hw, hb2, hb3⟩
  have hA := hz.row.base
  have hB := hz'.row.base
  by_cases hkn : k < r.Zones.n
  · have hkn' : k < s.Zones.n := by omega
    have hzk := hz.each.get k (by omega) (by omega)
    have hzk' := hz'.each.get k (by omega) (by omega)
    have q := hs.free _ (List.getElem_mem (show k < h.Zones.length by omega))
    have q1 := hzk.free.len
    have q2 := hzk.types.len
    have cZ : ∀ w', Ext w w' → Ans Try.prog 50 [.agg (encZ zs[k]).toArray, .agg (encZ zs'[k]).toArray] w' fun v _ => v = .bool true := fun w' hx => by
      have := sameZone_ans zs[k] zs'[k] _ _ w' (hzk.ext hx) (hzk'.ext hx) (by omega) (by omega)
      simpa using this
    repeat' (first | (show CW _ _ _ _ _ _; first | refine CW.seq ?_ | refine CW.region ?_ | refine CW.block ?_ | refine CW.condd_t rfl (by omega) ?_ | refine CW.condf rfl ?_ | refine CW.skip ?_ | (apply CW.quiet1 mixed; (· kernel_rfl); rotate_left; intro w1 hw1; replace hw := Ext.trans hw hw1; replace hb2 := hb2.ext hw1; replace hb3 := hb3.ext hw1; clear hw1; rotate_right)) | (show Post _ _ _ _ _; first | refine Post.seq ?_ | refine Post.blk ?_) | refine SW.nil ?_ | refine SW.pure rfl rfl ?_ | (show SW _ _ _ _ (⟨_, Op.fieldAddr _ _ _, _, _, _, none⟩ :: _) _ _; refine SW.st (st_field rfl) rfl ?_) | (show SW _ _ _ _ (⟨_, Op.binOp _ _ _ _ _, _, _, _, none⟩ :: _) _ _; refine SW.st (st_add rfl rfl (by omega) (by omega)) rfl ?_) | (show SW _ _ _ _ (⟨_, Op.indexAddr _ _ _, _, _, _, none⟩ :: _) _ _; refine SW.st (st_indexN rfl rfl (by assumption) (by omega)) rfl ?_) | (show SW _ _ _ _ (⟨_, Op.call ⟨.builtin .len, _, _⟩, _, _, _, none⟩ :: _) _ _; refine SW.st (st_len rfl) rfl ?_) | (show SW _ _ _ _ (⟨_, Op.load _ _, _, _, _, none⟩ :: _) _ _; first | refine SW.st (st_load rfl (hb2.cell rfl)) rfl ?_ | refine SW.st (st_load rfl (hb3.cell rfl)) rfl ?_ | refine SW.st (st_loadsx hw rfl rfl ((hz.row.all hkn))) rfl ?_ | refine SW.st (st_loadsx hw rfl rfl ((hz'.row.all hkn'))) rfl ?_) | (show SW _ _ _ _ (⟨_, Op.call ⟨.value (.func _), _, _⟩, _, _, _, none⟩ :: _) _ _; refine SW.qcall rfl rfl (fun w1 hw1 => (cZ _ (Ext.trans hw hw1))) ?_) | exact SW.qnil rfl)
    exact Post.again (k + 1) ⟨rfl, rfl, rfl, trivial⟩ (by omega) ⟨by omega, hw, hb2, hb3⟩
  · repeat' (first | (show CW _ _ _ _ _ _; first | refine CW.seq ?_ | refine CW.region ?_ | refine CW.block ?_ | refine CW.condd_f rfl (by omega) ?_ | refine CW.exit ?_) | (show Post _ _ _ _ _; first | refine Post.seq ?_ | refine Post.seq_exit ?_ | refine Post.hit ?_ | refine Post.again_exit ?_) | refine SW.nil ?_ | refine SW.pure rfl rfl ?_ | (show SW _ _ _ _ (⟨_, Op.fieldAddr _ _ _, _, _, _, none⟩ :: _) _ _; refine SW.st (st_field rfl) rfl ?_) | (show SW _ _ _ _ (⟨_, Op.call ⟨.builtin .len, _, _⟩, _, _, _, none⟩ :: _) _ _; refine SW.st (st_len rfl) rfl ?_) | (show SW _ _ _ _ (⟨_, Op.load _ _, _, _, _, none⟩ :: _) _ _; refine SW.st (st_load rfl (hb2.cell rfl)) rfl ?_))
    clear hkn hk hA hB
    refine CW.loop (fun k : Nat => [(2, .pointer (some ⟨b2, 0, none⟩)), (3, .pointer (some ⟨b3, 0, none⟩)), (6, .int .i64 (k : Int))]) (fun k w' => k ≤ r.Lists.n ∧ Ext w w' ∧ Blk w' b2 27 (encH r) ∧ Blk w' b3 27 (encH s)) (fun k => r.Lists.n - k) 0
      ⟨rfl, rfl, rfl, trivial⟩ ⟨by omega, hw, hb2, hb3⟩ ?_
    clear hw hb2 hb3
    rintro k w' ⟨hk, hw, hb2, hb3⟩
    have hA := hl.row.base
    have hB := hl'.row.base
    by_cases hkn : k < r.Lists.n
    · have hkn' : k < s.Lists.n := by omega
      have hlk := hl.each.get k (by omega) (by omega)
      have hlk' := hl'.each.get k (by omega) (by omega)
      have q := hs.pages _ (List.getElem_mem (show k < h.Lists.length by omega))
      have q1 := hlk.pages.len
      have g1 := hlk.cpu
      have g2 := hlk.zone
      have g3 := hlk.ty
      have g4 := hlk'.cpu
      have g5 := hlk'.zone
      have g6 := hlk'.ty
      have cP : ∀ w', Ext w w' → Ans Try.prog 70 [.slice ls[k].Pages.A ls[k].Pages.n ls[k].Pages.c, .slice ls'[k].Pages.A ls'[k].Pages.n ls'[k].Pages.c] w' fun v _ => v = .bool true := fun w' hx => by
        have := sameInts_ans _ _ _ _ ls[k].Pages.c ls'[k].Pages.c _ _ w' (hlk.pages.ext hx) (hlk'.pages.ext hx) (by omega)
        simpa using this
      repeat' (first | (show CW _ _ _ _ _ _; first | refine CW.seq ?_ | refine CW.region ?_ | refine CW.block ?_ | refine CW.condd_t rfl (by omega) ?_ | refine CW.skip ?_) | (show Post _ _ _ _ _; refine Post.seq ?_) | refine SW.nil ?_ | refine SW.pure rfl rfl ?_ | (show SW _ _ _ _ (⟨_, Op.fieldAddr _ _ _, _, _, _, none⟩ :: _) _ _; refine SW.st (st_field rfl) rfl ?_) | (show SW _ _ _ _ (⟨_, Op.indexAddr _ _ _, _, _, _, none⟩ :: _) _ _; refine SW.st (st_indexN rfl rfl (by assumption) (by omega)) rfl ?_) | (show SW _ _ _ _ (⟨_, Op.call ⟨.builtin .len, _, _⟩, _, _, _, none⟩ :: _) _ _; refine SW.st (st_len rfl) rfl ?_) | (show SW _ _ _ _ (⟨_, Op.load _ _, _, _, _, none⟩ :: _) _ _; first | refine SW.st (st_load rfl (hb2.cell rfl)) rfl ?_ | refine SW.st (st_loadsx hw rfl rfl ((hl.row.all hkn))) rfl ?_))
      refine SW.alloc rfl fun b7 w1 hw1 hb7b hb7 => ?_
      skip
      refine SW.storeAgg hb7 rfl rfl rfl rfl (one_l _) fun w2 hb7' hg => ?_
      have hXX := hw1.own hb7b hg
      have hb7w : w.heap.size ≤ b7 := Nat.le_trans hw.size hb7b
      replace hw := Ext.trans hw hXX
      replace hb2 := hb2.ext hXX
      replace hb3 := hb3.ext hXX
      replace hb7 := hb7'
      clear hb7' hw1 hg hXX
      repeat' (first | (show CW _ _ _ _ _ _; first | refine CW.seq ?_ | refine CW.region ?_) | (show Post _ _ _ _ _; refine Post.seq ?_) | refine SW.nil ?_ | refine SW.pure rfl rfl ?_ | (show SW _ _ _ _ (⟨_, Op.fieldAddr _ _ _, _, _, _, none⟩ :: _) _ _; refine SW.st (st_field rfl) rfl ?_) | (show SW _ _ _ _ (⟨_, Op.indexAddr _ _ _, _, _, _, none⟩ :: _) _ _; refine SW.st (st_indexN rfl rfl (by assumption) (by omega)) rfl ?_) | (show SW _ _ _ _ (⟨_, Op.load _ _, _, _, _, none⟩ :: _) _ _; first | refine SW.st (st_load rfl (hb3.cell rfl)) rfl ?_ | refine SW.st (st_loadsx hw rfl rfl ((hl'.row.all hkn'))) rfl ?_))
      refine SW.alloc rfl fun b8 w1 hw1 hb8b hb8 => ?_
      skip
      refine SW.storeAgg hb8 rfl rfl rfl rfl (one_l _) fun w2 hb8' hg => ?_
      have hXX := hw1.own hb8b hg
      have hb8w : w.heap.size ≤ b8 := Nat.le_trans hw.size hb8b
      replace hw := Ext.trans hw hXX
      replace hb2 := hb2.ext hXX
      replace hb3 := hb3.ext hXX
      replace hb7 := hb7.ext hXX
      replace hb8 := hb8'
      clear hb8' hw1 hg hXX
      repeat' (first | (show CW _ _ _ _ _ _; first | refine CW.seq ?_ | refine CW.region ?_ | refine CW.condf rfl ?_ | refine CW.skip ?_) | (show Post _ _ _ _ _; first | refine Post.seq ?_ | refine Post.blk ?_) | refine SW.nil ?_ | (show SW _ _ _ _ (⟨_, _, _, _, _, some _⟩ :: _) _ _; first | refine SW.want_f rfl rfl (by with_reducible rfl) ?_ | refine SW.splitn_f rfl rfl rfl (by omega) ?_) | refine SW.pure rfl rfl ?_ | (show SW _ _ _ _ (⟨_, Op.fieldAddr _ _ _, _, _, _, none⟩ :: _) _ _; refine SW.st (st_field rfl) rfl ?_) | (show SW _ _ _ _ (⟨_, Op.binOp _ _ _ _ _, _, _, _, none⟩ :: _) _ _; refine SW.st (st_add rfl rfl (by omega) (by omega)) rfl ?_) | (show SW _ _ _ _ (⟨_, Op.load _ _, _, _, _, none⟩ :: _) _ _; first | refine SW.st (st_load rfl (hb7.cell rfl)) rfl ?_ | refine SW.st (st_load rfl (hb8.cell rfl)) rfl ?_) | (show SW _ _ _ _ (⟨_, Op.call ⟨.value (.func _), _, _⟩, _, _, _, none⟩ :: _) _ _; (refine SW.call rfl rfl (cP _ hw) ?_; intro v w1 hw1 hv; subst hv; replace hw := Ext.trans hw hw1; replace hb2 := hb2.ext hw1; replace hb3 := hb3.ext hw1; clear hw1)))
      all_goals first | (exfalso; omega) | skip
      exact Post.again (k + 1) ⟨rfl, rfl, rfl, trivial⟩ (by omega) ⟨by omega, hw, hb2, hb3⟩
    · repeat' (first | (show CW _ _ _ _ _ _; first | refine CW.seq ?_ | refine CW.region ?_ | refine CW.condd_f rfl (by omega) ?_ | refine CW.ret ?_ | refine CW.exit ?_) | (show Post _ _ _ _ _; first | refine Post.seq ?_ | refine Post.seq_exit ?_ | refine Post.hit ?_ | refine Post.again_exit ?_) | refine SW.nil ?_ | refine SW.pure rfl rfl ?_ | (show SW _ _ _ _ (⟨_, Op.fieldAddr _ _ _, _, _, _, none⟩ :: _) _ _; refine SW.st (st_field rfl) rfl ?_) | (show SW _ _ _ _ (⟨_, Op.call ⟨.builtin .len, _, _⟩, _, _, _, none⟩ :: _) _ _; refine SW.st (st_len rfl) rfl ?_) | (show SW _ _ _ _ (⟨_, Op.load _ _, _, _, _, none⟩ :: _) _ _; refine SW.st (st_load rfl (hb2.cell rfl)) rfl ?_))
      exact Post.ret1 rfl rfl ⟨_, rfl, hw, rfl⟩

theorem pagesCopies_ans (r : HRow) (h : Heap) (w : World) (hr : RdH w r h) (hs : h.small) : Ans Try.prog 3 [.agg (encH r).toArray] w fun v _ => v = .bool true := by
  refine ans_of Try.func3 rfl Try.ntmps3 rfl ?_
  refine CW.seq (CW.region (SW.box rfl rfl fun b1 w1 hw hb1b hb1 => ?_))
  repeat' (first | (show CW _ _ _ _ _ _; first | refine CW.seq ?_ | refine CW.region ?_) | (show Post _ _ _ _ _; refine Post.seq ?_) | refine SW.nil ?_ | refine SW.pure rfl rfl ?_ | (show SW _ _ _ _ (⟨_, Op.load _ _, _, _, _, none⟩ :: _) _ _; refine SW.st (st_loads rfl rfl ((fun _ _ => hb1.cell))) rfl ?_))
  refine SW.call rfl rfl (Hcopy_ans _ _ _ (hr.ext hw) hs) fun v w2 hw2 hv => ?_
  obtain ⟨s, rfl, hO⟩ := hv
  replace hO := hO.low hw.size
  (replace hw := Ext.trans hw hw2; replace hb1 := hb1.ext hw2)
  refine SW.alloc rfl fun b3 w1 hw1 hb3b hb3 => ?_
  skip
  refine SW.storeAgg hb3 rfl rfl rfl rfl (one_h _) fun w2 hb3' hg => ?_
  have hXX := hw1.own hb3b hg
  have hb3w : w.heap.size ≤ b3 := Nat.le_trans hw.size hb3b
  replace hw := Ext.trans hw hXX
  replace hb1 := hb1.ext hXX
  replace hO := hO.ext hXX
  replace hb3 := hb3'
  clear hb3' hw1 hg hXX
  have cS : ∀ w', Ext w w' → RdH w' s h → Ans Try.prog 24 [.agg (encH s).toArray, .agg (encH r).toArray] w' fun v _ => v = .bool true := fun w' hx h1 => sameHeap_ans s r h w' h1 (hr.ext hx) hs
  repeat' (first | (show CW _ _ _ _ _ _; first | refine CW.seq ?_ | refine CW.region ?_ | refine CW.ret ?_) | (show Post _ _ _ _ _; refine Post.seq ?_) | refine SW.nil ?_ | refine SW.pure rfl rfl ?_ | (show SW _ _ _ _ (⟨_, Op.load _ _, _, _, _, none⟩ :: _) _ _; first | refine SW.st (st_loads rfl rfl ((fun _ _ => hb3.cell))) rfl ?_ | refine SW.st (st_loads rfl rfl ((fun _ _ => hb1.cell))) rfl ?_) | (show SW _ _ _ _ (⟨_, Op.call ⟨.value (.func _), _, _⟩, _, _, _, none⟩ :: _) _ _; (refine SW.call rfl rfl (cS _ hw hO.rd) ?_; intro v w1 hw1 hv; subst hv; replace hw := Ext.trans hw hw1; replace hb1 := hb1.ext hw1; replace hb3 := hb3.ext hw1; replace hO := hO.ext hw1; clear hw1)))
  exact Post.ret1 rfl rfl ⟨_, rfl, hw, rfl⟩
end Go.Proofs.Ytfdmgflboibdoaa

/-
  Contracts: lists of regions and of slabs, copied and held against each other.
-/
set_option linter.unusedVariables false
namespace Go.Proofs.Ytfdmgflboibdoaa
open Go.RowKit


theorem CloneRegion_ans (A : Option Addr) (n c : Nat) (l : List Region) (w : World) (hl : Sl w 2 encR A n l) (hn : n * 16 ≤ 140737488355328) : Ans Try.prog 145 [.slice A n c] w (Copied w 54 2 encR n l) := by
  refine ans_of Try.func145 rfl Try.ntmps145 rfl ?_
  have hw := Ext.refl w
  repeat' (first | (show CW _ _ _ _ _ _; first | refine CW.seq ?_ | refine CW.region ?_) | (show Post _ _ _ _ _; refine Post.seq ?_) | refine SW.nil ?_ | refine SW.pure rfl rfl ?_)
  refine SW.st (st_eqnil rfl rfl) rfl ?_
  repeat' (first | (show CW _ _ _ _ _ _; first | refine CW.seq ?_ | refine CW.region ?_ | refine CW.cond rfl (fun h => ?_) (fun h => ?_) | refine CW.skip ?_ | refine CW.ret ?_) | (show Post _ _ _ _ _; first | refine Post.seq ?_ | refine Post.seq_ret ?_) | refine SW.nil ?_ | refine SW.pure rfl rfl ?_)
  · have hn0 : n = 0 := by
      rcases Nat.eq_zero_or_pos n with h0 | h0
      · exact h0
      · have := hl.base h0; simp_all
    subst hn0
    have : l = [] := List.eq_nil_of_length_eq_zero hl.len
    subst this
    exact Post.ret1 rfl rfl ⟨_, rfl, hw, none, 0, rfl, Own.nil_ _ _ _ _ _ _⟩
  · refine SW.build0 rfl fun b w1 hw1 hb => ?_
    replace hw := Ext.trans hw hw1
    repeat' (refine SW.pure rfl rfl ?_)
    refine SW.appendR (Nat.zero_add n) (List.nil_append l) (Own.nil_ w1 w.heap.size _ _ encR (some ⟨b, 0, none⟩)) (hl.ext hw) hw.size rfl rfl rfl (by omega) (by omega) fun A2 c2 w2 hO hg => ?_
    replace hw := ext_grown hw hg (Nat.le_refl _) (by simp [ownB])
    repeat' (first | (show CW _ _ _ _ _ _; refine CW.ret ?_) | (show Post _ _ _ _ _; refine Post.seq ?_) | refine SW.nil ?_ | refine SW.pure rfl rfl ?_)
    exact Post.ret1 rfl rfl ⟨_, rfl, hw, A2, c2, rfl, hO⟩


theorem CloneSlab_ans (A : Option Addr) (n c : Nat) (l : List Slab) (w : World) (hl : Sl w 3 encSb A n l) (hn : n * 24 ≤ 140737488355328) : Ans Try.prog 73 [.slice A n c] w (Copied w 98 3 encSb n l) := by
  refine ans_of Try.func73 rfl Try.ntmps73 rfl ?_
  have hw := Ext.refl w
  repeat' (first | (show CW _ _ _ _ _ _; first | refine CW.seq ?_ | refine CW.region ?_) | (show Post _ _ _ _ _; refine Post.seq ?_) | refine SW.nil ?_ | refine SW.pure rfl rfl ?_)
  refine SW.st (st_eqnil rfl rfl) rfl ?_
  repeat' (first | (show CW _ _ _ _ _ _; first | refine CW.seq ?_ | refine CW.region ?_ | refine CW.cond rfl (fun h => ?_) (fun h => ?_) | refine CW.skip ?_ | refine CW.ret ?_) | (show Post _ _ _ _ _; first | refine Post.seq ?_ | refine Post.seq_ret ?_) | refine SW.nil ?_ | refine SW.pure rfl rfl ?_)
  · have hn0 : n = 0 := by
      rcases Nat.eq_zero_or_pos n with h0 | h0
      · exact h0
      · have := hl.base h0; simp_all
    subst hn0
    have : l = [] := List.eq_nil_of_length_eq_zero hl.len
    subst this
    exact Post.ret1 rfl rfl ⟨_, rfl, hw, none, 0, rfl, Own.nil_ _ _ _ _ _ _⟩
  · refine SW.build0 rfl fun b w1 hw1 hb => ?_
    replace hw := Ext.trans hw hw1
    repeat' (refine SW.pure rfl rfl ?_)
    refine SW.appendR (Nat.zero_add n) (List.nil_append l) (Own.nil_ w1 w.heap.size _ _ encSb (some ⟨b, 0, none⟩)) (hl.ext hw) hw.size rfl rfl rfl (by omega) (by omega) fun A2 c2 w2 hO hg => ?_
    replace hw := ext_grown hw hg (Nat.le_refl _) (by simp [ownB])
    repeat' (first | (show CW _ _ _ _ _ _; refine CW.ret ?_) | (show Post _ _ _ _ _; refine Post.seq ?_) | refine SW.nil ?_ | refine SW.pure rfl rfl ?_)
    exact Post.ret1 rfl rfl ⟨_, rfl, hw, A2, c2, rfl, hO⟩


theorem regionsCopy_ans (A : Option Addr) (n c : Nat) (l : List Region) (w : World) (hl : Sl w 2 encR A n l) (hn : n * 16 ≤ 140737488355328) : Ans Try.prog 94 [.slice A n c] w (Copied w 54 2 encR n l) := by
  refine ans_of Try.func94 rfl Try.ntmps94 rfl ?_
  have hw := Ext.refl w
  have hA := hl.base
  repeat' (first | (show CW _ _ _ _ _ _; first | refine CW.seq ?_ | refine CW.region ?_ | refine CW.block ?_) | (show Post _ _ _ _ _; refine Post.seq ?_) | refine SW.nil ?_ | refine SW.pure rfl rfl ?_)
  refine CW.loop (fun s : Nat × Option Addr × Nat => [(0, .slice A n c), (3, .slice s.2.1 s.1 s.2.2), (4, .int .i64 (s.1 : Int))])
    (fun s w' => s.1 ≤ n ∧ Ext w w' ∧ Own w' w.heap.size 54 2 encR s.2.1 s.1 s.2.2 (l.take s.1)) (fun s => n - s.1) (0, none, 0) ⟨rfl, rfl, rfl, trivial⟩ ⟨by omega, hw, by simpa using Own.nil_ _ _ _ _ _ _⟩ ?_
  clear hw
  rintro ⟨k, A1, c1⟩ w' ⟨hk, hw, hO⟩
  simp only at hk hO ⊢
  by_cases hkn : k < n
  · repeat' (first | (show CW _ _ _ _ _ _; first | refine CW.seq ?_ | refine CW.region ?_ | refine CW.block ?_ | refine CW.condd_t rfl (by omega) ?_ | refine CW.skip ?_) | (show Post _ _ _ _ _; refine Post.seq ?_) | refine SW.nil ?_ | refine SW.pure rfl rfl ?_ | (show SW _ _ _ _ (⟨_, Op.indexAddr _ _ _, _, _, _, none⟩ :: _) _ _; refine SW.st (st_indexN rfl rfl (by assumption) (by omega)) rfl ?_) | (show SW _ _ _ _ (⟨_, Op.call ⟨.builtin .len, _, _⟩, _, _, _, none⟩ :: _) _ _; refine SW.st (st_len rfl) rfl ?_) | (show SW _ _ _ _ (⟨_, Op.load _ _, _, _, _, none⟩ :: _) _ _; refine SW.st (st_loadsx hw rfl rfl ((hl.all hkn))) rfl ?_))
    refine SW.build1 rfl rfl rfl rfl rfl fun b w1 hw1 hb hB => ?_
    replace hw := Ext.trans hw hw1
    replace hO := hO.ext hw1
    refine SW.append hO (Blk.sl1 (enc := encR) hB) hw.size rfl rfl rfl (by omega) (by omega) fun A2 c2 w2 hO1 hg => ?_
    replace hw := ext_grown hw hg (Nat.le_refl _) hO.row_ge
    repeat' (first | (show CW _ _ _ _ _ _; refine CW.region ?_) | (show Post _ _ _ _ _; first | refine Post.seq ?_ | refine Post.blk ?_) | refine SW.nil ?_ | refine SW.pure rfl rfl ?_ | (show SW _ _ _ _ (⟨_, Op.binOp _ _ _ _ _, _, _, _, none⟩ :: _) _ _; refine SW.st (st_add rfl rfl (by omega) (by omega)) rfl ?_))
    refine Post.again (k + 1, A2, c2) ⟨rfl, rfl, rfl, trivial⟩ (by simp only; omega) ⟨by simp only; omega, hw, ?_⟩
    rw [List.take_succ_eq_append_getElem (hl.lt hkn)]
    exact hO1
  · repeat' (first | (show CW _ _ _ _ _ _; first | refine CW.seq ?_ | refine CW.region ?_ | refine CW.condd_f rfl (by omega) ?_ | refine CW.ret ?_ | refine CW.exit ?_) | (show Post _ _ _ _ _; first | refine Post.seq ?_ | refine Post.seq_exit ?_ | refine Post.hit ?_ | refine Post.again_exit ?_) | refine SW.nil ?_ | refine SW.pure rfl rfl ?_ | (show SW _ _ _ _ (⟨_, Op.call ⟨.builtin .len, _, _⟩, _, _, _, none⟩ :: _) _ _; refine SW.st (st_len rfl) rfl ?_))
    obtain rfl : k = n := by omega
    refine Post.ret1 rfl rfl ⟨_, rfl, hw, A1, c1, rfl, ?_⟩
    rwa [List.take_of_length_le (by have := hl.len; omega)] at hO


theorem sameRegions_ans (A B : Option Addr) (n m c d : Nat) (xs ys : List Region) (w : World) (hx : Sl w 2 encR A n xs) (hy : Sl w 2 encR B m ys) (hn : n ≤ 2305843009213693952) :
    Ans Try.prog 35 [.slice A n c, .slice B m d] w fun v _ => v = .bool (decide (xs = ys)) := by
  refine ans_of Try.func35 rfl Try.ntmps35 rfl ?_
  have hl := hx.len
  have hl' := hy.len
  have hA := hx.base
  have hB := hy.base
  have hw := Ext.refl w
  repeat' (first | (show CW _ _ _ _ _ _; first | refine CW.seq ?_ | refine CW.region ?_ | refine CW.block ?_ | refine CW.condn rfl (fun h => ?_) (fun h => ?_) | refine CW.skip ?_ | refine CW.ret ?_) | (show Post _ _ _ _ _; first | refine Post.seq ?_ | refine Post.seq_ret ?_) | refine SW.nil ?_ | refine SW.pure rfl rfl ?_ | (show SW _ _ _ _ (⟨_, Op.call ⟨.builtin .len, _, _⟩, _, _, _, none⟩ :: _) _ _; refine SW.st (st_len rfl) rfl ?_))
  · refine Post.ret1 rfl rfl ⟨_, rfl, hw, ?_⟩
    have : xs ≠ ys := fun e => by subst e; omega
    simp [this]
  · have hnm : n = m := by omega
    refine CW.loop (fun k : Nat => [(0, .slice A n c), (1, .slice B m d), (5, .int .i64 (k : Int))])
      (fun k w' => k ≤ n ∧ Ext w w' ∧ ∀ j (h1 : j < xs.length) (h2 : j < ys.length), j < k → xs[j] = ys[j]) (fun k => n - k) 0 ⟨rfl, rfl, rfl, trivial⟩ ⟨by omega, hw, fun j _ _ h => by omega⟩ ?_
    clear hw
    rintro k w' ⟨hk, hw, heq⟩
    by_cases hkn : k < n
    · repeat' (first | (show CW _ _ _ _ _ _; first | refine CW.seq ?_ | refine CW.region ?_ | refine CW.block ?_ | refine CW.condd_t rfl (by omega) ?_ | refine CW.condn rfl (fun h => ?_) (fun h => ?_) | refine CW.skip ?_ | refine CW.ret ?_ | (apply CW.quiet1 mixed; (· kernel_rfl); rotate_left; intro w1 hw1; replace hw := Ext.trans hw hw1; clear hw1; rotate_right)) | (show Post _ _ _ _ _; first | refine Post.seq ?_ | refine Post.seq_ret ?_ | refine Post.blk ?_ | refine Post.blk_ret ?_ | refine Post.again_ret ?_) | refine SW.nil ?_ | refine SW.pure rfl rfl ?_ | (show SW _ _ _ _ (⟨_, Op.binOp _ _ _ _ _, _, _, _, none⟩ :: _) _ _; refine SW.st (st_add rfl rfl (by omega) (by omega)) rfl ?_) | (show SW _ _ _ _ (⟨_, Op.indexAddr _ _ _, _, _, _, none⟩ :: _) _ _; refine SW.st (st_indexN rfl rfl (by assumption) (by omega)) rfl ?_) | (show SW _ _ _ _ (⟨_, Op.call ⟨.builtin .len, _, _⟩, _, _, _, none⟩ :: _) _ _; refine SW.st (st_len rfl) rfl ?_) | (show SW _ _ _ _ (⟨_, Op.load _ _, _, _, _, none⟩ :: _) _ _; first | refine SW.st (st_loadsx hw rfl rfl ((hx.all hkn))) rfl ?_ | refine SW.st (st_loadsx hw rfl rfl ((hy.all (hnm ▸ hkn)))) rfl ?_) | (refine SW.st (st_neS (xs[k]'(hx.lt hkn)).nums (ys[k]'(hy.lt (hnm ▸ hkn))).nums rfl rfl rfl rfl) rfl ?_) | exact SW.qnil rfl)
      · refine Post.ret1 rfl rfl ⟨_, rfl, hw, ?_⟩
        have : xs ≠ ys := fun e => by subst e; exact h rfl
        simp [this]
      · refine Post.again (k + 1) ⟨rfl, rfl, rfl, trivial⟩ (by omega) ⟨by omega, hw, fun j h1 h2 hj => ?_⟩
        by_cases hjk : j = k
        · subst hjk; exact Region.nums_inj.1 (by assumption)
        · exact heq j h1 h2 (by omega)
    · repeat' (first | (show CW _ _ _ _ _ _; first | refine CW.seq ?_ | refine CW.region ?_ | refine CW.condd_f rfl (by omega) ?_ | refine CW.ret ?_ | refine CW.exit ?_) | (show Post _ _ _ _ _; first | refine Post.seq ?_ | refine Post.seq_exit ?_ | refine Post.hit ?_ | refine Post.again_exit ?_) | refine SW.nil ?_ | refine SW.pure rfl rfl ?_ | (show SW _ _ _ _ (⟨_, Op.call ⟨.builtin .len, _, _⟩, _, _, _, none⟩ :: _) _ _; refine SW.st (st_len rfl) rfl ?_))
      refine Post.ret1 rfl rfl ⟨_, rfl, hw, ?_⟩
      have : xs = ys := by
        apply List.ext_getElem (by omega)
        intro j h1 h2
        exact heq j h1 h2 (by omega)
      simp [this]

end Go.Proofs.Ytfdmgflboibdoaa
