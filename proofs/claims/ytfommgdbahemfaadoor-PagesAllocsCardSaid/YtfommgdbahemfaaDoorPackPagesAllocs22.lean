/-
  Texts of the claim PagesAllocs, part 22: what its theorem leans on.
-/
import Derived.Test.YtfommgdbahemfaaDoorPackPagesAllocs7
import Derived.Test.YtfommgdbahemfaaDoorPackPagesAllocs13
import Derived.Test.YtfommgdbahemfaaDoorPackPagesAllocs14
import Derived.Test.YtfommgdbahemfaaDoorPackPagesAllocs12
import Derived.Test.YtfommgdbahemfaaDoorPackPagesAllocs18
import Derived.Test.YtfommgdbahemfaaDoorPackPagesAllocs20
import Derived.Test.YtfommgdbahemfaaDoorPackPagesAllocs21
set_option linter.unusedVariables false
namespace Go.Proofs.YtfommgdbahemfaaDoor
open Go.RowKit
set_option maxHeartbeats 4000000 in
theorem HeapCopy_ans (r : HRow) (h : Heap) (w : World) (hr : RdH w r h) (hs : h.small) :
  Ans Tryd.prog 12 [.agg (encH r).toArray] w fun v w' => ∃ s, v = .agg (encH s).toArray ∧ OwnH w' w.heap.size s h := by
 refine ans_of Tryd.func12 rfl Tryd.ntmps12 rfl ?_
 refine CW.seq (CW.region (SW.box rfl rfl fun b1 w1 hw hb1b hb1 => ?_))
 refine SW.alloc rfl fun b2 w2 hw2 hb2b hb2 => ?_
 have hb2w : w.heap.size ≤ b2 := Nat.le_trans hw.size hb2b
 have hne2 : b2 ≠ b1 := by have := hb1.lt; omega
 (replace hw := Ext.trans hw hw2; replace hb1 := hb1.ext hw2)
 obtain ⟨zs, hz⟩ := hr.zones
 obtain ⟨ls, hl⟩ := hr.lists
 have hml := hr.mins.len
 have hvl := hr.live.len
 have s1 := hs.mins
 have s2 := hs.live
 have s3 := hs.zones
 have s4 := hs.lists
 obtain ⟨z1, z2⟩ := hz.len
 obtain ⟨l1, l2⟩ := hl.len
 repeat' (first | (show CW _ _ _ _ _ _; refine CW.seq ?_) | (show Post _ _ _ _ _; refine Post.seq ?_) | refine SW.nil ?_)
 obtain ⟨K, hK⟩ : ∃ K : Env → World → Prop, K = fun L' w' => ∃ X c1 Y d1 b3, subEnv L' [(1, .pointer (some ⟨b1, 0, none⟩)), (2, .pointer (some ⟨b2, 0, none⟩)), (3, .pointer (some ⟨b3, 0, none⟩))] ∧ Ext w w' ∧ Blk w' b1 35 (encH r) ∧ Blk w' b2 35 (encH .zero) ∧
  Blk w' b3 35 (encH ⟨.nil, ⟨X, r.Mins.n, c1⟩, r.Cpus, .nil, ⟨Y, r.Live.n, d1⟩⟩) ∧ Own w' w.heap.size 3 1 encI X r.Mins.n c1 h.Mins ∧ Own w' w.heap.size 55 3 encBk Y r.Live.n d1 h.Live ∧ w.heap.size ≤ b3 ∧ b1 ≠ b3 ∧ b2 ≠ b3 := ⟨_, rfl⟩
 refine CW.cut K ?_ ?_
 ·refine CW.any 10 mixed (rb_tail (by kernel_rfl)) rfl fun w1 hw1 hRB => ?_
  replace hw := Ext.trans hw hw1; replace hb1 := hb1.ext hw1; replace hb2 := hb2.ext hw1; clear hw1
  refine SA.take 0 hRB rfl (by kernel_rfl) (by kernel_rfl) rfl ?_
  repeat ((show SW _ _ _ _ (⟨_, Op.fieldAddr _ _ _, _, _, _, none⟩ :: _) _ _; refine SW.st (st_field rfl) rfl ?_))
  refine SW.tknil ?_
  refine SA.take 1 hRB rfl (by kernel_rfl) (by kernel_rfl) rfl ?_
  repeat ((show SW _ _ _ _ (⟨_, Op.load _ _, _, _, _, none⟩ :: _) _ _; refine SW.st (st_load rfl (hb1.cell rfl)) rfl ?_))
  refine SW.tknil ?_
  refine SA.take 3 hRB rfl (by kernel_rfl) (by kernel_rfl) rfl ?_
  repeat ((show SW _ _ _ _ (⟨_, Op.fieldAddr _ _ _, _, _, _, none⟩ :: _) _ _; refine SW.st (st_field rfl) rfl ?_))
  refine SW.tknil ?_
  refine SA.take 4 hRB rfl (by kernel_rfl) (by kernel_rfl) rfl ?_
  repeat ((show SW _ _ _ _ (⟨_, Op.load _ _, _, _, _, none⟩ :: _) _ _; refine SW.st (st_load rfl (hb1.cell rfl)) rfl ?_))
  refine SW.tknil ?_
  refine SA.take 5 hRB rfl (by kernel_rfl) (by kernel_rfl) rfl ?_
  repeat ((show SW _ _ _ _ (⟨_, Op.fieldAddr _ _ _, _, _, _, none⟩ :: _) _ _; refine SW.st (st_field rfl) rfl ?_))
  refine SW.tknil ?_
  refine SA.take 6 hRB rfl (by kernel_rfl) (by kernel_rfl) rfl ?_
  repeat ((show SW _ _ _ _ (⟨_, Op.load _ _, _, _, _, none⟩ :: _) _ _; refine SW.st (st_load rfl (hb1.cell rfl)) rfl ?_))
  refine SW.tknil ?_
  refine SA.two 2 9 rfl rfl (by kernel_rfl) rfl rfl ?_ ?_
  ·refine SW.call rfl rfl (words_ans _ _ _ _ _ (hr.mins.ext hw) (by omega)) fun v w4 hXX hv => ?_
   obtain ⟨X, c4, rfl, hX⟩ := hv
   replace hX := hX.low hw.size
   replace hw := Ext.trans hw hXX
   replace hb1 := hb1.ext hXX
   replace hb2 := hb2.ext hXX
   try replace hb3 := hb3.ext hXX
   refine SW.nil (Post.sa hXX ?_)
   refine SA.two 7 9 rfl rfl (by kernel_rfl) rfl rfl ?_ ?_
   ·refine SW.call rfl rfl (blocks_ans _ _ _ _ _ (hr.live.ext hw) (by omega)) fun v w4 hXX hv => ?_
    obtain ⟨Y, d4, rfl, hY⟩ := hv
    replace hY := hY.low hw.size
    replace hX := hX.ext hXX
    replace hw := Ext.trans hw hXX
    replace hb1 := hb1.ext hXX
    replace hb2 := hb2.ext hXX
    try replace hb3 := hb3.ext hXX
    refine SW.nil (Post.sa hXX ?_)
    refine SA.take 8 hRB rfl (by kernel_rfl) (by kernel_rfl) rfl ?_
    repeat ((show SW _ _ _ _ (⟨_, Op.build _ _, _, _, _, none⟩ :: _) _ _; refine SW.st (st_build rfl rfl) rfl ?_))
    refine SW.tknil ?_
    refine SA.one 9 rfl (by kernel_rfl) rfl ?_
    refine SW.alloc rfl fun b3 w4 hXX hb3b hb3 => ?_
    have hb3w : w.heap.size ≤ b3 := Nat.le_trans hw.size hb3b
    have hne3 : b1 ≠ b3 := by have := hb1.lt; omega
    have hne4 : b2 ≠ b3 := by have := hb2.lt; omega
    replace hw := Ext.trans hw hXX
    replace hb1 := hb1.ext hXX
    replace hb2 := hb2.ext hXX
    try replace hX := hX.ext hXX
    try replace hY := hY.ext hXX
    refine SW.nil (Post.sa hXX ?_)
    refine SA.done (by kernel_rfl) ?_
    skip
    refine SW.storeAgg hb3 rfl rfl rfl rfl (one_h ⟨.nil, ⟨X, r.Mins.n, c4⟩, r.Cpus, .nil, ⟨Y, r.Live.n, d4⟩⟩) fun w5 hR2 hg => ?_
    have hG := hb3.gr hg
    replace hw := hw.own hb3w hg
    (replace hX := hX.grT hG rfl; replace hY := hY.grT hG rfl)
    replace hb1 := hb1.grown hg (by simpa using hne3)
    replace hb2 := hb2.grown hg (by simpa using hne4)
    repeat' (first | (show Post _ _ _ _ _; refine Post.np ?_) | refine SW.nil ?_)
    exact Post.cut (K := K) (by rw [hK]; exact ⟨X, c4, Y, d4, b3, ⟨rfl, rfl, rfl, trivial⟩, hw, hb1, hb2, hR2, hX, hY, hb3w, hne3, hne4⟩)
   ·refine SW.alloc rfl fun b3 w4 hXX hb3b hb3 => ?_
    have hb3w : w.heap.size ≤ b3 := Nat.le_trans hw.size hb3b
    have hne3 : b1 ≠ b3 := by have := hb1.lt; omega
    have hne4 : b2 ≠ b3 := by have := hb2.lt; omega
    replace hw := Ext.trans hw hXX
    replace hb1 := hb1.ext hXX
    replace hb2 := hb2.ext hXX
    try replace hX := hX.ext hXX
    try replace hY := hY.ext hXX
    refine SW.nil (Post.sa hXX ?_)
    refine SA.one 7 rfl (by kernel_rfl) rfl ?_
    refine SW.call rfl rfl (blocks_ans _ _ _ _ _ (hr.live.ext hw) (by omega)) fun v w4 hXX hv => ?_
    obtain ⟨Y, d4, rfl, hY⟩ := hv
    replace hY := hY.low hw.size
    replace hX := hX.ext hXX
    replace hw := Ext.trans hw hXX
    replace hb1 := hb1.ext hXX
    replace hb2 := hb2.ext hXX
    try replace hb3 := hb3.ext hXX
    refine SW.nil (Post.sa hXX ?_)
    refine SA.take 8 hRB rfl (by kernel_rfl) (by kernel_rfl) rfl ?_
    repeat ((show SW _ _ _ _ (⟨_, Op.build _ _, _, _, _, none⟩ :: _) _ _; refine SW.st (st_build rfl rfl) rfl ?_))
    refine SW.tknil ?_
    refine SA.done (by kernel_rfl) ?_
    skip
    refine SW.storeAgg hb3 rfl rfl rfl rfl (one_h ⟨.nil, ⟨X, r.Mins.n, c4⟩, r.Cpus, .nil, ⟨Y, r.Live.n, d4⟩⟩) fun w5 hR2 hg => ?_
    have hG := hb3.gr hg
    replace hw := hw.own hb3w hg
    (replace hX := hX.grT hG rfl; replace hY := hY.grT hG rfl)
    replace hb1 := hb1.grown hg (by simpa using hne3)
    replace hb2 := hb2.grown hg (by simpa using hne4)
    repeat' (first | (show Post _ _ _ _ _; refine Post.np ?_) | refine SW.nil ?_)
    exact Post.cut (K := K) (by rw [hK]; exact ⟨X, c4, Y, d4, b3, ⟨rfl, rfl, rfl, trivial⟩, hw, hb1, hb2, hR2, hX, hY, hb3w, hne3, hne4⟩)
  ·refine SW.alloc rfl fun b3 w4 hXX hb3b hb3 => ?_
   have hb3w : w.heap.size ≤ b3 := Nat.le_trans hw.size hb3b
   have hne3 : b1 ≠ b3 := by have := hb1.lt; omega
   have hne4 : b2 ≠ b3 := by have := hb2.lt; omega
   replace hw := Ext.trans hw hXX
   replace hb1 := hb1.ext hXX
   replace hb2 := hb2.ext hXX
   try replace hX := hX.ext hXX
   try replace hY := hY.ext hXX
   refine SW.nil (Post.sa hXX ?_)
   refine SA.one 2 rfl (by kernel_rfl) rfl ?_
   refine SW.call rfl rfl (words_ans _ _ _ _ _ (hr.mins.ext hw) (by omega)) fun v w4 hXX hv => ?_
   obtain ⟨X, c4, rfl, hX⟩ := hv
   replace hX := hX.low hw.size
   replace hw := Ext.trans hw hXX
   replace hb1 := hb1.ext hXX
   replace hb2 := hb2.ext hXX
   try replace hb3 := hb3.ext hXX
   refine SW.nil (Post.sa hXX ?_)
   refine SA.one 7 rfl (by kernel_rfl) rfl ?_
   refine SW.call rfl rfl (blocks_ans _ _ _ _ _ (hr.live.ext hw) (by omega)) fun v w4 hXX hv => ?_
   obtain ⟨Y, d4, rfl, hY⟩ := hv
   replace hY := hY.low hw.size
   replace hX := hX.ext hXX
   replace hw := Ext.trans hw hXX
   replace hb1 := hb1.ext hXX
   replace hb2 := hb2.ext hXX
   try replace hb3 := hb3.ext hXX
   refine SW.nil (Post.sa hXX ?_)
   refine SA.take 8 hRB rfl (by kernel_rfl) (by kernel_rfl) rfl ?_
   repeat ((show SW _ _ _ _ (⟨_, Op.build _ _, _, _, _, none⟩ :: _) _ _; refine SW.st (st_build rfl rfl) rfl ?_))
   refine SW.tknil ?_
   refine SA.done (by kernel_rfl) ?_
   skip
   refine SW.storeAgg hb3 rfl rfl rfl rfl (one_h ⟨.nil, ⟨X, r.Mins.n, c4⟩, r.Cpus, .nil, ⟨Y, r.Live.n, d4⟩⟩) fun w5 hR2 hg => ?_
   have hG := hb3.gr hg
   replace hw := hw.own hb3w hg
   (replace hX := hX.grT hG rfl; replace hY := hY.grT hG rfl)
   replace hb1 := hb1.grown hg (by simpa using hne3)
   replace hb2 := hb2.grown hg (by simpa using hne4)
   repeat' (first | (show Post _ _ _ _ _; refine Post.np ?_) | refine SW.nil ?_)
   exact Post.cut (K := K) (by rw [hK]; exact ⟨X, c4, Y, d4, b3, ⟨rfl, rfl, rfl, trivial⟩, hw, hb1, hb2, hR2, hX, hY, hb3w, hne3, hne4⟩)
 ·clear hb1 hb2 hw
  subst hK
  rintro L' w' ⟨X, c4, Y, d4, b3, hsub, hw, hb1, hb2, hb3, hX, hY, hb3w, hne3, hne4⟩
  refine Post.sub hsub ?_
  repeat' (first | (show CW _ _ _ _ _ _; first | refine CW.seq ?_ | refine CW.region ?_ | refine CW.block ?_) | (show Post _ _ _ _ _; refine Post.seq ?_) | refine SW.nil ?_ | refine SW.pure rfl rfl ?_)
  refine CW.loop (fun s : Nat × Option Addr × Nat × List ZRow => [(1, .pointer (some ⟨b1, 0, none⟩)), (2, .pointer (some ⟨b2, 0, none⟩)), (3, .pointer (some ⟨b3, 0, none⟩)), (4, .int .i64 (s.1 : Int))])
   (fun s w' => s.1 ≤ r.Zones.n ∧ Ext w w' ∧ Blk w' b1 35 (encH r) ∧ Blk w' b2 35 (encH .zero) ∧ Blk w' b3 35 (encH ⟨⟨s.2.1, s.1, s.2.2.1⟩, ⟨X, r.Mins.n, c4⟩, r.Cpus, .nil, ⟨Y, r.Live.n, d4⟩⟩) ∧ Own w' w.heap.size 3 1 encI X r.Mins.n c4 h.Mins ∧ Own w' w.heap.size 55 3 encBk Y r.Live.n d4 h.Live ∧
    OwnZs w' w.heap.size ⟨s.2.1, s.1, s.2.2.1⟩ s.2.2.2 (h.Zones.take s.1)) (fun s => r.Zones.n - s.1) (0, none, 0, []) ⟨rfl, rfl, rfl, rfl, trivial⟩ ⟨by omega, hw, hb1, hb2, hb3, hX, hY, OwnZs.nil _ _⟩ ?_
  clear hb1 hb2 hb3 hX hY hw hsub
  rintro ⟨k, A, c, zr⟩ w' ⟨hk, hw, hb1, hb2, hb3, hX, hY, hO⟩
  simp only at hk hb3 hO ⊢
  have hA := hz.row.base
  by_cases hkn : k < r.Zones.n
  ·have hzk := hz.each.get k (by omega) (by omega)
   have hin : h.Zones[k]'(by omega) ∈ h.Zones := List.getElem_mem _
   have q := hs.free _ hin
   have q1 := hzk.free.len
   have q2 := hzk.types.len
   repeat' (first | (show CW _ _ _ _ _ _; first | refine CW.seq ?_ | refine CW.region ?_ | refine CW.block ?_ | refine CW.condd_t rfl (by omega) ?_ | refine CW.skip ?_) | (show Post _ _ _ _ _; refine Post.seq ?_) | refine SW.nil ?_ | refine SW.pure rfl rfl ?_ | (show SW _ _ _ _ (⟨_, Op.fieldAddr _ _ _, _, _, _, none⟩ :: _) _ _; refine SW.st (st_field rfl) rfl ?_) | (show SW _ _ _ _ (⟨_, Op.indexAddr _ _ _, _, _, _, none⟩ :: _) _ _; refine SW.st (st_indexN rfl rfl (by assumption) (by omega)) rfl ?_) | (show SW _ _ _ _ (⟨_, Op.call ⟨.builtin .len, _, _⟩, _, _, _, none⟩ :: _) _ _; refine SW.st (st_len rfl) rfl ?_) | (show SW _ _ _ _ (⟨_, Op.load _ _, _, _, _, none⟩ :: _) _ _; first | refine SW.st (st_load rfl (hb1.cell rfl)) rfl ?_ | refine SW.st (st_loadsx hw rfl rfl ((hz.row.all hkn))) rfl ?_))
   refine SW.call rfl rfl (ZoneCopy_ans _ _ _ (hzk.ext hw) (by omega) (by omega)) fun v w4 hXX hv => ?_
   obtain ⟨s, rfl, hs'⟩ := hv
   replace hs' := hs'.low hw.size
   (replace hw := Ext.trans hw hXX; replace hb1 := hb1.ext hXX; replace hb2 := hb2.ext hXX; replace hb3 := hb3.ext hXX; replace hX := hX.ext hXX; replace hY := hY.ext hXX; replace hO := hO.ext hXX)
   refine SW.alloc rfl fun b5 w1 hw1 hb5b hb5 => ?_
   skip
   refine SW.storeAgg hb5 rfl rfl rfl rfl (one_z s) fun w2 hb5' hg => ?_
   have hXX := hw1.own hb5b hg
   have hb5w : w.heap.size ≤ b5 := Nat.le_trans hw.size hb5b
   replace hw := Ext.trans hw hXX
   replace hb1 := hb1.ext hXX
   replace hb2 := hb2.ext hXX
   replace hb3 := hb3.ext hXX
   replace hX := hX.ext hXX
   replace hY := hY.ext hXX
   replace hO := hO.ext hXX
   replace hs' := hs'.ext hXX
   replace hb5 := hb5'
   clear hb5' hw1 hg hXX
   repeat' (first | (show CW _ _ _ _ _ _; refine CW.region ?_) | (show Post _ _ _ _ _; refine Post.seq ?_) | refine SW.nil ?_ | (show SW _ _ _ _ (⟨_, Op.fieldAddr _ _ _, _, _, _, none⟩ :: _) _ _; refine SW.st (st_field rfl) rfl ?_) | (show SW _ _ _ _ (⟨_, Op.load _ _, _, _, _, none⟩ :: _) _ _; first | refine SW.st (st_load rfl (hb3.cell rfl)) rfl ?_ | refine SW.st (st_loads rfl rfl ((fun _ _ => hb5.cell))) rfl ?_))
   refine SW.build1 rfl rfl rfl rfl rfl fun b w4 hXX hb hB => ?_
   (replace hw := Ext.trans hw hXX; replace hb1 := hb1.ext hXX; replace hb2 := hb2.ext hXX; replace hb3 := hb3.ext hXX; replace hb5 := hb5.ext hXX; replace hX := hX.ext hXX; replace hY := hY.ext hXX; replace hO := hO.ext hXX; replace hs' := hs'.ext hXX)
   refine SW.append hO.row (Blk.sl1 (enc := encZ) hB) hw.size rfl rfl rfl (by simp only; omega) (by simp only; omega) fun A2 c2 w5 hO1 hg => ?_
   have hG := hO.row.gr hg
   replace hw := ext_grown hw hg (Nat.le_refl _) hO.row.row_ge
   (replace hb1 := hb1.grT hG rfl; replace hb2 := hb2.grT hG rfl; replace hb3 := hb3.grT hG rfl; replace hX := hX.grT hG rfl; replace hY := hY.grT hG rfl; replace hs' := hs'.grT hG rfl)
   have hE := hO.each.mono fun _ _ h => h.grT hG rfl
   repeat' ((show SW _ _ _ _ (⟨_, Op.fieldAddr _ _ _, _, _, _, none⟩ :: _) _ _; refine SW.st (st_field rfl) rfl ?_))
   refine SW.storeB (i := 0) hb3 rfl rfl rfl rfl fun w6 hb3' hg => ?_
   have hG := hb3.gr hg
   replace hw := hw.own hb3w hg
   replace hb1 := hb1.grown hg (by simpa using hne3)
   replace hb2 := hb2.grown hg (by simpa using hne4)
   (replace hX := hX.grT hG rfl; replace hY := hY.grT hG rfl; replace hs' := hs'.grT hG rfl; replace hO1 := hO1.grT hG rfl)
   replace hE := hE.mono fun _ _ h => h.grT hG rfl
   repeat' (first | (show CW _ _ _ _ _ _; refine CW.region ?_) | (show Post _ _ _ _ _; first | refine Post.seq ?_ | refine Post.blk ?_) | refine SW.nil ?_ | refine SW.pure rfl rfl ?_ | (show SW _ _ _ _ (⟨_, Op.binOp _ _ _ _ _, _, _, _, none⟩ :: _) _ _; refine SW.st (st_add rfl rfl (by omega) (by omega)) rfl ?_))
   refine Post.again (k + 1, A2, c2, zr ++ [s]) ⟨rfl, rfl, rfl, rfl, trivial⟩ (by simp only; omega) ⟨by simp only; omega, hw, hb1, hb2, hb3', hX, hY, hO1, ?_⟩
   rw [List.take_succ_eq_append_getElem (by omega)]
   exact hE.snoc hs'
  ·obtain rfl : k = r.Zones.n := by omega
   rw [List.take_of_length_le (by omega)] at hO
   repeat' (first | (show CW _ _ _ _ _ _; first | refine CW.seq ?_ | refine CW.region ?_ | refine CW.block ?_ | refine CW.condd_f rfl (by omega) ?_ | refine CW.exit ?_) | (show Post _ _ _ _ _; first | refine Post.seq ?_ | refine Post.seq_exit ?_ | refine Post.hit ?_ | refine Post.again_exit ?_) | refine SW.nil ?_ | refine SW.pure rfl rfl ?_ | (show SW _ _ _ _ (⟨_, Op.fieldAddr _ _ _, _, _, _, none⟩ :: _) _ _; refine SW.st (st_field rfl) rfl ?_) | (show SW _ _ _ _ (⟨_, Op.call ⟨.builtin .len, _, _⟩, _, _, _, none⟩ :: _) _ _; refine SW.st (st_len rfl) rfl ?_) | (show SW _ _ _ _ (⟨_, Op.load _ _, _, _, _, none⟩ :: _) _ _; refine SW.st (st_load rfl (hb1.cell rfl)) rfl ?_))
   refine CW.loop (fun s : Nat × Option Addr × Nat × List LRow => [(1, .pointer (some ⟨b1, 0, none⟩)), (2, .pointer (some ⟨b2, 0, none⟩)), (3, .pointer (some ⟨b3, 0, none⟩)), (6, .int .i64 (s.1 : Int))])
    (fun s w' => s.1 ≤ r.Lists.n ∧ Ext w w' ∧ Blk w' b1 35 (encH r) ∧ Blk w' b2 35 (encH .zero) ∧ Blk w' b3 35 (encH ⟨⟨A, r.Zones.n, c⟩, ⟨X, r.Mins.n, c4⟩, r.Cpus, ⟨s.2.1, s.1, s.2.2.1⟩, ⟨Y, r.Live.n, d4⟩⟩) ∧ Own w' w.heap.size 3 1 encI X r.Mins.n c4 h.Mins ∧ Own w' w.heap.size 55 3 encBk Y r.Live.n d4 h.Live ∧
     OwnZs w' w.heap.size ⟨A, r.Zones.n, c⟩ zr h.Zones ∧ OwnLs w' w.heap.size ⟨s.2.1, s.1, s.2.2.1⟩ s.2.2.2 (h.Lists.take s.1)) (fun s => r.Lists.n - s.1) (0, none, 0, []) ⟨rfl, rfl, rfl, rfl, trivial⟩ ⟨by omega, hw, hb1, hb2, hb3, hX, hY, hO, OwnLs.nil _ _⟩ ?_
   clear hb1 hb2 hb3 hX hY hw hO
   rintro ⟨k, B, d, lr⟩ w' ⟨hk, hw, hb1, hb2, hb3, hX, hY, hO, hP⟩
   simp only at hk hb3 hP ⊢
   have hA := hl.row.base
   by_cases hkn : k < r.Lists.n
   ·have hlk := hl.each.get k (by omega) (by omega)
    have hin : h.Lists[k]'(by omega) ∈ h.Lists := List.getElem_mem _
    have q := hs.pages _ hin
    have q1 := hlk.pages.len
    repeat' (first | (show CW _ _ _ _ _ _; first | refine CW.seq ?_ | refine CW.region ?_ | refine CW.block ?_ | refine CW.condd_t rfl (by omega) ?_ | refine CW.skip ?_) | (show Post _ _ _ _ _; refine Post.seq ?_) | refine SW.nil ?_ | refine SW.pure rfl rfl ?_ | (show SW _ _ _ _ (⟨_, Op.fieldAddr _ _ _, _, _, _, none⟩ :: _) _ _; refine SW.st (st_field rfl) rfl ?_) | (show SW _ _ _ _ (⟨_, Op.indexAddr _ _ _, _, _, _, none⟩ :: _) _ _; refine SW.st (st_indexN rfl rfl (by assumption) (by omega)) rfl ?_) | (show SW _ _ _ _ (⟨_, Op.call ⟨.builtin .len, _, _⟩, _, _, _, none⟩ :: _) _ _; refine SW.st (st_len rfl) rfl ?_) | (show SW _ _ _ _ (⟨_, Op.load _ _, _, _, _, none⟩ :: _) _ _; first | refine SW.st (st_load rfl (hb1.cell rfl)) rfl ?_ | refine SW.st (st_loadsx hw rfl rfl ((hl.row.all hkn))) rfl ?_))
    have hlt7 := hP.row.lt_size
    refine SW.alloc rfl fun b7 w1 hw1 hb7b hb7 => ?_
    skip
    refine SW.storeAgg hb7 rfl rfl rfl rfl (one_l _) fun w2 hb7' hg => ?_
    have hXX := hw1.own hb7b hg
    have hb7w : w.heap.size ≤ b7 := Nat.le_trans hw.size hb7b
    replace hw := Ext.trans hw hXX
    replace hb1 := hb1.ext hXX
    replace hb2 := hb2.ext hXX
    replace hb3 := hb3.ext hXX
    replace hX := hX.ext hXX
    replace hY := hY.ext hXX
    replace hO := hO.ext hXX
    replace hP := hP.ext hXX
    replace hb7 := hb7'
    clear hb7' hw1 hg hXX
    repeat' (first | (show CW _ _ _ _ _ _; first | refine CW.seq ?_ | refine CW.region ?_) | (show Post _ _ _ _ _; refine Post.seq ?_) | refine SW.nil ?_ | (show SW _ _ _ _ (⟨_, Op.fieldAddr _ _ _, _, _, _, none⟩ :: _) _ _; refine SW.st (st_field rfl) rfl ?_) | (show SW _ _ _ _ (⟨_, Op.load _ _, _, _, _, none⟩ :: _) _ _; refine SW.st (st_load rfl (hb7.cell rfl)) rfl ?_))
    refine SW.call rfl rfl (words_ans _ _ _ _ _ (hlk.pages.ext hw) (by omega)) fun v w4 hXX hv => ?_
    obtain ⟨W, e4, rfl, hW⟩ := hv
    replace hW := hW.low hw.size
    (replace hw := Ext.trans hw hXX; replace hb1 := hb1.ext hXX; replace hb2 := hb2.ext hXX; replace hb3 := hb3.ext hXX; replace hb7 := hb7.ext hXX; replace hX := hX.ext hXX; replace hY := hY.ext hXX; replace hO := hO.ext hXX; replace hP := hP.ext hXX)
    repeat' ((show SW _ _ _ _ (⟨_, Op.fieldAddr _ _ _, _, _, _, none⟩ :: _) _ _; refine SW.st (st_field rfl) rfl ?_))
    refine SW.storeB (i := 3) hb7 rfl rfl rfl rfl fun w5 hb7' hg => ?_
    have hG := hb7.gr hg
    replace hw := hw.own hb7w hg
    (replace hb1 := hb1.grT hG rfl; replace hb2 := hb2.grT hG rfl; replace hb3 := hb3.grT hG rfl; replace hX := hX.grT hG rfl; replace hY := hY.grT hG rfl; replace hO := hO.grT hG rfl; replace hW := hW.grT hG rfl)
    replace hP : OwnLs w5 w.heap.size ⟨B, k, d⟩ lr (h.Lists.take k) := ⟨hP.row.grown hg (.inr (fun e => by have := hlt7 _ e; omega)), hP.each.mono fun _ _ h => h.grT hG rfl⟩
    repeat' (first | (show CW _ _ _ _ _ _; refine CW.region ?_) | (show Post _ _ _ _ _; refine Post.seq ?_) | refine SW.nil ?_ | (show SW _ _ _ _ (⟨_, Op.fieldAddr _ _ _, _, _, _, none⟩ :: _) _ _; refine SW.st (st_field rfl) rfl ?_) | (show SW _ _ _ _ (⟨_, Op.load _ _, _, _, _, none⟩ :: _) _ _; first | refine SW.st (st_load rfl (hb3.cell rfl)) rfl ?_ | refine SW.st (st_loads rfl rfl ((fun _ _ => hb7'.cell))) rfl ?_))
    refine SW.build1 rfl rfl rfl rfl rfl fun b w6 hXX hb hB => ?_
    (replace hw := Ext.trans hw hXX; replace hb1 := hb1.ext hXX; replace hb2 := hb2.ext hXX; replace hb3 := hb3.ext hXX; replace hX := hX.ext hXX; replace hY := hY.ext hXX; replace hO := hO.ext hXX; replace hP := hP.ext hXX; replace hW := hW.ext hXX)
    refine SW.append hP.row (Blk.sl1 (enc := encL) (x := ⟨ls[k].Cpu, ls[k].Zone, ls[k].Ty, ⟨W, _, e4⟩⟩) hB) hw.size rfl rfl rfl (by simp only; omega) (by simp only; omega) fun A2 c2 w7 hP1 hg => ?_
    have hG := hP.row.gr hg
    replace hw := ext_grown hw hg (Nat.le_refl _) hP.row.row_ge
    (replace hb1 := hb1.grT hG rfl; replace hb2 := hb2.grT hG rfl; replace hb3 := hb3.grT hG rfl; replace hX := hX.grT hG rfl; replace hY := hY.grT hG rfl; replace hO := hO.grT hG rfl; replace hW := hW.grT hG rfl)
    have hE := hP.each.mono fun _ _ h => h.grT hG rfl
    repeat' ((show SW _ _ _ _ (⟨_, Op.fieldAddr _ _ _, _, _, _, none⟩ :: _) _ _; refine SW.st (st_field rfl) rfl ?_))
    refine SW.storeB (i := 3) hb3 rfl rfl rfl rfl fun w8 hb3' hg => ?_
    have hG := hb3.gr hg
    replace hw := hw.own hb3w hg
    replace hb1 := hb1.grown hg (by simpa using hne3)
    replace hb2 := hb2.grown hg (by simpa using hne4)
    (replace hX := hX.grT hG rfl; replace hY := hY.grT hG rfl; replace hO := hO.grT hG rfl; replace hP1 := hP1.grT hG rfl; replace hW := hW.grT hG rfl)
    replace hE := hE.mono fun _ _ h => h.grT hG rfl
    repeat' (first | (show CW _ _ _ _ _ _; refine CW.region ?_) | (show Post _ _ _ _ _; first | refine Post.seq ?_ | refine Post.blk ?_) | refine SW.nil ?_ | refine SW.pure rfl rfl ?_ | (show SW _ _ _ _ (⟨_, Op.binOp _ _ _ _ _, _, _, _, none⟩ :: _) _ _; refine SW.st (st_add rfl rfl (by omega) (by omega)) rfl ?_))
    refine Post.again (k + 1, A2, c2, lr ++ [⟨ls[k].Cpu, ls[k].Zone, ls[k].Ty, ⟨W, _, e4⟩⟩]) ⟨rfl, rfl, rfl, rfl, trivial⟩ (by simp only; omega) ⟨by simp only; omega, hw, hb1, hb2, hb3', hX, hY, hO, hP1, ?_⟩
    rw [List.take_succ_eq_append_getElem (by omega)]
    exact hE.snoc ⟨hlk.cpu, hlk.zone, hlk.ty, hW⟩
   ·obtain rfl : k = r.Lists.n := by omega
    rw [List.take_of_length_le (by omega)] at hP
    repeat' (first | (show CW _ _ _ _ _ _; first | refine CW.seq ?_ | refine CW.region ?_ | refine CW.condd_f rfl (by omega) ?_ | refine CW.exit ?_) | (show Post _ _ _ _ _; first | refine Post.seq ?_ | refine Post.seq_exit ?_ | refine Post.hit ?_ | refine Post.again_exit ?_) | refine SW.nil ?_ | refine SW.pure rfl rfl ?_ | (show SW _ _ _ _ (⟨_, Op.fieldAddr _ _ _, _, _, _, none⟩ :: _) _ _; refine SW.st (st_field rfl) rfl ?_) | (show SW _ _ _ _ (⟨_, Op.call ⟨.builtin .len, _, _⟩, _, _, _, none⟩ :: _) _ _; refine SW.st (st_len rfl) rfl ?_) | (show SW _ _ _ _ (⟨_, Op.load _ _, _, _, _, none⟩ :: _) _ _; first | refine SW.st (st_load rfl (hb1.cell rfl)) rfl ?_ | refine SW.st (st_loads rfl rfl ((fun _ _ => hb3.cell))) rfl ?_))
    refine SW.storeAgg hb2 rfl rfl rfl rfl (one_h _) fun w5 hR2 hg => ?_
    have hG := hb2.gr hg
    replace hw := hw.own hb2w hg
    (replace hX := hX.grT hG rfl; replace hY := hY.grT hG rfl; replace hO := hO.grT hG rfl; replace hP := hP.grT hG rfl)
    repeat' (first | (show CW _ _ _ _ _ _; refine CW.ret ?_) | (show Post _ _ _ _ _; refine Post.seq ?_) | refine SW.nil ?_)
    exact Post.ret1c rfl rfl hR2 rfl ⟨_, rfl, hw, ⟨_, _, r.Cpus, _, _⟩, rfl, hr.cpus, hX, hY, ⟨zr, hO⟩, ⟨lr, hP⟩⟩
end Go.Proofs.YtfommgdbahemfaaDoor
set_option linter.unusedVariables false
set_option linter.unusedSimpArgs false
namespace Go.Proofs.YtfommgdbahemfaaDoor
open Go.RowKit
structure RestH (w : World) (lo : Nat) (m li lv : Sli) (ls : List LRow) (h : Heap) : Prop where
 mins : Own w lo 3 1 encI m.A m.n m.c h.Mins
 live : Own w lo 55 3 encBk lv.A lv.n lv.c h.Live
 lists : OwnLs w lo li ls h.Lists
section
variable {w w' : World} {lo t : Nat} {m li lv : Sli} {ls : List LRow} {h : Heap}
theorem RestH.ext (a : RestH w lo m li lv ls h) (hx : Ext w w') : RestH w' lo m li lv ls h := ⟨a.mins.ext hx, a.live.ext hx, a.lists.ext hx⟩
theorem RestH.grT (a : RestH w lo m li lv ls h) (hG : GrT w w' t) (hne : (Nat.beq t 3 || (Nat.beq t 55 || Nat.beq t 84)) = false) : RestH w' lo m li lv ls h := by
 simp only [Bool.or_eq_false_iff] at hne
 obtain ⟨h1, h2, h3⟩ := hne
 exact ⟨a.mins.grT hG h1, a.live.grT hG h2, a.lists.grT hG (by simp [h1, h3])⟩
theorem OwnH.split {r : HRow} (a : OwnH w lo r h) {z0 z1 : Zone} (hz : h.Zones = [z0, z1]) : ∃ g c u0 u1 ls, r.Zones = ⟨some ⟨g, 0, none⟩, 2, c⟩ ∧ ZsOwn w lo g c u0 u1 (z0, z1) ∧ RestH w lo r.Mins r.Lists r.Live ls h := by
 obtain ⟨zs, hzs⟩ := a.zones
 obtain ⟨ls, hls⟩ := a.lists
 have l0 := hzs.each.len
 rw [hz] at l0
 obtain ⟨u0, u1, rfl⟩ := two_of (show zs.length = 2 from l0)
 have l1 := hzs.row.len
 have h0 := hzs.each.get 0 (by simp) (by simp [hz])
 have h1 := hzs.each.get 1 (by simp) (by simp [hz])
 simp only [hz] at h0 h1
 have hc : 0 < r.Zones.c := by have := hzs.row.le; simp at l1; omega
 obtain ⟨g, rest, hA, hlo, _⟩ := hzs.row.opened hc
 refine ⟨g, r.Zones.c, u0, u1, ls, ?_, ⟨?_, h0, h1, hlo, hc⟩, ⟨a.mins, a.live, hls⟩⟩
 ·rw [← hA]
  have : (2 : Nat) = r.Zones.n := l1
  rw [this]
 ·have := hzs.row
  rw [hA, ← l1] at this
  exact this
end
structure G2 (w0 w : World) (g b : Nat) : Prop where
 os : w.os = w0.os
 tape : w.tape = w0.tape
 output : w.output = w0.output
 size : w0.heap.size ≤ w.heap.size
 block : ∀ k, k < w0.heap.size → k ≠ g → k ≠ b → w.heap[k]? = w0.heap[k]?
section
variable {w0 w w' : World} {g b k t : Nat} {cs : List Value}
theorem G2.refl (w : World) (g b : Nat) : G2 w w g b := ⟨rfl, rfl, rfl, Nat.le_refl _, fun _ _ _ _ => rfl⟩
theorem G2.step (h : G2 w0 w g b) {row : Option Nat} (hg : w.grownBy w' row) (hr : ∀ k, row = some k → k = g ∨ k = b ∨ w0.heap.size ≤ k) : G2 w0 w' g b :=
 ⟨hg.os.trans h.os, hg.tape.trans h.tape, hg.output.trans h.output, Nat.le_trans h.size hg.size, fun k hk h1 h2 => by
  rw [hg.block k (Nat.lt_of_lt_of_le hk h.size) (fun e => by rcases hr k e.symm with e | e | e <;> omega)]
  exact h.block k hk h1 h2⟩
theorem G2.ext (h : G2 w0 w g b) (hx : Ext w w') : G2 w0 w' g b := h.step (hx.gr none) (fun k e => by cases e)
theorem G2.at_g (h : G2 w0 w g b) (hg : w.grownBy w' (some g)) : G2 w0 w' g b := h.step hg (fun k e => by cases e; exact .inl rfl)
theorem G2.new (h : G2 w0 w g b) (hg : w.grownBy w' (some k)) (hk : w0.heap.size ≤ k) : G2 w0 w' g b := h.step hg (fun i e => by cases e; exact .inr (.inr hk))
theorem G2.blk (h : G2 w0 w g b) (hB : Blk w0 k t cs) (h1 : k ≠ g) (h2 : k ≠ b) : Blk w k t cs := (h.block k hB.lt h1 h2).trans hB
end
noncomputable def backTo (h : Heap) (z0 z1 : Zone) (k : Nat) : Zone × Zone := backAll (z0, z1) ((pagesB h.Lists).take k)
end Go.Proofs.YtfommgdbahemfaaDoor
set_option linter.unusedVariables false
set_option linter.unusedSimpArgs false
namespace Go.Proofs.YtfommgdbahemfaaDoor
open Go.RowKit
structure RQ (wb w : World) (k : HK) (p : HP) (s : Zone × Zone) (L : List PList) : Prop where
 zs : ZsOwn w wb.heap.size k.g k.c p.u0 p.u1 s
 mins : Own w wb.heap.size 3 1 encI k.m.A k.m.n k.m.c k.M
 live : Own w wb.heap.size 55 3 encBk k.lv.A k.lv.n k.lv.c k.V
 ls : OwnLs w wb.heap.size p.li p.ls L
 base : Ext wb w
section
variable {wb w w' : World} {k : HK} {p : HP} {s : Zone × Zone} {L : List PList} {t : TypeId} {b : Nat}
theorem RQ.ext (h : RQ wb w k p s L) (hx : Ext w w') : RQ wb w' k p s L := ⟨h.zs.ext hx, h.mins.ext hx, h.live.ext hx, h.ls.ext hx, h.base.trans hx⟩
theorem RQ.own (h : RQ wb w k p s L) (hg : w.grownBy w' (some b)) (hb : wb.heap.size ≤ b) (hG : GrT w w' t) (hne : (Nat.beq t 25 || (Nat.beq t 3 || (Nat.beq t 55 || Nat.beq t 84))) = false) : RQ wb w' k p s L := by
 simp only [Bool.or_eq_false_iff] at hne
 obtain ⟨h1, h2, h3, h4⟩ := hne
 exact ⟨h.zs.grT hG (by simp [h1, h2, h3]), h.mins.grT hG h2, h.live.grT hG h3, h.ls.grT hG (by simp [h2, h4]), h.base.own hb hg⟩
theorem RQ.zone (h : RQ wb w k p s L) (hv : VS s) {zi : Nat} (hz : zi < 2) : ∃ u, [p.u0, p.u1][zi]'hz = u ∧ OwnZ w wb.heap.size u (zof s zi) := by
 rcases Nat.lt_or_ge zi 1 with h1 | h1
 ·obtain rfl : zi = 0 := by omega
  exact ⟨p.u0, rfl, h.zs.z0⟩
 ·obtain rfl : zi = 1 := by omega
  exact ⟨p.u1, rfl, h.zs.z1⟩
theorem RQ.setZ {zi : Nat} {u : ZRow} {z : Zone} (h : RQ wb w k p s L) (hz : zi < 2) (hO : Own w' wb.heap.size 25 4 encZ (some ⟨k.g, 0, none⟩) 2 k.c ([p.u0, p.u1].set zi u)) (hg : w.grownBy w' (some k.g)) (hn : OwnZ w wb.heap.size u z) : RQ wb w' k (putU p zi u) (zset s (zi : Int) z) L := by
 have hG := h.zs.gr hg
 have hn' := hn.grT hG rfl
 have hx : Ext wb w' := h.base.own h.zs.glo hg
 unfold putU zset
 by_cases hzi : zi = 0
 ·subst hzi
  simp only [if_true, Int.natCast_zero] at *
  exact ⟨⟨hO, hn', h.zs.z1.grT hG rfl, h.zs.glo, h.zs.pos⟩, h.mins.grT hG rfl, h.live.grT hG rfl, h.ls.grT hG rfl, hx⟩
 ·obtain rfl : zi = 1 := by omega
  have e1 : ¬ ((1 : Nat) = 0) := by omega
  have e2 : ¬ (((1 : Nat) : Int) = 0) := by omega
  simp only [if_neg e1, if_neg e2] at *
  exact ⟨⟨hO, h.zs.z0.grT hG rfl, hn', h.zs.glo, h.zs.pos⟩, h.mins.grT hG rfl, h.live.grT hG rfl, h.ls.grT hG rfl, hx⟩
theorem RQ.low (h : RQ wb w k p s L) : wb.heap.size ≤ w.heap.size := h.base.size
end
set_option maxHeartbeats 1000000 in
theorem enough_ans (k : HK) (p : HP) (s : Zone × Zone) (L : List PList) (m0 m1 : Int) (zi : Nat) (o f : Int) (wb w : World) (Q : RQ wb w k p s L) (hM : MinOk k.M m0 m1) (hv : VS s) (hzi : zi < 2) (ho : 0 ≤ o ∧ o ≤ 4) (hf : 0 ≤ f ∧ f ≤ 15) :
  Ans Tryd.prog 100 [.agg (encH (k.h p)).toArray, .int .i64 (zi : Int), .int .i64 o, .int .i64 f] w fun v _ => v = .bool (decide (enoughP m0 m1 s zi o f)) := by
 refine ans_of Tryd.func100 rfl Tryd.ntmps100 rfl ?_
 refine CW.seq (CW.region (SW.box rfl rfl fun b1 w1 hw hb1b hb1 => ?_))
 obtain ⟨uz, huz, hoz⟩ := Q.zone hv hzi
 have hzm := hv.zof (zi : Int)
 obtain ⟨z, hz⟩ : ∃ z, zof s (zi : Int) = z := ⟨_, rfl⟩
 rw [hz] at hoz hzm
 obtain ⟨q1, q2, q3, q4⟩ := may_fit hoz hzm
 have hA := Q.zs.row.sl.base
 have fz := Q.zs.row.sl.fld hzi (j := 2) (show (encZ ([p.u0, p.u1][zi]'hzi))[2]? = some (Value.slice uz.Free.A uz.Free.n uz.Free.c) by rw [huz]; rfl)
 have hok : ∀ b ∈ z.Free, 0 ≤ b.Order ∧ b.Order ≤ 4 := fun b hb => by
  obtain ⟨j, hj, rfl⟩ := List.getElem_of_mem hb
  exact ⟨(hzm.blk j hj).1.1, (hzm.blk j hj).1.2.1⟩
 obtain ⟨hd, hhd⟩ : ∃ hd, heldV m0 m1 s zi f = hd := ⟨_, rfl⟩
 obtain ⟨a1, a2, a3, a4, a5⟩ := hv.may1.ok
 have cH : ∀ w', Ext w w' → Ans Tryd.prog 130 [.agg (encH (k.h p)).toArray, .int .i64 (zi : Int), .int .i64 f] w' fun v _ => v = .int .i64 hd := fun w' hx => by
  have := hpaddockref.heldBack_ans (k.h p) p.u0 p.u1 s k.M m0 m1 zi f w' (Q.mins.ext hx).sl (Q.zs.row.ext hx).sl hM Q.zs.z1.from_ Q.zs.z1.to_ ⟨by omega, by omega⟩ ⟨by omega, by omega⟩ hzi hf
  rwa [hhd] at this
 have hhb : 0 ≤ hd ∧ hd ≤ 512 := by
  rw [← hhd]
  have h1 := hM.b0
  have h2 := hM.b1
  unfold heldV
  (repeat' split) <;> omega
 have hzl := zone_len hzm
 have hpb := pagesOf_bound hzm z.Free.length (Nat.le_refl _)
 rw [List.take_length] at hpb
 have hpw := pw_le ho.1 ho.2
 have hE : enoughP m0 m1 s zi o f ↔ hd ≤ pagesOf z.Free - pw o := by unfold enoughP; rw [hhd, hz]
 obtain ⟨q, hq⟩ : ∃ q, decide (enoughP m0 m1 s zi o f) = q := ⟨_, rfl⟩
 rw [hq]
 have hq' : decide (hd ≤ pagesOf z.Free - pw o) = q := by rw [← hq]; exact decide_eq_decide.2 hE.symm
 repeat' (first | (show CW _ _ _ _ _ _; first | refine CW.seq ?_ | refine CW.ret ?_ | (apply CW.quiet1 mixed; (· kernel_rfl); rotate_left; intro w1 hw1; replace hw := Ext.trans hw hw1; replace hb1 := hb1.ext hw1; clear hw1; rotate_right)) | (show Post _ _ _ _ _; refine Post.seq ?_) | refine SW.nil ?_ | refine SW.pure rfl rfl ?_ | (show SW _ _ _ _ (⟨_, Op.fieldAddr _ _ _, _, _, _, none⟩ :: _) _ _; refine SW.st (st_field rfl) rfl ?_) | (show SW _ _ _ _ (⟨_, Op.binOp _ _ _ _ _, _, _, _, none⟩ :: _) _ _; refine SW.st (st_sub rfl rfl (by omega) (by omega)) rfl ?_) | (show SW _ _ _ _ (⟨_, Op.indexAddr _ _ _, _, _, _, none⟩ :: _) _ _; refine SW.st (st_indexN rfl rfl (by assumption) (by omega)) rfl ?_) | (show SW _ _ _ _ (⟨_, Op.load _ _, _, _, _, none⟩ :: _) _ _; first | refine SW.st (st_load rfl (hb1.cell (i := 0) (v := .slice (some ⟨k.g, 0, none⟩) 2 k.c) rfl)) rfl ?_ | refine SW.st (st_loadx hw rfl fz) rfl ?_ | refine SW.st (st_loads rfl rfl ((fun _ _ => hb1.cell))) rfl ?_) | (show SW _ _ _ _ (⟨_, Op.call ⟨.value (.func _), _, _⟩, _, _, _, none⟩ :: _) _ _; first | refine SW.qcall rfl rfl (fun w1 hw1 => (freeOf_ans _ _ _ _ _ (hoz.free.ext (Ext.trans hw hw1)).sl hok (by omega))) ?_ | refine SW.qcall rfl rfl (fun w1 hw1 => (power_ans _ (by omega) _)) ?_ | refine SW.qcall rfl rfl (fun w1 hw1 => (cH _ (Ext.trans hw hw1))) ?_) | exact SW.qnil rfl)
 refine Post.ret1 rfl rfl ⟨_, rfl, hw, ?_⟩
 rw [← hq']
end Go.Proofs.YtfommgdbahemfaaDoor
