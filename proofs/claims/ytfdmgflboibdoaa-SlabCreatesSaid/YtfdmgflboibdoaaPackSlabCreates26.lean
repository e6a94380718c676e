/-
  Contracts: slices.Clone of names; slab.Copy.
-/
import Derived.Test.YtfdmgflboibdoaaPackSlabCreates7
set_option linter.unusedVariables false
namespace Go.Proofs.Ytfdmgflboibdoaa
open Go.RowKit

theorem CloneStr_ans (A : Option Addr) (n c : Nat) (l : List ByteArray) (w : World) (hl : Sl w 1 encStr A n l) (hn : n * 16 ≤ 140737488355328) : Ans Try.prog 72 [.slice A n c] w (Copied w 9 1 encStr n l) := by
  refine ans_of Try.func72 rfl Try.ntmps72 rfl ?_
  have hw := Ext.refl w
  repeat' (first | (show CW _ _ _ _ _ _; first | refine CW.seq ?_ | refine CW.region ?_) | (show Post _ _ _ _ _; refine Post.seq ?_) | refine SW.nil ?_ | refine SW.pure rfl rfl ?_)
  refine SW.st (st_eqnil rfl rfl) rfl ?_
  repeat' (first | (show CW _ _ _ _ _ _; first | refine CW.seq ?_ | refine CW.region ?_ | refine CW.cond rfl (fun h => ?_) (fun h => ?_) | refine CW.skip ?_ | refine CW.ret ?_) | (show Post _ _ _ _ _; first | refine Post.seq ?_ | refine Post.seq_ret ?_) | refine SW.nil ?_ | refine SW.pure rfl rfl ?_)
  · have hn0 : n = 0 := by
      rcases Nat.eq_zero_or_pos n with h0 | h0
      · exact h0
      · have := hl.base h0; simp_all
    subst hn0
    have : l = [] := List.eq_nil_of_length_eq_zero hl.len
    subst this
    exact Post.ret1 rfl rfl ⟨_, rfl, hw, none, 0, rfl, Own.nil_ _ _ _ _ _ _⟩
  · refine SW.build0 rfl fun b w1 hw1 hb => ?_
    replace hw := Ext.trans hw hw1
    repeat' (refine SW.pure rfl rfl ?_)
    refine SW.appendR (Nat.zero_add n) (List.nil_append l) (Own.nil_ w1 w.heap.size _ _ encStr (some ⟨b, 0, none⟩)) (hl.ext hw) hw.size rfl rfl rfl (by omega) (by omega) fun A2 c2 w2 hO hg => ?_
    replace hw := ext_grown hw hg (Nat.le_refl _) (by simp [ownB])
    repeat' (first | (show CW _ _ _ _ _ _; refine CW.ret ?_) | (show Post _ _ _ _ _; refine Post.seq ?_) | refine SW.nil ?_ | refine SW.pure rfl rfl ?_)
    exact Post.ret1 rfl rfl ⟨_, rfl, hw, A2, c2, rfl, hO⟩

set_option maxHeartbeats 4000000 in
theorem Scopy_ans (r : SRow) (s : KSystem) (w : World) (hr : RdS w r s) (hs : s.small) :
    Ans Try.prog 25 [.agg (encSys r).toArray] w fun v w' => ∃ q, v = .agg (encSys q).toArray ∧ OwnS w' w.heap.size q s := by
  refine ans_of Try.func25 rfl Try.ntmps25 rfl ?_
  refine CW.seq (CW.region (SW.box rfl rfl fun b1 w1 hw hb1b hb1 => ?_))
  refine SW.alloc rfl fun b2 w2 hw2 hb2b hb2 => ?_
  have hb2w : w.heap.size ≤ b2 := Nat.le_trans hw.size hb2b
  have hne2 : b2 ≠ b1 := by have := hb1.lt; omega
  (replace hw := Ext.trans hw hw2; replace hb1 := hb1.ext hw2)
  obtain ⟨cs, hc⟩ := hr.caches
  have hwl := hr.words.len
  have s1 := hs.words
  have s3 := hs.caches
  obtain ⟨c1, c2⟩ := hc.len
  repeat' (first | (show CW _ _ _ _ _ _; refine CW.seq ?_) | (show Post _ _ _ _ _; refine Post.seq ?_) | refine SW.nil ?_)
  obtain ⟨K, hK⟩ : ∃ K : Env → World → Prop, K = fun L' w' => ∃ X c1 G b3, subEnv L' [(1, .pointer (some ⟨b1, 0, none⟩)), (2, .pointer (some ⟨b2, 0, none⟩)), (3, .pointer (some ⟨b3, 0, none⟩))] ∧ Ext w w' ∧ Blk w' b1 33 (encSys r) ∧ Blk w' b2 33 (encSys .zero) ∧
    Blk w' b3 33 (encSys ⟨⟨X, r.Words.n, c1⟩, G, .nil⟩) ∧ Own w' w.heap.size 3 1 encI X r.Words.n c1 s.Words ∧ OwnH w' w.heap.size G s.Heap ∧ w.heap.size ≤ b3 ∧ b1 ≠ b3 ∧ b2 ≠ b3 := ⟨_, rfl⟩
  refine CW.cut K ?_ ?_
  · refine CW.any 8 mixed (rb_tail (by kernel_rfl)) rfl fun w1 hw1 hRB => ?_
    replace hw := Ext.trans hw hw1; replace hb1 := hb1.ext hw1; replace hb2 := hb2.ext hw1; clear hw1
    refine SA.take 0 hRB rfl (by kernel_rfl) (by kernel_rfl) rfl ?_
    repeat ((show SW _ _ _ _ (⟨_, Op.fieldAddr _ _ _, _, _, _, none⟩ :: _) _ _; refine SW.st (st_field rfl) rfl ?_))
    refine SW.tknil ?_
    refine SA.take 1 hRB rfl (by kernel_rfl) (by kernel_rfl) rfl ?_
    repeat ((show SW _ _ _ _ (⟨_, Op.load _ _, _, _, _, none⟩ :: _) _ _; refine SW.st (st_load rfl (hb1.cell rfl)) rfl ?_))
    refine SW.tknil ?_
    refine SA.take 3 hRB rfl (by kernel_rfl) (by kernel_rfl) rfl ?_
    repeat ((show SW _ _ _ _ (⟨_, Op.fieldAddr _ _ _, _, _, _, none⟩ :: _) _ _; refine SW.st (st_field rfl) rfl ?_))
    refine SW.tknil ?_
    refine SA.take 4 hRB rfl (by kernel_rfl) (by kernel_rfl) rfl ?_
    repeat ((show SW _ _ _ _ (⟨_, Op.load _ _, _, _, _, none⟩ :: _) _ _; refine SW.st (st_loads rfl rfl ((heapIn hb1))) rfl ?_))
    refine SW.tknil ?_
    refine SA.two 2 7 rfl rfl (by kernel_rfl) rfl rfl ?_ ?_
    · refine SW.call rfl rfl (CloneInt_ans _ _ _ _ _ (hr.words.ext hw) (by omega)) fun v w4 hXX hv => ?_
      obtain ⟨X, c4, rfl, hX⟩ := hv
      replace hX := hX.low hw.size
      replace hw := Ext.trans hw hXX
      replace hb1 := hb1.ext hXX
      replace hb2 := hb2.ext hXX
      try replace hb3 := hb3.ext hXX
      refine SW.nil (Post.sa hXX ?_)
      refine SA.two 5 7 rfl rfl (by kernel_rfl) rfl rfl ?_ ?_
      · refine SW.call rfl rfl (Hcopy_ans _ _ _ (hr.heap.ext hw) hs.heap) fun v w4 hXX hv => ?_
        obtain ⟨G, rfl, hY⟩ := hv
        replace hY := hY.low hw.size
        replace hX := hX.ext hXX
        replace hw := Ext.trans hw hXX
        replace hb1 := hb1.ext hXX
        replace hb2 := hb2.ext hXX
        try replace hb3 := hb3.ext hXX
        refine SW.nil (Post.sa hXX ?_)
        refine SA.take 6 hRB rfl (by kernel_rfl) (by kernel_rfl) rfl ?_
        repeat ((show SW _ _ _ _ (⟨_, Op.build _ _, _, _, _, none⟩ :: _) _ _; refine SW.st (st_build rfl rfl) rfl ?_))
        refine SW.tknil ?_
        refine SA.one 7 rfl (by kernel_rfl) rfl ?_
        refine SW.alloc rfl fun b3 w4 hXX hb3b hb3 => ?_
        have hb3w : w.heap.size ≤ b3 := Nat.le_trans hw.size hb3b
        have hne3 : b1 ≠ b3 := by have := hb1.lt; omega
        have hne4 : b2 ≠ b3 := by have := hb2.lt; omega
        replace hw := Ext.trans hw hXX
        replace hb1 := hb1.ext hXX
        replace hb2 := hb2.ext hXX
        try replace hX := hX.ext hXX
        try replace hY := hY.ext hXX
        refine SW.nil (Post.sa hXX ?_)
        refine SA.done (by kernel_rfl) ?_
        skip
        refine SW.storeAgg hb3 rfl rfl rfl rfl (one_s ⟨⟨X, r.Words.n, c4⟩, G, .nil⟩) fun w5 hR2 hg => ?_
        have hG := hb3.gr hg
        replace hw := hw.own hb3w hg
        (replace hX := hX.grT hG rfl; replace hY := hY.grT hG rfl)
        replace hb1 := hb1.grown hg (by simpa using hne3)
        replace hb2 := hb2.grown hg (by simpa using hne4)
        repeat' (first | (show Post _ _ _ _ _; refine Post.np ?_) | refine SW.nil ?_)
        exact Post.cut (K := K) (by rw [hK]; exact ⟨X, c4, G, b3, ⟨rfl, rfl, rfl, trivial⟩, hw, hb1, hb2, hR2, hX, hY, hb3w, hne3, hne4⟩)
      · refine SW.alloc rfl fun b3 w4 hXX hb3b hb3 => ?_
        have hb3w : w.heap.size ≤ b3 := Nat.le_trans hw.size hb3b
        have hne3 : b1 ≠ b3 := by have := hb1.lt; omega
        have hne4 : b2 ≠ b3 := by have := hb2.lt; omega
        replace hw := Ext.trans hw hXX
        replace hb1 := hb1.ext hXX
        replace hb2 := hb2.ext hXX
        try replace hX := hX.ext hXX
        try replace hY := hY.ext hXX
        refine SW.nil (Post.sa hXX ?_)
        refine SA.one 5 rfl (by kernel_rfl) rfl ?_
        refine SW.call rfl rfl (Hcopy_ans _ _ _ (hr.heap.ext hw) hs.heap) fun v w4 hXX hv => ?_
        obtain ⟨G, rfl, hY⟩ := hv
        replace hY := hY.low hw.size
        replace hX := hX.ext hXX
        replace hw := Ext.trans hw hXX
        replace hb1 := hb1.ext hXX
        replace hb2 := hb2.ext hXX
        try replace hb3 := hb3.ext hXX
        refine SW.nil (Post.sa hXX ?_)
        refine SA.take 6 hRB rfl (by kernel_rfl) (by kernel_rfl) rfl ?_
        repeat ((show SW _ _ _ _ (⟨_, Op.build _ _, _, _, _, none⟩ :: _) _ _; refine SW.st (st_build rfl rfl) rfl ?_))
        refine SW.tknil ?_
        refine SA.done (by kernel_rfl) ?_
        skip
        refine SW.storeAgg hb3 rfl rfl rfl rfl (one_s ⟨⟨X, r.Words.n, c4⟩, G, .nil⟩) fun w5 hR2 hg => ?_
        have hG := hb3.gr hg
        replace hw := hw.own hb3w hg
        (replace hX := hX.grT hG rfl; replace hY := hY.grT hG rfl)
        replace hb1 := hb1.grown hg (by simpa using hne3)
        replace hb2 := hb2.grown hg (by simpa using hne4)
        repeat' (first | (show Post _ _ _ _ _; refine Post.np ?_) | refine SW.nil ?_)
        exact Post.cut (K := K) (by rw [hK]; exact ⟨X, c4, G, b3, ⟨rfl, rfl, rfl, trivial⟩, hw, hb1, hb2, hR2, hX, hY, hb3w, hne3, hne4⟩)
    · refine SW.alloc rfl fun b3 w4 hXX hb3b hb3 => ?_
      have hb3w : w.heap.size ≤ b3 := Nat.le_trans hw.size hb3b
      have hne3 : b1 ≠ b3 := by have := hb1.lt; omega
      have hne4 : b2 ≠ b3 := by have := hb2.lt; omega
      replace hw := Ext.trans hw hXX
      replace hb1 := hb1.ext hXX
      replace hb2 := hb2.ext hXX
      try replace hX := hX.ext hXX
      try replace hY := hY.ext hXX
      refine SW.nil (Post.sa hXX ?_)
      refine SA.one 2 rfl (by kernel_rfl) rfl ?_
      refine SW.call rfl rfl (CloneInt_ans _ _ _ _ _ (hr.words.ext hw) (by omega)) fun v w4 hXX hv => ?_
      obtain ⟨X, c4, rfl, hX⟩ := hv
      replace hX := hX.low hw.size
      replace hw := Ext.trans hw hXX
      replace hb1 := hb1.ext hXX
      replace hb2 := hb2.ext hXX
      try replace hb3 := hb3.ext hXX
      refine SW.nil (Post.sa hXX ?_)
      refine SA.one 5 rfl (by kernel_rfl) rfl ?_
      refine SW.call rfl rfl (Hcopy_ans _ _ _ (hr.heap.ext hw) hs.heap) fun v w4 hXX hv => ?_
      obtain ⟨G, rfl, hY⟩ := hv
      replace hY := hY.low hw.size
      replace hX := hX.ext hXX
      replace hw := Ext.trans hw hXX
      replace hb1 := hb1.ext hXX
      replace hb2 := hb2.ext hXX
      try replace hb3 := hb3.ext hXX
      refine SW.nil (Post.sa hXX ?_)
      refine SA.take 6 hRB rfl (by kernel_rfl) (by kernel_rfl) rfl ?_
      repeat ((show SW _ _ _ _ (⟨_, Op.build _ _, _, _, _, none⟩ :: _) _ _; refine SW.st (st_build rfl rfl) rfl ?_))
      refine SW.tknil ?_
      refine SA.done (by kernel_rfl) ?_
      skip
      refine SW.storeAgg hb3 rfl rfl rfl rfl (one_s ⟨⟨X, r.Words.n, c4⟩, G, .nil⟩) fun w5 hR2 hg => ?_
      have hG := hb3.gr hg
      replace hw := hw.own hb3w hg
      (replace hX := hX.grT hG rfl; replace hY := hY.grT hG rfl)
      replace hb1 := hb1.grown hg (by simpa using hne3)
      replace hb2 := hb2.grown hg (by simpa using hne4)
      repeat' (first | (show Post _ _ _ _ _; refine Post.np ?_) | refine SW.nil ?_)
      exact Post.cut (K := K) (by rw [hK]; exact ⟨X, c4, G, b3, ⟨rfl, rfl, rfl, trivial⟩, hw, hb1, hb2, hR2, hX, hY, hb3w, hne3, hne4⟩)
  · clear hb1 hb2 hw
    subst hK
    rintro L' w' ⟨X, c4, G, b3, hsub, hw, hb1, hb2, hb3, hX, hY, hb3w, hne3, hne4⟩
    refine Post.sub hsub ?_
    repeat' (first | (show CW _ _ _ _ _ _; first | refine CW.seq ?_ | refine CW.region ?_ | refine CW.block ?_) | (show Post _ _ _ _ _; refine Post.seq ?_) | refine SW.nil ?_ | refine SW.pure rfl rfl ?_ | (show SW _ _ _ _ (⟨_, Op.fieldAddr _ _ _, _, _, _, none⟩ :: _) _ _; refine SW.st (st_field rfl) rfl ?_) | (show SW _ _ _ _ (⟨_, Op.call ⟨.builtin .len, _, _⟩, _, _, _, none⟩ :: _) _ _; refine SW.st (st_len rfl) rfl ?_) | (show SW _ _ _ _ (⟨_, Op.load _ _, _, _, _, none⟩ :: _) _ _; refine SW.st (st_load rfl (hb1.cell rfl)) rfl ?_))
    refine CW.loop (fun s : Nat × Option Addr × Nat × List CRow => [(2, .pointer (some ⟨b2, 0, none⟩)), (3, .pointer (some ⟨b3, 0, none⟩)), (14, .slice r.Caches.A r.Caches.n r.Caches.c), (15, .int .i64 (r.Caches.n : Int)), (16, .int .i64 (s.1 : Int))])
      (fun t w' => t.1 ≤ r.Caches.n ∧ Ext w w' ∧ Blk w' b2 33 (encSys .zero) ∧ Blk w' b3 33 (encSys ⟨⟨X, r.Words.n, c4⟩, G, ⟨t.2.1, t.1, t.2.2.1⟩⟩) ∧ Own w' w.heap.size 3 1 encI X r.Words.n c4 s.Words ∧ OwnH w' w.heap.size G s.Heap ∧
        OwnCs w' w.heap.size ⟨t.2.1, t.1, t.2.2.1⟩ t.2.2.2 (s.Caches.take t.1)) (fun t => r.Caches.n - t.1) (0, none, 0, []) ⟨rfl, rfl, rfl, rfl, rfl, trivial⟩ ⟨by omega, hw, hb2, hb3, hX, hY, OwnCs.nil _ _⟩ ?_
    clear hb1 hb2 hb3 hX hY hw hsub
    rintro ⟨k, A, c, zr⟩ w' ⟨hk, hw, hb2, hb3, hX, hY, hO⟩
    simp only at hk hb3 hO ⊢
    have hA := hc.row.base
    by_cases hkn : k < r.Caches.n
    · have hck := hc.each.get k (by omega) (by omega)
      have q := hs.each _ (List.getElem_mem (show k < s.Caches.length by omega))
      have q1 := hck.names.len
      have q2 := hck.slabs.len
      have q3 := hck.active.len
      have q4 := q.names
      have q5 := q.slabs
      have q6 := q.active
      have hlt5 := hO.row.lt_size
      repeat' (first | (show CW _ _ _ _ _ _; first | refine CW.seq ?_ | refine CW.region ?_ | refine CW.block ?_ | refine CW.condd_t rfl (by omega) ?_ | refine CW.skip ?_) | (show Post _ _ _ _ _; refine Post.seq ?_) | refine SW.nil ?_ | refine SW.pure rfl rfl ?_ | (show SW _ _ _ _ (⟨_, Op.indexAddr _ _ _, _, _, _, none⟩ :: _) _ _; refine SW.st (st_indexN rfl rfl (by assumption) (by omega)) rfl ?_) | (show SW _ _ _ _ (⟨_, Op.load _ _, _, _, _, none⟩ :: _) _ _; refine SW.st (st_loadsx hw rfl rfl ((hc.row.all hkn))) rfl ?_))
      refine SW.alloc rfl fun b5 w1 hw1 hb5b hb5 => ?_
      skip
      refine SW.storeAgg hb5 rfl rfl rfl rfl (one_c _) fun w2 hb5' hg => ?_
      have hXX := hw1.own hb5b hg
      have hb5w : w.heap.size ≤ b5 := Nat.le_trans hw.size hb5b
      replace hw := Ext.trans hw hXX
      replace hb2 := hb2.ext hXX
      replace hb3 := hb3.ext hXX
      replace hX := hX.ext hXX
      replace hY := hY.ext hXX
      replace hO := hO.ext hXX
      replace hb5 := hb5'
      clear hb5' hw1 hg hXX
      repeat' (first | (show CW _ _ _ _ _ _; refine CW.seq ?_) | (show Post _ _ _ _ _; refine Post.seq ?_) | refine SW.nil ?_)
      refine CW.any 10 mixed (rb_tail (by kernel_rfl)) rfl fun w1 hw1 hRB => ?_
      replace hw := Ext.trans hw hw1; replace hb2 := hb2.ext hw1; replace hb3 := hb3.ext hw1; replace hb5 := hb5.ext hw1; replace hX := hX.ext hw1; replace hY := hY.ext hw1; replace hO := hO.ext hw1; clear hw1
      refine SA.take 0 hRB rfl (by kernel_rfl) (by kernel_rfl) rfl ?_
      repeat ((show SW _ _ _ _ (⟨_, Op.fieldAddr _ _ _, _, _, _, none⟩ :: _) _ _; refine SW.st (st_field rfl) rfl ?_))
      refine SW.tknil ?_
      refine SA.take 1 hRB rfl (by kernel_rfl) (by kernel_rfl) rfl ?_
      repeat ((show SW _ _ _ _ (⟨_, Op.load _ _, _, _, _, none⟩ :: _) _ _; refine SW.st (st_load rfl (hb5.cell rfl)) rfl ?_))
      refine SW.tknil ?_
      refine SA.take 3 hRB rfl (by kernel_rfl) (by kernel_rfl) rfl ?_
      repeat ((show SW _ _ _ _ (⟨_, Op.fieldAddr _ _ _, _, _, _, none⟩ :: _) _ _; refine SW.st (st_field rfl) rfl ?_))
      refine SW.tknil ?_
      refine SA.take 4 hRB rfl (by kernel_rfl) (by kernel_rfl) rfl ?_
      repeat ((show SW _ _ _ _ (⟨_, Op.load _ _, _, _, _, none⟩ :: _) _ _; refine SW.st (st_load rfl (hb5.cell rfl)) rfl ?_))
      refine SW.tknil ?_
      refine SA.take 6 hRB rfl (by kernel_rfl) (by kernel_rfl) rfl ?_
      repeat ((show SW _ _ _ _ (⟨_, Op.fieldAddr _ _ _, _, _, _, none⟩ :: _) _ _; refine SW.st (st_field rfl) rfl ?_))
      refine SW.tknil ?_
      refine SA.take 7 hRB rfl (by kernel_rfl) (by kernel_rfl) rfl ?_
      repeat ((show SW _ _ _ _ (⟨_, Op.load _ _, _, _, _, none⟩ :: _) _ _; refine SW.st (st_load rfl (hb5.cell rfl)) rfl ?_))
      refine SW.tknil ?_
      refine SA.one 2 rfl (by kernel_rfl) rfl ?_
      refine SW.call rfl rfl (CloneStr_ans _ _ _ _ _ (hck.names.ext hw) (by omega)) fun v w4 hXX hv => ?_
      obtain ⟨N, n4, rfl, hN⟩ := hv
      replace hN := hN.low hw.size
      (replace hw := Ext.trans hw hXX; replace hb2 := hb2.ext hXX; replace hb3 := hb3.ext hXX; replace hb5 := hb5.ext hXX; replace hX := hX.ext hXX; replace hY := hY.ext hXX; replace hO := hO.ext hXX)
      refine SW.nil (Post.sa hXX ?_)
      refine SA.take 9 hRB rfl (by kernel_rfl) (by kernel_rfl) rfl ?_
      repeat ((show SW _ _ _ _ (⟨_, Op.fieldAddr _ _ _, _, _, _, none⟩ :: _) _ _; refine SW.st (st_field rfl) rfl ?_))
      refine SW.tknil ?_
      refine SA.one 5 rfl (by kernel_rfl) rfl ?_
      refine SW.call rfl rfl (CloneSlab_ans _ _ _ _ _ (hck.slabs.ext hw) (by omega)) fun v w4 hXX hv => ?_
      obtain ⟨M, m4, rfl, hM⟩ := hv
      replace hM := hM.low hw.size
      (replace hw := Ext.trans hw hXX; replace hb2 := hb2.ext hXX; replace hb3 := hb3.ext hXX; replace hb5 := hb5.ext hXX; replace hX := hX.ext hXX; replace hY := hY.ext hXX; replace hO := hO.ext hXX; replace hN := hN.ext hXX)
      refine SW.nil (Post.sa hXX ?_)
      refine SA.one 8 rfl (by kernel_rfl) rfl ?_
      refine SW.call rfl rfl (CloneInt_ans _ _ _ _ _ (hck.active.ext hw) (by omega)) fun v w4 hXX hv => ?_
      obtain ⟨Q, q7, rfl, hQ⟩ := hv
      replace hQ := hQ.low hw.size
      (replace hw := Ext.trans hw hXX; replace hb2 := hb2.ext hXX; replace hb3 := hb3.ext hXX; replace hb5 := hb5.ext hXX; replace hX := hX.ext hXX; replace hY := hY.ext hXX; replace hO := hO.ext hXX; replace hN := hN.ext hXX; replace hM := hM.ext hXX)
      refine SW.nil (Post.sa hXX ?_)
      refine SA.done (by kernel_rfl) ?_
      refine SW.storeB (i := 0) hb5 rfl rfl rfl rfl fun w6 hb5' hg => ?_
      have hG := hb5.gr hg
      replace hw := hw.own hb5w hg
      replace hO := hO.blk hb5 hg hlt5 hb5b
      (replace hb2 := hb2.grT hG rfl; replace hb3 := hb3.grT hG rfl; replace hX := hX.grT hG rfl; replace hY := hY.grT hG rfl; replace hN := hN.grT hG rfl; replace hM := hM.grT hG rfl; replace hQ := hQ.grT hG rfl)
      replace hb5 := hb5'
      clear hb5' hg hG
      repeat' ((show SW _ _ _ _ (⟨_, Op.fieldAddr _ _ _, _, _, _, none⟩ :: _) _ _; refine SW.st (st_field rfl) rfl ?_))
      refine SW.storeB (i := 4) hb5 rfl rfl rfl rfl fun w6 hb5' hg => ?_
      have hG := hb5.gr hg
      replace hw := hw.own hb5w hg
      replace hO := hO.blk hb5 hg hlt5 hb5b
      (replace hb2 := hb2.grT hG rfl; replace hb3 := hb3.grT hG rfl; replace hX := hX.grT hG rfl; replace hY := hY.grT hG rfl; replace hN := hN.grT hG rfl; replace hM := hM.grT hG rfl; replace hQ := hQ.grT hG rfl)
      replace hb5 := hb5'
      clear hb5' hg hG
      repeat' ((show SW _ _ _ _ (⟨_, Op.fieldAddr _ _ _, _, _, _, none⟩ :: _) _ _; refine SW.st (st_field rfl) rfl ?_))
      refine SW.storeB (i := 5) hb5 rfl rfl rfl rfl fun w6 hb5' hg => ?_
      have hG := hb5.gr hg
      replace hw := hw.own hb5w hg
      replace hO := hO.blk hb5 hg hlt5 hb5b
      (replace hb2 := hb2.grT hG rfl; replace hb3 := hb3.grT hG rfl; replace hX := hX.grT hG rfl; replace hY := hY.grT hG rfl; replace hN := hN.grT hG rfl; replace hM := hM.grT hG rfl; replace hQ := hQ.grT hG rfl)
      replace hb5 := hb5'
      clear hb5' hg hG
      repeat' (first | (show CW _ _ _ _ _ _; refine CW.region ?_) | (show Post _ _ _ _ _; first | refine Post.seq ?_ | refine Post.np ?_) | refine SW.nil ?_ | (show SW _ _ _ _ (⟨_, Op.fieldAddr _ _ _, _, _, _, none⟩ :: _) _ _; refine SW.st (st_field rfl) rfl ?_) | (show SW _ _ _ _ (⟨_, Op.load _ _, _, _, _, none⟩ :: _) _ _; first | refine SW.st (st_load rfl (hb3.cell rfl)) rfl ?_ | refine SW.st (st_loads rfl rfl ((fun _ _ => hb5.cell))) rfl ?_))
      refine SW.build1 rfl rfl rfl rfl rfl fun b w6 hXX hb hB => ?_
      (replace hw := Ext.trans hw hXX; replace hb2 := hb2.ext hXX; replace hb3 := hb3.ext hXX; replace hX := hX.ext hXX; replace hY := hY.ext hXX; replace hO := hO.ext hXX; replace hN := hN.ext hXX; replace hM := hM.ext hXX; replace hQ := hQ.ext hXX)
      refine SW.append hO.row (Blk.sl1 (enc := encC) (x := ⟨⟨N, _, n4⟩, cs[k].Size, cs[k].Per, cs[k].Order, ⟨M, _, m4⟩, ⟨Q, _, q7⟩⟩) hB) hw.size rfl rfl rfl (by simp only; omega) (by simp only; omega) fun A2 c2 w5 hO1 hg => ?_
      have hG := hO.row.gr hg
      replace hw := ext_grown hw hg (Nat.le_refl _) hO.row.row_ge
      (replace hb2 := hb2.grT hG rfl; replace hb3 := hb3.grT hG rfl; replace hX := hX.grT hG rfl; replace hY := hY.grT hG rfl; replace hN := hN.grT hG rfl; replace hM := hM.grT hG rfl; replace hQ := hQ.grT hG rfl)
      have hE := hO.each.mono fun _ _ h => h.grT hG rfl
      repeat' ((show SW _ _ _ _ (⟨_, Op.fieldAddr _ _ _, _, _, _, none⟩ :: _) _ _; refine SW.st (st_field rfl) rfl ?_))
      refine SW.storeB (i := 6) hb3 rfl rfl rfl rfl fun w6 hb3' hg => ?_
      have hG := hb3.gr hg
      replace hw := hw.own hb3w hg
      replace hb2 := hb2.grown hg (by simpa using hne4)
      (replace hX := hX.grT hG rfl; replace hY := hY.grT hG rfl; replace hN := hN.grT hG rfl; replace hM := hM.grT hG rfl; replace hQ := hQ.grT hG rfl; replace hO1 := hO1.grT hG rfl)
      replace hE := hE.mono fun _ _ h => h.grT hG rfl
      repeat' (first | (show CW _ _ _ _ _ _; refine CW.region ?_) | (show Post _ _ _ _ _; first | refine Post.seq ?_ | refine Post.blk ?_) | refine SW.nil ?_ | refine SW.pure rfl rfl ?_ | (show SW _ _ _ _ (⟨_, Op.binOp _ _ _ _ _, _, _, _, none⟩ :: _) _ _; refine SW.st (st_add rfl rfl (by omega) (by omega)) rfl ?_))
      refine Post.again (k + 1, A2, c2, zr ++ [⟨⟨N, _, n4⟩, cs[k].Size, cs[k].Per, cs[k].Order, ⟨M, _, m4⟩, ⟨Q, _, q7⟩⟩]) ⟨rfl, rfl, rfl, rfl, rfl, trivial⟩ (by simp only; omega) ⟨by simp only; omega, hw, hb2, hb3', hX, hY, hO1, ?_⟩
      rw [List.take_succ_eq_append_getElem (by omega)]
      exact hE.snoc ⟨hck.size, hck.per, hck.order, hN, hM, hQ⟩
    · obtain rfl : k = r.Caches.n := by omega
      rw [List.take_of_length_le (by omega)] at hO
      repeat' (first | (show CW _ _ _ _ _ _; first | refine CW.seq ?_ | refine CW.region ?_ | refine CW.condd_f rfl (by omega) ?_ | refine CW.exit ?_) | (show Post _ _ _ _ _; first | refine Post.seq ?_ | refine Post.seq_exit ?_ | refine Post.hit ?_ | refine Post.again_exit ?_) | refine SW.nil ?_ | refine SW.pure rfl rfl ?_ | (show SW _ _ _ _ (⟨_, Op.load _ _, _, _, _, none⟩ :: _) _ _; refine SW.st (st_loads rfl rfl ((fun _ _ => hb3.cell))) rfl ?_))
      refine SW.storeAgg hb2 rfl rfl rfl rfl (one_s _) fun w5 hR2 hg => ?_
      have hG := hb2.gr hg
      replace hw := hw.own hb2w hg
      (replace hX := hX.grT hG rfl; replace hY := hY.grT hG rfl; replace hO := hO.grT hG rfl)
      repeat' (first | (show CW _ _ _ _ _ _; refine CW.ret ?_) | (show Post _ _ _ _ _; refine Post.seq ?_) | refine SW.nil ?_)
      exact Post.ret1c rfl rfl hR2 rfl ⟨_, rfl, hw, ⟨_, G, _⟩, rfl, hX, hY, ⟨zr, hO⟩⟩
end Go.Proofs.Ytfdmgflboibdoaa

/-
  A system of the call's own whose parts lie apart; slab.Copy gives one.
-/
set_option linter.unusedVariables false
namespace Go.Proofs.Ytfdmgflboibdoaa
open Go.RowKit

/-- two slices of the call's own do not share a block -/
def apart (a b : Sli) : Prop := ∀ k, ownB a.A a.c = some k → ownB b.A b.c ≠ some k
theorem apart_new {α : Type} {w : World} {lo : Nat} {e : TypeId} {sz : Nat} {enc : α → List Value} {a b : Sli} {l : List α} (h : Own w lo e sz enc a.A a.n a.c l) (hb : ∀ k, ownB b.A b.c = some k → w.heap.size ≤ k) : apart a b := fun k h1 h2 => by
  have := h.lt_size k h1
  have := hb k h2
  omega
structure CApart (u v : CRow) : Prop where
  names : apart u.Names v.Names
  slabs : apart u.Slabs v.Slabs
  active : apart u.Active v.Active
structure SepC (words : Sli) (cs : List CRow) : Prop where
  pair : cs.Pairwise CApart
  words : ∀ u ∈ cs, apart words u.Active
theorem SepC.nil (x : Sli) : SepC x [] := ⟨.nil, fun _ h => by simp at h⟩
theorem SepC.snoc {x : Sli} {cs : List CRow} {v : CRow} (h : SepC x cs) (h1 : ∀ u ∈ cs, CApart u v) (h2 : apart x v.Active) : SepC x (cs ++ [v]) := by
  refine ⟨List.pairwise_append.2 ⟨h.pair, by simp, fun a ha b hb => ?_⟩, fun u hu => ?_⟩
  · simp at hb; subst hb; exact h1 a ha
  · rcases List.mem_append.1 hu with hu | hu
    · exact h.words u hu
    · simp at hu; subst hu; exact h2
structure OwnSS (w : World) (lo : Nat) (r : SRow) (s : KSystem) (cs : List CRow) : Prop where
  words : Own w lo 3 1 encI r.Words.A r.Words.n r.Words.c s.Words
  heap : OwnH w lo r.Heap s.Heap
  caches : OwnCs w lo r.Caches cs s.Caches
  sep : SepC r.Words cs
theorem OwnSS.own {w : World} {lo : Nat} {r : SRow} {s : KSystem} {cs : List CRow} (h : OwnSS w lo r s cs) : OwnS w lo r s := ⟨h.words, h.heap, ⟨cs, h.caches⟩⟩
theorem OwnSS.ext {w w' : World} {lo : Nat} {r : SRow} {s : KSystem} {cs : List CRow} (h : OwnSS w lo r s cs) (hx : Ext w w') : OwnSS w' lo r s cs := ⟨h.words.ext hx, h.heap.ext hx, h.caches.ext hx, h.sep⟩
theorem OwnSS.low {w : World} {lo lo' : Nat} {r : SRow} {s : KSystem} {cs : List CRow} (h : OwnSS w lo r s cs) (hl : lo' ≤ lo) : OwnSS w lo' r s cs := ⟨h.words.low hl, h.heap.low hl, h.caches.low hl, h.sep⟩
theorem OwnCs.mem {w : World} {lo : Nat} {s : Sli} {cs : List CRow} {l : List KCache} (h : OwnCs w lo s cs l) {u : CRow} (hu : u ∈ cs) : ∃ c, OwnC w lo u c := by
  obtain ⟨i, hi, rfl⟩ := List.getElem_of_mem hu
  exact ⟨_, h.each.get i hi (by rw [← h.each.len]; exact hi)⟩
theorem OwnCs.apN {w : World} {lo : Nat} {s : Sli} {cs : List CRow} {l : List KCache} (h : OwnCs w lo s cs l) {b : Sli} (hb : ∀ k, ownB b.A b.c = some k → w.heap.size ≤ k) : ∀ u ∈ cs, apart u.Names b := fun u hu => by
  obtain ⟨c, hc⟩ := h.mem hu
  exact apart_new hc.names hb
theorem OwnCs.apS {w : World} {lo : Nat} {s : Sli} {cs : List CRow} {l : List KCache} (h : OwnCs w lo s cs l) {b : Sli} (hb : ∀ k, ownB b.A b.c = some k → w.heap.size ≤ k) : ∀ u ∈ cs, apart u.Slabs b := fun u hu => by
  obtain ⟨c, hc⟩ := h.mem hu
  exact apart_new hc.slabs hb
theorem OwnCs.apA {w : World} {lo : Nat} {s : Sli} {cs : List CRow} {l : List KCache} (h : OwnCs w lo s cs l) {b : Sli} (hb : ∀ k, ownB b.A b.c = some k → w.heap.size ≤ k) : ∀ u ∈ cs, apart u.Active b := fun u hu => by
  obtain ⟨c, hc⟩ := h.mem hu
  exact apart_new hc.active hb

set_option maxHeartbeats 4000000 in
theorem ScopyS_ans (r : SRow) (s : KSystem) (w : World) (hr : RdS w r s) (hs : s.small) :
    Ans Try.prog 25 [.agg (encSys r).toArray] w fun v w' => ∃ q zr, v = .agg (encSys q).toArray ∧ OwnSS w' w.heap.size q s zr := by
  refine ans_of Try.func25 rfl Try.ntmps25 rfl ?_
  refine CW.seq (CW.region (SW.box rfl rfl fun b1 w1 hw hb1b hb1 => ?_))
  refine SW.alloc rfl fun b2 w2 hw2 hb2b hb2 => ?_
  have hb2w : w.heap.size ≤ b2 := Nat.le_trans hw.size hb2b
  have hne2 : b2 ≠ b1 := by have := hb1.lt; omega
  (replace hw := Ext.trans hw hw2; replace hb1 := hb1.ext hw2)
  obtain ⟨cs, hc⟩ := hr.caches
  have hwl := hr.words.len
  have s1 := hs.words
  have s3 := hs.caches
  obtain ⟨c1, c2⟩ := hc.len
  repeat' (first | (show CW _ _ _ _ _ _; refine CW.seq ?_) | (show Post _ _ _ _ _; refine Post.seq ?_) | refine SW.nil ?_)
  obtain ⟨K, hK⟩ : ∃ K : Env → World → Prop, K = fun L' w' => ∃ X c1 G b3, subEnv L' [(1, .pointer (some ⟨b1, 0, none⟩)), (2, .pointer (some ⟨b2, 0, none⟩)), (3, .pointer (some ⟨b3, 0, none⟩))] ∧ Ext w w' ∧ Blk w' b1 33 (encSys r) ∧ Blk w' b2 33 (encSys .zero) ∧
    Blk w' b3 33 (encSys ⟨⟨X, r.Words.n, c1⟩, G, .nil⟩) ∧ Own w' w.heap.size 3 1 encI X r.Words.n c1 s.Words ∧ OwnH w' w.heap.size G s.Heap ∧ w.heap.size ≤ b3 ∧ b1 ≠ b3 ∧ b2 ≠ b3 := ⟨_, rfl⟩
  refine CW.cut K ?_ ?_
  · refine CW.any 8 mixed (rb_tail (by kernel_rfl)) rfl fun w1 hw1 hRB => ?_
    replace hw := Ext.trans hw hw1; replace hb1 := hb1.ext hw1; replace hb2 := hb2.ext hw1; clear hw1
    refine SA.take 0 hRB rfl (by kernel_rfl) (by kernel_rfl) rfl ?_
    repeat ((show SW _ _ _ _ (⟨_, Op.fieldAddr _ _ _, _, _, _, none⟩ :: _) _ _; refine SW.st (st_field rfl) rfl ?_))
    refine SW.tknil ?_
    refine SA.take 1 hRB rfl (by kernel_rfl) (by kernel_rfl) rfl ?_
    repeat ((show SW _ _ _ _ (⟨_, Op.load _ _, _, _, _, none⟩ :: _) _ _; refine SW.st (st_load rfl (hb1.cell rfl)) rfl ?_))
    refine SW.tknil ?_
    refine SA.take 3 hRB rfl (by kernel_rfl) (by kernel_rfl) rfl ?_
    repeat ((show SW _ _ _ _ (⟨_, Op.fieldAddr _ _ _, _, _, _, none⟩ :: _) _ _; refine SW.st (st_field rfl) rfl ?_))
    refine SW.tknil ?_
    refine SA.take 4 hRB rfl (by kernel_rfl) (by kernel_rfl) rfl ?_
    repeat ((show SW _ _ _ _ (⟨_, Op.load _ _, _, _, _, none⟩ :: _) _ _; refine SW.st (st_loads rfl rfl ((heapIn hb1))) rfl ?_))
    refine SW.tknil ?_
    refine SA.two 2 7 rfl rfl (by kernel_rfl) rfl rfl ?_ ?_
    · refine SW.call rfl rfl (CloneInt_ans _ _ _ _ _ (hr.words.ext hw) (by omega)) fun v w4 hXX hv => ?_
      obtain ⟨X, c4, rfl, hX⟩ := hv
      replace hX := hX.low hw.size
      replace hw := Ext.trans hw hXX
      replace hb1 := hb1.ext hXX
      replace hb2 := hb2.ext hXX
      try replace hb3 := hb3.ext hXX
      refine SW.nil (Post.sa hXX ?_)
      refine SA.two 5 7 rfl rfl (by kernel_rfl) rfl rfl ?_ ?_
      · refine SW.call rfl rfl (Hcopy_ans _ _ _ (hr.heap.ext hw) hs.heap) fun v w4 hXX hv => ?_
        obtain ⟨G, rfl, hY⟩ := hv
        replace hY := hY.low hw.size
        replace hX := hX.ext hXX
        replace hw := Ext.trans hw hXX
        replace hb1 := hb1.ext hXX
        replace hb2 := hb2.ext hXX
        try replace hb3 := hb3.ext hXX
        refine SW.nil (Post.sa hXX ?_)
        refine SA.take 6 hRB rfl (by kernel_rfl) (by kernel_rfl) rfl ?_
        repeat ((show SW _ _ _ _ (⟨_, Op.build _ _, _, _, _, none⟩ :: _) _ _; refine SW.st (st_build rfl rfl) rfl ?_))
        refine SW.tknil ?_
        refine SA.one 7 rfl (by kernel_rfl) rfl ?_
        refine SW.alloc rfl fun b3 w4 hXX hb3b hb3 => ?_
        have hb3w : w.heap.size ≤ b3 := Nat.le_trans hw.size hb3b
        have hne3 : b1 ≠ b3 := by have := hb1.lt; omega
        have hne4 : b2 ≠ b3 := by have := hb2.lt; omega
        replace hw := Ext.trans hw hXX
        replace hb1 := hb1.ext hXX
        replace hb2 := hb2.ext hXX
        try replace hX := hX.ext hXX
        try replace hY := hY.ext hXX
        refine SW.nil (Post.sa hXX ?_)
        refine SA.done (by kernel_rfl) ?_
        skip
        refine SW.storeAgg hb3 rfl rfl rfl rfl (one_s ⟨⟨X, r.Words.n, c4⟩, G, .nil⟩) fun w5 hR2 hg => ?_
        have hG := hb3.gr hg
        replace hw := hw.own hb3w hg
        (replace hX := hX.grT hG rfl; replace hY := hY.grT hG rfl)
        replace hb1 := hb1.grown hg (by simpa using hne3)
        replace hb2 := hb2.grown hg (by simpa using hne4)
        repeat' (first | (show Post _ _ _ _ _; refine Post.np ?_) | refine SW.nil ?_)
        exact Post.cut (K := K) (by rw [hK]; exact ⟨X, c4, G, b3, ⟨rfl, rfl, rfl, trivial⟩, hw, hb1, hb2, hR2, hX, hY, hb3w, hne3, hne4⟩)
      · refine SW.alloc rfl fun b3 w4 hXX hb3b hb3 => ?_
        have hb3w : w.heap.size ≤ b3 := Nat.le_trans hw.size hb3b
        have hne3 : b1 ≠ b3 := by have := hb1.lt; omega
        have hne4 : b2 ≠ b3 := by have := hb2.lt; omega
        replace hw := Ext.trans hw hXX
        replace hb1 := hb1.ext hXX
        replace hb2 := hb2.ext hXX
        try replace hX := hX.ext hXX
        try replace hY := hY.ext hXX
        refine SW.nil (Post.sa hXX ?_)
        refine SA.one 5 rfl (by kernel_rfl) rfl ?_
        refine SW.call rfl rfl (Hcopy_ans _ _ _ (hr.heap.ext hw) hs.heap) fun v w4 hXX hv => ?_
        obtain ⟨G, rfl, hY⟩ := hv
        replace hY := hY.low hw.size
        replace hX := hX.ext hXX
        replace hw := Ext.trans hw hXX
        replace hb1 := hb1.ext hXX
        replace hb2 := hb2.ext hXX
        try replace hb3 := hb3.ext hXX
        refine SW.nil (Post.sa hXX ?_)
        refine SA.take 6 hRB rfl (by kernel_rfl) (by kernel_rfl) rfl ?_
        repeat ((show SW _ _ _ _ (⟨_, Op.build _ _, _, _, _, none⟩ :: _) _ _; refine SW.st (st_build rfl rfl) rfl ?_))
        refine SW.tknil ?_
        refine SA.done (by kernel_rfl) ?_
        skip
        refine SW.storeAgg hb3 rfl rfl rfl rfl (one_s ⟨⟨X, r.Words.n, c4⟩, G, .nil⟩) fun w5 hR2 hg => ?_
        have hG := hb3.gr hg
        replace hw := hw.own hb3w hg
        (replace hX := hX.grT hG rfl; replace hY := hY.grT hG rfl)
        replace hb1 := hb1.grown hg (by simpa using hne3)
        replace hb2 := hb2.grown hg (by simpa using hne4)
        repeat' (first | (show Post _ _ _ _ _; refine Post.np ?_) | refine SW.nil ?_)
        exact Post.cut (K := K) (by rw [hK]; exact ⟨X, c4, G, b3, ⟨rfl, rfl, rfl, trivial⟩, hw, hb1, hb2, hR2, hX, hY, hb3w, hne3, hne4⟩)
    · refine SW.alloc rfl fun b3 w4 hXX hb3b hb3 => ?_
      have hb3w : w.heap.size ≤ b3 := Nat.le_trans hw.size hb3b
      have hne3 : b1 ≠ b3 := by have := hb1.lt; omega
      have hne4 : b2 ≠ b3 := by have := hb2.lt; omega
      replace hw := Ext.trans hw hXX
      replace hb1 := hb1.ext hXX
      replace hb2 := hb2.ext hXX
      try replace hX := hX.ext hXX
      try replace hY := hY.ext hXX
      refine SW.nil (Post.sa hXX ?_)
      refine SA.one 2 rfl (by kernel_rfl) rfl ?_
      refine SW.call rfl rfl (CloneInt_ans _ _ _ _ _ (hr.words.ext hw) (by omega)) fun v w4 hXX hv => ?_
      obtain ⟨X, c4, rfl, hX⟩ := hv
      replace hX := hX.low hw.size
      replace hw := Ext.trans hw hXX
      replace hb1 := hb1.ext hXX
      replace hb2 := hb2.ext hXX
      try replace hb3 := hb3.ext hXX
      refine SW.nil (Post.sa hXX ?_)
      refine SA.one 5 rfl (by kernel_rfl) rfl ?_
      refine SW.call rfl rfl (Hcopy_ans _ _ _ (hr.heap.ext hw) hs.heap) fun v w4 hXX hv => ?_
      obtain ⟨G, rfl, hY⟩ := hv
      replace hY := hY.low hw.size
      replace hX := hX.ext hXX
      replace hw := Ext.trans hw hXX
      replace hb1 := hb1.ext hXX
      replace hb2 := hb2.ext hXX
      try replace hb3 := hb3.ext hXX
      refine SW.nil (Post.sa hXX ?_)
      refine SA.take 6 hRB rfl (by kernel_rfl) (by kernel_rfl) rfl ?_
      repeat ((show SW _ _ _ _ (⟨_, Op.build _ _, _, _, _, none⟩ :: _) _ _; refine SW.st (st_build rfl rfl) rfl ?_))
      refine SW.tknil ?_
      refine SA.done (by kernel_rfl) ?_
      skip
      refine SW.storeAgg hb3 rfl rfl rfl rfl (one_s ⟨⟨X, r.Words.n, c4⟩, G, .nil⟩) fun w5 hR2 hg => ?_
      have hG := hb3.gr hg
      replace hw := hw.own hb3w hg
      (replace hX := hX.grT hG rfl; replace hY := hY.grT hG rfl)
      replace hb1 := hb1.grown hg (by simpa using hne3)
      replace hb2 := hb2.grown hg (by simpa using hne4)
      repeat' (first | (show Post _ _ _ _ _; refine Post.np ?_) | refine SW.nil ?_)
      exact Post.cut (K := K) (by rw [hK]; exact ⟨X, c4, G, b3, ⟨rfl, rfl, rfl, trivial⟩, hw, hb1, hb2, hR2, hX, hY, hb3w, hne3, hne4⟩)
  · clear hb1 hb2 hw
    subst hK
    rintro L' w' ⟨X, c4, G, b3, hsub, hw, hb1, hb2, hb3, hX, hY, hb3w, hne3, hne4⟩
    refine Post.sub hsub ?_
    repeat' (first | (show CW _ _ _ _ _ _; first | refine CW.seq ?_ | refine CW.region ?_ | refine CW.block ?_) | (show Post _ _ _ _ _; refine Post.seq ?_) | refine SW.nil ?_ | refine SW.pure rfl rfl ?_ | (show SW _ _ _ _ (⟨_, Op.fieldAddr _ _ _, _, _, _, none⟩ :: _) _ _; refine SW.st (st_field rfl) rfl ?_) | (show SW _ _ _ _ (⟨_, Op.call ⟨.builtin .len, _, _⟩, _, _, _, none⟩ :: _) _ _; refine SW.st (st_len rfl) rfl ?_) | (show SW _ _ _ _ (⟨_, Op.load _ _, _, _, _, none⟩ :: _) _ _; refine SW.st (st_load rfl (hb1.cell rfl)) rfl ?_))
    refine CW.loop (fun s : Nat × Option Addr × Nat × List CRow => [(2, .pointer (some ⟨b2, 0, none⟩)), (3, .pointer (some ⟨b3, 0, none⟩)), (14, .slice r.Caches.A r.Caches.n r.Caches.c), (15, .int .i64 (r.Caches.n : Int)), (16, .int .i64 (s.1 : Int))])
      (fun t w' => t.1 ≤ r.Caches.n ∧ Ext w w' ∧ Blk w' b2 33 (encSys .zero) ∧ Blk w' b3 33 (encSys ⟨⟨X, r.Words.n, c4⟩, G, ⟨t.2.1, t.1, t.2.2.1⟩⟩) ∧ Own w' w.heap.size 3 1 encI X r.Words.n c4 s.Words ∧ OwnH w' w.heap.size G s.Heap ∧
        OwnCs w' w.heap.size ⟨t.2.1, t.1, t.2.2.1⟩ t.2.2.2 (s.Caches.take t.1) ∧ SepC ⟨X, r.Words.n, c4⟩ t.2.2.2) (fun t => r.Caches.n - t.1) (0, none, 0, []) ⟨rfl, rfl, rfl, rfl, rfl, trivial⟩ ⟨by omega, hw, hb2, hb3, hX, hY, OwnCs.nil _ _, SepC.nil _⟩ ?_
    clear hb1 hb2 hb3 hX hY hw hsub
    rintro ⟨k, A, c, zr⟩ w' ⟨hk, hw, hb2, hb3, hX, hY, hO, hSp⟩
    simp only at hk hb3 hO hSp ⊢
    have hA := hc.row.base
    by_cases hkn : k < r.Caches.n
    · have hck := hc.each.get k (by omega) (by omega)
      have q := hs.each _ (List.getElem_mem (show k < s.Caches.length by omega))
      have q1 := hck.names.len
      have q2 := hck.slabs.len
      have q3 := hck.active.len
      have q4 := q.names
      have q5 := q.slabs
      have q6 := q.active
      have hlt5 := hO.row.lt_size
      repeat' (first | (show CW _ _ _ _ _ _; first | refine CW.seq ?_ | refine CW.region ?_ | refine CW.block ?_ | refine CW.condd_t rfl (by omega) ?_ | refine CW.skip ?_) | (show Post _ _ _ _ _; refine Post.seq ?_) | refine SW.nil ?_ | refine SW.pure rfl rfl ?_ | (show SW _ _ _ _ (⟨_, Op.indexAddr _ _ _, _, _, _, none⟩ :: _) _ _; refine SW.st (st_indexN rfl rfl (by assumption) (by omega)) rfl ?_) | (show SW _ _ _ _ (⟨_, Op.load _ _, _, _, _, none⟩ :: _) _ _; refine SW.st (st_loadsx hw rfl rfl ((hc.row.all hkn))) rfl ?_))
      refine SW.alloc rfl fun b5 w1 hw1 hb5b hb5 => ?_
      skip
      refine SW.storeAgg hb5 rfl rfl rfl rfl (one_c _) fun w2 hb5' hg => ?_
      have hXX := hw1.own hb5b hg
      have hb5w : w.heap.size ≤ b5 := Nat.le_trans hw.size hb5b
      replace hw := Ext.trans hw hXX
      replace hb2 := hb2.ext hXX
      replace hb3 := hb3.ext hXX
      replace hX := hX.ext hXX
      replace hY := hY.ext hXX
      replace hO := hO.ext hXX
      replace hb5 := hb5'
      clear hb5' hw1 hg hXX
      repeat' (first | (show CW _ _ _ _ _ _; refine CW.seq ?_) | (show Post _ _ _ _ _; refine Post.seq ?_) | refine SW.nil ?_)
      refine CW.any 10 mixed (rb_tail (by kernel_rfl)) rfl fun w1 hw1 hRB => ?_
      replace hw := Ext.trans hw hw1; replace hb2 := hb2.ext hw1; replace hb3 := hb3.ext hw1; replace hb5 := hb5.ext hw1; replace hX := hX.ext hw1; replace hY := hY.ext hw1; replace hO := hO.ext hw1; clear hw1
      refine SA.take 0 hRB rfl (by kernel_rfl) (by kernel_rfl) rfl ?_
      repeat ((show SW _ _ _ _ (⟨_, Op.fieldAddr _ _ _, _, _, _, none⟩ :: _) _ _; refine SW.st (st_field rfl) rfl ?_))
      refine SW.tknil ?_
      refine SA.take 1 hRB rfl (by kernel_rfl) (by kernel_rfl) rfl ?_
      repeat ((show SW _ _ _ _ (⟨_, Op.load _ _, _, _, _, none⟩ :: _) _ _; refine SW.st (st_load rfl (hb5.cell rfl)) rfl ?_))
      refine SW.tknil ?_
      refine SA.take 3 hRB rfl (by kernel_rfl) (by kernel_rfl) rfl ?_
      repeat ((show SW _ _ _ _ (⟨_, Op.fieldAddr _ _ _, _, _, _, none⟩ :: _) _ _; refine SW.st (st_field rfl) rfl ?_))
      refine SW.tknil ?_
      refine SA.take 4 hRB rfl (by kernel_rfl) (by kernel_rfl) rfl ?_
      repeat ((show SW _ _ _ _ (⟨_, Op.load _ _, _, _, _, none⟩ :: _) _ _; refine SW.st (st_load rfl (hb5.cell rfl)) rfl ?_))
      refine SW.tknil ?_
      refine SA.take 6 hRB rfl (by kernel_rfl) (by kernel_rfl) rfl ?_
      repeat ((show SW _ _ _ _ (⟨_, Op.fieldAddr _ _ _, _, _, _, none⟩ :: _) _ _; refine SW.st (st_field rfl) rfl ?_))
      refine SW.tknil ?_
      refine SA.take 7 hRB rfl (by kernel_rfl) (by kernel_rfl) rfl ?_
      repeat ((show SW _ _ _ _ (⟨_, Op.load _ _, _, _, _, none⟩ :: _) _ _; refine SW.st (st_load rfl (hb5.cell rfl)) rfl ?_))
      refine SW.tknil ?_
      refine SA.one 2 rfl (by kernel_rfl) rfl ?_
      refine SW.call rfl rfl (CloneStr_ans _ _ _ _ _ (hck.names.ext hw) (by omega)) fun v w4 hXX hv => ?_
      obtain ⟨N, n4, rfl, hN⟩ := hv
      have hn1 := hO.apN (b := ⟨N, cs[k].Names.n, n4⟩) hN.row_ge
      replace hN := hN.low hw.size
      (replace hw := Ext.trans hw hXX; replace hb2 := hb2.ext hXX; replace hb3 := hb3.ext hXX; replace hb5 := hb5.ext hXX; replace hX := hX.ext hXX; replace hY := hY.ext hXX; replace hO := hO.ext hXX)
      refine SW.nil (Post.sa hXX ?_)
      refine SA.take 9 hRB rfl (by kernel_rfl) (by kernel_rfl) rfl ?_
      repeat ((show SW _ _ _ _ (⟨_, Op.fieldAddr _ _ _, _, _, _, none⟩ :: _) _ _; refine SW.st (st_field rfl) rfl ?_))
      refine SW.tknil ?_
      refine SA.one 5 rfl (by kernel_rfl) rfl ?_
      refine SW.call rfl rfl (CloneSlab_ans _ _ _ _ _ (hck.slabs.ext hw) (by omega)) fun v w4 hXX hv => ?_
      obtain ⟨M, m4, rfl, hM⟩ := hv
      have hm1 := hO.apS (b := ⟨M, cs[k].Slabs.n, m4⟩) hM.row_ge
      replace hM := hM.low hw.size
      (replace hw := Ext.trans hw hXX; replace hb2 := hb2.ext hXX; replace hb3 := hb3.ext hXX; replace hb5 := hb5.ext hXX; replace hX := hX.ext hXX; replace hY := hY.ext hXX; replace hO := hO.ext hXX; replace hN := hN.ext hXX)
      refine SW.nil (Post.sa hXX ?_)
      refine SA.one 8 rfl (by kernel_rfl) rfl ?_
      refine SW.call rfl rfl (CloneInt_ans _ _ _ _ _ (hck.active.ext hw) (by omega)) fun v w4 hXX hv => ?_
      obtain ⟨Q, q7, rfl, hQ⟩ := hv
      have hq1 := hO.apA (b := ⟨Q, cs[k].Active.n, q7⟩) hQ.row_ge
      have hq2 := apart_new (a := ⟨X, r.Words.n, c4⟩) (b := ⟨Q, cs[k].Active.n, q7⟩) hX hQ.row_ge
      replace hQ := hQ.low hw.size
      (replace hw := Ext.trans hw hXX; replace hb2 := hb2.ext hXX; replace hb3 := hb3.ext hXX; replace hb5 := hb5.ext hXX; replace hX := hX.ext hXX; replace hY := hY.ext hXX; replace hO := hO.ext hXX; replace hN := hN.ext hXX; replace hM := hM.ext hXX)
      refine SW.nil (Post.sa hXX ?_)
      refine SA.done (by kernel_rfl) ?_
      refine SW.storeB (i := 0) hb5 rfl rfl rfl rfl fun w6 hb5' hg => ?_
      have hG := hb5.gr hg
      replace hw := hw.own hb5w hg
      replace hO := hO.blk hb5 hg hlt5 hb5b
      (replace hb2 := hb2.grT hG rfl; replace hb3 := hb3.grT hG rfl; replace hX := hX.grT hG rfl; replace hY := hY.grT hG rfl; replace hN := hN.grT hG rfl; replace hM := hM.grT hG rfl; replace hQ := hQ.grT hG rfl)
      replace hb5 := hb5'
      clear hb5' hg hG
      repeat' ((show SW _ _ _ _ (⟨_, Op.fieldAddr _ _ _, _, _, _, none⟩ :: _) _ _; refine SW.st (st_field rfl) rfl ?_))
      refine SW.storeB (i := 4) hb5 rfl rfl rfl rfl fun w6 hb5' hg => ?_
      have hG := hb5.gr hg
      replace hw := hw.own hb5w hg
      replace hO := hO.blk hb5 hg hlt5 hb5b
      (replace hb2 := hb2.grT hG rfl; replace hb3 := hb3.grT hG rfl; replace hX := hX.grT hG rfl; replace hY := hY.grT hG rfl; replace hN := hN.grT hG rfl; replace hM := hM.grT hG rfl; replace hQ := hQ.grT hG rfl)
      replace hb5 := hb5'
      clear hb5' hg hG
      repeat' ((show SW _ _ _ _ (⟨_, Op.fieldAddr _ _ _, _, _, _, none⟩ :: _) _ _; refine SW.st (st_field rfl) rfl ?_))
      refine SW.storeB (i := 5) hb5 rfl rfl rfl rfl fun w6 hb5' hg => ?_
      have hG := hb5.gr hg
      replace hw := hw.own hb5w hg
      replace hO := hO.blk hb5 hg hlt5 hb5b
      (replace hb2 := hb2.grT hG rfl; replace hb3 := hb3.grT hG rfl; replace hX := hX.grT hG rfl; replace hY := hY.grT hG rfl; replace hN := hN.grT hG rfl; replace hM := hM.grT hG rfl; replace hQ := hQ.grT hG rfl)
      replace hb5 := hb5'
      clear hb5' hg hG
      repeat' (first | (show CW _ _ _ _ _ _; refine CW.region ?_) | (show Post _ _ _ _ _; first | refine Post.seq ?_ | refine Post.np ?_) | refine SW.nil ?_ | (show SW _ _ _ _ (⟨_, Op.fieldAddr _ _ _, _, _, _, none⟩ :: _) _ _; refine SW.st (st_field rfl) rfl ?_) | (show SW _ _ _ _ (⟨_, Op.load _ _, _, _, _, none⟩ :: _) _ _; first | refine SW.st (st_load rfl (hb3.cell rfl)) rfl ?_ | refine SW.st (st_loads rfl rfl ((fun _ _ => hb5.cell))) rfl ?_))
      refine SW.build1 rfl rfl rfl rfl rfl fun b w6 hXX hb hB => ?_
      (replace hw := Ext.trans hw hXX; replace hb2 := hb2.ext hXX; replace hb3 := hb3.ext hXX; replace hX := hX.ext hXX; replace hY := hY.ext hXX; replace hO := hO.ext hXX; replace hN := hN.ext hXX; replace hM := hM.ext hXX; replace hQ := hQ.ext hXX)
      refine SW.append hO.row (Blk.sl1 (enc := encC) (x := ⟨⟨N, _, n4⟩, cs[k].Size, cs[k].Per, cs[k].Order, ⟨M, _, m4⟩, ⟨Q, _, q7⟩⟩) hB) hw.size rfl rfl rfl (by simp only; omega) (by simp only; omega) fun A2 c2 w5 hO1 hg => ?_
      have hG := hO.row.gr hg
      replace hw := ext_grown hw hg (Nat.le_refl _) hO.row.row_ge
      (replace hb2 := hb2.grT hG rfl; replace hb3 := hb3.grT hG rfl; replace hX := hX.grT hG rfl; replace hY := hY.grT hG rfl; replace hN := hN.grT hG rfl; replace hM := hM.grT hG rfl; replace hQ := hQ.grT hG rfl)
      have hE := hO.each.mono fun _ _ h => h.grT hG rfl
      repeat' ((show SW _ _ _ _ (⟨_, Op.fieldAddr _ _ _, _, _, _, none⟩ :: _) _ _; refine SW.st (st_field rfl) rfl ?_))
      refine SW.storeB (i := 6) hb3 rfl rfl rfl rfl fun w6 hb3' hg => ?_
      have hG := hb3.gr hg
      replace hw := hw.own hb3w hg
      replace hb2 := hb2.grown hg (by simpa using hne4)
      (replace hX := hX.grT hG rfl; replace hY := hY.grT hG rfl; replace hN := hN.grT hG rfl; replace hM := hM.grT hG rfl; replace hQ := hQ.grT hG rfl; replace hO1 := hO1.grT hG rfl)
      replace hE := hE.mono fun _ _ h => h.grT hG rfl
      repeat' (first | (show CW _ _ _ _ _ _; refine CW.region ?_) | (show Post _ _ _ _ _; first | refine Post.seq ?_ | refine Post.blk ?_) | refine SW.nil ?_ | refine SW.pure rfl rfl ?_ | (show SW _ _ _ _ (⟨_, Op.binOp _ _ _ _ _, _, _, _, none⟩ :: _) _ _; refine SW.st (st_add rfl rfl (by omega) (by omega)) rfl ?_))
      refine Post.again (k + 1, A2, c2, zr ++ [⟨⟨N, _, n4⟩, cs[k].Size, cs[k].Per, cs[k].Order, ⟨M, _, m4⟩, ⟨Q, _, q7⟩⟩]) ⟨rfl, rfl, rfl, rfl, rfl, trivial⟩ (by simp only; omega) ⟨by simp only; omega, hw, hb2, hb3', hX, hY, ⟨hO1, ?_⟩, hSp.snoc (fun u hu => ⟨hn1 u hu, hm1 u hu, hq1 u hu⟩) hq2⟩
      rw [List.take_succ_eq_append_getElem (by omega)]
      exact hE.snoc ⟨hck.size, hck.per, hck.order, hN, hM, hQ⟩
    · obtain rfl : k = r.Caches.n := by omega
      rw [List.take_of_length_le (by omega)] at hO
      repeat' (first | (show CW _ _ _ _ _ _; first | refine CW.seq ?_ | refine CW.region ?_ | refine CW.condd_f rfl (by omega) ?_ | refine CW.exit ?_) | (show Post _ _ _ _ _; first | refine Post.seq ?_ | refine Post.seq_exit ?_ | refine Post.hit ?_ | refine Post.again_exit ?_) | refine SW.nil ?_ | refine SW.pure rfl rfl ?_ | (show SW _ _ _ _ (⟨_, Op.load _ _, _, _, _, none⟩ :: _) _ _; refine SW.st (st_loads rfl rfl ((fun _ _ => hb3.cell))) rfl ?_))
      refine SW.storeAgg hb2 rfl rfl rfl rfl (one_s _) fun w5 hR2 hg => ?_
      have hG := hb2.gr hg
      replace hw := hw.own hb2w hg
      (replace hX := hX.grT hG rfl; replace hY := hY.grT hG rfl; replace hO := hO.grT hG rfl)
      repeat' (first | (show CW _ _ _ _ _ _; refine CW.ret ?_) | (show Post _ _ _ _ _; refine Post.seq ?_) | refine SW.nil ?_)
      exact Post.ret1c rfl rfl hR2 rfl ⟨_, rfl, hw, ⟨_, G, _⟩, zr, rfl, hX, hY, hO, hSp⟩
end Go.Proofs.Ytfdmgflboibdoaa
