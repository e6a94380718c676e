/-
  Contracts: Give, GivenOf; the laws BuddyBacks, BuddyGives.
-/
import Derived.Test.YtfdmgflboibdoaaI5
set_option linter.unusedVariables false
namespace Go.Proofs.Ytfdmgflboibdoaa
open Go.RowKit

set_option maxHeartbeats 4000000 in
theorem Zgive_ans (r : ZRow) (z : Zone) (f s : Int) (w : World) (hr : RdZ w r z) (hf : (r.Free.n + 1) * 24 ≤ 140737488355328) (ht : r.Types.n * 8 ≤ 140737488355328) (h1 : -9223372036854775808 ≤ r.From ∧ r.From ≤ 9223372036854775807) (h2 : -9223372036854775808 ≤ r.To ∧ r.To ≤ 9223372036854775807) :
    Ans Try.prog 53 [.agg (encZ r).toArray, .int .i64 f, .int .i64 s] w (ZoneOut w.heap.size (giveV z f s)) := by
  refine ans_of Try.func53 rfl Try.ntmps53 rfl ?_
  refine CW.seq (CW.region (SW.box rfl rfl fun b3 w1 hw hb3b hb3 => ?_))
  refine SW.alloc rfl fun b6 w2 hw2 hb6b hb6 => ?_
  have hb6w : w.heap.size ≤ b6 := Nat.le_trans hw.size hb6b
  have hne36 : b3 ≠ b6 := by have := hb3.lt; omega
  (replace hw := Ext.trans hw hw2; replace hb3 := hb3.ext hw2)
  have eF := hr.from_
  have eT := hr.to_
  have hFl := hr.free.len
  have hTl := hr.types.len
  obtain ⟨q, hq⟩ : ∃ q, zoneB z = q := ⟨_, rfl⟩
  have c1 : ∀ w', Ext w w' → Ans Try.prog 27 [.agg (encZ r).toArray] w' fun v _ => v = .int .i64 (if q then 0 else 8) := fun w' h => by
    have := Zcheck_ans r z w' (hr.ext h) (by omega) (by omega) h1 h2
    rwa [hq] at this
  cases q
  · simp only [Bool.false_eq_true, if_false] at c1
    rw [giveV_8 hq]
    repeat' (first | (show CW _ _ _ _ _ _; first | refine CW.seq ?_ | refine CW.region ?_ | refine CW.condn_t rfl (by omega) ?_) | (show Post _ _ _ _ _; refine Post.seq ?_) | refine SW.nil ?_ | refine SW.pure rfl rfl ?_ | (show SW _ _ _ _ (⟨_, Op.build _ _, _, _, _, none⟩ :: _) _ _; refine SW.st (st_build rfl rfl) rfl ?_) | (show SW _ _ _ _ (⟨_, Op.load _ _, _, _, _, none⟩ :: _) _ _; refine SW.st (st_loads rfl rfl ((fun _ _ => hb3.cell))) rfl ?_) | (show SW _ _ _ _ (⟨_, Op.call ⟨.value (.func _), _, _⟩, _, _, _, none⟩ :: _) _ _; (refine SW.call rfl rfl (c1 _ hw) ?_; intro v w1 hw1 hv; subst hv; replace hw := Ext.trans hw hw1; replace hb3 := hb3.ext hw1; replace hb6 := hb6.ext hw1; clear hw1)))
    refine SW.storeAgg hb6 rfl rfl rfl rfl (one_z .zero) fun w5 hR2 hg => ?_
    replace hw := hw.own hb6w hg
    repeat' (first | (show CW _ _ _ _ _ _; refine CW.ret ?_) | (show Post _ _ _ _ _; first | refine Post.seq ?_ | refine Post.seq_ret ?_) | refine SW.nil ?_ | refine SW.pure rfl rfl ?_)
    exact Post.ret2c rfl rfl rfl hR2 rfl ⟨_, rfl, hw, .zero, rfl, OwnZ.zero _ _⟩
  · simp only [if_true] at c1
    have hz := zoneB_iff.1 hq
    obtain ⟨o1, o2, o3, o4, o5⟩ := hz.ok
    have hzl := zone_len hz
    by_cases hargs : giveArgs z f s
    · obtain ⟨a1, a2, a3, a4⟩ := id hargs
      obtain ⟨n, rfl⟩ := Int.eq_ofNat_of_zero_le a1
      rw [giveV_0 hq hargs]
      repeat' (first | (show CW _ _ _ _ _ _; first | refine CW.seq ?_ | refine CW.region ?_ | refine CW.condd_f rfl (by omega) ?_ | refine CW.condn_f rfl (by omega) ?_ | refine CW.skip ?_) | (show Post _ _ _ _ _; refine Post.seq ?_) | refine SW.nil ?_ | (show SW _ _ _ _ (⟨_, _, _, _, _, some _⟩ :: _) _ _; first | refine SW.want_f rfl rfl (by with_reducible rfl) ?_ | refine SW.splitd_f rfl rfl rfl (by omega) ?_) | refine SW.pure rfl rfl ?_ | (show SW _ _ _ _ (⟨_, Op.fieldAddr _ _ _, _, _, _, none⟩ :: _) _ _; refine SW.st (st_field rfl) rfl ?_) | (show SW _ _ _ _ (⟨_, Op.binOp _ _ _ _ _, _, _, _, none⟩ :: _) _ _; refine SW.st (st_sub rfl rfl (by omega) (by omega)) rfl ?_) | (show SW _ _ _ _ (⟨_, Op.load _ _, _, _, _, none⟩ :: _) _ _; first | refine SW.st (st_loads rfl rfl ((fun _ _ => hb3.cell))) rfl ?_ | refine SW.st (st_load rfl (hb3.cell rfl)) rfl ?_) | (show SW _ _ _ _ (⟨_, Op.call ⟨.value (.func _), _, _⟩, _, _, _, none⟩ :: _) _ _; (refine SW.call rfl rfl (c1 _ hw) ?_; intro v w1 hw1 hv; subst hv; replace hw := Ext.trans hw hw1; replace hb3 := hb3.ext hw1; replace hb6 := hb6.ext hw1; clear hw1)))
      all_goals first | (exfalso; omega) | skip
      refine SW.call rfl rfl (Zcopy_ans r z _ (hr.ext hw) (by omega) ht) fun v w4 hw4 hv => ?_
      obtain ⟨u, rfl, hs, _, _⟩ := hv
      replace hs := hs.low hw.size
      (replace hw := Ext.trans hw hw4; replace hb3 := hb3.ext hw4; replace hb6 := hb6.ext hw4)
      clear c1
      skip
      refine SW.storeAgg hb3 rfl rfl rfl rfl (one_z u) fun w5 hb3' hg => ?_
      have hG := hb3.gr hg
      replace hw := hw.own hb3b hg
      replace hs := hs.blk hb3 hg rfl rfl
      replace hb6 := hb6.grown hg (by simpa using hne36.symm)
      replace hb3 := hb3'
      clear hb3' hg hG
      repeat' (first | (show CW _ _ _ _ _ _; first | refine CW.seq ?_ | refine CW.region ?_ | refine CW.block ?_) | (show Post _ _ _ _ _; refine Post.seq ?_) | refine SW.nil ?_ | refine SW.pure rfl rfl ?_)
      refine CW.loop (fun t : Nat × Zone × ZRow => [(1, .int .i64 f), (2, .int .i64 (n : Int)), (3, .pointer (some ⟨b3, 0, none⟩)), (6, .pointer (some ⟨b6, 0, none⟩)), (9, .int .i64 (f + (t.1 : Int)))])
        (fun t w' => t.1 ≤ n ∧ Ext w w' ∧ Blk w' b3 38 (encZ t.2.2) ∧ Blk w' b6 38 (encZ .zero) ∧ OwnZ w' w.heap.size t.2.2 t.2.1 ∧ giveL n z f = giveL (n - t.1) t.2.1 (f + (t.1 : Int)) ∧ t.2.1.Free.length ≤ 257 ∧ t.2.1.Types.length ≤ 32 ∧ t.2.1.From = z.From ∧ t.2.1.To = z.To) (fun t => n - t.1) (0, z, u)
        ⟨rfl, rfl, rfl, rfl, congrArg (fun x => some (Value.int .i64 x)) (by simp), trivial⟩ ⟨by omega, hw, hb3, hb6, hs, by simp, by simp only; omega, by simp only; omega, rfl, rfl⟩ ?_
      clear hw hb3 hb6 hs
      rintro ⟨k, zc, u⟩ w' ⟨hk, hw, hb3, hb6, hs, hgl, hl1, hl2, hl3, hl4⟩
      simp only at hk hb3 hs hgl hl1 hl2 hl3 hl4 ⊢
      by_cases hkn : k < n
      · have e1 := hs.free.sl.len
        have e2 := hs.types.sl.len
        have e3 := hs.from_
        have e4 := hs.to_
        have hbl := backV_len zc (f + (k : Int)) 0
        repeat' (first | (show CW _ _ _ _ _ _; first | refine CW.seq ?_ | refine CW.region ?_ | refine CW.block ?_ | refine CW.condd_t rfl (by omega) ?_ | refine CW.skip ?_) | (show Post _ _ _ _ _; refine Post.seq ?_) | refine SW.nil ?_ | refine SW.pure rfl rfl ?_ | (show SW _ _ _ _ (⟨_, Op.binOp _ _ _ _ _, _, _, _, none⟩ :: _) _ _; refine SW.st (st_add rfl rfl (by omega) (by omega)) rfl ?_) | (show SW _ _ _ _ (⟨_, Op.load _ _, _, _, _, none⟩ :: _) _ _; refine SW.st (st_loads rfl rfl ((fun _ _ => hb3.cell))) rfl ?_))
        refine SW.call rfl rfl (Zback_ans u zc (f + (k : Int)) 0 _ hs.rd (Nat.le_trans (Nat.mul_le_mul_right 24 (show u.Free.n + 1 ≤ 258 by omega)) (by decide)) (by omega) ⟨by omega, by omega⟩ ⟨by omega, by omega⟩) fun v w5 hw5 hv => ?_
        obtain ⟨o, ho⟩ : ∃ o, backV zc (f + (k : Int)) 0 = o := ⟨_, rfl⟩
        rw [ho] at hv hbl
        obtain ⟨u', rfl, hs'⟩ := hv
        replace hs' := hs'.low hw.size
        (replace hw := Ext.trans hw hw5; replace hb3 := hb3.ext hw5; replace hb6 := hb6.ext hw5; replace hs := hs.ext hw5)
        repeat' (refine SW.pure rfl rfl ?_)
        refine SW.alloc rfl fun b10 w1 hw1 hb10b hb10 => ?_
        skip
        refine SW.storeAgg hb10 rfl rfl rfl rfl (one_z _) fun w2 hb10' hg => ?_
        have hXX := hw1.own hb10b hg
        have hb10w : w.heap.size ≤ b10 := Nat.le_trans hw.size hb10b
        replace hw := Ext.trans hw hXX
        replace hb3 := hb3.ext hXX
        replace hb6 := hb6.ext hXX
        replace hs := hs.ext hXX
        replace hs' := hs'.ext hXX
        replace hb10 := hb10'
        clear hb10' hw1 hg hXX
        have hne10 := hb3.lt
        obtain ⟨m, hm⟩ : ∃ m, n - k = m + 1 := ⟨n - k - 1, by omega⟩
        rw [hm] at hgl
        simp only [giveL, ho] at hgl
        by_cases ho0 : o.1 = 0
        · rw [if_pos ho0] at hgl
          rw [ho0]
          repeat' (first | (show CW _ _ _ _ _ _; first | refine CW.seq ?_ | refine CW.region ?_ | refine CW.condn_f rfl (by omega) ?_ | refine CW.skip ?_) | (show Post _ _ _ _ _; refine Post.seq ?_) | refine SW.nil ?_ | refine SW.pure rfl rfl ?_ | (show SW _ _ _ _ (⟨_, Op.load _ _, _, _, _, none⟩ :: _) _ _; refine SW.st (st_loads rfl rfl ((fun _ _ => hb10.cell))) rfl ?_))
          refine SW.storeAgg hb3 rfl rfl rfl rfl (one_z u') fun w6 hb3' hg => ?_
          replace hw := hw.own hb3b hg
          replace hs' := hs'.blk hb3 hg rfl rfl
          replace hb6 := hb6.grown hg (by simpa using hne36.symm)
          repeat' (first | (show CW _ _ _ _ _ _; refine CW.region ?_) | (show Post _ _ _ _ _; first | refine Post.seq ?_ | refine Post.blk ?_) | refine SW.nil ?_ | refine SW.pure rfl rfl ?_ | (show SW _ _ _ _ (⟨_, Op.binOp _ _ _ _ _, _, _, _, none⟩ :: _) _ _; refine SW.st (st_add rfl rfl (by omega) (by omega)) rfl ?_))
          obtain ⟨q1, q2, q3⟩ := hbl.2.2 ho0
          have e9 : f + (k : Int) + 1 = f + ((k + 1 : Nat) : Int) := by omega
          have e10 : m = n - (k + 1) := by omega
          exact Post.again (k + 1, o.2, u') ⟨rfl, rfl, rfl, rfl, congrArg (fun x => some (Value.int .i64 x)) e9, trivial⟩ (by simp only; omega) ⟨by simp only; omega, hw, hb3', hb6, hs', by simp only; rw [← e9, ← e10]; exact hgl, hbl.1, hbl.2.1, by simp only; omega, by simp only; omega⟩
        · rw [if_neg ho0] at hgl
          rw [hgl]
          repeat' (first | (show CW _ _ _ _ _ _; first | refine CW.seq ?_ | refine CW.region ?_ | refine CW.condn_t rfl (by omega) ?_) | (show Post _ _ _ _ _; refine Post.seq ?_) | refine SW.nil ?_ | refine SW.pure rfl rfl ?_ | (show SW _ _ _ _ (⟨_, Op.build _ _, _, _, _, none⟩ :: _) _ _; refine SW.st (st_build rfl rfl) rfl ?_))
          refine SW.storeAgg hb6 rfl rfl rfl rfl (one_z .zero) fun w5 hR2 hg => ?_
          replace hw := hw.own hb6w hg
          repeat' (first | (show CW _ _ _ _ _ _; refine CW.ret ?_) | (show Post _ _ _ _ _; first | refine Post.seq ?_ | refine Post.seq_ret ?_ | refine Post.blk_ret ?_ | refine Post.again_ret ?_) | refine SW.nil ?_ | refine SW.pure rfl rfl ?_)
          exact Post.ret2c rfl rfl rfl hR2 rfl ⟨_, rfl, hw, .zero, rfl, OwnZ.zero _ _⟩
      · have e0 : n - k = 0 := by omega
        rw [e0] at hgl
        simp only [giveL] at hgl
        rw [hgl]
        repeat' (first | (show CW _ _ _ _ _ _; first | refine CW.seq ?_ | refine CW.region ?_ | refine CW.condd_f rfl (by omega) ?_ | refine CW.exit ?_) | (show Post _ _ _ _ _; first | refine Post.seq ?_ | refine Post.seq_exit ?_ | refine Post.hit ?_ | refine Post.again_exit ?_) | refine SW.nil ?_ | refine SW.pure rfl rfl ?_ | (show SW _ _ _ _ (⟨_, Op.binOp _ _ _ _ _, _, _, _, none⟩ :: _) _ _; refine SW.st (st_add rfl rfl (by omega) (by omega)) rfl ?_) | (show SW _ _ _ _ (⟨_, Op.load _ _, _, _, _, none⟩ :: _) _ _; refine SW.st (st_loads rfl rfl ((fun _ _ => hb3.cell))) rfl ?_))
        refine SW.storeAgg hb6 rfl rfl rfl rfl (one_z u) fun w5 hR2 hg => ?_
        replace hw := hw.own hb6w hg
        replace hs := hs.blk hb6 hg rfl rfl
        repeat' (first | (show CW _ _ _ _ _ _; refine CW.ret ?_) | (show Post _ _ _ _ _; refine Post.seq ?_) | refine SW.nil ?_ | refine SW.pure rfl rfl ?_)
        exact Post.ret2c rfl rfl rfl hR2 rfl ⟨_, rfl, hw, u, rfl, hs⟩
    · rw [giveV_1 hq hargs]
      unfold giveArgs at hargs
      repeat' (first | (show CW _ _ _ _ _ _; first | refine CW.seq ?_ | refine CW.region ?_ | refine CW.condtr rfl (by with_reducible rfl) ?_ | refine CW.condd_t rfl (by omega) ?_ | refine CW.condn_f rfl (by omega) ?_ | refine CW.skip ?_) | (show Post _ _ _ _ _; refine Post.seq ?_) | refine SW.nil ?_ | (show SW _ _ _ _ (⟨_, _, _, _, _, some _⟩ :: _) _ _; first | refine SW.want_f rfl rfl (by with_reducible rfl) ?_ | refine SW.skip_f rfl rfl (by with_reducible rfl) rfl ?_ | refine SW.splitd rfl rfl rfl (fun h => ?_) (fun h => ?_)) | refine SW.pure rfl rfl ?_ | (show SW _ _ _ _ (⟨_, Op.fieldAddr _ _ _, _, _, _, none⟩ :: _) _ _; refine SW.st (st_field rfl) rfl ?_) | (show SW _ _ _ _ (⟨_, Op.build _ _, _, _, _, none⟩ :: _) _ _; refine SW.st (st_build rfl rfl) rfl ?_) | (show SW _ _ _ _ (⟨_, Op.binOp _ _ _ _ _, _, _, _, none⟩ :: _) _ _; refine SW.st (st_sub rfl rfl (by omega) (by omega)) rfl ?_) | (show SW _ _ _ _ (⟨_, Op.load _ _, _, _, _, none⟩ :: _) _ _; first | refine SW.st (st_loads rfl rfl ((fun _ _ => hb3.cell))) rfl ?_ | refine SW.st (st_load rfl (hb3.cell rfl)) rfl ?_) | (show SW _ _ _ _ (⟨_, Op.call ⟨.value (.func _), _, _⟩, _, _, _, none⟩ :: _) _ _; (refine SW.call rfl rfl (c1 _ hw) ?_; intro v w1 hw1 hv; subst hv; replace hw := Ext.trans hw hw1; replace hb3 := hb3.ext hw1; replace hb6 := hb6.ext hw1; clear hw1)))
      all_goals
        first
          | (exfalso; omega)
          | (refine SW.storeAgg hb6 rfl rfl rfl rfl (one_z .zero) fun w5 hR2 hg => ?_
             replace hw := hw.own hb6w hg
             repeat' (first | (show CW _ _ _ _ _ _; refine CW.ret ?_) | (show Post _ _ _ _ _; first | refine Post.seq ?_ | refine Post.seq_ret ?_) | refine SW.nil ?_ | refine SW.pure rfl rfl ?_)
             exact Post.ret2c rfl rfl rfl hR2 rfl ⟨_, rfl, hw, .zero, rfl, OwnZ.zero _ _⟩)

set_option maxHeartbeats 4000000 in
theorem GivenOf_ans (r : ZRow) (z : Zone) (f s : Int) (w : World) (hr : RdZ w r z) (hf : (r.Free.n + 1) * 24 ≤ 140737488355328) (ht : r.Types.n * 8 ≤ 140737488355328) (h1 : -9223372036854775808 ≤ r.From ∧ r.From ≤ 9223372036854775807) (h2 : -9223372036854775808 ≤ r.To ∧ r.To ≤ 9223372036854775807) :
    Ans Try.prog 54 [.agg (encZ r).toArray, .int .i64 f, .int .i64 s] w (ZoneOut w.heap.size (giveV z f s)) := by
  refine ans_of Try.func54 rfl Try.ntmps54 rfl ?_
  refine CW.seq (CW.region (SW.box rfl rfl fun b3 w1 hw hb3b hb3 => ?_))
  refine SW.alloc rfl fun b6 w2 hw2 hb6b hb6 => ?_
  have hb6w : w.heap.size ≤ b6 := Nat.le_trans hw.size hb6b
  (replace hw := Ext.trans hw hw2; replace hb3 := hb3.ext hw2)
  have eF := hr.from_
  have eT := hr.to_
  have hFl := hr.free.len
  have hTl := hr.types.len
  obtain ⟨q, hq⟩ : ∃ q, zoneB z = q := ⟨_, rfl⟩
  have c1 : ∀ w', Ext w w' → Ans Try.prog 28 [.agg (encZ r).toArray] w' fun v _ => v = .bool q := fun w' h => by
    have := ZoneMay_ans r z w' (hr.ext h) (by omega) (by omega) h1 h2
    rwa [hq] at this
  cases q
  · rw [giveV_8 hq]
    repeat' (first | (show CW _ _ _ _ _ _; first | refine CW.seq ?_ | refine CW.region ?_ | refine CW.condt rfl ?_) | (show Post _ _ _ _ _; refine Post.seq ?_) | refine SW.nil ?_ | refine SW.pure rfl rfl ?_ | (show SW _ _ _ _ (⟨_, Op.build _ _, _, _, _, none⟩ :: _) _ _; refine SW.st (st_build rfl rfl) rfl ?_) | (show SW _ _ _ _ (⟨_, Op.load _ _, _, _, _, none⟩ :: _) _ _; refine SW.st (st_loads rfl rfl ((fun _ _ => hb3.cell))) rfl ?_) | (show SW _ _ _ _ (⟨_, Op.call ⟨.value (.func _), _, _⟩, _, _, _, none⟩ :: _) _ _; (refine SW.call rfl rfl (c1 _ hw) ?_; intro v w1 hw1 hv; subst hv; replace hw := Ext.trans hw hw1; replace hb3 := hb3.ext hw1; replace hb6 := hb6.ext hw1; clear hw1)))
    refine SW.storeAgg hb6 rfl rfl rfl rfl (one_z .zero) fun w5 hR2 hg => ?_
    replace hw := hw.own hb6w hg
    repeat' (first | (show CW _ _ _ _ _ _; refine CW.ret ?_) | (show Post _ _ _ _ _; first | refine Post.seq ?_ | refine Post.seq_ret ?_) | refine SW.nil ?_ | refine SW.pure rfl rfl ?_)
    exact Post.ret2c rfl rfl rfl hR2 rfl ⟨_, rfl, hw, .zero, rfl, OwnZ.zero _ _⟩
  · have hz := zoneB_iff.1 hq
    obtain ⟨o1, o2, o3, o4, o5⟩ := hz.ok
    have hzl := zone_len hz
    by_cases hargs : giveArgs z f s
    · obtain ⟨a1, a2, a3, a4⟩ := id hargs
      obtain ⟨n, rfl⟩ := Int.eq_ofNat_of_zero_le a1
      rw [giveV_0 hq hargs]
      repeat' (first | (show CW _ _ _ _ _ _; first | refine CW.seq ?_ | refine CW.region ?_ | refine CW.condn_f rfl (by omega) ?_ | refine CW.condf rfl ?_ | refine CW.skip ?_) | (show Post _ _ _ _ _; refine Post.seq ?_) | refine SW.nil ?_ | (show SW _ _ _ _ (⟨_, _, _, _, _, some _⟩ :: _) _ _; first | refine SW.want_f rfl rfl (by with_reducible rfl) ?_ | refine SW.splitn_f rfl rfl rfl (by omega) ?_) | refine SW.pure rfl rfl ?_ | (show SW _ _ _ _ (⟨_, Op.fieldAddr _ _ _, _, _, _, none⟩ :: _) _ _; refine SW.st (st_field rfl) rfl ?_) | (show SW _ _ _ _ (⟨_, Op.binOp _ _ _ _ _, _, _, _, none⟩ :: _) _ _; refine SW.st (st_sub rfl rfl (by omega) (by omega)) rfl ?_) | (show SW _ _ _ _ (⟨_, Op.load _ _, _, _, _, none⟩ :: _) _ _; first | refine SW.st (st_loads rfl rfl ((fun _ _ => hb3.cell))) rfl ?_ | refine SW.st (st_load rfl (hb3.cell rfl)) rfl ?_) | (show SW _ _ _ _ (⟨_, Op.call ⟨.value (.func _), _, _⟩, _, _, _, none⟩ :: _) _ _; first | (refine SW.call rfl rfl (c1 _ hw) ?_; intro v w1 hw1 hv; subst hv; replace hw := Ext.trans hw hw1; replace hb3 := hb3.ext hw1; replace hb6 := hb6.ext hw1; clear hw1) | (refine SW.call rfl rfl (In_ans _ _ _ _) ?_; intro v w1 hw1 hv; subst hv; replace hw := Ext.trans hw hw1; replace hb3 := hb3.ext hw1; replace hb6 := hb6.ext hw1; clear hw1)))
      all_goals first | (exfalso; omega) | skip
      refine SW.call rfl rfl (ZoneCopy_ans r z _ (hr.ext hw) (by omega) ht) fun v w4 hw4 hv => ?_
      obtain ⟨u, rfl, hs⟩ := hv
      replace hs := hs.low hw.size
      (replace hw := Ext.trans hw hw4; replace hb3 := hb3.ext hw4; replace hb6 := hb6.ext hw4)
      clear c1
      have hne6 := hb6.lt
      refine SW.alloc rfl fun b8 w1 hw1 hb8b hb8 => ?_
      skip
      refine SW.storeAgg hb8 rfl rfl rfl rfl (one_z u) fun w2 hb8' hg => ?_
      have hXX := hw1.own hb8b hg
      have hb8w : w.heap.size ≤ b8 := Nat.le_trans hw.size hb8b
      replace hw := Ext.trans hw hXX
      replace hb3 := hb3.ext hXX
      replace hb6 := hb6.ext hXX
      replace hs := hs.ext hXX
      replace hb8 := hb8'
      clear hb8' hw1 hg hXX
      have hne68 : b6 ≠ b8 := by omega
      repeat' (first | (show CW _ _ _ _ _ _; first | refine CW.seq ?_ | refine CW.region ?_ | refine CW.block ?_) | (show Post _ _ _ _ _; refine Post.seq ?_) | refine SW.nil ?_ | refine SW.pure rfl rfl ?_)
      refine CW.loop (fun t : Nat × Zone × ZRow => [(1, .int .i64 f), (2, .int .i64 (n : Int)), (6, .pointer (some ⟨b6, 0, none⟩)), (8, .pointer (some ⟨b8, 0, none⟩)), (9, .int .i64 (t.1 : Int))])
        (fun t w' => t.1 ≤ n ∧ Ext w w' ∧ Blk w' b8 38 (encZ t.2.2) ∧ Blk w' b6 38 (encZ .zero) ∧ OwnZ w' w.heap.size t.2.2 t.2.1 ∧ giveL n z f = giveL (n - t.1) t.2.1 (f + (t.1 : Int)) ∧ t.2.1.Free.length ≤ 257 ∧ t.2.1.Types.length ≤ 32 ∧ t.2.1.From = z.From ∧ t.2.1.To = z.To) (fun t => n - t.1) (0, z, u)
        ⟨rfl, rfl, rfl, rfl, rfl, trivial⟩ ⟨by omega, hw, hb8, hb6, hs, by simp, by simp only; omega, by simp only; omega, rfl, rfl⟩ ?_
      clear hw hb3 hb6 hs hb8
      rintro ⟨k, zc, u⟩ w' ⟨hk, hw, hb8, hb6, hs, hgl, hl1, hl2, hl3, hl4⟩
      simp only at hk hb8 hs hgl hl1 hl2 hl3 hl4 ⊢
      by_cases hkn : k < n
      · have e1 := hs.free.sl.len
        have e2 := hs.types.sl.len
        have e3 := hs.from_
        have e4 := hs.to_
        have hbl := backV_len zc (f + (k : Int)) 0
        repeat' (first | (show CW _ _ _ _ _ _; first | refine CW.seq ?_ | refine CW.region ?_ | refine CW.block ?_ | refine CW.condd_t rfl (by omega) ?_ | refine CW.skip ?_) | (show Post _ _ _ _ _; refine Post.seq ?_) | refine SW.nil ?_ | refine SW.pure rfl rfl ?_ | (show SW _ _ _ _ (⟨_, Op.binOp _ _ _ _ _, _, _, _, none⟩ :: _) _ _; refine SW.st (st_add rfl rfl (by omega) (by omega)) rfl ?_) | (show SW _ _ _ _ (⟨_, Op.load _ _, _, _, _, none⟩ :: _) _ _; refine SW.st (st_loads rfl rfl ((fun _ _ => hb8.cell))) rfl ?_))
        refine SW.call rfl rfl (BackOf_ans u zc (f + (k : Int)) 0 _ hs.rd (Nat.le_trans (Nat.mul_le_mul_right 24 (show u.Free.n + 1 ≤ 258 by omega)) (by decide)) (by omega) ⟨by omega, by omega⟩ ⟨by omega, by omega⟩) fun v w5 hw5 hv => ?_
        obtain ⟨o, ho⟩ : ∃ o, backV zc (f + (k : Int)) 0 = o := ⟨_, rfl⟩
        rw [ho] at hv hbl
        obtain ⟨u', rfl, hs'⟩ := hv
        replace hs' := hs'.low hw.size
        (replace hw := Ext.trans hw hw5; replace hb8 := hb8.ext hw5; replace hb6 := hb6.ext hw5; replace hs := hs.ext hw5)
        repeat' (refine SW.pure rfl rfl ?_)
        refine SW.alloc rfl fun b10 w1 hw1 hb10b hb10 => ?_
        skip
        refine SW.storeAgg hb10 rfl rfl rfl rfl (one_z _) fun w2 hb10' hg => ?_
        have hXX := hw1.own hb10b hg
        have hb10w : w.heap.size ≤ b10 := Nat.le_trans hw.size hb10b
        replace hw := Ext.trans hw hXX
        replace hb8 := hb8.ext hXX
        replace hb6 := hb6.ext hXX
        replace hs := hs.ext hXX
        replace hs' := hs'.ext hXX
        replace hb10 := hb10'
        clear hb10' hw1 hg hXX
        obtain ⟨m, hm⟩ : ∃ m, n - k = m + 1 := ⟨n - k - 1, by omega⟩
        rw [hm] at hgl
        simp only [giveL, ho] at hgl
        by_cases ho0 : o.1 = 0
        · rw [if_pos ho0] at hgl
          rw [ho0]
          repeat' (first | (show CW _ _ _ _ _ _; first | refine CW.seq ?_ | refine CW.region ?_ | refine CW.condn_f rfl (by omega) ?_ | refine CW.skip ?_) | (show Post _ _ _ _ _; refine Post.seq ?_) | refine SW.nil ?_ | refine SW.pure rfl rfl ?_ | (show SW _ _ _ _ (⟨_, Op.load _ _, _, _, _, none⟩ :: _) _ _; refine SW.st (st_loads rfl rfl ((fun _ _ => hb10.cell))) rfl ?_))
          refine SW.storeAgg hb8 rfl rfl rfl rfl (one_z u') fun w6 hb8' hg => ?_
          replace hw := hw.own hb8w hg
          replace hs' := hs'.blk hb8 hg rfl rfl
          replace hb6 := hb6.grown hg (by simpa using hne68)
          repeat' (first | (show CW _ _ _ _ _ _; refine CW.region ?_) | (show Post _ _ _ _ _; first | refine Post.seq ?_ | refine Post.blk ?_) | refine SW.nil ?_ | refine SW.pure rfl rfl ?_ | (show SW _ _ _ _ (⟨_, Op.binOp _ _ _ _ _, _, _, _, none⟩ :: _) _ _; refine SW.st (st_add rfl rfl (by omega) (by omega)) rfl ?_))
          obtain ⟨q1, q2, q3⟩ := hbl.2.2 ho0
          have e9 : f + (k : Int) + 1 = f + ((k + 1 : Nat) : Int) := by omega
          have e10 : m = n - (k + 1) := by omega
          exact Post.again (k + 1, o.2, u') ⟨rfl, rfl, rfl, rfl, rfl, trivial⟩ (by simp only; omega) ⟨by simp only; omega, hw, hb8', hb6, hs', by simp only; rw [← e9, ← e10]; exact hgl, hbl.1, hbl.2.1, by simp only; omega, by simp only; omega⟩
        · rw [if_neg ho0] at hgl
          rw [hgl]
          repeat' (first | (show CW _ _ _ _ _ _; first | refine CW.seq ?_ | refine CW.region ?_ | refine CW.condn_t rfl (by omega) ?_) | (show Post _ _ _ _ _; refine Post.seq ?_) | refine SW.nil ?_ | refine SW.pure rfl rfl ?_ | (show SW _ _ _ _ (⟨_, Op.build _ _, _, _, _, none⟩ :: _) _ _; refine SW.st (st_build rfl rfl) rfl ?_))
          refine SW.storeAgg hb6 rfl rfl rfl rfl (one_z .zero) fun w5 hR2 hg => ?_
          replace hw := hw.own hb6w hg
          repeat' (first | (show CW _ _ _ _ _ _; refine CW.ret ?_) | (show Post _ _ _ _ _; first | refine Post.seq ?_ | refine Post.seq_ret ?_ | refine Post.blk_ret ?_ | refine Post.again_ret ?_) | refine SW.nil ?_ | refine SW.pure rfl rfl ?_)
          exact Post.ret2c rfl rfl rfl hR2 rfl ⟨_, rfl, hw, .zero, rfl, OwnZ.zero _ _⟩
      · have e0 : n - k = 0 := by omega
        rw [e0] at hgl
        simp only [giveL] at hgl
        rw [hgl]
        repeat' (first | (show CW _ _ _ _ _ _; first | refine CW.seq ?_ | refine CW.region ?_ | refine CW.condd_f rfl (by omega) ?_ | refine CW.exit ?_) | (show Post _ _ _ _ _; first | refine Post.seq ?_ | refine Post.seq_exit ?_ | refine Post.hit ?_ | refine Post.again_exit ?_) | refine SW.nil ?_ | refine SW.pure rfl rfl ?_ | (show SW _ _ _ _ (⟨_, Op.load _ _, _, _, _, none⟩ :: _) _ _; refine SW.st (st_loads rfl rfl ((fun _ _ => hb8.cell))) rfl ?_))
        refine SW.storeAgg hb6 rfl rfl rfl rfl (one_z u) fun w5 hR2 hg => ?_
        replace hw := hw.own hb6w hg
        replace hs := hs.blk hb6 hg rfl rfl
        repeat' (first | (show CW _ _ _ _ _ _; refine CW.ret ?_) | (show Post _ _ _ _ _; refine Post.seq ?_) | refine SW.nil ?_ | refine SW.pure rfl rfl ?_)
        exact Post.ret2c rfl rfl rfl hR2 rfl ⟨_, rfl, hw, u, rfl, hs⟩
    · rw [giveV_1 hq hargs]
      unfold giveArgs at hargs
      repeat' (first | (show CW _ _ _ _ _ _; first | refine CW.seq ?_ | refine CW.region ?_ | refine CW.condtr rfl (by with_reducible rfl) ?_ | refine CW.condn_t rfl (by omega) ?_ | refine CW.condf rfl ?_ | refine CW.skip ?_) | (show Post _ _ _ _ _; refine Post.seq ?_) | refine SW.nil ?_ | (show SW _ _ _ _ (⟨_, _, _, _, _, some _⟩ :: _) _ _; first | refine SW.want_f rfl rfl (by with_reducible rfl) ?_ | refine SW.skip_f rfl rfl (by with_reducible rfl) rfl ?_ | refine SW.splitn rfl rfl rfl (fun h => ?_) (fun h => ?_)) | refine SW.pure rfl rfl ?_ | (show SW _ _ _ _ (⟨_, Op.fieldAddr _ _ _, _, _, _, none⟩ :: _) _ _; refine SW.st (st_field rfl) rfl ?_) | (show SW _ _ _ _ (⟨_, Op.build _ _, _, _, _, none⟩ :: _) _ _; refine SW.st (st_build rfl rfl) rfl ?_) | (show SW _ _ _ _ (⟨_, Op.binOp _ _ _ _ _, _, _, _, none⟩ :: _) _ _; refine SW.st (st_sub rfl rfl (by omega) (by omega)) rfl ?_) | (show SW _ _ _ _ (⟨_, Op.load _ _, _, _, _, none⟩ :: _) _ _; first | refine SW.st (st_loads rfl rfl ((fun _ _ => hb3.cell))) rfl ?_ | refine SW.st (st_load rfl (hb3.cell rfl)) rfl ?_) | (show SW _ _ _ _ (⟨_, Op.call ⟨.value (.func _), _, _⟩, _, _, _, none⟩ :: _) _ _; first | (refine SW.call rfl rfl (c1 _ hw) ?_; intro v w1 hw1 hv; subst hv; replace hw := Ext.trans hw hw1; replace hb3 := hb3.ext hw1; replace hb6 := hb6.ext hw1; clear hw1) | (refine SW.call rfl rfl (In_ans _ _ _ _) ?_; intro v w1 hw1 hv; subst hv; replace hw := Ext.trans hw hw1; replace hb3 := hb3.ext hw1; replace hb6 := hb6.ext hw1; clear hw1)))
      all_goals
        first
          | (exfalso; omega)
          | (refine SW.storeAgg hb6 rfl rfl rfl rfl (one_z .zero) fun w5 hR2 hg => ?_
             replace hw := hw.own hb6w hg
             repeat' (first | (show CW _ _ _ _ _ _; refine CW.ret ?_) | (show Post _ _ _ _ _; first | refine Post.seq ?_ | refine Post.seq_ret ?_) | refine SW.nil ?_ | refine SW.pure rfl rfl ?_)
             exact Post.ret2c rfl rfl rfl hR2 rfl ⟨_, rfl, hw, .zero, rfl, OwnZ.zero _ _⟩)


theorem lawBuddyBacks_ans (r : ZRow) (z : Zone) (f s : Int) (w : World) (hr : RdZ w r z) (hf : r.Free.n * 24 ≤ 140737488351232) (ht : r.Types.n * 8 ≤ 140737488355328) (h1 : -9223372036854775808 ≤ r.From ∧ r.From ≤ 9223372036854775807) (h2 : -9223372036854775808 ≤ r.To ∧ r.To ≤ 9223372036854775807) :
    Ans Try.prog 15 [.agg (encZ r).toArray, .int .i64 f, .int .i64 s] w fun v _ => v = .bool true := by
  refine ans_of Try.func15 rfl Try.ntmps15 rfl ?_
  obtain ⟨o, ho⟩ : ∃ o, backV z f s = o := ⟨_, rfl⟩
  have hle := backV_len2 z f s
  rw [ho] at hle
  have hFl := hr.free.len
  have hTl := hr.types.len
  have e1 := hr.from_
  have e2 := hr.to_
  refine CW.seq (CW.region (SW.box rfl rfl fun b3 w1 hw hb3b hb3 => ?_))
  repeat' (first | (show CW _ _ _ _ _ _; first | refine CW.seq ?_ | refine CW.region ?_) | (show Post _ _ _ _ _; refine Post.seq ?_) | refine SW.nil ?_ | refine SW.pure rfl rfl ?_ | (show SW _ _ _ _ (⟨_, Op.load _ _, _, _, _, none⟩ :: _) _ _; refine SW.st (st_loads rfl rfl ((fun _ _ => hb3.cell))) rfl ?_))
  refine SW.call rfl rfl (ZoneCopy_ans r z _ (hr.ext hw) (by omega) ht) fun v w4 hw4 hv => ?_
  obtain ⟨u, rfl, hK⟩ := hv
  (replace hw := Ext.trans hw hw4; replace hb3 := hb3.ext hw4)
  refine SW.alloc rfl fun b7 w1 hw1 hb7b hb7 => ?_
  skip
  refine SW.storeAgg hb7 rfl rfl rfl rfl (one_z u) fun w2 hb7' hg => ?_
  have hXX := hw1.own hb7b hg
  have hb7w : w.heap.size ≤ b7 := Nat.le_trans hw.size hb7b
  replace hw := Ext.trans hw hXX
  replace hb3 := hb3.ext hXX
  replace hK := hK.ext hXX
  replace hb7 := hb7'
  clear hb7' hw1 hg hXX
  have e3 := hK.free.sl.len
  have e4 := hK.types.sl.len
  have e5 := hK.from_
  have e6 := hK.to_
  repeat' (first | (show CW _ _ _ _ _ _; first | refine CW.seq ?_ | refine CW.region ?_) | (show Post _ _ _ _ _; refine Post.seq ?_) | refine SW.nil ?_ | refine SW.pure rfl rfl ?_ | (show SW _ _ _ _ (⟨_, Op.load _ _, _, _, _, none⟩ :: _) _ _; refine SW.st (st_loads rfl rfl ((fun _ _ => hb7.cell))) rfl ?_))
  refine SW.call rfl rfl (Zback_ans u z f s _ hK.rd (by omega) (by omega) ⟨by omega, by omega⟩ ⟨by omega, by omega⟩) fun v w5 hw5 hv => ?_
  rw [ho] at hv
  obtain ⟨u1, rfl, hs1⟩ := hv
  (replace hw := Ext.trans hw hw5; replace hb3 := hb3.ext hw5; replace hb7 := hb7.ext hw5; replace hK := hK.ext hw5)
  repeat' (refine SW.pure rfl rfl ?_)
  refine SW.alloc rfl fun b8 w1 hw1 hb8b hb8 => ?_
  skip
  refine SW.storeAgg hb8 rfl rfl rfl rfl (one_z u1) fun w2 hb8' hg => ?_
  have hXX := hw1.own hb8b hg
  have hb8w : w.heap.size ≤ b8 := Nat.le_trans hw.size hb8b
  replace hw := Ext.trans hw hXX
  replace hb3 := hb3.ext hXX
  replace hb7 := hb7.ext hXX
  replace hK := hK.ext hXX
  replace hs1 := hs1.ext hXX
  replace hb8 := hb8'
  clear hb8' hw1 hg hXX
  repeat' (first | (show CW _ _ _ _ _ _; first | refine CW.seq ?_ | refine CW.region ?_) | (show Post _ _ _ _ _; refine Post.seq ?_) | refine SW.nil ?_ | refine SW.pure rfl rfl ?_ | (show SW _ _ _ _ (⟨_, Op.load _ _, _, _, _, none⟩ :: _) _ _; refine SW.st (st_loads rfl rfl ((fun _ _ => hb3.cell))) rfl ?_))
  refine SW.call rfl rfl (BackOf_ans r z f s _ (hr.ext hw) (by omega) (by omega) h1 h2) fun v w6 hw6 hv => ?_
  rw [ho] at hv
  obtain ⟨u2, rfl, hs2⟩ := hv
  (replace hw := Ext.trans hw hw6; replace hb3 := hb3.ext hw6; replace hb7 := hb7.ext hw6; replace hb8 := hb8.ext hw6; replace hK := hK.ext hw6; replace hs1 := hs1.ext hw6)
  repeat' (refine SW.pure rfl rfl ?_)
  refine SW.alloc rfl fun b10 w1 hw1 hb10b hb10 => ?_
  skip
  refine SW.storeAgg hb10 rfl rfl rfl rfl (one_z u2) fun w2 hb10' hg => ?_
  have hXX := hw1.own hb10b hg
  have hb10w : w.heap.size ≤ b10 := Nat.le_trans hw.size hb10b
  replace hw := Ext.trans hw hXX
  replace hb3 := hb3.ext hXX
  replace hb7 := hb7.ext hXX
  replace hb8 := hb8.ext hXX
  replace hK := hK.ext hXX
  replace hs1 := hs1.ext hXX
  replace hs2 := hs2.ext hXX
  replace hb10 := hb10'
  clear hb10' hw1 hg hXX
  have cS : ∀ w', Ext w w' → RdZ w' u1 o.2 → RdZ w' u2 o.2 → Ans Try.prog 50 [.agg (encZ u1).toArray, .agg (encZ u2).toArray] w' fun v _ => v = .bool true := fun w' h x1 x2 => by
    have := sameZone_ans u1 u2 o.2 o.2 w' x1 x2 (by have := x1.free.len; omega) (by have := x1.types.len; omega)
    simpa using this
  have cT : ∀ w', Ext w w' → RdZ w' u z → Ans Try.prog 50 [.agg (encZ u).toArray, .agg (encZ r).toArray] w' fun v _ => v = .bool true := fun w' h x1 => by
    have := sameZone_ans u r z z w' x1 (hr.ext h) (by omega) (by omega)
    simpa using this
  repeat' (first | (show CW _ _ _ _ _ _; first | refine CW.seq ?_ | refine CW.region ?_ | refine CW.ret ?_) | (show Post _ _ _ _ _; refine Post.seq ?_) | refine SW.nil ?_ | (show SW _ _ _ _ (⟨_, _, _, _, _, some _⟩ :: _) _ _; first | refine SW.want_t rfl rfl (by with_reducible rfl) ?_ | refine SW.splitd_t rfl rfl rfl (by omega) ?_) | refine SW.pure rfl rfl ?_ | (show SW _ _ _ _ (⟨_, Op.load _ _, _, _, _, none⟩ :: _) _ _; first | refine SW.st (st_loads rfl rfl ((fun _ _ => hb3.cell))) rfl ?_ | refine SW.st (st_loads rfl rfl ((fun _ _ => hb7.cell))) rfl ?_ | refine SW.st (st_loads rfl rfl ((fun _ _ => hb8.cell))) rfl ?_ | refine SW.st (st_loads rfl rfl ((fun _ _ => hb10.cell))) rfl ?_) | (show SW _ _ _ _ (⟨_, Op.call ⟨.value (.func _), _, _⟩, _, _, _, none⟩ :: _) _ _; first | (refine SW.call rfl rfl (cS _ hw hs1.rd hs2.rd) ?_; intro v w1 hw1 hv; subst hv; replace hw := Ext.trans hw hw1; replace hb3 := hb3.ext hw1; replace hb7 := hb7.ext hw1; replace hb8 := hb8.ext hw1; replace hb10 := hb10.ext hw1; replace hK := hK.ext hw1; replace hs1 := hs1.ext hw1; replace hs2 := hs2.ext hw1; clear hw1) | (refine SW.call rfl rfl (cT _ hw hK.rd) ?_; intro v w1 hw1 hv; subst hv; replace hw := Ext.trans hw hw1; replace hb3 := hb3.ext hw1; replace hb7 := hb7.ext hw1; replace hb8 := hb8.ext hw1; replace hb10 := hb10.ext hw1; replace hK := hK.ext hw1; replace hs1 := hs1.ext hw1; replace hs2 := hs2.ext hw1; clear hw1)))
  all_goals first | (exfalso; omega) | skip
  exact Post.ret1 rfl rfl ⟨_, rfl, hw, rfl⟩


theorem lawBuddyGives_ans (r : ZRow) (z : Zone) (f s : Int) (w : World) (hr : RdZ w r z) (hf : r.Free.n * 24 ≤ 140737488351232) (ht : r.Types.n * 8 ≤ 140737488355328) (h1 : -9223372036854775808 ≤ r.From ∧ r.From ≤ 9223372036854775807) (h2 : -9223372036854775808 ≤ r.To ∧ r.To ≤ 9223372036854775807) :
    Ans Try.prog 17 [.agg (encZ r).toArray, .int .i64 f, .int .i64 s] w fun v _ => v = .bool true := by
  refine ans_of Try.func17 rfl Try.ntmps17 rfl ?_
  obtain ⟨o, ho⟩ : ∃ o, giveV z f s = o := ⟨_, rfl⟩
  have hle := giveV_len z f s
  rw [ho] at hle
  have hFl := hr.free.len
  have hTl := hr.types.len
  have e1 := hr.from_
  have e2 := hr.to_
  refine CW.seq (CW.region (SW.box rfl rfl fun b3 w1 hw hb3b hb3 => ?_))
  repeat' (first | (show CW _ _ _ _ _ _; first | refine CW.seq ?_ | refine CW.region ?_) | (show Post _ _ _ _ _; refine Post.seq ?_) | refine SW.nil ?_ | refine SW.pure rfl rfl ?_ | (show SW _ _ _ _ (⟨_, Op.load _ _, _, _, _, none⟩ :: _) _ _; refine SW.st (st_loads rfl rfl ((fun _ _ => hb3.cell))) rfl ?_))
  refine SW.call rfl rfl (ZoneCopy_ans r z _ (hr.ext hw) (by omega) ht) fun v w4 hw4 hv => ?_
  obtain ⟨u, rfl, hK⟩ := hv
  (replace hw := Ext.trans hw hw4; replace hb3 := hb3.ext hw4)
  refine SW.alloc rfl fun b7 w1 hw1 hb7b hb7 => ?_
  skip
  refine SW.storeAgg hb7 rfl rfl rfl rfl (one_z u) fun w2 hb7' hg => ?_
  have hXX := hw1.own hb7b hg
  have hb7w : w.heap.size ≤ b7 := Nat.le_trans hw.size hb7b
  replace hw := Ext.trans hw hXX
  replace hb3 := hb3.ext hXX
  replace hK := hK.ext hXX
  replace hb7 := hb7'
  clear hb7' hw1 hg hXX
  have e3 := hK.free.sl.len
  have e4 := hK.types.sl.len
  have e5 := hK.from_
  have e6 := hK.to_
  repeat' (first | (show CW _ _ _ _ _ _; first | refine CW.seq ?_ | refine CW.region ?_) | (show Post _ _ _ _ _; refine Post.seq ?_) | refine SW.nil ?_ | refine SW.pure rfl rfl ?_ | (show SW _ _ _ _ (⟨_, Op.load _ _, _, _, _, none⟩ :: _) _ _; refine SW.st (st_loads rfl rfl ((fun _ _ => hb7.cell))) rfl ?_))
  refine SW.call rfl rfl (Zgive_ans u z f s _ hK.rd (by omega) (by omega) ⟨by omega, by omega⟩ ⟨by omega, by omega⟩) fun v w5 hw5 hv => ?_
  rw [ho] at hv
  obtain ⟨u1, rfl, hs1⟩ := hv
  (replace hw := Ext.trans hw hw5; replace hb3 := hb3.ext hw5; replace hb7 := hb7.ext hw5; replace hK := hK.ext hw5)
  repeat' (refine SW.pure rfl rfl ?_)
  refine SW.alloc rfl fun b8 w1 hw1 hb8b hb8 => ?_
  skip
  refine SW.storeAgg hb8 rfl rfl rfl rfl (one_z u1) fun w2 hb8' hg => ?_
  have hXX := hw1.own hb8b hg
  have hb8w : w.heap.size ≤ b8 := Nat.le_trans hw.size hb8b
  replace hw := Ext.trans hw hXX
  replace hb3 := hb3.ext hXX
  replace hb7 := hb7.ext hXX
  replace hK := hK.ext hXX
  replace hs1 := hs1.ext hXX
  replace hb8 := hb8'
  clear hb8' hw1 hg hXX
  repeat' (first | (show CW _ _ _ _ _ _; first | refine CW.seq ?_ | refine CW.region ?_) | (show Post _ _ _ _ _; refine Post.seq ?_) | refine SW.nil ?_ | refine SW.pure rfl rfl ?_ | (show SW _ _ _ _ (⟨_, Op.load _ _, _, _, _, none⟩ :: _) _ _; refine SW.st (st_loads rfl rfl ((fun _ _ => hb3.cell))) rfl ?_))
  refine SW.call rfl rfl (GivenOf_ans r z f s _ (hr.ext hw) (by omega) (by omega) h1 h2) fun v w6 hw6 hv => ?_
  rw [ho] at hv
  obtain ⟨u2, rfl, hs2⟩ := hv
  (replace hw := Ext.trans hw hw6; replace hb3 := hb3.ext hw6; replace hb7 := hb7.ext hw6; replace hb8 := hb8.ext hw6; replace hK := hK.ext hw6; replace hs1 := hs1.ext hw6)
  repeat' (refine SW.pure rfl rfl ?_)
  refine SW.alloc rfl fun b10 w1 hw1 hb10b hb10 => ?_
  skip
  refine SW.storeAgg hb10 rfl rfl rfl rfl (one_z u2) fun w2 hb10' hg => ?_
  have hXX := hw1.own hb10b hg
  have hb10w : w.heap.size ≤ b10 := Nat.le_trans hw.size hb10b
  replace hw := Ext.trans hw hXX
  replace hb3 := hb3.ext hXX
  replace hb7 := hb7.ext hXX
  replace hb8 := hb8.ext hXX
  replace hK := hK.ext hXX
  replace hs1 := hs1.ext hXX
  replace hs2 := hs2.ext hXX
  replace hb10 := hb10'
  clear hb10' hw1 hg hXX
  have cS : ∀ w', Ext w w' → RdZ w' u1 o.2 → RdZ w' u2 o.2 → Ans Try.prog 50 [.agg (encZ u1).toArray, .agg (encZ u2).toArray] w' fun v _ => v = .bool true := fun w' h x1 x2 => by
    have := sameZone_ans u1 u2 o.2 o.2 w' x1 x2 (by have := x1.free.len; omega) (by have := x1.types.len; omega)
    simpa using this
  have cT : ∀ w', Ext w w' → RdZ w' u z → Ans Try.prog 50 [.agg (encZ u).toArray, .agg (encZ r).toArray] w' fun v _ => v = .bool true := fun w' h x1 => by
    have := sameZone_ans u r z z w' x1 (hr.ext h) (by omega) (by omega)
    simpa using this
  repeat' (first | (show CW _ _ _ _ _ _; first | refine CW.seq ?_ | refine CW.region ?_ | refine CW.ret ?_) | (show Post _ _ _ _ _; refine Post.seq ?_) | refine SW.nil ?_ | (show SW _ _ _ _ (⟨_, _, _, _, _, some _⟩ :: _) _ _; first | refine SW.want_t rfl rfl (by with_reducible rfl) ?_ | refine SW.splitd_t rfl rfl rfl (by omega) ?_) | refine SW.pure rfl rfl ?_ | (show SW _ _ _ _ (⟨_, Op.load _ _, _, _, _, none⟩ :: _) _ _; first | refine SW.st (st_loads rfl rfl ((fun _ _ => hb3.cell))) rfl ?_ | refine SW.st (st_loads rfl rfl ((fun _ _ => hb7.cell))) rfl ?_ | refine SW.st (st_loads rfl rfl ((fun _ _ => hb8.cell))) rfl ?_ | refine SW.st (st_loads rfl rfl ((fun _ _ => hb10.cell))) rfl ?_) | (show SW _ _ _ _ (⟨_, Op.call ⟨.value (.func _), _, _⟩, _, _, _, none⟩ :: _) _ _; first | (refine SW.call rfl rfl (cS _ hw hs1.rd hs2.rd) ?_; intro v w1 hw1 hv; subst hv; replace hw := Ext.trans hw hw1; replace hb3 := hb3.ext hw1; replace hb7 := hb7.ext hw1; replace hb8 := hb8.ext hw1; replace hb10 := hb10.ext hw1; replace hK := hK.ext hw1; replace hs1 := hs1.ext hw1; replace hs2 := hs2.ext hw1; clear hw1) | (refine SW.call rfl rfl (cT _ hw hK.rd) ?_; intro v w1 hw1 hv; subst hv; replace hw := Ext.trans hw hw1; replace hb3 := hb3.ext hw1; replace hb7 := hb7.ext hw1; replace hb8 := hb8.ext hw1; replace hb10 := hb10.ext hw1; replace hK := hK.ext hw1; replace hs1 := hs1.ext hw1; replace hs2 := hs2.ext hw1; clear hw1)))
  all_goals first | (exfalso; omega) | skip
  exact Post.ret1 rfl rfl ⟨_, rfl, hw, rfl⟩

end Go.Proofs.Ytfdmgflboibdoaa
