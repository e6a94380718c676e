/-
  Contracts: ZoneNew; the law BuddyNew.
-/
import Derived.Test.YtfommgdbahemfaaDoorZ1
set_option linter.unusedVariables false
namespace Go.Proofs.YtfommgdbahemfaaDoor
open Go.RowKit

theorem ZoneNew_ans (f t : Int) (w : World) (hf : -9223372036854775808 ≤ f ∧ f ≤ 9223372036854775807) (ht : -9223372036854775808 ≤ t ∧ t ≤ 9223372036854775807) : Ans Tryd.prog 64 [.int .i64 f, .int .i64 t] w (ZoneOut w.heap.size (zoneNewV f t)) := by
  refine ans_of Tryd.func64 rfl Tryd.ntmps64 rfl ?_
  refine CW.seq (CW.region (SW.alloc rfl fun b4 w1 hw hb4b hb4 => ?_))
  have hb4w := hb4b
  by_cases hok : zoneOk f t
  · obtain ⟨h1, h2, h3, h4, h5⟩ := id hok
    have m1 := tmod16 h1
    have m2 := tmod16 (show 0 ≤ t by omega)
    rw [zoneNewV_t hok]
    obtain ⟨k, hk⟩ : ∃ k : Nat, (t - f) / 8 = k := ⟨((t - f) / 8).toNat, by omega⟩
    repeat' (first | (show CW _ _ _ _ _ _; first | refine CW.seq ?_ | refine CW.region ?_ | refine CW.condn_f rfl (by omega) ?_ | refine CW.skip ?_) | (show Post _ _ _ _ _; refine Post.seq ?_) | refine SW.nil ?_ | (show SW _ _ _ _ (⟨_, _, _, _, _, some _⟩ :: _) _ _; first | refine SW.want_f rfl rfl (by with_reducible rfl) ?_ | refine SW.splitn_f rfl rfl rfl (by omega) ?_) | refine SW.pure rfl rfl ?_ | (show SW _ _ _ _ (⟨_, Op.build _ _, _, _, _, none⟩ :: _) _ _; refine SW.st (st_build rfl rfl) rfl ?_) | (show SW _ _ _ _ (⟨_, Op.binOp _ _ _ _ _, _, _, _, none⟩ :: _) _ _; refine SW.st (st_rem rfl rfl (by omega)) rfl ?_) | (show SW _ _ _ _ (⟨_, Op.call ⟨.value (.func _), _, _⟩, _, _, _, none⟩ :: _) _ _; (refine SW.call rfl rfl (In_ans _ _ _ _) ?_; intro v w1 hw1 hv; subst hv; replace hw := Ext.trans hw hw1; replace hb4 := hb4.ext hw1; clear hw1)))
    refine SW.alloc rfl fun b6 w1 hw1 hb6b hb6 => ?_
    have hb6w : w.heap.size ≤ b6 := Nat.le_trans hw.size hb6b
    have hne_b4 : b4 ≠ b6 := by have := hb4.lt; omega
    replace hw := Ext.trans hw hw1
    replace hb4 := hb4.ext hw1
    refine SW.storeAgg hb6 rfl rfl rfl rfl (one_z ⟨f, t, .nil, .nil⟩) fun w2 hb6' hg => ?_
    replace hw := hw.own hb6w hg
    replace hb4 := hb4.grown hg (by simpa using hne_b4)
    replace hb6 := hb6'
    clear hb6' hw1 hg hb6b
    repeat' (first | (show CW _ _ _ _ _ _; first | refine CW.seq ?_ | refine CW.region ?_ | refine CW.block ?_) | (show Post _ _ _ _ _; refine Post.seq ?_) | refine SW.nil ?_ | refine SW.pure rfl rfl ?_)
    refine CW.loop (fun s : Nat × Option Addr × Nat => [(1, .int .i64 t), (4, .pointer (some ⟨b4, 0, none⟩)), (6, .pointer (some ⟨b6, 0, none⟩)), (7, .int .i64 (f + 8 * (s.1 : Int)))])
      (fun s w' => s.1 ≤ k ∧ Ext w w' ∧ Blk w' b4 25 (encZ .zero) ∧ Blk w' b6 25 (encZ ⟨f, t, .nil, ⟨s.2.1, s.1, s.2.2⟩⟩) ∧ Own w' w.heap.size 3 1 encI s.2.1 s.1 s.2.2 (List.replicate s.1 1)) (fun s => k - s.1) (0, none, 0)
      ⟨rfl, rfl, rfl, by simp; rfl, trivial⟩ ⟨by omega, hw, hb4, hb6, Own.nil_ _ _ _ _ _ _⟩ ?_
    clear hw hb4 hb6
    rintro ⟨i, A, c⟩ w' ⟨hi, hw, hb4, hb6, hO⟩
    simp only at hi hb6 hO ⊢
    by_cases hik : i < k
    · repeat' (first | (show CW _ _ _ _ _ _; first | refine CW.seq ?_ | refine CW.region ?_ | refine CW.block ?_ | refine CW.condd_t rfl (by omega) ?_ | refine CW.skip ?_) | (show Post _ _ _ _ _; refine Post.seq ?_) | refine SW.nil ?_ | refine SW.pure rfl rfl ?_ | (show SW _ _ _ _ (⟨_, Op.fieldAddr _ _ _, _, _, _, none⟩ :: _) _ _; refine SW.st (st_field rfl) rfl ?_) | (show SW _ _ _ _ (⟨_, Op.load _ _, _, _, _, none⟩ :: _) _ _; refine SW.st (st_load rfl (hb6.cell rfl)) rfl ?_))
      refine SW.build1 rfl rfl rfl rfl rfl fun b w1 hw1 hb hB => ?_
      (replace hw := Ext.trans hw hw1; replace hb4 := hb4.ext hw1; replace hb6 := hb6.ext hw1; replace hO := hO.ext hw1)
      refine SW.append hO (Blk.sl1 (enc := encI) (x := 1) hB) hw.size rfl rfl rfl (by omega) (by omega) fun A2 c2 w2 hO1 hg => ?_
      replace hw := ext_grown hw hg (Nat.le_refl _) hO.row_ge
      replace hb4 := hb4.grown hg (fun e => hO.ne_blk hb4 rfl e.symm)
      replace hb6 := hb6.grown hg (fun e => hO.ne_blk hb6 rfl e.symm)
      repeat' ((show SW _ _ _ _ (⟨_, Op.fieldAddr _ _ _, _, _, _, none⟩ :: _) _ _; refine SW.st (st_field rfl) rfl ?_))
      refine SW.storeB (i := 3) hb6 rfl rfl rfl rfl fun w5 hb6' hg => ?_
      replace hw := hw.own hb6w hg
      replace hO1 := hO1.grown hg (.inr (hO1.ne_blk hb6 rfl))
      replace hb4 := hb4.grown hg (by simpa using hne_b4)
      repeat' (first | (show CW _ _ _ _ _ _; refine CW.region ?_) | (show Post _ _ _ _ _; first | refine Post.seq ?_ | refine Post.blk ?_) | refine SW.nil ?_ | refine SW.pure rfl rfl ?_ | (show SW _ _ _ _ (⟨_, Op.binOp _ _ _ _ _, _, _, _, none⟩ :: _) _ _; refine SW.st (st_add rfl rfl (by omega) (by omega)) rfl ?_))
      refine Post.again (i + 1, A2, c2) ⟨rfl, rfl, rfl, by simp only [get]; simp; omega, trivial⟩ (by simp only; omega) ⟨by simp only; omega, hw, hb4, hb6', ?_⟩
      simp only [List.replicate_succ']
      exact hO1
    · obtain rfl : i = k := by omega
      repeat' (first | (show CW _ _ _ _ _ _; first | refine CW.seq ?_ | refine CW.region ?_ | refine CW.condd_f rfl (by omega) ?_ | refine CW.exit ?_) | (show Post _ _ _ _ _; first | refine Post.seq ?_ | refine Post.seq_exit ?_ | refine Post.hit ?_ | refine Post.again_exit ?_) | refine SW.nil ?_ | refine SW.pure rfl rfl ?_ | (show SW _ _ _ _ (⟨_, Op.load _ _, _, _, _, none⟩ :: _) _ _; refine SW.st (st_loads rfl rfl ((fun _ _ => hb6.cell))) rfl ?_))
      refine SW.storeAgg hb4 rfl rfl rfl rfl (one_z ⟨f, t, .nil, ⟨A, i, c⟩⟩) fun w5 hR2 hg => ?_
      replace hw := hw.own hb4w hg
      replace hO := hO.grown hg (.inr (hO.ne_blk hb4 rfl))
      repeat' (first | (show CW _ _ _ _ _ _; refine CW.ret ?_) | (show Post _ _ _ _ _; refine Post.seq ?_) | refine SW.nil ?_ | refine SW.pure rfl rfl ?_)
      refine Post.ret2c rfl rfl rfl hR2 rfl ⟨_, rfl, hw, ⟨f, t, .nil, ⟨A, i, c⟩⟩, rfl, rfl, rfl, Own.nil_ _ _ _ _ _ _, ?_⟩
      simp only [hk, Int.toNat_natCast]
      exact hO
  · rw [zoneNewV_f hok]
    unfold zoneOk at hok
    have m1 := fun h => @tmod16 f h
    have m2 := fun h => @tmod16 t h
    by_cases h1 : 0 ≤ f
    · have m1 := m1 h1
      by_cases h2 : f ≤ t
      · have m2 := m2 (by omega)
        repeat' (first | (show CW _ _ _ _ _ _; first | refine CW.seq ?_ | refine CW.region ?_ | refine CW.condtr rfl (by with_reducible rfl) ?_ | refine CW.condn_t rfl (by omega) ?_) | (show Post _ _ _ _ _; refine Post.seq ?_) | refine SW.nil ?_ | (show SW _ _ _ _ (⟨_, _, _, _, _, some _⟩ :: _) _ _; first | refine SW.want_f rfl rfl (by with_reducible rfl) ?_ | refine SW.skip_f rfl rfl (by with_reducible rfl) rfl ?_ | refine SW.splitn rfl rfl rfl (fun h => ?_) (fun h => ?_)) | refine SW.pure rfl rfl ?_ | (show SW _ _ _ _ (⟨_, Op.build _ _, _, _, _, none⟩ :: _) _ _; refine SW.st (st_build rfl rfl) rfl ?_) | (show SW _ _ _ _ (⟨_, Op.binOp _ _ _ _ _, _, _, _, none⟩ :: _) _ _; refine SW.st (st_rem rfl rfl (by omega)) rfl ?_) | (show SW _ _ _ _ (⟨_, Op.call ⟨.value (.func _), _, _⟩, _, _, _, none⟩ :: _) _ _; (refine SW.call rfl rfl (In_ans _ _ _ _) ?_; intro v w1 hw1 hv; subst hv; replace hw := Ext.trans hw hw1; replace hb4 := hb4.ext hw1; clear hw1)))
        all_goals
          first
            | (exfalso; omega)
            | (refine SW.storeAgg hb4 rfl rfl rfl rfl (one_z .zero) fun w5 hR2 hg => ?_
               replace hw := hw.own hb4w hg
               repeat' (first | (show CW _ _ _ _ _ _; refine CW.ret ?_) | (show Post _ _ _ _ _; first | refine Post.seq ?_ | refine Post.seq_ret ?_) | refine SW.nil ?_ | refine SW.pure rfl rfl ?_)
               exact Post.ret2c rfl rfl rfl hR2 rfl ⟨_, rfl, hw, .zero, rfl, OwnZ.zero _ _⟩)
      · repeat' (first | (show CW _ _ _ _ _ _; first | refine CW.seq ?_ | refine CW.region ?_ | refine CW.condtr rfl (by with_reducible rfl) ?_) | (show Post _ _ _ _ _; refine Post.seq ?_) | refine SW.nil ?_ | (show SW _ _ _ _ (⟨_, _, _, _, _, some _⟩ :: _) _ _; first | refine SW.want_f rfl rfl (by with_reducible rfl) ?_ | refine SW.skip_f rfl rfl (by with_reducible rfl) rfl ?_ | refine SW.splitn_t rfl rfl rfl (by omega) ?_ | refine SW.splitn rfl rfl rfl (fun h => ?_) (fun h => ?_)) | refine SW.pure rfl rfl ?_ | (show SW _ _ _ _ (⟨_, Op.build _ _, _, _, _, none⟩ :: _) _ _; refine SW.st (st_build rfl rfl) rfl ?_) | (show SW _ _ _ _ (⟨_, Op.call ⟨.value (.func _), _, _⟩, _, _, _, none⟩ :: _) _ _; (refine SW.call rfl rfl (In_ans _ _ _ _) ?_; intro v w1 hw1 hv; subst hv; replace hw := Ext.trans hw hw1; replace hb4 := hb4.ext hw1; clear hw1)))
        all_goals
          refine SW.storeAgg hb4 rfl rfl rfl rfl (one_z .zero) fun w5 hR2 hg => ?_
          replace hw := hw.own hb4w hg
          repeat' (first | (show CW _ _ _ _ _ _; refine CW.ret ?_) | (show Post _ _ _ _ _; first | refine Post.seq ?_ | refine Post.seq_ret ?_) | refine SW.nil ?_ | refine SW.pure rfl rfl ?_)
          exact Post.ret2c rfl rfl rfl hR2 rfl ⟨_, rfl, hw, .zero, rfl, OwnZ.zero _ _⟩
    · repeat' (first | (show CW _ _ _ _ _ _; first | refine CW.seq ?_ | refine CW.region ?_ | refine CW.condtr rfl (by with_reducible rfl) ?_) | (show Post _ _ _ _ _; refine Post.seq ?_) | refine SW.nil ?_ | (show SW _ _ _ _ (⟨_, _, _, _, _, some _⟩ :: _) _ _; first | refine SW.skip_f rfl rfl (by with_reducible rfl) rfl ?_ | refine SW.splitn_t rfl rfl rfl (by omega) ?_) | refine SW.pure rfl rfl ?_ | (show SW _ _ _ _ (⟨_, Op.build _ _, _, _, _, none⟩ :: _) _ _; refine SW.st (st_build rfl rfl) rfl ?_) | (show SW _ _ _ _ (⟨_, Op.call ⟨.value (.func _), _, _⟩, _, _, _, none⟩ :: _) _ _; (refine SW.call rfl rfl (In_ans _ _ _ _) ?_; intro v w1 hw1 hv; subst hv; replace hw := Ext.trans hw hw1; replace hb4 := hb4.ext hw1; clear hw1)))
      all_goals
        refine SW.storeAgg hb4 rfl rfl rfl rfl (one_z .zero) fun w5 hR2 hg => ?_
        replace hw := hw.own hb4w hg
        repeat' (first | (show CW _ _ _ _ _ _; refine CW.ret ?_) | (show Post _ _ _ _ _; first | refine Post.seq ?_ | refine Post.seq_ret ?_) | refine SW.nil ?_ | refine SW.pure rfl rfl ?_)
        exact Post.ret2c rfl rfl rfl hR2 rfl ⟨_, rfl, hw, .zero, rfl, OwnZ.zero _ _⟩

theorem zoneNewV_le (f t : Int) : (zoneNewV f t).2.Free.length ≤ 256 ∧ (zoneNewV f t).2.Types.length ≤ 256 := by
  by_cases h : zoneOk f t
  · rw [zoneNewV_t h]
    obtain ⟨h1, h2, h3, h4, h5⟩ := h
    simp; omega
  · rw [zoneNewV_f h]; simp [Zone.zero]

end Go.Proofs.YtfommgdbahemfaaDoor