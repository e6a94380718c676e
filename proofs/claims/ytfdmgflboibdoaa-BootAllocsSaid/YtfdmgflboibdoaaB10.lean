/-
  Contracts: the reference of boot.Alloc; the law BootAllocs.
-/
import Derived.Test.YtfdmgflboibdoaaB9
set_option linter.unusedVariables false
namespace Go.Proofs.Ytfdmgflboibdoaa
open Go.RowKit

set_option maxHeartbeats 4000000 in
theorem BootAlloc_ans (A : Option Addr) (n c : Nat) (B : Option Addr) (m d : Nat) (x y : List Region) (size align low high : Int) (down : Bool) (N : Nat) (hN : N = 256) (w : World) (hx : Sl w 2 encR A n x) (hy : Sl w 2 encR B m y) (hn : n * 16 ≤ 140737488355328) (hm : m * 16 ≤ 140737488355328) :
    Ans Try.prog 46 [.agg (bootCells A n c B m d).toArray, .int .i64 size, .int .i64 align, .int .i64 low, .int .i64 high, .bool down] w (AllocOut w.heap.size (allocV N x y size align low high down)) := by
  refine ans_of Try.func46 rfl Try.ntmps46 rfl ?_
  refine CW.seq (CW.region (SW.box rfl rfl fun b w1 hw hb hB => ?_))
  refine SW.alloc rfl fun b12 w2 hw2 hb12b hb12 => ?_
  have hb12w : w.heap.size ≤ b12 := Nat.le_trans hw.size hb12b
  have hne : b ≠ b12 := by have := hB.lt; omega
  (replace hw := Ext.trans hw hw2; replace hB := hB.ext hw2)
  obtain ⟨q, hq⟩ : ∃ b, bootB x y = b := ⟨_, rfl⟩
  have c1 : ∀ w', Ext w w' → Ans Try.prog 87 [.agg (bootCells A n c B m d).toArray] w' fun v _ => v = .bool q := fun w' h => by have := BootMay_ans A n c B m d x y w' (hx.ext h) (hy.ext h) (by omega) (by omega); rwa [hq] at this
  cases q
  · rw [allocV_8 hq]
    repeat' (first
      | (show CW _ _ _ _ _ _; first | refine CW.seq ?_ | refine CW.region ?_ | refine CW.block ?_ | refine CW.condtr rfl (by with_reducible rfl) ?_ | refine CW.condfr rfl (by with_reducible rfl) ?_ | refine CW.condd_t rfl (by omega) ?_ | refine CW.condd_f rfl (by omega) ?_ | refine CW.condn_t rfl (by omega) ?_ | refine CW.condn_f rfl (by omega) ?_ | refine CW.condd rfl (fun h => ?_) (fun h => ?_) | refine CW.condn rfl (fun h => ?_) (fun h => ?_) | refine CW.condt rfl ?_ | refine CW.condf rfl ?_ | refine CW.cond rfl (fun h => ?_) (fun h => ?_) | refine CW.skip ?_ | refine CW.ret ?_ | refine CW.exit ?_)
      | (show Post _ _ _ _ _; first | refine Post.seq ?_ | refine Post.seq_ret ?_ | refine Post.seq_exit ?_ | refine Post.hit ?_ | refine Post.pass rfl ?_ | refine Post.blk ?_ | refine Post.blk_ret ?_ | refine Post.again_exit ?_ | refine Post.again_ret ?_ | refine Post.np ?_)
      | refine SW.nil ?_
      | (show SW _ _ _ _ (⟨_, _, _, _, _, some _⟩ :: _) _ _; first | refine SW.want_t rfl rfl (by with_reducible rfl) ?_ | refine SW.want_f rfl rfl (by with_reducible rfl) ?_ | refine SW.skip_t rfl rfl (by with_reducible rfl) rfl ?_ | refine SW.skip_f rfl rfl (by with_reducible rfl) rfl ?_ | refine SW.skip_u rfl rfl (by with_reducible rfl) rfl ?_ | refine SW.splitd_t rfl rfl rfl (by omega) ?_ | refine SW.splitd_f rfl rfl rfl (by omega) ?_ | refine SW.splitn_t rfl rfl rfl (by omega) ?_ | refine SW.splitn_f rfl rfl rfl (by omega) ?_ | refine SW.splitd rfl rfl rfl (fun h => ?_) (fun h => ?_) | refine SW.splitn rfl rfl rfl (fun h => ?_) (fun h => ?_) | refine SW.want rfl rfl ?_ | refine SW.skip rfl rfl rfl rfl ?_ | refine SW.skipu rfl rfl rfl ?_ | refine SW.split rfl rfl rfl (fun h => ?_) (fun h => ?_))
      | refine SW.pure rfl rfl ?_
      | (show SW _ _ _ _ (⟨_, Op.fieldAddr _ _ _, _, _, _, none⟩ :: _) _ _; refine SW.st (st_field rfl) rfl ?_)
      | (show SW _ _ _ _ (⟨_, Op.nilCheck _, _, _, _, none⟩ :: _) _ _; refine SW.st (st_nilCheck rfl) rfl ?_)
      | (show SW _ _ _ _ (⟨_, Op.build _ _, _, _, _, none⟩ :: _) _ _; refine SW.st (st_build rfl rfl) rfl ?_)
      | (show SW _ _ _ _ (⟨_, Op.binOp _ _ _ _ _, _, _, _, none⟩ :: _) _ _; first | refine SW.st (st_add rfl rfl (by omega) (by omega)) rfl ?_ | refine SW.st (st_sub rfl rfl (by omega) (by omega)) rfl ?_ | refine SW.st (st_mul rfl rfl (by omega) (by omega)) rfl ?_ | refine SW.st (st_quo rfl rfl (by omega) (by omega) (by omega)) rfl ?_ | refine SW.st (st_rem rfl rfl (by omega)) rfl ?_)
      | (show SW _ _ _ _ (⟨_, Op.indexAddr _ _ _, _, _, _, none⟩ :: _) _ _; refine SW.st (st_indexN rfl rfl (by assumption) (by omega)) rfl ?_)
      | (show SW _ _ _ _ (⟨_, Op.call ⟨.builtin .len, _, _⟩, _, _, _, none⟩ :: _) _ _; refine SW.st (st_len rfl) rfl ?_)
      | (show SW _ _ _ _ (⟨_, Op.call ⟨.builtin .cap, _, _⟩, _, _, _, none⟩ :: _) _ _; refine SW.st (st_cap rfl) rfl ?_)
      | (show SW _ _ _ _ (⟨_, Op.load _ _, _, _, _, none⟩ :: _) _ _; first | refine SW.st (st_loads rfl rfl ((fun _ _ => hB.cell))) rfl ?_ | refine SW.st (st_loadsx hw rfl rfl ((fun _ _ => hB.cell))) rfl ?_)
      | (show SW _ _ _ _ (⟨_, Op.call ⟨.value (.func _), _, _⟩, _, _, _, none⟩ :: _) _ _; (refine SW.call rfl rfl (c1 _ hw) ?_; intro v w1 hw1 hv; subst hv; replace hw := Ext.trans hw hw1; replace hB := hB.ext hw1; replace hb12 := hb12.ext hw1; clear hw1)))
    refine SW.storeAgg hb12 rfl rfl rfl rfl (one_boot none 0 0 none 0 0) fun w5 hR2 hg => ?_
    replace hw := hw.own hb12w hg
    repeat' (first
      | (show CW _ _ _ _ _ _; first | refine CW.seq ?_ | refine CW.region ?_ | refine CW.block ?_ | refine CW.condtr rfl (by with_reducible rfl) ?_ | refine CW.condfr rfl (by with_reducible rfl) ?_ | refine CW.condd_t rfl (by omega) ?_ | refine CW.condd_f rfl (by omega) ?_ | refine CW.condn_t rfl (by omega) ?_ | refine CW.condn_f rfl (by omega) ?_ | refine CW.condd rfl (fun h => ?_) (fun h => ?_) | refine CW.condn rfl (fun h => ?_) (fun h => ?_) | refine CW.condt rfl ?_ | refine CW.condf rfl ?_ | refine CW.cond rfl (fun h => ?_) (fun h => ?_) | refine CW.skip ?_ | refine CW.ret ?_ | refine CW.exit ?_)
      | (show Post _ _ _ _ _; first | refine Post.seq ?_ | refine Post.seq_ret ?_ | refine Post.seq_exit ?_ | refine Post.hit ?_ | refine Post.pass rfl ?_ | refine Post.blk ?_ | refine Post.blk_ret ?_ | refine Post.again_exit ?_ | refine Post.again_ret ?_ | refine Post.np ?_)
      | refine SW.nil ?_
      | (show SW _ _ _ _ (⟨_, _, _, _, _, some _⟩ :: _) _ _; first | refine SW.want_t rfl rfl (by with_reducible rfl) ?_ | refine SW.want_f rfl rfl (by with_reducible rfl) ?_ | refine SW.skip_t rfl rfl (by with_reducible rfl) rfl ?_ | refine SW.skip_f rfl rfl (by with_reducible rfl) rfl ?_ | refine SW.skip_u rfl rfl (by with_reducible rfl) rfl ?_ | refine SW.splitd_t rfl rfl rfl (by omega) ?_ | refine SW.splitd_f rfl rfl rfl (by omega) ?_ | refine SW.splitn_t rfl rfl rfl (by omega) ?_ | refine SW.splitn_f rfl rfl rfl (by omega) ?_ | refine SW.splitd rfl rfl rfl (fun h => ?_) (fun h => ?_) | refine SW.splitn rfl rfl rfl (fun h => ?_) (fun h => ?_) | refine SW.want rfl rfl ?_ | refine SW.skip rfl rfl rfl rfl ?_ | refine SW.skipu rfl rfl rfl ?_ | refine SW.split rfl rfl rfl (fun h => ?_) (fun h => ?_))
      | refine SW.pure rfl rfl ?_
      | (show SW _ _ _ _ (⟨_, Op.fieldAddr _ _ _, _, _, _, none⟩ :: _) _ _; refine SW.st (st_field rfl) rfl ?_)
      | (show SW _ _ _ _ (⟨_, Op.nilCheck _, _, _, _, none⟩ :: _) _ _; refine SW.st (st_nilCheck rfl) rfl ?_)
      | (show SW _ _ _ _ (⟨_, Op.build _ _, _, _, _, none⟩ :: _) _ _; refine SW.st (st_build rfl rfl) rfl ?_)
      | (show SW _ _ _ _ (⟨_, Op.binOp _ _ _ _ _, _, _, _, none⟩ :: _) _ _; first | refine SW.st (st_add rfl rfl (by omega) (by omega)) rfl ?_ | refine SW.st (st_sub rfl rfl (by omega) (by omega)) rfl ?_ | refine SW.st (st_mul rfl rfl (by omega) (by omega)) rfl ?_ | refine SW.st (st_quo rfl rfl (by omega) (by omega) (by omega)) rfl ?_ | refine SW.st (st_rem rfl rfl (by omega)) rfl ?_)
      | (show SW _ _ _ _ (⟨_, Op.indexAddr _ _ _, _, _, _, none⟩ :: _) _ _; refine SW.st (st_indexN rfl rfl (by assumption) (by omega)) rfl ?_)
      | (show SW _ _ _ _ (⟨_, Op.call ⟨.builtin .len, _, _⟩, _, _, _, none⟩ :: _) _ _; refine SW.st (st_len rfl) rfl ?_)
      | (show SW _ _ _ _ (⟨_, Op.call ⟨.builtin .cap, _, _⟩, _, _, _, none⟩ :: _) _ _; refine SW.st (st_cap rfl) rfl ?_))
    exact Post.ret3c rfl rfl rfl rfl hR2 rfl ⟨_, rfl, hw, _, rfl, BootIs.nil _ _⟩
  · obtain ⟨hxo, hyo⟩ := bootB_ok hq
    by_cases hargs : argsOk size align low high
    · obtain ⟨a1, a2, a3, a4, a5, a6, a7⟩ := id hargs
      obtain ⟨lo, rfl⟩ := Int.eq_ofNat_of_zero_le a5
      obtain ⟨sz, rfl⟩ := Int.eq_ofNat_of_zero_le (show 0 ≤ size by omega)
      have hlow : ∀ a, Fits (freeP x y) sz align lo high a → (lo : Int) ≤ a := fun a h => h.low
      repeat' (first
        | (show CW _ _ _ _ _ _; first | refine CW.seq ?_ | refine CW.region ?_ | refine CW.block ?_ | refine CW.condtr rfl (by with_reducible rfl) ?_ | refine CW.condfr rfl (by with_reducible rfl) ?_ | refine CW.condd_t rfl (by omega) ?_ | refine CW.condd_f rfl (by omega) ?_ | refine CW.condn_t rfl (by omega) ?_ | refine CW.condn_f rfl (by omega) ?_ | refine CW.condd rfl (fun h => ?_) (fun h => ?_) | refine CW.condn rfl (fun h => ?_) (fun h => ?_) | refine CW.condt rfl ?_ | refine CW.condf rfl ?_ | refine CW.cond rfl (fun h => ?_) (fun h => ?_) | refine CW.skip ?_ | refine CW.ret ?_ | refine CW.exit ?_)
        | (show Post _ _ _ _ _; first | refine Post.seq ?_ | refine Post.seq_ret ?_ | refine Post.seq_exit ?_ | refine Post.hit ?_ | refine Post.pass rfl ?_ | refine Post.blk ?_ | refine Post.blk_ret ?_ | refine Post.again_exit ?_ | refine Post.again_ret ?_ | refine Post.np ?_)
        | refine SW.nil ?_
        | (show SW _ _ _ _ (⟨_, _, _, _, _, some _⟩ :: _) _ _; first | refine SW.want_t rfl rfl (by with_reducible rfl) ?_ | refine SW.want_f rfl rfl (by with_reducible rfl) ?_ | refine SW.skip_t rfl rfl (by with_reducible rfl) rfl ?_ | refine SW.skip_f rfl rfl (by with_reducible rfl) rfl ?_ | refine SW.skip_u rfl rfl (by with_reducible rfl) rfl ?_ | refine SW.splitd_t rfl rfl rfl (by omega) ?_ | refine SW.splitd_f rfl rfl rfl (by omega) ?_ | refine SW.splitn_t rfl rfl rfl (by omega) ?_ | refine SW.splitn_f rfl rfl rfl (by omega) ?_ | refine SW.splitd rfl rfl rfl (fun h => ?_) (fun h => ?_) | refine SW.splitn rfl rfl rfl (fun h => ?_) (fun h => ?_) | refine SW.want rfl rfl ?_ | refine SW.skip rfl rfl rfl rfl ?_ | refine SW.skipu rfl rfl rfl ?_ | refine SW.split rfl rfl rfl (fun h => ?_) (fun h => ?_))
        | refine SW.pure rfl rfl ?_
        | (show SW _ _ _ _ (⟨_, Op.fieldAddr _ _ _, _, _, _, none⟩ :: _) _ _; refine SW.st (st_field rfl) rfl ?_)
        | (show SW _ _ _ _ (⟨_, Op.nilCheck _, _, _, _, none⟩ :: _) _ _; refine SW.st (st_nilCheck rfl) rfl ?_)
        | (show SW _ _ _ _ (⟨_, Op.build _ _, _, _, _, none⟩ :: _) _ _; refine SW.st (st_build rfl rfl) rfl ?_)
        | (show SW _ _ _ _ (⟨_, Op.binOp _ _ _ _ _, _, _, _, none⟩ :: _) _ _; first | refine SW.st (st_add rfl rfl (by omega) (by omega)) rfl ?_ | refine SW.st (st_sub rfl rfl (by omega) (by omega)) rfl ?_ | refine SW.st (st_mul rfl rfl (by omega) (by omega)) rfl ?_ | refine SW.st (st_quo rfl rfl (by omega) (by omega) (by omega)) rfl ?_ | refine SW.st (st_rem rfl rfl (by omega)) rfl ?_)
        | (show SW _ _ _ _ (⟨_, Op.indexAddr _ _ _, _, _, _, none⟩ :: _) _ _; refine SW.st (st_indexN rfl rfl (by assumption) (by omega)) rfl ?_)
        | (show SW _ _ _ _ (⟨_, Op.call ⟨.builtin .len, _, _⟩, _, _, _, none⟩ :: _) _ _; refine SW.st (st_len rfl) rfl ?_)
        | (show SW _ _ _ _ (⟨_, Op.call ⟨.builtin .cap, _, _⟩, _, _, _, none⟩ :: _) _ _; refine SW.st (st_cap rfl) rfl ?_)
        | (show SW _ _ _ _ (⟨_, Op.load _ _, _, _, _, none⟩ :: _) _ _; first | refine SW.st (st_loads rfl rfl ((fun _ _ => hB.cell))) rfl ?_ | refine SW.st (st_loadsx hw rfl rfl ((fun _ _ => hB.cell))) rfl ?_)
        | (show SW _ _ _ _ (⟨_, Op.call ⟨.value (.func _), _, _⟩, _, _, _, none⟩ :: _) _ _; first | (refine SW.call rfl rfl (c1 _ hw) ?_; intro v w1 hw1 hv; subst hv; replace hw := Ext.trans hw hw1; replace hB := hB.ext hw1; replace hb12 := hb12.ext hw1; clear hw1) | (refine SW.call rfl rfl (In_ans _ _ _ _) ?_; intro v w1 hw1 hv; subst hv; replace hw := Ext.trans hw hw1; replace hB := hB.ext hw1; replace hb12 := hb12.ext hw1; clear hw1)))
      all_goals first | (exfalso; omega) | skip
      obtain ⟨K, hK⟩ : ∃ K : Env → World → Prop, K = fun L' w' => ∃ best, subEnv L' [(1, .int .i64 (sz : Int)), (6, .pointer (some ⟨b, 0, none⟩)), (12, .pointer (some ⟨b12, 0, none⟩)), (15, .int .i64 best)] ∧ Ext w w' ∧ Blk w' b 48 (bootCells A n c B m d) ∧ Blk w' b12 48 (bootCells none 0 0 none 0 0) ∧
        IsBest (Fits (freeP x y) sz align lo high) down best := ⟨_, rfl⟩
      refine CW.cutb K ?_ ?_
      · refine CW.loop (fun s : Nat × Int => [(1, .int .i64 (sz : Int)), (2, .int .i64 align), (4, .int .i64 high), (5, .bool down), (6, .pointer (some ⟨b, 0, none⟩)), (12, .pointer (some ⟨b12, 0, none⟩)), (15, .int .i64 s.2), (16, .int .i64 ((lo + s.1 : Nat) : Int))])
          (fun s w' => s.1 ≤ 256 ∧ Ext w w' ∧ Blk w' b 48 (bootCells A n c B m d) ∧ Blk w' b12 48 (bootCells none 0 0 none 0 0) ∧ IsBest (fun a => Fits (freeP x y) sz align lo high a ∧ a < (lo : Int) + (s.1 : Int)) down s.2) (fun s => 256 - s.1) (0, -1)
          ⟨rfl, rfl, rfl, rfl, rfl, rfl, rfl, rfl, trivial⟩ ⟨by omega, hw, hB, hb12, ⟨.inl ⟨rfl, fun a ⟨h, h'⟩ => by have := h.low; omega⟩⟩⟩ ?_
        clear hw hB hb12 c1
        rintro ⟨k, best⟩ w' ⟨hk, hw, hB, hb12, hbest⟩
        simp only at hk hbest ⊢
        by_cases hkn : (lo : Int) + (k : Int) + sz ≤ high
        · have hstep := best_step hbest hlow (by omega)
          have em : ((lo + k : Nat) : Int).tmod align = ((lo : Int) + (k : Int)) % align := by rw [Int.tmod_eq_emod_of_nonneg (by omega)]; rfl
          repeat' (first
            | (show CW _ _ _ _ _ _; first | refine CW.seq ?_ | refine CW.region ?_ | refine CW.block ?_ | refine CW.condtr rfl (by with_reducible rfl) ?_ | refine CW.condfr rfl (by with_reducible rfl) ?_ | refine CW.condd_t rfl (by omega) ?_ | refine CW.condd_f rfl (by omega) ?_ | refine CW.condn_t rfl (by omega) ?_ | refine CW.condn_f rfl (by omega) ?_ | refine CW.condd rfl (fun h => ?_) (fun h => ?_) | refine CW.condn rfl (fun h => ?_) (fun h => ?_) | refine CW.condt rfl ?_ | refine CW.condf rfl ?_ | refine CW.cond rfl (fun h => ?_) (fun h => ?_) | refine CW.skip ?_ | refine CW.ret ?_ | refine CW.exit ?_)
            | (show Post _ _ _ _ _; first | refine Post.seq ?_ | refine Post.seq_ret ?_ | refine Post.seq_exit ?_ | refine Post.hit ?_ | refine Post.pass rfl ?_ | refine Post.blk ?_ | refine Post.blk_ret ?_ | refine Post.again_exit ?_ | refine Post.again_ret ?_ | refine Post.np ?_)
            | refine SW.nil ?_
            | (show SW _ _ _ _ (⟨_, _, _, _, _, some _⟩ :: _) _ _; first | refine SW.want_t rfl rfl (by with_reducible rfl) ?_ | refine SW.want_f rfl rfl (by with_reducible rfl) ?_ | refine SW.skip_t rfl rfl (by with_reducible rfl) rfl ?_ | refine SW.skip_f rfl rfl (by with_reducible rfl) rfl ?_ | refine SW.skip_u rfl rfl (by with_reducible rfl) rfl ?_ | refine SW.splitd_t rfl rfl rfl (by omega) ?_ | refine SW.splitd_f rfl rfl rfl (by omega) ?_ | refine SW.splitn_t rfl rfl rfl (by omega) ?_ | refine SW.splitn_f rfl rfl rfl (by omega) ?_ | refine SW.splitd rfl rfl rfl (fun h => ?_) (fun h => ?_) | refine SW.splitn rfl rfl rfl (fun h => ?_) (fun h => ?_) | refine SW.want rfl rfl ?_ | refine SW.skip rfl rfl rfl rfl ?_ | refine SW.skipu rfl rfl rfl ?_ | refine SW.split rfl rfl rfl (fun h => ?_) (fun h => ?_))
            | refine SW.pure rfl rfl ?_
            | (show SW _ _ _ _ (⟨_, Op.fieldAddr _ _ _, _, _, _, none⟩ :: _) _ _; refine SW.st (st_field rfl) rfl ?_)
            | (show SW _ _ _ _ (⟨_, Op.nilCheck _, _, _, _, none⟩ :: _) _ _; refine SW.st (st_nilCheck rfl) rfl ?_)
            | (show SW _ _ _ _ (⟨_, Op.build _ _, _, _, _, none⟩ :: _) _ _; refine SW.st (st_build rfl rfl) rfl ?_)
            | (show SW _ _ _ _ (⟨_, Op.binOp _ _ _ _ _, _, _, _, none⟩ :: _) _ _; first | refine SW.st (st_add rfl rfl (by omega) (by omega)) rfl ?_ | refine SW.st (st_sub rfl rfl (by omega) (by omega)) rfl ?_ | refine SW.st (st_mul rfl rfl (by omega) (by omega)) rfl ?_ | refine SW.st (st_quo rfl rfl (by omega) (by omega) (by omega)) rfl ?_ | refine SW.st (st_rem rfl rfl (by omega)) rfl ?_)
            | (show SW _ _ _ _ (⟨_, Op.indexAddr _ _ _, _, _, _, none⟩ :: _) _ _; refine SW.st (st_indexN rfl rfl (by assumption) (by omega)) rfl ?_)
            | (show SW _ _ _ _ (⟨_, Op.call ⟨.builtin .len, _, _⟩, _, _, _, none⟩ :: _) _ _; refine SW.st (st_len rfl) rfl ?_)
            | (show SW _ _ _ _ (⟨_, Op.call ⟨.builtin .cap, _, _⟩, _, _, _, none⟩ :: _) _ _; refine SW.st (st_cap rfl) rfl ?_))
          refine CW.loop (fun t : Nat × Bool => [(1, .int .i64 (sz : Int)), (2, .int .i64 align), (4, .int .i64 high), (5, .bool down), (6, .pointer (some ⟨b, 0, none⟩)), (12, .pointer (some ⟨b12, 0, none⟩)), (15, .int .i64 best), (16, .int .i64 ((lo + k : Nat) : Int)), (17, .bool t.2), (18, .int .i64 ((lo + k + t.1 : Nat) : Int))])
            (fun t w' => t.1 ≤ sz ∧ Ext w w' ∧ Blk w' b 48 (bootCells A n c B m d) ∧ Blk w' b12 48 (bootCells none 0 0 none 0 0) ∧ (t.2 = true → ((lo : Int) + (k : Int)) % align = 0 ∧ ∀ i : Nat, lo + k ≤ i → i < lo + k + t.1 → freeP x y i = true) ∧ (t.2 = false → ¬ Fits (freeP x y) sz align lo high ((lo : Int) + (k : Int)))) (fun t => sz - t.1) (0, decide (((lo + k : Nat) : Int).tmod align = 0))
            ⟨rfl, rfl, rfl, rfl, rfl, rfl, rfl, rfl, rfl, rfl, trivial⟩ ⟨by omega, hw, hB, hb12, fun h => ⟨by rw [← em]; exact of_decide_eq_true h, fun i h1 h2 => by omega⟩, fun h hF => by have h1 := hF.mod; rw [← em] at h1; exact absurd h1 (of_decide_eq_false h)⟩ ?_
          clear hw hB hb12
          rintro ⟨j, o⟩ w' ⟨hj, hw, hB, hb12, hot, hof⟩
          simp only at hj hot hof ⊢
          by_cases hjn : j < sz ∧ o = true
          · obtain ⟨hjn, rfl⟩ := hjn
            obtain ⟨t1, t2⟩ := hot rfl
            obtain ⟨bx, hbx⟩ : ∃ b, inReg x ((lo + k + j : Nat) : Int) = b := ⟨_, rfl⟩
            obtain ⟨bY, hby⟩ : ∃ b, inReg y ((lo + k + j : Nat) : Int) = b := ⟨_, rfl⟩
            have l1 : ∀ w', Ext w w' → Ans Try.prog 90 [.slice A n c, .int .i64 ((lo + k + j : Nat) : Int)] w' fun v _ => v = .bool bx := fun w' h => by have := inRegions_ans A n c x ((lo + k + j : Nat) : Int) w' (hx.ext h) hxo (by omega); rwa [hbx] at this
            have l2 : ∀ w', Ext w w' → Ans Try.prog 90 [.slice B m d, .int .i64 ((lo + k + j : Nat) : Int)] w' fun v _ => v = .bool bY := fun w' h => by have := inRegions_ans B m d y ((lo + k + j : Nat) : Int) w' (hy.ext h) hyo (by omega); rwa [hby] at this
            have hfr : freeP x y (lo + k + j) = (bx && !bY) := by unfold freeP; rw [hbx, hby]
            cases bx <;> cases bY
            all_goals
              repeat' (first
                | (show CW _ _ _ _ _ _; first | refine CW.seq ?_ | refine CW.region ?_ | refine CW.block ?_ | refine CW.condtr rfl (by with_reducible rfl) ?_ | refine CW.condfr rfl (by with_reducible rfl) ?_ | refine CW.condd_t rfl (by omega) ?_ | refine CW.condd_f rfl (by omega) ?_ | refine CW.condn_t rfl (by omega) ?_ | refine CW.condn_f rfl (by omega) ?_ | refine CW.condd rfl (fun h => ?_) (fun h => ?_) | refine CW.condn rfl (fun h => ?_) (fun h => ?_) | refine CW.condt rfl ?_ | refine CW.condf rfl ?_ | refine CW.cond rfl (fun h => ?_) (fun h => ?_) | refine CW.skip ?_ | refine CW.ret ?_ | refine CW.exit ?_)
                | (show Post _ _ _ _ _; first | refine Post.seq ?_ | refine Post.seq_ret ?_ | refine Post.seq_exit ?_ | refine Post.hit ?_ | refine Post.pass rfl ?_ | refine Post.blk ?_ | refine Post.blk_ret ?_ | refine Post.again_exit ?_ | refine Post.again_ret ?_ | refine Post.np ?_)
                | refine SW.nil ?_
                | (show SW _ _ _ _ (⟨_, _, _, _, _, some _⟩ :: _) _ _; first | refine SW.want_t rfl rfl (by with_reducible rfl) ?_ | refine SW.want_f rfl rfl (by with_reducible rfl) ?_ | refine SW.skip_t rfl rfl (by with_reducible rfl) rfl ?_ | refine SW.skip_f rfl rfl (by with_reducible rfl) rfl ?_ | refine SW.skip_u rfl rfl (by with_reducible rfl) rfl ?_ | refine SW.splitd_t rfl rfl rfl (by omega) ?_ | refine SW.splitd_f rfl rfl rfl (by omega) ?_ | refine SW.splitn_t rfl rfl rfl (by omega) ?_ | refine SW.splitn_f rfl rfl rfl (by omega) ?_ | refine SW.splitd rfl rfl rfl (fun h => ?_) (fun h => ?_) | refine SW.splitn rfl rfl rfl (fun h => ?_) (fun h => ?_) | refine SW.want rfl rfl ?_ | refine SW.skip rfl rfl rfl rfl ?_ | refine SW.skipu rfl rfl rfl ?_ | refine SW.split rfl rfl rfl (fun h => ?_) (fun h => ?_))
                | refine SW.pure rfl rfl ?_
                | (show SW _ _ _ _ (⟨_, Op.fieldAddr _ _ _, _, _, _, none⟩ :: _) _ _; refine SW.st (st_field rfl) rfl ?_)
                | (show SW _ _ _ _ (⟨_, Op.nilCheck _, _, _, _, none⟩ :: _) _ _; refine SW.st (st_nilCheck rfl) rfl ?_)
                | (show SW _ _ _ _ (⟨_, Op.build _ _, _, _, _, none⟩ :: _) _ _; refine SW.st (st_build rfl rfl) rfl ?_)
                | (show SW _ _ _ _ (⟨_, Op.binOp _ _ _ _ _, _, _, _, none⟩ :: _) _ _; first | refine SW.st (st_add rfl rfl (by omega) (by omega)) rfl ?_ | refine SW.st (st_sub rfl rfl (by omega) (by omega)) rfl ?_ | refine SW.st (st_mul rfl rfl (by omega) (by omega)) rfl ?_ | refine SW.st (st_quo rfl rfl (by omega) (by omega) (by omega)) rfl ?_ | refine SW.st (st_rem rfl rfl (by omega)) rfl ?_)
                | (show SW _ _ _ _ (⟨_, Op.indexAddr _ _ _, _, _, _, none⟩ :: _) _ _; refine SW.st (st_indexN rfl rfl (by assumption) (by omega)) rfl ?_)
                | (show SW _ _ _ _ (⟨_, Op.call ⟨.builtin .len, _, _⟩, _, _, _, none⟩ :: _) _ _; refine SW.st (st_len rfl) rfl ?_)
                | (show SW _ _ _ _ (⟨_, Op.call ⟨.builtin .cap, _, _⟩, _, _, _, none⟩ :: _) _ _; refine SW.st (st_cap rfl) rfl ?_)
                | (show SW _ _ _ _ (⟨_, Op.load _ _, _, _, _, none⟩ :: _) _ _; first | refine SW.st (st_load rfl (hB.cell rfl)) rfl ?_ | refine SW.st (st_loadx hw rfl (hB.cell rfl)) rfl ?_)
                | (show SW _ _ _ _ (⟨_, Op.call ⟨.value (.func _), _, _⟩, _, _, _, none⟩ :: _) _ _; first | (refine SW.call rfl rfl (l1 _ hw) ?_; intro v w1 hw1 hv; subst hv; replace hw := Ext.trans hw hw1; replace hB := hB.ext hw1; replace hb12 := hb12.ext hw1; clear hw1) | (refine SW.call rfl rfl (l2 _ hw) ?_; intro v w1 hw1 hv; subst hv; replace hw := Ext.trans hw hw1; replace hB := hB.ext hw1; replace hb12 := hb12.ext hw1; clear hw1)))
              refine Post.again (j + 1, _) ⟨rfl, rfl, rfl, rfl, rfl, rfl, rfl, rfl, rfl, rfl, trivial⟩ (by simp only; omega) ⟨by simp only; omega, hw, hB, hb12, fun h => ?_, fun h hF => ?_⟩
              · first
                  | (cases h; done)
                  | (refine ⟨t1, fun i h1 h2 => ?_⟩
                     by_cases e : i = lo + k + j
                     · subst e; exact hfr
                     · exact t2 i h1 (by simp only at h2; omega))
              · first
                  | (cases h; done)
                  | (have := hF.all (lo + k + j) (by omega) (by omega)
                     rw [hfr] at this
                     cases this)
          · have hFi : o = true ↔ Fits (freeP x y) sz align lo high ((lo : Int) + (k : Int)) := by
              constructor
              · rintro rfl
                obtain ⟨t1, t2⟩ := hot rfl
                exact ⟨by omega, hkn, t1, fun i h1 h2 => t2 i (by omega) (by have : ¬ j < sz := fun h => hjn ⟨h, rfl⟩; omega)⟩
              · intro h
                cases o
                · exact absurd h (hof rfl)
                · rfl
            cases o
            · have hnF : ¬ Fits (freeP x y) sz align lo high ((lo : Int) + (k : Int)) := hof rfl
              by_cases hjs : j < sz
              all_goals
                repeat' (first
                  | (show CW _ _ _ _ _ _; first | refine CW.seq ?_ | refine CW.region ?_ | refine CW.block ?_ | refine CW.condtr rfl (by with_reducible rfl) ?_ | refine CW.condfr rfl (by with_reducible rfl) ?_ | refine CW.condd_t rfl (by omega) ?_ | refine CW.condd_f rfl (by omega) ?_ | refine CW.condn_t rfl (by omega) ?_ | refine CW.condn_f rfl (by omega) ?_ | refine CW.condd rfl (fun h => ?_) (fun h => ?_) | refine CW.condn rfl (fun h => ?_) (fun h => ?_) | refine CW.condt rfl ?_ | refine CW.condf rfl ?_ | refine CW.cond rfl (fun h => ?_) (fun h => ?_) | refine CW.skip ?_ | refine CW.ret ?_ | refine CW.exit ?_)
                  | (show Post _ _ _ _ _; first | refine Post.seq ?_ | refine Post.seq_ret ?_ | refine Post.seq_exit ?_ | refine Post.hit ?_ | refine Post.pass rfl ?_ | refine Post.blk ?_ | refine Post.blk_ret ?_ | refine Post.again_exit ?_ | refine Post.again_ret ?_ | refine Post.np ?_)
                  | refine SW.nil ?_
                  | (show SW _ _ _ _ (⟨_, _, _, _, _, some _⟩ :: _) _ _; first | refine SW.want_t rfl rfl (by with_reducible rfl) ?_ | refine SW.want_f rfl rfl (by with_reducible rfl) ?_ | refine SW.skip_t rfl rfl (by with_reducible rfl) rfl ?_ | refine SW.skip_f rfl rfl (by with_reducible rfl) rfl ?_ | refine SW.skip_u rfl rfl (by with_reducible rfl) rfl ?_ | refine SW.splitd_t rfl rfl rfl (by omega) ?_ | refine SW.splitd_f rfl rfl rfl (by omega) ?_ | refine SW.splitn_t rfl rfl rfl (by omega) ?_ | refine SW.splitn_f rfl rfl rfl (by omega) ?_ | refine SW.splitd rfl rfl rfl (fun h => ?_) (fun h => ?_) | refine SW.splitn rfl rfl rfl (fun h => ?_) (fun h => ?_) | refine SW.want rfl rfl ?_ | refine SW.skip rfl rfl rfl rfl ?_ | refine SW.skipu rfl rfl rfl ?_ | refine SW.split rfl rfl rfl (fun h => ?_) (fun h => ?_))
                  | refine SW.pure rfl rfl ?_
                  | (show SW _ _ _ _ (⟨_, Op.fieldAddr _ _ _, _, _, _, none⟩ :: _) _ _; refine SW.st (st_field rfl) rfl ?_)
                  | (show SW _ _ _ _ (⟨_, Op.nilCheck _, _, _, _, none⟩ :: _) _ _; refine SW.st (st_nilCheck rfl) rfl ?_)
                  | (show SW _ _ _ _ (⟨_, Op.build _ _, _, _, _, none⟩ :: _) _ _; refine SW.st (st_build rfl rfl) rfl ?_)
                  | (show SW _ _ _ _ (⟨_, Op.binOp _ _ _ _ _, _, _, _, none⟩ :: _) _ _; first | refine SW.st (st_add rfl rfl (by omega) (by omega)) rfl ?_ | refine SW.st (st_sub rfl rfl (by omega) (by omega)) rfl ?_ | refine SW.st (st_mul rfl rfl (by omega) (by omega)) rfl ?_ | refine SW.st (st_quo rfl rfl (by omega) (by omega) (by omega)) rfl ?_ | refine SW.st (st_rem rfl rfl (by omega)) rfl ?_)
                  | (show SW _ _ _ _ (⟨_, Op.indexAddr _ _ _, _, _, _, none⟩ :: _) _ _; refine SW.st (st_indexN rfl rfl (by assumption) (by omega)) rfl ?_)
                  | (show SW _ _ _ _ (⟨_, Op.call ⟨.builtin .len, _, _⟩, _, _, _, none⟩ :: _) _ _; refine SW.st (st_len rfl) rfl ?_)
                  | (show SW _ _ _ _ (⟨_, Op.call ⟨.builtin .cap, _, _⟩, _, _, _, none⟩ :: _) _ _; refine SW.st (st_cap rfl) rfl ?_))
                exact Post.again (k + 1, best) ⟨rfl, rfl, rfl, rfl, rfl, rfl, rfl, rfl, trivial⟩ (by simp only; omega) ⟨by simp only; omega, hw, hB, hb12, hstep.2 (.inl hnF)⟩
            · have hF := hFi.1 rfl
              have hjs : ¬ j < sz := fun h => hjn ⟨h, rfl⟩
              have e0 : ((lo + k : Nat) : Int) = (lo : Int) + (k : Int) := by omega
              cases down
              · by_cases hneg : best < 0
                · repeat' (first
                    | (show CW _ _ _ _ _ _; first | refine CW.seq ?_ | refine CW.region ?_ | refine CW.block ?_ | refine CW.condtr rfl (by with_reducible rfl) ?_ | refine CW.condfr rfl (by with_reducible rfl) ?_ | refine CW.condd_t rfl (by omega) ?_ | refine CW.condd_f rfl (by omega) ?_ | refine CW.condn_t rfl (by omega) ?_ | refine CW.condn_f rfl (by omega) ?_ | refine CW.condd rfl (fun h => ?_) (fun h => ?_) | refine CW.condn rfl (fun h => ?_) (fun h => ?_) | refine CW.condt rfl ?_ | refine CW.condf rfl ?_ | refine CW.cond rfl (fun h => ?_) (fun h => ?_) | refine CW.skip ?_ | refine CW.ret ?_ | refine CW.exit ?_)
                    | (show Post _ _ _ _ _; first | refine Post.seq ?_ | refine Post.seq_ret ?_ | refine Post.seq_exit ?_ | refine Post.hit ?_ | refine Post.pass rfl ?_ | refine Post.blk ?_ | refine Post.blk_ret ?_ | refine Post.again_exit ?_ | refine Post.again_ret ?_ | refine Post.np ?_)
                    | refine SW.nil ?_
                    | (show SW _ _ _ _ (⟨_, _, _, _, _, some _⟩ :: _) _ _; first | refine SW.want_t rfl rfl (by with_reducible rfl) ?_ | refine SW.want_f rfl rfl (by with_reducible rfl) ?_ | refine SW.skip_t rfl rfl (by with_reducible rfl) rfl ?_ | refine SW.skip_f rfl rfl (by with_reducible rfl) rfl ?_ | refine SW.skip_u rfl rfl (by with_reducible rfl) rfl ?_ | refine SW.splitd_t rfl rfl rfl (by omega) ?_ | refine SW.splitd_f rfl rfl rfl (by omega) ?_ | refine SW.splitn_t rfl rfl rfl (by omega) ?_ | refine SW.splitn_f rfl rfl rfl (by omega) ?_ | refine SW.splitd rfl rfl rfl (fun h => ?_) (fun h => ?_) | refine SW.splitn rfl rfl rfl (fun h => ?_) (fun h => ?_) | refine SW.want rfl rfl ?_ | refine SW.skip rfl rfl rfl rfl ?_ | refine SW.skipu rfl rfl rfl ?_ | refine SW.split rfl rfl rfl (fun h => ?_) (fun h => ?_))
                    | refine SW.pure rfl rfl ?_
                    | (show SW _ _ _ _ (⟨_, Op.fieldAddr _ _ _, _, _, _, none⟩ :: _) _ _; refine SW.st (st_field rfl) rfl ?_)
                    | (show SW _ _ _ _ (⟨_, Op.nilCheck _, _, _, _, none⟩ :: _) _ _; refine SW.st (st_nilCheck rfl) rfl ?_)
                    | (show SW _ _ _ _ (⟨_, Op.build _ _, _, _, _, none⟩ :: _) _ _; refine SW.st (st_build rfl rfl) rfl ?_)
                    | (show SW _ _ _ _ (⟨_, Op.binOp _ _ _ _ _, _, _, _, none⟩ :: _) _ _; first | refine SW.st (st_add rfl rfl (by omega) (by omega)) rfl ?_ | refine SW.st (st_sub rfl rfl (by omega) (by omega)) rfl ?_ | refine SW.st (st_mul rfl rfl (by omega) (by omega)) rfl ?_ | refine SW.st (st_quo rfl rfl (by omega) (by omega) (by omega)) rfl ?_ | refine SW.st (st_rem rfl rfl (by omega)) rfl ?_)
                    | (show SW _ _ _ _ (⟨_, Op.indexAddr _ _ _, _, _, _, none⟩ :: _) _ _; refine SW.st (st_indexN rfl rfl (by assumption) (by omega)) rfl ?_)
                    | (show SW _ _ _ _ (⟨_, Op.call ⟨.builtin .len, _, _⟩, _, _, _, none⟩ :: _) _ _; refine SW.st (st_len rfl) rfl ?_)
                    | (show SW _ _ _ _ (⟨_, Op.call ⟨.builtin .cap, _, _⟩, _, _, _, none⟩ :: _) _ _; refine SW.st (st_cap rfl) rfl ?_))
                  exact Post.again (k + 1, ((lo + k : Nat) : Int)) ⟨rfl, rfl, rfl, rfl, rfl, rfl, rfl, rfl, trivial⟩ (by simp only; omega) ⟨by simp only; omega, hw, hB, hb12, by simp only; rw [e0]; exact hstep.1 hF (.inl hneg)⟩
                · repeat' (first
                    | (show CW _ _ _ _ _ _; first | refine CW.seq ?_ | refine CW.region ?_ | refine CW.block ?_ | refine CW.condtr rfl (by with_reducible rfl) ?_ | refine CW.condfr rfl (by with_reducible rfl) ?_ | refine CW.condd_t rfl (by omega) ?_ | refine CW.condd_f rfl (by omega) ?_ | refine CW.condn_t rfl (by omega) ?_ | refine CW.condn_f rfl (by omega) ?_ | refine CW.condd rfl (fun h => ?_) (fun h => ?_) | refine CW.condn rfl (fun h => ?_) (fun h => ?_) | refine CW.condt rfl ?_ | refine CW.condf rfl ?_ | refine CW.cond rfl (fun h => ?_) (fun h => ?_) | refine CW.skip ?_ | refine CW.ret ?_ | refine CW.exit ?_)
                    | (show Post _ _ _ _ _; first | refine Post.seq ?_ | refine Post.seq_ret ?_ | refine Post.seq_exit ?_ | refine Post.hit ?_ | refine Post.pass rfl ?_ | refine Post.blk ?_ | refine Post.blk_ret ?_ | refine Post.again_exit ?_ | refine Post.again_ret ?_ | refine Post.np ?_)
                    | refine SW.nil ?_
                    | (show SW _ _ _ _ (⟨_, _, _, _, _, some _⟩ :: _) _ _; first | refine SW.want_t rfl rfl (by with_reducible rfl) ?_ | refine SW.want_f rfl rfl (by with_reducible rfl) ?_ | refine SW.skip_t rfl rfl (by with_reducible rfl) rfl ?_ | refine SW.skip_f rfl rfl (by with_reducible rfl) rfl ?_ | refine SW.skip_u rfl rfl (by with_reducible rfl) rfl ?_ | refine SW.splitd_t rfl rfl rfl (by omega) ?_ | refine SW.splitd_f rfl rfl rfl (by omega) ?_ | refine SW.splitn_t rfl rfl rfl (by omega) ?_ | refine SW.splitn_f rfl rfl rfl (by omega) ?_ | refine SW.splitd rfl rfl rfl (fun h => ?_) (fun h => ?_) | refine SW.splitn rfl rfl rfl (fun h => ?_) (fun h => ?_) | refine SW.want rfl rfl ?_ | refine SW.skip rfl rfl rfl rfl ?_ | refine SW.skipu rfl rfl rfl ?_ | refine SW.split rfl rfl rfl (fun h => ?_) (fun h => ?_))
                    | refine SW.pure rfl rfl ?_
                    | (show SW _ _ _ _ (⟨_, Op.fieldAddr _ _ _, _, _, _, none⟩ :: _) _ _; refine SW.st (st_field rfl) rfl ?_)
                    | (show SW _ _ _ _ (⟨_, Op.nilCheck _, _, _, _, none⟩ :: _) _ _; refine SW.st (st_nilCheck rfl) rfl ?_)
                    | (show SW _ _ _ _ (⟨_, Op.build _ _, _, _, _, none⟩ :: _) _ _; refine SW.st (st_build rfl rfl) rfl ?_)
                    | (show SW _ _ _ _ (⟨_, Op.binOp _ _ _ _ _, _, _, _, none⟩ :: _) _ _; first | refine SW.st (st_add rfl rfl (by omega) (by omega)) rfl ?_ | refine SW.st (st_sub rfl rfl (by omega) (by omega)) rfl ?_ | refine SW.st (st_mul rfl rfl (by omega) (by omega)) rfl ?_ | refine SW.st (st_quo rfl rfl (by omega) (by omega) (by omega)) rfl ?_ | refine SW.st (st_rem rfl rfl (by omega)) rfl ?_)
                    | (show SW _ _ _ _ (⟨_, Op.indexAddr _ _ _, _, _, _, none⟩ :: _) _ _; refine SW.st (st_indexN rfl rfl (by assumption) (by omega)) rfl ?_)
                    | (show SW _ _ _ _ (⟨_, Op.call ⟨.builtin .len, _, _⟩, _, _, _, none⟩ :: _) _ _; refine SW.st (st_len rfl) rfl ?_)
                    | (show SW _ _ _ _ (⟨_, Op.call ⟨.builtin .cap, _, _⟩, _, _, _, none⟩ :: _) _ _; refine SW.st (st_cap rfl) rfl ?_))
                  exact Post.again (k + 1, best) ⟨rfl, rfl, rfl, rfl, rfl, rfl, rfl, rfl, trivial⟩ (by simp only; omega) ⟨by simp only; omega, hw, hB, hb12, hstep.2 (.inr ⟨by omega, rfl⟩)⟩
              · by_cases hneg : best < 0
                all_goals
                  repeat' (first
                    | (show CW _ _ _ _ _ _; first | refine CW.seq ?_ | refine CW.region ?_ | refine CW.block ?_ | refine CW.condtr rfl (by with_reducible rfl) ?_ | refine CW.condfr rfl (by with_reducible rfl) ?_ | refine CW.condd_t rfl (by omega) ?_ | refine CW.condd_f rfl (by omega) ?_ | refine CW.condn_t rfl (by omega) ?_ | refine CW.condn_f rfl (by omega) ?_ | refine CW.condd rfl (fun h => ?_) (fun h => ?_) | refine CW.condn rfl (fun h => ?_) (fun h => ?_) | refine CW.condt rfl ?_ | refine CW.condf rfl ?_ | refine CW.cond rfl (fun h => ?_) (fun h => ?_) | refine CW.skip ?_ | refine CW.ret ?_ | refine CW.exit ?_)
                    | (show Post _ _ _ _ _; first | refine Post.seq ?_ | refine Post.seq_ret ?_ | refine Post.seq_exit ?_ | refine Post.hit ?_ | refine Post.pass rfl ?_ | refine Post.blk ?_ | refine Post.blk_ret ?_ | refine Post.again_exit ?_ | refine Post.again_ret ?_ | refine Post.np ?_)
                    | refine SW.nil ?_
                    | (show SW _ _ _ _ (⟨_, _, _, _, _, some _⟩ :: _) _ _; first | refine SW.want_t rfl rfl (by with_reducible rfl) ?_ | refine SW.want_f rfl rfl (by with_reducible rfl) ?_ | refine SW.skip_t rfl rfl (by with_reducible rfl) rfl ?_ | refine SW.skip_f rfl rfl (by with_reducible rfl) rfl ?_ | refine SW.skip_u rfl rfl (by with_reducible rfl) rfl ?_ | refine SW.splitd_t rfl rfl rfl (by omega) ?_ | refine SW.splitd_f rfl rfl rfl (by omega) ?_ | refine SW.splitn_t rfl rfl rfl (by omega) ?_ | refine SW.splitn_f rfl rfl rfl (by omega) ?_ | refine SW.splitd rfl rfl rfl (fun h => ?_) (fun h => ?_) | refine SW.splitn rfl rfl rfl (fun h => ?_) (fun h => ?_) | refine SW.want rfl rfl ?_ | refine SW.skip rfl rfl rfl rfl ?_ | refine SW.skipu rfl rfl rfl ?_ | refine SW.split rfl rfl rfl (fun h => ?_) (fun h => ?_))
                    | refine SW.pure rfl rfl ?_
                    | (show SW _ _ _ _ (⟨_, Op.fieldAddr _ _ _, _, _, _, none⟩ :: _) _ _; refine SW.st (st_field rfl) rfl ?_)
                    | (show SW _ _ _ _ (⟨_, Op.nilCheck _, _, _, _, none⟩ :: _) _ _; refine SW.st (st_nilCheck rfl) rfl ?_)
                    | (show SW _ _ _ _ (⟨_, Op.build _ _, _, _, _, none⟩ :: _) _ _; refine SW.st (st_build rfl rfl) rfl ?_)
                    | (show SW _ _ _ _ (⟨_, Op.binOp _ _ _ _ _, _, _, _, none⟩ :: _) _ _; first | refine SW.st (st_add rfl rfl (by omega) (by omega)) rfl ?_ | refine SW.st (st_sub rfl rfl (by omega) (by omega)) rfl ?_ | refine SW.st (st_mul rfl rfl (by omega) (by omega)) rfl ?_ | refine SW.st (st_quo rfl rfl (by omega) (by omega) (by omega)) rfl ?_ | refine SW.st (st_rem rfl rfl (by omega)) rfl ?_)
                    | (show SW _ _ _ _ (⟨_, Op.indexAddr _ _ _, _, _, _, none⟩ :: _) _ _; refine SW.st (st_indexN rfl rfl (by assumption) (by omega)) rfl ?_)
                    | (show SW _ _ _ _ (⟨_, Op.call ⟨.builtin .len, _, _⟩, _, _, _, none⟩ :: _) _ _; refine SW.st (st_len rfl) rfl ?_)
                    | (show SW _ _ _ _ (⟨_, Op.call ⟨.builtin .cap, _, _⟩, _, _, _, none⟩ :: _) _ _; refine SW.st (st_cap rfl) rfl ?_))
                  exact Post.again (k + 1, ((lo + k : Nat) : Int)) ⟨rfl, rfl, rfl, rfl, rfl, rfl, rfl, rfl, trivial⟩ (by simp only; omega) ⟨by simp only; omega, hw, hB, hb12, by simp only; rw [e0]; exact hstep.1 hF (.inr rfl)⟩
        · repeat' (first
            | (show CW _ _ _ _ _ _; first | refine CW.seq ?_ | refine CW.region ?_ | refine CW.block ?_ | refine CW.condtr rfl (by with_reducible rfl) ?_ | refine CW.condfr rfl (by with_reducible rfl) ?_ | refine CW.condd_t rfl (by omega) ?_ | refine CW.condd_f rfl (by omega) ?_ | refine CW.condn_t rfl (by omega) ?_ | refine CW.condn_f rfl (by omega) ?_ | refine CW.condd rfl (fun h => ?_) (fun h => ?_) | refine CW.condn rfl (fun h => ?_) (fun h => ?_) | refine CW.condt rfl ?_ | refine CW.condf rfl ?_ | refine CW.cond rfl (fun h => ?_) (fun h => ?_) | refine CW.skip ?_ | refine CW.ret ?_ | refine CW.exit ?_)
            | (show Post _ _ _ _ _; first | refine Post.seq ?_ | refine Post.seq_ret ?_ | refine Post.seq_exit ?_ | refine Post.hit ?_ | refine Post.pass rfl ?_ | refine Post.blk ?_ | refine Post.blk_ret ?_ | refine Post.again_exit ?_ | refine Post.again_ret ?_ | refine Post.np ?_)
            | refine SW.nil ?_
            | (show SW _ _ _ _ (⟨_, _, _, _, _, some _⟩ :: _) _ _; first | refine SW.want_t rfl rfl (by with_reducible rfl) ?_ | refine SW.want_f rfl rfl (by with_reducible rfl) ?_ | refine SW.skip_t rfl rfl (by with_reducible rfl) rfl ?_ | refine SW.skip_f rfl rfl (by with_reducible rfl) rfl ?_ | refine SW.skip_u rfl rfl (by with_reducible rfl) rfl ?_ | refine SW.splitd_t rfl rfl rfl (by omega) ?_ | refine SW.splitd_f rfl rfl rfl (by omega) ?_ | refine SW.splitn_t rfl rfl rfl (by omega) ?_ | refine SW.splitn_f rfl rfl rfl (by omega) ?_ | refine SW.splitd rfl rfl rfl (fun h => ?_) (fun h => ?_) | refine SW.splitn rfl rfl rfl (fun h => ?_) (fun h => ?_) | refine SW.want rfl rfl ?_ | refine SW.skip rfl rfl rfl rfl ?_ | refine SW.skipu rfl rfl rfl ?_ | refine SW.split rfl rfl rfl (fun h => ?_) (fun h => ?_))
            | refine SW.pure rfl rfl ?_
            | (show SW _ _ _ _ (⟨_, Op.fieldAddr _ _ _, _, _, _, none⟩ :: _) _ _; refine SW.st (st_field rfl) rfl ?_)
            | (show SW _ _ _ _ (⟨_, Op.nilCheck _, _, _, _, none⟩ :: _) _ _; refine SW.st (st_nilCheck rfl) rfl ?_)
            | (show SW _ _ _ _ (⟨_, Op.build _ _, _, _, _, none⟩ :: _) _ _; refine SW.st (st_build rfl rfl) rfl ?_)
            | (show SW _ _ _ _ (⟨_, Op.binOp _ _ _ _ _, _, _, _, none⟩ :: _) _ _; first | refine SW.st (st_add rfl rfl (by omega) (by omega)) rfl ?_ | refine SW.st (st_sub rfl rfl (by omega) (by omega)) rfl ?_ | refine SW.st (st_mul rfl rfl (by omega) (by omega)) rfl ?_ | refine SW.st (st_quo rfl rfl (by omega) (by omega) (by omega)) rfl ?_ | refine SW.st (st_rem rfl rfl (by omega)) rfl ?_)
            | (show SW _ _ _ _ (⟨_, Op.indexAddr _ _ _, _, _, _, none⟩ :: _) _ _; refine SW.st (st_indexN rfl rfl (by assumption) (by omega)) rfl ?_)
            | (show SW _ _ _ _ (⟨_, Op.call ⟨.builtin .len, _, _⟩, _, _, _, none⟩ :: _) _ _; refine SW.st (st_len rfl) rfl ?_)
            | (show SW _ _ _ _ (⟨_, Op.call ⟨.builtin .cap, _, _⟩, _, _, _, none⟩ :: _) _ _; refine SW.st (st_cap rfl) rfl ?_))
          exact Post.cutn (K := K) (by rw [hK]; exact ⟨best, ⟨rfl, rfl, rfl, rfl, trivial⟩, hw, hB, hb12, hbest.congr (fun a => ⟨fun h => h.1, fun h => ⟨h, by have := h.high; omega⟩⟩)⟩)
      · clear hw hB hb12
        subst hK
        rintro L' w' ⟨best, hsub, hw, hB, hb12, hbest⟩
        refine Post.sub hsub ?_
        have hbe := bestOf_eq hbest
        by_cases hneg : best < 0
        · rw [allocV_6 hq hargs hbe hneg]
          repeat' (first
            | (show CW _ _ _ _ _ _; first | refine CW.seq ?_ | refine CW.region ?_ | refine CW.block ?_ | refine CW.condtr rfl (by with_reducible rfl) ?_ | refine CW.condfr rfl (by with_reducible rfl) ?_ | refine CW.condd_t rfl (by omega) ?_ | refine CW.condd_f rfl (by omega) ?_ | refine CW.condn_t rfl (by omega) ?_ | refine CW.condn_f rfl (by omega) ?_ | refine CW.condd rfl (fun h => ?_) (fun h => ?_) | refine CW.condn rfl (fun h => ?_) (fun h => ?_) | refine CW.condt rfl ?_ | refine CW.condf rfl ?_ | refine CW.cond rfl (fun h => ?_) (fun h => ?_) | refine CW.skip ?_ | refine CW.ret ?_ | refine CW.exit ?_)
            | (show Post _ _ _ _ _; first | refine Post.seq ?_ | refine Post.seq_ret ?_ | refine Post.seq_exit ?_ | refine Post.hit ?_ | refine Post.pass rfl ?_ | refine Post.blk ?_ | refine Post.blk_ret ?_ | refine Post.again_exit ?_ | refine Post.again_ret ?_ | refine Post.np ?_)
            | refine SW.nil ?_
            | (show SW _ _ _ _ (⟨_, _, _, _, _, some _⟩ :: _) _ _; first | refine SW.want_t rfl rfl (by with_reducible rfl) ?_ | refine SW.want_f rfl rfl (by with_reducible rfl) ?_ | refine SW.skip_t rfl rfl (by with_reducible rfl) rfl ?_ | refine SW.skip_f rfl rfl (by with_reducible rfl) rfl ?_ | refine SW.skip_u rfl rfl (by with_reducible rfl) rfl ?_ | refine SW.splitd_t rfl rfl rfl (by omega) ?_ | refine SW.splitd_f rfl rfl rfl (by omega) ?_ | refine SW.splitn_t rfl rfl rfl (by omega) ?_ | refine SW.splitn_f rfl rfl rfl (by omega) ?_ | refine SW.splitd rfl rfl rfl (fun h => ?_) (fun h => ?_) | refine SW.splitn rfl rfl rfl (fun h => ?_) (fun h => ?_) | refine SW.want rfl rfl ?_ | refine SW.skip rfl rfl rfl rfl ?_ | refine SW.skipu rfl rfl rfl ?_ | refine SW.split rfl rfl rfl (fun h => ?_) (fun h => ?_))
            | refine SW.pure rfl rfl ?_
            | (show SW _ _ _ _ (⟨_, Op.fieldAddr _ _ _, _, _, _, none⟩ :: _) _ _; refine SW.st (st_field rfl) rfl ?_)
            | (show SW _ _ _ _ (⟨_, Op.nilCheck _, _, _, _, none⟩ :: _) _ _; refine SW.st (st_nilCheck rfl) rfl ?_)
            | (show SW _ _ _ _ (⟨_, Op.build _ _, _, _, _, none⟩ :: _) _ _; refine SW.st (st_build rfl rfl) rfl ?_)
            | (show SW _ _ _ _ (⟨_, Op.binOp _ _ _ _ _, _, _, _, none⟩ :: _) _ _; first | refine SW.st (st_add rfl rfl (by omega) (by omega)) rfl ?_ | refine SW.st (st_sub rfl rfl (by omega) (by omega)) rfl ?_ | refine SW.st (st_mul rfl rfl (by omega) (by omega)) rfl ?_ | refine SW.st (st_quo rfl rfl (by omega) (by omega) (by omega)) rfl ?_ | refine SW.st (st_rem rfl rfl (by omega)) rfl ?_)
            | (show SW _ _ _ _ (⟨_, Op.indexAddr _ _ _, _, _, _, none⟩ :: _) _ _; refine SW.st (st_indexN rfl rfl (by assumption) (by omega)) rfl ?_)
            | (show SW _ _ _ _ (⟨_, Op.call ⟨.builtin .len, _, _⟩, _, _, _, none⟩ :: _) _ _; refine SW.st (st_len rfl) rfl ?_)
            | (show SW _ _ _ _ (⟨_, Op.call ⟨.builtin .cap, _, _⟩, _, _, _, none⟩ :: _) _ _; refine SW.st (st_cap rfl) rfl ?_))
          refine SW.storeAgg hb12 rfl rfl rfl rfl (one_boot none 0 0 none 0 0) fun w5 hR2 hg => ?_
          replace hw := hw.own hb12w hg
          repeat' (first
            | (show CW _ _ _ _ _ _; first | refine CW.seq ?_ | refine CW.region ?_ | refine CW.block ?_ | refine CW.condtr rfl (by with_reducible rfl) ?_ | refine CW.condfr rfl (by with_reducible rfl) ?_ | refine CW.condd_t rfl (by omega) ?_ | refine CW.condd_f rfl (by omega) ?_ | refine CW.condn_t rfl (by omega) ?_ | refine CW.condn_f rfl (by omega) ?_ | refine CW.condd rfl (fun h => ?_) (fun h => ?_) | refine CW.condn rfl (fun h => ?_) (fun h => ?_) | refine CW.condt rfl ?_ | refine CW.condf rfl ?_ | refine CW.cond rfl (fun h => ?_) (fun h => ?_) | refine CW.skip ?_ | refine CW.ret ?_ | refine CW.exit ?_)
            | (show Post _ _ _ _ _; first | refine Post.seq ?_ | refine Post.seq_ret ?_ | refine Post.seq_exit ?_ | refine Post.hit ?_ | refine Post.pass rfl ?_ | refine Post.blk ?_ | refine Post.blk_ret ?_ | refine Post.again_exit ?_ | refine Post.again_ret ?_ | refine Post.np ?_)
            | refine SW.nil ?_
            | (show SW _ _ _ _ (⟨_, _, _, _, _, some _⟩ :: _) _ _; first | refine SW.want_t rfl rfl (by with_reducible rfl) ?_ | refine SW.want_f rfl rfl (by with_reducible rfl) ?_ | refine SW.skip_t rfl rfl (by with_reducible rfl) rfl ?_ | refine SW.skip_f rfl rfl (by with_reducible rfl) rfl ?_ | refine SW.skip_u rfl rfl (by with_reducible rfl) rfl ?_ | refine SW.splitd_t rfl rfl rfl (by omega) ?_ | refine SW.splitd_f rfl rfl rfl (by omega) ?_ | refine SW.splitn_t rfl rfl rfl (by omega) ?_ | refine SW.splitn_f rfl rfl rfl (by omega) ?_ | refine SW.splitd rfl rfl rfl (fun h => ?_) (fun h => ?_) | refine SW.splitn rfl rfl rfl (fun h => ?_) (fun h => ?_) | refine SW.want rfl rfl ?_ | refine SW.skip rfl rfl rfl rfl ?_ | refine SW.skipu rfl rfl rfl ?_ | refine SW.split rfl rfl rfl (fun h => ?_) (fun h => ?_))
            | refine SW.pure rfl rfl ?_
            | (show SW _ _ _ _ (⟨_, Op.fieldAddr _ _ _, _, _, _, none⟩ :: _) _ _; refine SW.st (st_field rfl) rfl ?_)
            | (show SW _ _ _ _ (⟨_, Op.nilCheck _, _, _, _, none⟩ :: _) _ _; refine SW.st (st_nilCheck rfl) rfl ?_)
            | (show SW _ _ _ _ (⟨_, Op.build _ _, _, _, _, none⟩ :: _) _ _; refine SW.st (st_build rfl rfl) rfl ?_)
            | (show SW _ _ _ _ (⟨_, Op.binOp _ _ _ _ _, _, _, _, none⟩ :: _) _ _; first | refine SW.st (st_add rfl rfl (by omega) (by omega)) rfl ?_ | refine SW.st (st_sub rfl rfl (by omega) (by omega)) rfl ?_ | refine SW.st (st_mul rfl rfl (by omega) (by omega)) rfl ?_ | refine SW.st (st_quo rfl rfl (by omega) (by omega) (by omega)) rfl ?_ | refine SW.st (st_rem rfl rfl (by omega)) rfl ?_)
            | (show SW _ _ _ _ (⟨_, Op.indexAddr _ _ _, _, _, _, none⟩ :: _) _ _; refine SW.st (st_indexN rfl rfl (by assumption) (by omega)) rfl ?_)
            | (show SW _ _ _ _ (⟨_, Op.call ⟨.builtin .len, _, _⟩, _, _, _, none⟩ :: _) _ _; refine SW.st (st_len rfl) rfl ?_)
            | (show SW _ _ _ _ (⟨_, Op.call ⟨.builtin .cap, _, _⟩, _, _, _, none⟩ :: _) _ _; refine SW.st (st_cap rfl) rfl ?_))
          exact Post.ret3c rfl rfl rfl rfl hR2 rfl ⟨_, rfl, hw, _, rfl, BootIs.nil _ _⟩
        · obtain ⟨o, ho⟩ : ∃ o, changeV N x y ⟨best, sz⟩ true true = o := ⟨_, rfl⟩
          rw [allocV_0 hq hargs hbe hneg ho]
          repeat' (first
            | (show CW _ _ _ _ _ _; first | refine CW.seq ?_ | refine CW.region ?_ | refine CW.block ?_ | refine CW.condtr rfl (by with_reducible rfl) ?_ | refine CW.condfr rfl (by with_reducible rfl) ?_ | refine CW.condd_t rfl (by omega) ?_ | refine CW.condd_f rfl (by omega) ?_ | refine CW.condn_t rfl (by omega) ?_ | refine CW.condn_f rfl (by omega) ?_ | refine CW.condd rfl (fun h => ?_) (fun h => ?_) | refine CW.condn rfl (fun h => ?_) (fun h => ?_) | refine CW.condt rfl ?_ | refine CW.condf rfl ?_ | refine CW.cond rfl (fun h => ?_) (fun h => ?_) | refine CW.skip ?_ | refine CW.ret ?_ | refine CW.exit ?_)
            | (show Post _ _ _ _ _; first | refine Post.seq ?_ | refine Post.seq_ret ?_ | refine Post.seq_exit ?_ | refine Post.hit ?_ | refine Post.pass rfl ?_ | refine Post.blk ?_ | refine Post.blk_ret ?_ | refine Post.again_exit ?_ | refine Post.again_ret ?_ | refine Post.np ?_)
            | refine SW.nil ?_
            | (show SW _ _ _ _ (⟨_, _, _, _, _, some _⟩ :: _) _ _; first | refine SW.want_t rfl rfl (by with_reducible rfl) ?_ | refine SW.want_f rfl rfl (by with_reducible rfl) ?_ | refine SW.skip_t rfl rfl (by with_reducible rfl) rfl ?_ | refine SW.skip_f rfl rfl (by with_reducible rfl) rfl ?_ | refine SW.skip_u rfl rfl (by with_reducible rfl) rfl ?_ | refine SW.splitd_t rfl rfl rfl (by omega) ?_ | refine SW.splitd_f rfl rfl rfl (by omega) ?_ | refine SW.splitn_t rfl rfl rfl (by omega) ?_ | refine SW.splitn_f rfl rfl rfl (by omega) ?_ | refine SW.splitd rfl rfl rfl (fun h => ?_) (fun h => ?_) | refine SW.splitn rfl rfl rfl (fun h => ?_) (fun h => ?_) | refine SW.want rfl rfl ?_ | refine SW.skip rfl rfl rfl rfl ?_ | refine SW.skipu rfl rfl rfl ?_ | refine SW.split rfl rfl rfl (fun h => ?_) (fun h => ?_))
            | refine SW.pure rfl rfl ?_
            | (show SW _ _ _ _ (⟨_, Op.fieldAddr _ _ _, _, _, _, none⟩ :: _) _ _; refine SW.st (st_field rfl) rfl ?_)
            | (show SW _ _ _ _ (⟨_, Op.nilCheck _, _, _, _, none⟩ :: _) _ _; refine SW.st (st_nilCheck rfl) rfl ?_)
            | (show SW _ _ _ _ (⟨_, Op.build _ _, _, _, _, none⟩ :: _) _ _; refine SW.st (st_build rfl rfl) rfl ?_)
            | (show SW _ _ _ _ (⟨_, Op.binOp _ _ _ _ _, _, _, _, none⟩ :: _) _ _; first | refine SW.st (st_add rfl rfl (by omega) (by omega)) rfl ?_ | refine SW.st (st_sub rfl rfl (by omega) (by omega)) rfl ?_ | refine SW.st (st_mul rfl rfl (by omega) (by omega)) rfl ?_ | refine SW.st (st_quo rfl rfl (by omega) (by omega) (by omega)) rfl ?_ | refine SW.st (st_rem rfl rfl (by omega)) rfl ?_)
            | (show SW _ _ _ _ (⟨_, Op.indexAddr _ _ _, _, _, _, none⟩ :: _) _ _; refine SW.st (st_indexN rfl rfl (by assumption) (by omega)) rfl ?_)
            | (show SW _ _ _ _ (⟨_, Op.call ⟨.builtin .len, _, _⟩, _, _, _, none⟩ :: _) _ _; refine SW.st (st_len rfl) rfl ?_)
            | (show SW _ _ _ _ (⟨_, Op.call ⟨.builtin .cap, _, _⟩, _, _, _, none⟩ :: _) _ _; refine SW.st (st_cap rfl) rfl ?_)
            | (show SW _ _ _ _ (⟨_, Op.load _ _, _, _, _, none⟩ :: _) _ _; first | refine SW.st (st_loads rfl rfl ((fun _ _ => hB.cell))) rfl ?_ | refine SW.st (st_loadsx hw rfl rfl ((fun _ _ => hB.cell))) rfl ?_))
          refine SW.call rfl rfl (ChangedOf_ans A n c B m d x y ⟨best, sz⟩ true true N hN _ (hx.ext hw) (hy.ext hw) hn hm) fun v w4 hw4 hv => ?_
          rw [ho] at hv
          obtain ⟨u, rfl, A6, n6, c6, B6, m6, d6, rfl, h6, h6'⟩ := hv
          replace h6 := h6.low hw.size
          replace h6' := h6'.low hw.size
          (replace hw := Ext.trans hw hw4; replace hB := hB.ext hw4; replace hb12 := hb12.ext hw4)
          repeat' (first
            | (show CW _ _ _ _ _ _; first | refine CW.seq ?_ | refine CW.region ?_ | refine CW.block ?_ | refine CW.condtr rfl (by with_reducible rfl) ?_ | refine CW.condfr rfl (by with_reducible rfl) ?_ | refine CW.condd_t rfl (by omega) ?_ | refine CW.condd_f rfl (by omega) ?_ | refine CW.condn_t rfl (by omega) ?_ | refine CW.condn_f rfl (by omega) ?_ | refine CW.condd rfl (fun h => ?_) (fun h => ?_) | refine CW.condn rfl (fun h => ?_) (fun h => ?_) | refine CW.condt rfl ?_ | refine CW.condf rfl ?_ | refine CW.cond rfl (fun h => ?_) (fun h => ?_) | refine CW.skip ?_ | refine CW.ret ?_ | refine CW.exit ?_)
            | (show Post _ _ _ _ _; first | refine Post.seq ?_ | refine Post.seq_ret ?_ | refine Post.seq_exit ?_ | refine Post.hit ?_ | refine Post.pass rfl ?_ | refine Post.blk ?_ | refine Post.blk_ret ?_ | refine Post.again_exit ?_ | refine Post.again_ret ?_ | refine Post.np ?_)
            | refine SW.nil ?_
            | (show SW _ _ _ _ (⟨_, _, _, _, _, some _⟩ :: _) _ _; first | refine SW.want_t rfl rfl (by with_reducible rfl) ?_ | refine SW.want_f rfl rfl (by with_reducible rfl) ?_ | refine SW.skip_t rfl rfl (by with_reducible rfl) rfl ?_ | refine SW.skip_f rfl rfl (by with_reducible rfl) rfl ?_ | refine SW.skip_u rfl rfl (by with_reducible rfl) rfl ?_ | refine SW.splitd_t rfl rfl rfl (by omega) ?_ | refine SW.splitd_f rfl rfl rfl (by omega) ?_ | refine SW.splitn_t rfl rfl rfl (by omega) ?_ | refine SW.splitn_f rfl rfl rfl (by omega) ?_ | refine SW.splitd rfl rfl rfl (fun h => ?_) (fun h => ?_) | refine SW.splitn rfl rfl rfl (fun h => ?_) (fun h => ?_) | refine SW.want rfl rfl ?_ | refine SW.skip rfl rfl rfl rfl ?_ | refine SW.skipu rfl rfl rfl ?_ | refine SW.split rfl rfl rfl (fun h => ?_) (fun h => ?_))
            | refine SW.pure rfl rfl ?_
            | (show SW _ _ _ _ (⟨_, Op.fieldAddr _ _ _, _, _, _, none⟩ :: _) _ _; refine SW.st (st_field rfl) rfl ?_)
            | (show SW _ _ _ _ (⟨_, Op.nilCheck _, _, _, _, none⟩ :: _) _ _; refine SW.st (st_nilCheck rfl) rfl ?_)
            | (show SW _ _ _ _ (⟨_, Op.build _ _, _, _, _, none⟩ :: _) _ _; refine SW.st (st_build rfl rfl) rfl ?_)
            | (show SW _ _ _ _ (⟨_, Op.binOp _ _ _ _ _, _, _, _, none⟩ :: _) _ _; first | refine SW.st (st_add rfl rfl (by omega) (by omega)) rfl ?_ | refine SW.st (st_sub rfl rfl (by omega) (by omega)) rfl ?_ | refine SW.st (st_mul rfl rfl (by omega) (by omega)) rfl ?_ | refine SW.st (st_quo rfl rfl (by omega) (by omega) (by omega)) rfl ?_ | refine SW.st (st_rem rfl rfl (by omega)) rfl ?_)
            | (show SW _ _ _ _ (⟨_, Op.indexAddr _ _ _, _, _, _, none⟩ :: _) _ _; refine SW.st (st_indexN rfl rfl (by assumption) (by omega)) rfl ?_)
            | (show SW _ _ _ _ (⟨_, Op.call ⟨.builtin .len, _, _⟩, _, _, _, none⟩ :: _) _ _; refine SW.st (st_len rfl) rfl ?_)
            | (show SW _ _ _ _ (⟨_, Op.call ⟨.builtin .cap, _, _⟩, _, _, _, none⟩ :: _) _ _; refine SW.st (st_cap rfl) rfl ?_))
          refine SW.alloc rfl fun b23 w1 hw1 hb23b hb23 => ?_
          repeat' (first
            | (show CW _ _ _ _ _ _; first | refine CW.seq ?_ | refine CW.region ?_ | refine CW.block ?_ | refine CW.condtr rfl (by with_reducible rfl) ?_ | refine CW.condfr rfl (by with_reducible rfl) ?_ | refine CW.condd_t rfl (by omega) ?_ | refine CW.condd_f rfl (by omega) ?_ | refine CW.condn_t rfl (by omega) ?_ | refine CW.condn_f rfl (by omega) ?_ | refine CW.condd rfl (fun h => ?_) (fun h => ?_) | refine CW.condn rfl (fun h => ?_) (fun h => ?_) | refine CW.condt rfl ?_ | refine CW.condf rfl ?_ | refine CW.cond rfl (fun h => ?_) (fun h => ?_) | refine CW.skip ?_ | refine CW.ret ?_ | refine CW.exit ?_)
            | (show Post _ _ _ _ _; first | refine Post.seq ?_ | refine Post.seq_ret ?_ | refine Post.seq_exit ?_ | refine Post.hit ?_ | refine Post.pass rfl ?_ | refine Post.blk ?_ | refine Post.blk_ret ?_ | refine Post.again_exit ?_ | refine Post.again_ret ?_ | refine Post.np ?_)
            | refine SW.nil ?_
            | (show SW _ _ _ _ (⟨_, _, _, _, _, some _⟩ :: _) _ _; first | refine SW.want_t rfl rfl (by with_reducible rfl) ?_ | refine SW.want_f rfl rfl (by with_reducible rfl) ?_ | refine SW.skip_t rfl rfl (by with_reducible rfl) rfl ?_ | refine SW.skip_f rfl rfl (by with_reducible rfl) rfl ?_ | refine SW.skip_u rfl rfl (by with_reducible rfl) rfl ?_ | refine SW.splitd_t rfl rfl rfl (by omega) ?_ | refine SW.splitd_f rfl rfl rfl (by omega) ?_ | refine SW.splitn_t rfl rfl rfl (by omega) ?_ | refine SW.splitn_f rfl rfl rfl (by omega) ?_ | refine SW.splitd rfl rfl rfl (fun h => ?_) (fun h => ?_) | refine SW.splitn rfl rfl rfl (fun h => ?_) (fun h => ?_) | refine SW.want rfl rfl ?_ | refine SW.skip rfl rfl rfl rfl ?_ | refine SW.skipu rfl rfl rfl ?_ | refine SW.split rfl rfl rfl (fun h => ?_) (fun h => ?_))
            | refine SW.pure rfl rfl ?_
            | (show SW _ _ _ _ (⟨_, Op.fieldAddr _ _ _, _, _, _, none⟩ :: _) _ _; refine SW.st (st_field rfl) rfl ?_)
            | (show SW _ _ _ _ (⟨_, Op.nilCheck _, _, _, _, none⟩ :: _) _ _; refine SW.st (st_nilCheck rfl) rfl ?_)
            | (show SW _ _ _ _ (⟨_, Op.build _ _, _, _, _, none⟩ :: _) _ _; refine SW.st (st_build rfl rfl) rfl ?_)
            | (show SW _ _ _ _ (⟨_, Op.binOp _ _ _ _ _, _, _, _, none⟩ :: _) _ _; first | refine SW.st (st_add rfl rfl (by omega) (by omega)) rfl ?_ | refine SW.st (st_sub rfl rfl (by omega) (by omega)) rfl ?_ | refine SW.st (st_mul rfl rfl (by omega) (by omega)) rfl ?_ | refine SW.st (st_quo rfl rfl (by omega) (by omega) (by omega)) rfl ?_ | refine SW.st (st_rem rfl rfl (by omega)) rfl ?_)
            | (show SW _ _ _ _ (⟨_, Op.indexAddr _ _ _, _, _, _, none⟩ :: _) _ _; refine SW.st (st_indexN rfl rfl (by assumption) (by omega)) rfl ?_)
            | (show SW _ _ _ _ (⟨_, Op.call ⟨.builtin .len, _, _⟩, _, _, _, none⟩ :: _) _ _; refine SW.st (st_len rfl) rfl ?_)
            | (show SW _ _ _ _ (⟨_, Op.call ⟨.builtin .cap, _, _⟩, _, _, _, none⟩ :: _) _ _; refine SW.st (st_cap rfl) rfl ?_))
          refine SW.storeAgg hb23 rfl rfl rfl rfl (one_boot _ _ _ _ _ _) fun w2 hb23' hg => ?_
          have hXX := hw1.own hb23b hg
          have hb23w : w.heap.size ≤ b23 := Nat.le_trans hw.size hb23b
          replace hw := Ext.trans hw hXX
          replace hB := hB.ext hXX
          replace hb12 := hb12.ext hXX
          replace h6 := h6.ext hXX
          replace h6' := h6'.ext hXX
          replace hb23 := hb23'
          clear hb23' hw1 hg hXX
          by_cases ho0 : o.1 = 0
          · rw [if_pos ho0]
            rw [ho0]
            repeat' (first
              | (show CW _ _ _ _ _ _; first | refine CW.seq ?_ | refine CW.region ?_ | refine CW.block ?_ | refine CW.condtr rfl (by with_reducible rfl) ?_ | refine CW.condfr rfl (by with_reducible rfl) ?_ | refine CW.condd_t rfl (by omega) ?_ | refine CW.condd_f rfl (by omega) ?_ | refine CW.condn_t rfl (by omega) ?_ | refine CW.condn_f rfl (by omega) ?_ | refine CW.condd rfl (fun h => ?_) (fun h => ?_) | refine CW.condn rfl (fun h => ?_) (fun h => ?_) | refine CW.condt rfl ?_ | refine CW.condf rfl ?_ | refine CW.cond rfl (fun h => ?_) (fun h => ?_) | refine CW.skip ?_ | refine CW.ret ?_ | refine CW.exit ?_)
              | (show Post _ _ _ _ _; first | refine Post.seq ?_ | refine Post.seq_ret ?_ | refine Post.seq_exit ?_ | refine Post.hit ?_ | refine Post.pass rfl ?_ | refine Post.blk ?_ | refine Post.blk_ret ?_ | refine Post.again_exit ?_ | refine Post.again_ret ?_ | refine Post.np ?_)
              | refine SW.nil ?_
              | (show SW _ _ _ _ (⟨_, _, _, _, _, some _⟩ :: _) _ _; first | refine SW.want_t rfl rfl (by with_reducible rfl) ?_ | refine SW.want_f rfl rfl (by with_reducible rfl) ?_ | refine SW.skip_t rfl rfl (by with_reducible rfl) rfl ?_ | refine SW.skip_f rfl rfl (by with_reducible rfl) rfl ?_ | refine SW.skip_u rfl rfl (by with_reducible rfl) rfl ?_ | refine SW.splitd_t rfl rfl rfl (by omega) ?_ | refine SW.splitd_f rfl rfl rfl (by omega) ?_ | refine SW.splitn_t rfl rfl rfl (by omega) ?_ | refine SW.splitn_f rfl rfl rfl (by omega) ?_ | refine SW.splitd rfl rfl rfl (fun h => ?_) (fun h => ?_) | refine SW.splitn rfl rfl rfl (fun h => ?_) (fun h => ?_) | refine SW.want rfl rfl ?_ | refine SW.skip rfl rfl rfl rfl ?_ | refine SW.skipu rfl rfl rfl ?_ | refine SW.split rfl rfl rfl (fun h => ?_) (fun h => ?_))
              | refine SW.pure rfl rfl ?_
              | (show SW _ _ _ _ (⟨_, Op.fieldAddr _ _ _, _, _, _, none⟩ :: _) _ _; refine SW.st (st_field rfl) rfl ?_)
              | (show SW _ _ _ _ (⟨_, Op.nilCheck _, _, _, _, none⟩ :: _) _ _; refine SW.st (st_nilCheck rfl) rfl ?_)
              | (show SW _ _ _ _ (⟨_, Op.build _ _, _, _, _, none⟩ :: _) _ _; refine SW.st (st_build rfl rfl) rfl ?_)
              | (show SW _ _ _ _ (⟨_, Op.binOp _ _ _ _ _, _, _, _, none⟩ :: _) _ _; first | refine SW.st (st_add rfl rfl (by omega) (by omega)) rfl ?_ | refine SW.st (st_sub rfl rfl (by omega) (by omega)) rfl ?_ | refine SW.st (st_mul rfl rfl (by omega) (by omega)) rfl ?_ | refine SW.st (st_quo rfl rfl (by omega) (by omega) (by omega)) rfl ?_ | refine SW.st (st_rem rfl rfl (by omega)) rfl ?_)
              | (show SW _ _ _ _ (⟨_, Op.indexAddr _ _ _, _, _, _, none⟩ :: _) _ _; refine SW.st (st_indexN rfl rfl (by assumption) (by omega)) rfl ?_)
              | (show SW _ _ _ _ (⟨_, Op.call ⟨.builtin .len, _, _⟩, _, _, _, none⟩ :: _) _ _; refine SW.st (st_len rfl) rfl ?_)
              | (show SW _ _ _ _ (⟨_, Op.call ⟨.builtin .cap, _, _⟩, _, _, _, none⟩ :: _) _ _; refine SW.st (st_cap rfl) rfl ?_)
              | (show SW _ _ _ _ (⟨_, Op.load _ _, _, _, _, none⟩ :: _) _ _; first | refine SW.st (st_loads rfl rfl ((fun _ _ => hb23.cell))) rfl ?_ | refine SW.st (st_loadsx hw rfl rfl ((fun _ _ => hb23.cell))) rfl ?_))
            refine SW.storeAgg hb12 rfl rfl rfl rfl (one_boot _ _ _ _ _ _) fun w5 hR2 hg => ?_
            have hG := hb12.gr hg
            replace hw := hw.own hb12w hg
            (replace h6 := h6.grT hG rfl; replace h6' := h6'.grT hG rfl)
            repeat' (first
              | (show CW _ _ _ _ _ _; first | refine CW.seq ?_ | refine CW.region ?_ | refine CW.block ?_ | refine CW.condtr rfl (by with_reducible rfl) ?_ | refine CW.condfr rfl (by with_reducible rfl) ?_ | refine CW.condd_t rfl (by omega) ?_ | refine CW.condd_f rfl (by omega) ?_ | refine CW.condn_t rfl (by omega) ?_ | refine CW.condn_f rfl (by omega) ?_ | refine CW.condd rfl (fun h => ?_) (fun h => ?_) | refine CW.condn rfl (fun h => ?_) (fun h => ?_) | refine CW.condt rfl ?_ | refine CW.condf rfl ?_ | refine CW.cond rfl (fun h => ?_) (fun h => ?_) | refine CW.skip ?_ | refine CW.ret ?_ | refine CW.exit ?_)
              | (show Post _ _ _ _ _; first | refine Post.seq ?_ | refine Post.seq_ret ?_ | refine Post.seq_exit ?_ | refine Post.hit ?_ | refine Post.pass rfl ?_ | refine Post.blk ?_ | refine Post.blk_ret ?_ | refine Post.again_exit ?_ | refine Post.again_ret ?_ | refine Post.np ?_)
              | refine SW.nil ?_
              | (show SW _ _ _ _ (⟨_, _, _, _, _, some _⟩ :: _) _ _; first | refine SW.want_t rfl rfl (by with_reducible rfl) ?_ | refine SW.want_f rfl rfl (by with_reducible rfl) ?_ | refine SW.skip_t rfl rfl (by with_reducible rfl) rfl ?_ | refine SW.skip_f rfl rfl (by with_reducible rfl) rfl ?_ | refine SW.skip_u rfl rfl (by with_reducible rfl) rfl ?_ | refine SW.splitd_t rfl rfl rfl (by omega) ?_ | refine SW.splitd_f rfl rfl rfl (by omega) ?_ | refine SW.splitn_t rfl rfl rfl (by omega) ?_ | refine SW.splitn_f rfl rfl rfl (by omega) ?_ | refine SW.splitd rfl rfl rfl (fun h => ?_) (fun h => ?_) | refine SW.splitn rfl rfl rfl (fun h => ?_) (fun h => ?_) | refine SW.want rfl rfl ?_ | refine SW.skip rfl rfl rfl rfl ?_ | refine SW.skipu rfl rfl rfl ?_ | refine SW.split rfl rfl rfl (fun h => ?_) (fun h => ?_))
              | refine SW.pure rfl rfl ?_
              | (show SW _ _ _ _ (⟨_, Op.fieldAddr _ _ _, _, _, _, none⟩ :: _) _ _; refine SW.st (st_field rfl) rfl ?_)
              | (show SW _ _ _ _ (⟨_, Op.nilCheck _, _, _, _, none⟩ :: _) _ _; refine SW.st (st_nilCheck rfl) rfl ?_)
              | (show SW _ _ _ _ (⟨_, Op.build _ _, _, _, _, none⟩ :: _) _ _; refine SW.st (st_build rfl rfl) rfl ?_)
              | (show SW _ _ _ _ (⟨_, Op.binOp _ _ _ _ _, _, _, _, none⟩ :: _) _ _; first | refine SW.st (st_add rfl rfl (by omega) (by omega)) rfl ?_ | refine SW.st (st_sub rfl rfl (by omega) (by omega)) rfl ?_ | refine SW.st (st_mul rfl rfl (by omega) (by omega)) rfl ?_ | refine SW.st (st_quo rfl rfl (by omega) (by omega) (by omega)) rfl ?_ | refine SW.st (st_rem rfl rfl (by omega)) rfl ?_)
              | (show SW _ _ _ _ (⟨_, Op.indexAddr _ _ _, _, _, _, none⟩ :: _) _ _; refine SW.st (st_indexN rfl rfl (by assumption) (by omega)) rfl ?_)
              | (show SW _ _ _ _ (⟨_, Op.call ⟨.builtin .len, _, _⟩, _, _, _, none⟩ :: _) _ _; refine SW.st (st_len rfl) rfl ?_)
              | (show SW _ _ _ _ (⟨_, Op.call ⟨.builtin .cap, _, _⟩, _, _, _, none⟩ :: _) _ _; refine SW.st (st_cap rfl) rfl ?_))
            exact Post.ret3c rfl rfl rfl rfl hR2 rfl ⟨_, rfl, hw, _, rfl, _, _, _, _, _, _, rfl, h6, h6'⟩
          · rw [if_neg ho0]
            repeat' (first
              | (show CW _ _ _ _ _ _; first | refine CW.seq ?_ | refine CW.region ?_ | refine CW.block ?_ | refine CW.condtr rfl (by with_reducible rfl) ?_ | refine CW.condfr rfl (by with_reducible rfl) ?_ | refine CW.condd_t rfl (by omega) ?_ | refine CW.condd_f rfl (by omega) ?_ | refine CW.condn_t rfl (by omega) ?_ | refine CW.condn_f rfl (by omega) ?_ | refine CW.condd rfl (fun h => ?_) (fun h => ?_) | refine CW.condn rfl (fun h => ?_) (fun h => ?_) | refine CW.condt rfl ?_ | refine CW.condf rfl ?_ | refine CW.cond rfl (fun h => ?_) (fun h => ?_) | refine CW.skip ?_ | refine CW.ret ?_ | refine CW.exit ?_)
              | (show Post _ _ _ _ _; first | refine Post.seq ?_ | refine Post.seq_ret ?_ | refine Post.seq_exit ?_ | refine Post.hit ?_ | refine Post.pass rfl ?_ | refine Post.blk ?_ | refine Post.blk_ret ?_ | refine Post.again_exit ?_ | refine Post.again_ret ?_ | refine Post.np ?_)
              | refine SW.nil ?_
              | (show SW _ _ _ _ (⟨_, _, _, _, _, some _⟩ :: _) _ _; first | refine SW.want_t rfl rfl (by with_reducible rfl) ?_ | refine SW.want_f rfl rfl (by with_reducible rfl) ?_ | refine SW.skip_t rfl rfl (by with_reducible rfl) rfl ?_ | refine SW.skip_f rfl rfl (by with_reducible rfl) rfl ?_ | refine SW.skip_u rfl rfl (by with_reducible rfl) rfl ?_ | refine SW.splitd_t rfl rfl rfl (by omega) ?_ | refine SW.splitd_f rfl rfl rfl (by omega) ?_ | refine SW.splitn_t rfl rfl rfl (by omega) ?_ | refine SW.splitn_f rfl rfl rfl (by omega) ?_ | refine SW.splitd rfl rfl rfl (fun h => ?_) (fun h => ?_) | refine SW.splitn rfl rfl rfl (fun h => ?_) (fun h => ?_) | refine SW.want rfl rfl ?_ | refine SW.skip rfl rfl rfl rfl ?_ | refine SW.skipu rfl rfl rfl ?_ | refine SW.split rfl rfl rfl (fun h => ?_) (fun h => ?_))
              | refine SW.pure rfl rfl ?_
              | (show SW _ _ _ _ (⟨_, Op.fieldAddr _ _ _, _, _, _, none⟩ :: _) _ _; refine SW.st (st_field rfl) rfl ?_)
              | (show SW _ _ _ _ (⟨_, Op.nilCheck _, _, _, _, none⟩ :: _) _ _; refine SW.st (st_nilCheck rfl) rfl ?_)
              | (show SW _ _ _ _ (⟨_, Op.build _ _, _, _, _, none⟩ :: _) _ _; refine SW.st (st_build rfl rfl) rfl ?_)
              | (show SW _ _ _ _ (⟨_, Op.binOp _ _ _ _ _, _, _, _, none⟩ :: _) _ _; first | refine SW.st (st_add rfl rfl (by omega) (by omega)) rfl ?_ | refine SW.st (st_sub rfl rfl (by omega) (by omega)) rfl ?_ | refine SW.st (st_mul rfl rfl (by omega) (by omega)) rfl ?_ | refine SW.st (st_quo rfl rfl (by omega) (by omega) (by omega)) rfl ?_ | refine SW.st (st_rem rfl rfl (by omega)) rfl ?_)
              | (show SW _ _ _ _ (⟨_, Op.indexAddr _ _ _, _, _, _, none⟩ :: _) _ _; refine SW.st (st_indexN rfl rfl (by assumption) (by omega)) rfl ?_)
              | (show SW _ _ _ _ (⟨_, Op.call ⟨.builtin .len, _, _⟩, _, _, _, none⟩ :: _) _ _; refine SW.st (st_len rfl) rfl ?_)
              | (show SW _ _ _ _ (⟨_, Op.call ⟨.builtin .cap, _, _⟩, _, _, _, none⟩ :: _) _ _; refine SW.st (st_cap rfl) rfl ?_))
            refine SW.storeAgg hb12 rfl rfl rfl rfl (one_boot none 0 0 none 0 0) fun w5 hR2 hg => ?_
            replace hw := hw.own hb12w hg
            repeat' (first
              | (show CW _ _ _ _ _ _; first | refine CW.seq ?_ | refine CW.region ?_ | refine CW.block ?_ | refine CW.condtr rfl (by with_reducible rfl) ?_ | refine CW.condfr rfl (by with_reducible rfl) ?_ | refine CW.condd_t rfl (by omega) ?_ | refine CW.condd_f rfl (by omega) ?_ | refine CW.condn_t rfl (by omega) ?_ | refine CW.condn_f rfl (by omega) ?_ | refine CW.condd rfl (fun h => ?_) (fun h => ?_) | refine CW.condn rfl (fun h => ?_) (fun h => ?_) | refine CW.condt rfl ?_ | refine CW.condf rfl ?_ | refine CW.cond rfl (fun h => ?_) (fun h => ?_) | refine CW.skip ?_ | refine CW.ret ?_ | refine CW.exit ?_)
              | (show Post _ _ _ _ _; first | refine Post.seq ?_ | refine Post.seq_ret ?_ | refine Post.seq_exit ?_ | refine Post.hit ?_ | refine Post.pass rfl ?_ | refine Post.blk ?_ | refine Post.blk_ret ?_ | refine Post.again_exit ?_ | refine Post.again_ret ?_ | refine Post.np ?_)
              | refine SW.nil ?_
              | (show SW _ _ _ _ (⟨_, _, _, _, _, some _⟩ :: _) _ _; first | refine SW.want_t rfl rfl (by with_reducible rfl) ?_ | refine SW.want_f rfl rfl (by with_reducible rfl) ?_ | refine SW.skip_t rfl rfl (by with_reducible rfl) rfl ?_ | refine SW.skip_f rfl rfl (by with_reducible rfl) rfl ?_ | refine SW.skip_u rfl rfl (by with_reducible rfl) rfl ?_ | refine SW.splitd_t rfl rfl rfl (by omega) ?_ | refine SW.splitd_f rfl rfl rfl (by omega) ?_ | refine SW.splitn_t rfl rfl rfl (by omega) ?_ | refine SW.splitn_f rfl rfl rfl (by omega) ?_ | refine SW.splitd rfl rfl rfl (fun h => ?_) (fun h => ?_) | refine SW.splitn rfl rfl rfl (fun h => ?_) (fun h => ?_) | refine SW.want rfl rfl ?_ | refine SW.skip rfl rfl rfl rfl ?_ | refine SW.skipu rfl rfl rfl ?_ | refine SW.split rfl rfl rfl (fun h => ?_) (fun h => ?_))
              | refine SW.pure rfl rfl ?_
              | (show SW _ _ _ _ (⟨_, Op.fieldAddr _ _ _, _, _, _, none⟩ :: _) _ _; refine SW.st (st_field rfl) rfl ?_)
              | (show SW _ _ _ _ (⟨_, Op.nilCheck _, _, _, _, none⟩ :: _) _ _; refine SW.st (st_nilCheck rfl) rfl ?_)
              | (show SW _ _ _ _ (⟨_, Op.build _ _, _, _, _, none⟩ :: _) _ _; refine SW.st (st_build rfl rfl) rfl ?_)
              | (show SW _ _ _ _ (⟨_, Op.binOp _ _ _ _ _, _, _, _, none⟩ :: _) _ _; first | refine SW.st (st_add rfl rfl (by omega) (by omega)) rfl ?_ | refine SW.st (st_sub rfl rfl (by omega) (by omega)) rfl ?_ | refine SW.st (st_mul rfl rfl (by omega) (by omega)) rfl ?_ | refine SW.st (st_quo rfl rfl (by omega) (by omega) (by omega)) rfl ?_ | refine SW.st (st_rem rfl rfl (by omega)) rfl ?_)
              | (show SW _ _ _ _ (⟨_, Op.indexAddr _ _ _, _, _, _, none⟩ :: _) _ _; refine SW.st (st_indexN rfl rfl (by assumption) (by omega)) rfl ?_)
              | (show SW _ _ _ _ (⟨_, Op.call ⟨.builtin .len, _, _⟩, _, _, _, none⟩ :: _) _ _; refine SW.st (st_len rfl) rfl ?_)
              | (show SW _ _ _ _ (⟨_, Op.call ⟨.builtin .cap, _, _⟩, _, _, _, none⟩ :: _) _ _; refine SW.st (st_cap rfl) rfl ?_))
            exact Post.ret3c rfl rfl rfl rfl hR2 rfl ⟨_, rfl, hw, _, rfl, BootIs.nil _ _⟩
    · rw [allocV_1 hq hargs]
      unfold argsOk at hargs
      repeat' (first
        | (show CW _ _ _ _ _ _; first | refine CW.seq ?_ | refine CW.region ?_ | refine CW.block ?_ | refine CW.condtr rfl (by with_reducible rfl) ?_ | refine CW.condfr rfl (by with_reducible rfl) ?_ | refine CW.condd_t rfl (by omega) ?_ | refine CW.condd_f rfl (by omega) ?_ | refine CW.condn_t rfl (by omega) ?_ | refine CW.condn_f rfl (by omega) ?_ | refine CW.condd rfl (fun h => ?_) (fun h => ?_) | refine CW.condn rfl (fun h => ?_) (fun h => ?_) | refine CW.condt rfl ?_ | refine CW.condf rfl ?_ | refine CW.cond rfl (fun h => ?_) (fun h => ?_) | refine CW.skip ?_ | refine CW.ret ?_ | refine CW.exit ?_)
        | (show Post _ _ _ _ _; first | refine Post.seq ?_ | refine Post.seq_ret ?_ | refine Post.seq_exit ?_ | refine Post.hit ?_ | refine Post.pass rfl ?_ | refine Post.blk ?_ | refine Post.blk_ret ?_ | refine Post.again_exit ?_ | refine Post.again_ret ?_ | refine Post.np ?_)
        | refine SW.nil ?_
        | (show SW _ _ _ _ (⟨_, _, _, _, _, some _⟩ :: _) _ _; first | refine SW.want_t rfl rfl (by with_reducible rfl) ?_ | refine SW.want_f rfl rfl (by with_reducible rfl) ?_ | refine SW.skip_t rfl rfl (by with_reducible rfl) rfl ?_ | refine SW.skip_f rfl rfl (by with_reducible rfl) rfl ?_ | refine SW.skip_u rfl rfl (by with_reducible rfl) rfl ?_ | refine SW.splitd_t rfl rfl rfl (by omega) ?_ | refine SW.splitd_f rfl rfl rfl (by omega) ?_ | refine SW.splitn_t rfl rfl rfl (by omega) ?_ | refine SW.splitn_f rfl rfl rfl (by omega) ?_ | refine SW.splitd rfl rfl rfl (fun h => ?_) (fun h => ?_) | refine SW.splitn rfl rfl rfl (fun h => ?_) (fun h => ?_) | refine SW.want rfl rfl ?_ | refine SW.skip rfl rfl rfl rfl ?_ | refine SW.skipu rfl rfl rfl ?_ | refine SW.split rfl rfl rfl (fun h => ?_) (fun h => ?_))
        | refine SW.pure rfl rfl ?_
        | (show SW _ _ _ _ (⟨_, Op.fieldAddr _ _ _, _, _, _, none⟩ :: _) _ _; refine SW.st (st_field rfl) rfl ?_)
        | (show SW _ _ _ _ (⟨_, Op.nilCheck _, _, _, _, none⟩ :: _) _ _; refine SW.st (st_nilCheck rfl) rfl ?_)
        | (show SW _ _ _ _ (⟨_, Op.build _ _, _, _, _, none⟩ :: _) _ _; refine SW.st (st_build rfl rfl) rfl ?_)
        | (show SW _ _ _ _ (⟨_, Op.binOp _ _ _ _ _, _, _, _, none⟩ :: _) _ _; first | refine SW.st (st_add rfl rfl (by omega) (by omega)) rfl ?_ | refine SW.st (st_sub rfl rfl (by omega) (by omega)) rfl ?_ | refine SW.st (st_mul rfl rfl (by omega) (by omega)) rfl ?_ | refine SW.st (st_quo rfl rfl (by omega) (by omega) (by omega)) rfl ?_ | refine SW.st (st_rem rfl rfl (by omega)) rfl ?_)
        | (show SW _ _ _ _ (⟨_, Op.indexAddr _ _ _, _, _, _, none⟩ :: _) _ _; refine SW.st (st_indexN rfl rfl (by assumption) (by omega)) rfl ?_)
        | (show SW _ _ _ _ (⟨_, Op.call ⟨.builtin .len, _, _⟩, _, _, _, none⟩ :: _) _ _; refine SW.st (st_len rfl) rfl ?_)
        | (show SW _ _ _ _ (⟨_, Op.call ⟨.builtin .cap, _, _⟩, _, _, _, none⟩ :: _) _ _; refine SW.st (st_cap rfl) rfl ?_)
        | (show SW _ _ _ _ (⟨_, Op.load _ _, _, _, _, none⟩ :: _) _ _; first | refine SW.st (st_loads rfl rfl ((fun _ _ => hB.cell))) rfl ?_ | refine SW.st (st_loadsx hw rfl rfl ((fun _ _ => hB.cell))) rfl ?_)
        | (show SW _ _ _ _ (⟨_, Op.call ⟨.value (.func _), _, _⟩, _, _, _, none⟩ :: _) _ _; first | (refine SW.call rfl rfl (c1 _ hw) ?_; intro v w1 hw1 hv; subst hv; replace hw := Ext.trans hw hw1; replace hB := hB.ext hw1; replace hb12 := hb12.ext hw1; clear hw1) | (refine SW.call rfl rfl (In_ans _ _ _ _) ?_; intro v w1 hw1 hv; subst hv; replace hw := Ext.trans hw hw1; replace hB := hB.ext hw1; replace hb12 := hb12.ext hw1; clear hw1)))
      all_goals
        first
          | (exfalso; omega)
          | (refine SW.storeAgg hb12 rfl rfl rfl rfl (one_boot none 0 0 none 0 0) fun w5 hR2 hg => ?_
             replace hw := hw.own hb12w hg
             repeat' (first
               | (show CW _ _ _ _ _ _; first | refine CW.seq ?_ | refine CW.region ?_ | refine CW.block ?_ | refine CW.condtr rfl (by with_reducible rfl) ?_ | refine CW.condfr rfl (by with_reducible rfl) ?_ | refine CW.condd_t rfl (by omega) ?_ | refine CW.condd_f rfl (by omega) ?_ | refine CW.condn_t rfl (by omega) ?_ | refine CW.condn_f rfl (by omega) ?_ | refine CW.condd rfl (fun h => ?_) (fun h => ?_) | refine CW.condn rfl (fun h => ?_) (fun h => ?_) | refine CW.condt rfl ?_ | refine CW.condf rfl ?_ | refine CW.cond rfl (fun h => ?_) (fun h => ?_) | refine CW.skip ?_ | refine CW.ret ?_ | refine CW.exit ?_)
               | (show Post _ _ _ _ _; first | refine Post.seq ?_ | refine Post.seq_ret ?_ | refine Post.seq_exit ?_ | refine Post.hit ?_ | refine Post.pass rfl ?_ | refine Post.blk ?_ | refine Post.blk_ret ?_ | refine Post.again_exit ?_ | refine Post.again_ret ?_ | refine Post.np ?_)
               | refine SW.nil ?_
               | (show SW _ _ _ _ (⟨_, _, _, _, _, some _⟩ :: _) _ _; first | refine SW.want_t rfl rfl (by with_reducible rfl) ?_ | refine SW.want_f rfl rfl (by with_reducible rfl) ?_ | refine SW.skip_t rfl rfl (by with_reducible rfl) rfl ?_ | refine SW.skip_f rfl rfl (by with_reducible rfl) rfl ?_ | refine SW.skip_u rfl rfl (by with_reducible rfl) rfl ?_ | refine SW.splitd_t rfl rfl rfl (by omega) ?_ | refine SW.splitd_f rfl rfl rfl (by omega) ?_ | refine SW.splitn_t rfl rfl rfl (by omega) ?_ | refine SW.splitn_f rfl rfl rfl (by omega) ?_ | refine SW.splitd rfl rfl rfl (fun h => ?_) (fun h => ?_) | refine SW.splitn rfl rfl rfl (fun h => ?_) (fun h => ?_) | refine SW.want rfl rfl ?_ | refine SW.skip rfl rfl rfl rfl ?_ | refine SW.skipu rfl rfl rfl ?_ | refine SW.split rfl rfl rfl (fun h => ?_) (fun h => ?_))
               | refine SW.pure rfl rfl ?_
               | (show SW _ _ _ _ (⟨_, Op.fieldAddr _ _ _, _, _, _, none⟩ :: _) _ _; refine SW.st (st_field rfl) rfl ?_)
               | (show SW _ _ _ _ (⟨_, Op.nilCheck _, _, _, _, none⟩ :: _) _ _; refine SW.st (st_nilCheck rfl) rfl ?_)
               | (show SW _ _ _ _ (⟨_, Op.build _ _, _, _, _, none⟩ :: _) _ _; refine SW.st (st_build rfl rfl) rfl ?_)
               | (show SW _ _ _ _ (⟨_, Op.binOp _ _ _ _ _, _, _, _, none⟩ :: _) _ _; first | refine SW.st (st_add rfl rfl (by omega) (by omega)) rfl ?_ | refine SW.st (st_sub rfl rfl (by omega) (by omega)) rfl ?_ | refine SW.st (st_mul rfl rfl (by omega) (by omega)) rfl ?_ | refine SW.st (st_quo rfl rfl (by omega) (by omega) (by omega)) rfl ?_ | refine SW.st (st_rem rfl rfl (by omega)) rfl ?_)
               | (show SW _ _ _ _ (⟨_, Op.indexAddr _ _ _, _, _, _, none⟩ :: _) _ _; refine SW.st (st_indexN rfl rfl (by assumption) (by omega)) rfl ?_)
               | (show SW _ _ _ _ (⟨_, Op.call ⟨.builtin .len, _, _⟩, _, _, _, none⟩ :: _) _ _; refine SW.st (st_len rfl) rfl ?_)
               | (show SW _ _ _ _ (⟨_, Op.call ⟨.builtin .cap, _, _⟩, _, _, _, none⟩ :: _) _ _; refine SW.st (st_cap rfl) rfl ?_))
             exact Post.ret3c rfl rfl rfl rfl hR2 rfl ⟨_, rfl, hw, _, rfl, BootIs.nil _ _⟩)

theorem allocV_le {N : Nat} {x y : List Region} {size align low high : Int} {down : Bool} (hN : N = 256) (hx : x.length ≤ 1152921504606846976) (hy : y.length ≤ 1152921504606846976) : (allocV N x y size align low high down).2.2.1.length ≤ 2305843009213693952 ∧ (allocV N x y size align low high down).2.2.2.length ≤ 2305843009213693952 := by
  cases hb : bootB x y
  · rw [allocV_8 hb]; simp
  · by_cases ha : argsOk size align low high
    · by_cases hn : bestOf (Fits (freeP x y) size align low high) down < 0
      · rw [allocV_6 hb ha rfl hn]; simp
      · rw [allocV_0 hb ha rfl hn rfl]
        have := changeV_le (N := N) (x := x) (y := y) (r := ⟨bestOf (Fits (freeP x y) size align low high) down, size⟩) (res := true) (wth := true) hN hx hy
        split
        · exact this
        · simp
    · rw [allocV_1 hb ha]; simp

set_option maxHeartbeats 4000000 in
theorem bootAllocs_ans (A : Option Addr) (n c : Nat) (B : Option Addr) (m d : Nat) (x y : List Region) (size align low high : Int) (down : Bool) (w : World) (hx : Sl w 2 encR A n x) (hy : Sl w 2 encR B m y) (hn : n * 16 ≤ 140737488355328) (hm : m * 16 ≤ 140737488355328) :
    Ans Try.prog 14 [.agg (bootCells A n c B m d).toArray, .int .i64 size, .int .i64 align, .int .i64 low, .int .i64 high, .bool down] w fun v _ => v = .bool true := by
  refine ans_of Try.func14 rfl Try.ntmps14 rfl ?_
  obtain ⟨N, hN⟩ : ∃ N : Nat, N = 256 := ⟨_, rfl⟩
  have hle := allocV_le (N := N) (x := x) (y := y) (size := size) (align := align) (low := low) (high := high) (down := down) hN (by have := hx.len; omega) (by have := hy.len; omega)
  obtain ⟨o, ho⟩ : ∃ o, allocV N x y size align low high down = o := ⟨_, rfl⟩
  rw [ho] at hle
  refine CW.seq (CW.region (SW.box rfl rfl fun b w1 hw hb hB => ?_))
  repeat' (first
    | (show CW _ _ _ _ _ _; first | refine CW.seq ?_ | refine CW.region ?_ | refine CW.block ?_ | refine CW.condtr rfl (by with_reducible rfl) ?_ | refine CW.condfr rfl (by with_reducible rfl) ?_ | refine CW.condd_t rfl (by omega) ?_ | refine CW.condd_f rfl (by omega) ?_ | refine CW.condn_t rfl (by omega) ?_ | refine CW.condn_f rfl (by omega) ?_ | refine CW.condd rfl (fun h => ?_) (fun h => ?_) | refine CW.condn rfl (fun h => ?_) (fun h => ?_) | refine CW.condt rfl ?_ | refine CW.condf rfl ?_ | refine CW.cond rfl (fun h => ?_) (fun h => ?_) | refine CW.skip ?_ | refine CW.ret ?_ | refine CW.exit ?_)
    | (show Post _ _ _ _ _; first | refine Post.seq ?_ | refine Post.seq_ret ?_ | refine Post.seq_exit ?_ | refine Post.hit ?_ | refine Post.pass rfl ?_ | refine Post.blk ?_ | refine Post.blk_ret ?_ | refine Post.again_exit ?_ | refine Post.again_ret ?_ | refine Post.np ?_)
    | refine SW.nil ?_
    | (show SW _ _ _ _ (⟨_, _, _, _, _, some _⟩ :: _) _ _; first | refine SW.want_t rfl rfl (by with_reducible rfl) ?_ | refine SW.want_f rfl rfl (by with_reducible rfl) ?_ | refine SW.skip_t rfl rfl (by with_reducible rfl) rfl ?_ | refine SW.skip_f rfl rfl (by with_reducible rfl) rfl ?_ | refine SW.skip_u rfl rfl (by with_reducible rfl) rfl ?_ | refine SW.splitd_t rfl rfl rfl (by omega) ?_ | refine SW.splitd_f rfl rfl rfl (by omega) ?_ | refine SW.splitn_t rfl rfl rfl (by omega) ?_ | refine SW.splitn_f rfl rfl rfl (by omega) ?_ | refine SW.splitd rfl rfl rfl (fun h => ?_) (fun h => ?_) | refine SW.splitn rfl rfl rfl (fun h => ?_) (fun h => ?_) | refine SW.want rfl rfl ?_ | refine SW.skip rfl rfl rfl rfl ?_ | refine SW.skipu rfl rfl rfl ?_ | refine SW.split rfl rfl rfl (fun h => ?_) (fun h => ?_))
    | refine SW.pure rfl rfl ?_
    | (show SW _ _ _ _ (⟨_, Op.fieldAddr _ _ _, _, _, _, none⟩ :: _) _ _; refine SW.st (st_field rfl) rfl ?_)
    | (show SW _ _ _ _ (⟨_, Op.nilCheck _, _, _, _, none⟩ :: _) _ _; refine SW.st (st_nilCheck rfl) rfl ?_)
    | (show SW _ _ _ _ (⟨_, Op.build _ _, _, _, _, none⟩ :: _) _ _; refine SW.st (st_build rfl rfl) rfl ?_)
    | (show SW _ _ _ _ (⟨_, Op.binOp _ _ _ _ _, _, _, _, none⟩ :: _) _ _; first | refine SW.st (st_add rfl rfl (by omega) (by omega)) rfl ?_ | refine SW.st (st_sub rfl rfl (by omega) (by omega)) rfl ?_ | refine SW.st (st_mul rfl rfl (by omega) (by omega)) rfl ?_ | refine SW.st (st_quo rfl rfl (by omega) (by omega) (by omega)) rfl ?_ | refine SW.st (st_rem rfl rfl (by omega)) rfl ?_)
    | (show SW _ _ _ _ (⟨_, Op.indexAddr _ _ _, _, _, _, none⟩ :: _) _ _; refine SW.st (st_indexN rfl rfl (by assumption) (by omega)) rfl ?_)
    | (show SW _ _ _ _ (⟨_, Op.call ⟨.builtin .len, _, _⟩, _, _, _, none⟩ :: _) _ _; refine SW.st (st_len rfl) rfl ?_)
    | (show SW _ _ _ _ (⟨_, Op.call ⟨.builtin .cap, _, _⟩, _, _, _, none⟩ :: _) _ _; refine SW.st (st_cap rfl) rfl ?_)
    | (show SW _ _ _ _ (⟨_, Op.load _ _, _, _, _, none⟩ :: _) _ _; first | refine SW.st (st_loads rfl rfl ((fun _ _ => hB.cell))) rfl ?_ | refine SW.st (st_loadsx hw rfl rfl ((fun _ _ => hB.cell))) rfl ?_))
  refine SW.call rfl rfl (boots_ans _ _ _ _ _ _ _ _ _ (hx.ext hw) (hy.ext hw) hn hm) fun v w3 hw3 hv => ?_
  obtain ⟨Ak, nk, ck, Bk, mk, dk, rfl, hX, hY⟩ := hv
  replace hX := hX.low hw.size
  replace hY := hY.low hw.size
  obtain rfl : nk = n := by rw [← hX.len, ← hx.len]
  obtain rfl : mk = m := by rw [← hY.len, ← hy.len]
  (replace hw := Ext.trans hw hw3; replace hB := hB.ext hw3)
  refine SW.alloc rfl fun b5 w1 hw1 hb5b hb5 => ?_
  repeat' (first
    | (show CW _ _ _ _ _ _; first | refine CW.seq ?_ | refine CW.region ?_ | refine CW.block ?_ | refine CW.condtr rfl (by with_reducible rfl) ?_ | refine CW.condfr rfl (by with_reducible rfl) ?_ | refine CW.condd_t rfl (by omega) ?_ | refine CW.condd_f rfl (by omega) ?_ | refine CW.condn_t rfl (by omega) ?_ | refine CW.condn_f rfl (by omega) ?_ | refine CW.condd rfl (fun h => ?_) (fun h => ?_) | refine CW.condn rfl (fun h => ?_) (fun h => ?_) | refine CW.condt rfl ?_ | refine CW.condf rfl ?_ | refine CW.cond rfl (fun h => ?_) (fun h => ?_) | refine CW.skip ?_ | refine CW.ret ?_ | refine CW.exit ?_)
    | (show Post _ _ _ _ _; first | refine Post.seq ?_ | refine Post.seq_ret ?_ | refine Post.seq_exit ?_ | refine Post.hit ?_ | refine Post.pass rfl ?_ | refine Post.blk ?_ | refine Post.blk_ret ?_ | refine Post.again_exit ?_ | refine Post.again_ret ?_ | refine Post.np ?_)
    | refine SW.nil ?_
    | (show SW _ _ _ _ (⟨_, _, _, _, _, some _⟩ :: _) _ _; first | refine SW.want_t rfl rfl (by with_reducible rfl) ?_ | refine SW.want_f rfl rfl (by with_reducible rfl) ?_ | refine SW.skip_t rfl rfl (by with_reducible rfl) rfl ?_ | refine SW.skip_f rfl rfl (by with_reducible rfl) rfl ?_ | refine SW.skip_u rfl rfl (by with_reducible rfl) rfl ?_ | refine SW.splitd_t rfl rfl rfl (by omega) ?_ | refine SW.splitd_f rfl rfl rfl (by omega) ?_ | refine SW.splitn_t rfl rfl rfl (by omega) ?_ | refine SW.splitn_f rfl rfl rfl (by omega) ?_ | refine SW.splitd rfl rfl rfl (fun h => ?_) (fun h => ?_) | refine SW.splitn rfl rfl rfl (fun h => ?_) (fun h => ?_) | refine SW.want rfl rfl ?_ | refine SW.skip rfl rfl rfl rfl ?_ | refine SW.skipu rfl rfl rfl ?_ | refine SW.split rfl rfl rfl (fun h => ?_) (fun h => ?_))
    | refine SW.pure rfl rfl ?_
    | (show SW _ _ _ _ (⟨_, Op.fieldAddr _ _ _, _, _, _, none⟩ :: _) _ _; refine SW.st (st_field rfl) rfl ?_)
    | (show SW _ _ _ _ (⟨_, Op.nilCheck _, _, _, _, none⟩ :: _) _ _; refine SW.st (st_nilCheck rfl) rfl ?_)
    | (show SW _ _ _ _ (⟨_, Op.build _ _, _, _, _, none⟩ :: _) _ _; refine SW.st (st_build rfl rfl) rfl ?_)
    | (show SW _ _ _ _ (⟨_, Op.binOp _ _ _ _ _, _, _, _, none⟩ :: _) _ _; first | refine SW.st (st_add rfl rfl (by omega) (by omega)) rfl ?_ | refine SW.st (st_sub rfl rfl (by omega) (by omega)) rfl ?_ | refine SW.st (st_mul rfl rfl (by omega) (by omega)) rfl ?_ | refine SW.st (st_quo rfl rfl (by omega) (by omega) (by omega)) rfl ?_ | refine SW.st (st_rem rfl rfl (by omega)) rfl ?_)
    | (show SW _ _ _ _ (⟨_, Op.indexAddr _ _ _, _, _, _, none⟩ :: _) _ _; refine SW.st (st_indexN rfl rfl (by assumption) (by omega)) rfl ?_)
    | (show SW _ _ _ _ (⟨_, Op.call ⟨.builtin .len, _, _⟩, _, _, _, none⟩ :: _) _ _; refine SW.st (st_len rfl) rfl ?_)
    | (show SW _ _ _ _ (⟨_, Op.call ⟨.builtin .cap, _, _⟩, _, _, _, none⟩ :: _) _ _; refine SW.st (st_cap rfl) rfl ?_))
  refine SW.storeAgg hb5 rfl rfl rfl rfl (one_boot _ _ _ _ _ _) fun w2 hb5' hg => ?_
  have hXX := hw1.own hb5b hg
  have hb5w : w.heap.size ≤ b5 := Nat.le_trans hw.size hb5b
  replace hw := Ext.trans hw hXX
  replace hB := hB.ext hXX
  replace hX := hX.ext hXX
  replace hY := hY.ext hXX
  replace hb5 := hb5'
  clear hb5' hw1 hg hXX
  repeat' (first
    | (show CW _ _ _ _ _ _; first | refine CW.seq ?_ | refine CW.region ?_ | refine CW.block ?_ | refine CW.condtr rfl (by with_reducible rfl) ?_ | refine CW.condfr rfl (by with_reducible rfl) ?_ | refine CW.condd_t rfl (by omega) ?_ | refine CW.condd_f rfl (by omega) ?_ | refine CW.condn_t rfl (by omega) ?_ | refine CW.condn_f rfl (by omega) ?_ | refine CW.condd rfl (fun h => ?_) (fun h => ?_) | refine CW.condn rfl (fun h => ?_) (fun h => ?_) | refine CW.condt rfl ?_ | refine CW.condf rfl ?_ | refine CW.cond rfl (fun h => ?_) (fun h => ?_) | refine CW.skip ?_ | refine CW.ret ?_ | refine CW.exit ?_)
    | (show Post _ _ _ _ _; first | refine Post.seq ?_ | refine Post.seq_ret ?_ | refine Post.seq_exit ?_ | refine Post.hit ?_ | refine Post.pass rfl ?_ | refine Post.blk ?_ | refine Post.blk_ret ?_ | refine Post.again_exit ?_ | refine Post.again_ret ?_ | refine Post.np ?_)
    | refine SW.nil ?_
    | (show SW _ _ _ _ (⟨_, _, _, _, _, some _⟩ :: _) _ _; first | refine SW.want_t rfl rfl (by with_reducible rfl) ?_ | refine SW.want_f rfl rfl (by with_reducible rfl) ?_ | refine SW.skip_t rfl rfl (by with_reducible rfl) rfl ?_ | refine SW.skip_f rfl rfl (by with_reducible rfl) rfl ?_ | refine SW.skip_u rfl rfl (by with_reducible rfl) rfl ?_ | refine SW.splitd_t rfl rfl rfl (by omega) ?_ | refine SW.splitd_f rfl rfl rfl (by omega) ?_ | refine SW.splitn_t rfl rfl rfl (by omega) ?_ | refine SW.splitn_f rfl rfl rfl (by omega) ?_ | refine SW.splitd rfl rfl rfl (fun h => ?_) (fun h => ?_) | refine SW.splitn rfl rfl rfl (fun h => ?_) (fun h => ?_) | refine SW.want rfl rfl ?_ | refine SW.skip rfl rfl rfl rfl ?_ | refine SW.skipu rfl rfl rfl ?_ | refine SW.split rfl rfl rfl (fun h => ?_) (fun h => ?_))
    | refine SW.pure rfl rfl ?_
    | (show SW _ _ _ _ (⟨_, Op.fieldAddr _ _ _, _, _, _, none⟩ :: _) _ _; refine SW.st (st_field rfl) rfl ?_)
    | (show SW _ _ _ _ (⟨_, Op.nilCheck _, _, _, _, none⟩ :: _) _ _; refine SW.st (st_nilCheck rfl) rfl ?_)
    | (show SW _ _ _ _ (⟨_, Op.build _ _, _, _, _, none⟩ :: _) _ _; refine SW.st (st_build rfl rfl) rfl ?_)
    | (show SW _ _ _ _ (⟨_, Op.binOp _ _ _ _ _, _, _, _, none⟩ :: _) _ _; first | refine SW.st (st_add rfl rfl (by omega) (by omega)) rfl ?_ | refine SW.st (st_sub rfl rfl (by omega) (by omega)) rfl ?_ | refine SW.st (st_mul rfl rfl (by omega) (by omega)) rfl ?_ | refine SW.st (st_quo rfl rfl (by omega) (by omega) (by omega)) rfl ?_ | refine SW.st (st_rem rfl rfl (by omega)) rfl ?_)
    | (show SW _ _ _ _ (⟨_, Op.indexAddr _ _ _, _, _, _, none⟩ :: _) _ _; refine SW.st (st_indexN rfl rfl (by assumption) (by omega)) rfl ?_)
    | (show SW _ _ _ _ (⟨_, Op.call ⟨.builtin .len, _, _⟩, _, _, _, none⟩ :: _) _ _; refine SW.st (st_len rfl) rfl ?_)
    | (show SW _ _ _ _ (⟨_, Op.call ⟨.builtin .cap, _, _⟩, _, _, _, none⟩ :: _) _ _; refine SW.st (st_cap rfl) rfl ?_)
    | (show SW _ _ _ _ (⟨_, Op.load _ _, _, _, _, none⟩ :: _) _ _; first | refine SW.st (st_loads rfl rfl ((fun _ _ => hb5.cell))) rfl ?_ | refine SW.st (st_loadsx hw rfl rfl ((fun _ _ => hb5.cell))) rfl ?_))
  refine SW.call rfl rfl (BAlloc_ans _ _ _ _ _ _ x y size align low high down N hN _ hX.sl hY.sl hn hm) fun v w3 hw3 hv => ?_
  rw [ho] at hv
  obtain ⟨u, rfl, A6, n6, c6, B6, m6, d6, rfl, h6, h6'⟩ := hv
  (replace hw := Ext.trans hw hw3; replace hB := hB.ext hw3; replace hb5 := hb5.ext hw3; replace hX := hX.ext hw3; replace hY := hY.ext hw3)
  repeat' (first
    | (show CW _ _ _ _ _ _; first | refine CW.seq ?_ | refine CW.region ?_ | refine CW.block ?_ | refine CW.condtr rfl (by with_reducible rfl) ?_ | refine CW.condfr rfl (by with_reducible rfl) ?_ | refine CW.condd_t rfl (by omega) ?_ | refine CW.condd_f rfl (by omega) ?_ | refine CW.condn_t rfl (by omega) ?_ | refine CW.condn_f rfl (by omega) ?_ | refine CW.condd rfl (fun h => ?_) (fun h => ?_) | refine CW.condn rfl (fun h => ?_) (fun h => ?_) | refine CW.condt rfl ?_ | refine CW.condf rfl ?_ | refine CW.cond rfl (fun h => ?_) (fun h => ?_) | refine CW.skip ?_ | refine CW.ret ?_ | refine CW.exit ?_)
    | (show Post _ _ _ _ _; first | refine Post.seq ?_ | refine Post.seq_ret ?_ | refine Post.seq_exit ?_ | refine Post.hit ?_ | refine Post.pass rfl ?_ | refine Post.blk ?_ | refine Post.blk_ret ?_ | refine Post.again_exit ?_ | refine Post.again_ret ?_ | refine Post.np ?_)
    | refine SW.nil ?_
    | (show SW _ _ _ _ (⟨_, _, _, _, _, some _⟩ :: _) _ _; first | refine SW.want_t rfl rfl (by with_reducible rfl) ?_ | refine SW.want_f rfl rfl (by with_reducible rfl) ?_ | refine SW.skip_t rfl rfl (by with_reducible rfl) rfl ?_ | refine SW.skip_f rfl rfl (by with_reducible rfl) rfl ?_ | refine SW.skip_u rfl rfl (by with_reducible rfl) rfl ?_ | refine SW.splitd_t rfl rfl rfl (by omega) ?_ | refine SW.splitd_f rfl rfl rfl (by omega) ?_ | refine SW.splitn_t rfl rfl rfl (by omega) ?_ | refine SW.splitn_f rfl rfl rfl (by omega) ?_ | refine SW.splitd rfl rfl rfl (fun h => ?_) (fun h => ?_) | refine SW.splitn rfl rfl rfl (fun h => ?_) (fun h => ?_) | refine SW.want rfl rfl ?_ | refine SW.skip rfl rfl rfl rfl ?_ | refine SW.skipu rfl rfl rfl ?_ | refine SW.split rfl rfl rfl (fun h => ?_) (fun h => ?_))
    | refine SW.pure rfl rfl ?_
    | (show SW _ _ _ _ (⟨_, Op.fieldAddr _ _ _, _, _, _, none⟩ :: _) _ _; refine SW.st (st_field rfl) rfl ?_)
    | (show SW _ _ _ _ (⟨_, Op.nilCheck _, _, _, _, none⟩ :: _) _ _; refine SW.st (st_nilCheck rfl) rfl ?_)
    | (show SW _ _ _ _ (⟨_, Op.build _ _, _, _, _, none⟩ :: _) _ _; refine SW.st (st_build rfl rfl) rfl ?_)
    | (show SW _ _ _ _ (⟨_, Op.binOp _ _ _ _ _, _, _, _, none⟩ :: _) _ _; first | refine SW.st (st_add rfl rfl (by omega) (by omega)) rfl ?_ | refine SW.st (st_sub rfl rfl (by omega) (by omega)) rfl ?_ | refine SW.st (st_mul rfl rfl (by omega) (by omega)) rfl ?_ | refine SW.st (st_quo rfl rfl (by omega) (by omega) (by omega)) rfl ?_ | refine SW.st (st_rem rfl rfl (by omega)) rfl ?_)
    | (show SW _ _ _ _ (⟨_, Op.indexAddr _ _ _, _, _, _, none⟩ :: _) _ _; refine SW.st (st_indexN rfl rfl (by assumption) (by omega)) rfl ?_)
    | (show SW _ _ _ _ (⟨_, Op.call ⟨.builtin .len, _, _⟩, _, _, _, none⟩ :: _) _ _; refine SW.st (st_len rfl) rfl ?_)
    | (show SW _ _ _ _ (⟨_, Op.call ⟨.builtin .cap, _, _⟩, _, _, _, none⟩ :: _) _ _; refine SW.st (st_cap rfl) rfl ?_))
  refine SW.alloc rfl fun b6 w1 hw1 hb6b hb6 => ?_
  repeat' (first
    | (show CW _ _ _ _ _ _; first | refine CW.seq ?_ | refine CW.region ?_ | refine CW.block ?_ | refine CW.condtr rfl (by with_reducible rfl) ?_ | refine CW.condfr rfl (by with_reducible rfl) ?_ | refine CW.condd_t rfl (by omega) ?_ | refine CW.condd_f rfl (by omega) ?_ | refine CW.condn_t rfl (by omega) ?_ | refine CW.condn_f rfl (by omega) ?_ | refine CW.condd rfl (fun h => ?_) (fun h => ?_) | refine CW.condn rfl (fun h => ?_) (fun h => ?_) | refine CW.condt rfl ?_ | refine CW.condf rfl ?_ | refine CW.cond rfl (fun h => ?_) (fun h => ?_) | refine CW.skip ?_ | refine CW.ret ?_ | refine CW.exit ?_)
    | (show Post _ _ _ _ _; first | refine Post.seq ?_ | refine Post.seq_ret ?_ | refine Post.seq_exit ?_ | refine Post.hit ?_ | refine Post.pass rfl ?_ | refine Post.blk ?_ | refine Post.blk_ret ?_ | refine Post.again_exit ?_ | refine Post.again_ret ?_ | refine Post.np ?_)
    | refine SW.nil ?_
    | (show SW _ _ _ _ (⟨_, _, _, _, _, some _⟩ :: _) _ _; first | refine SW.want_t rfl rfl (by with_reducible rfl) ?_ | refine SW.want_f rfl rfl (by with_reducible rfl) ?_ | refine SW.skip_t rfl rfl (by with_reducible rfl) rfl ?_ | refine SW.skip_f rfl rfl (by with_reducible rfl) rfl ?_ | refine SW.skip_u rfl rfl (by with_reducible rfl) rfl ?_ | refine SW.splitd_t rfl rfl rfl (by omega) ?_ | refine SW.splitd_f rfl rfl rfl (by omega) ?_ | refine SW.splitn_t rfl rfl rfl (by omega) ?_ | refine SW.splitn_f rfl rfl rfl (by omega) ?_ | refine SW.splitd rfl rfl rfl (fun h => ?_) (fun h => ?_) | refine SW.splitn rfl rfl rfl (fun h => ?_) (fun h => ?_) | refine SW.want rfl rfl ?_ | refine SW.skip rfl rfl rfl rfl ?_ | refine SW.skipu rfl rfl rfl ?_ | refine SW.split rfl rfl rfl (fun h => ?_) (fun h => ?_))
    | refine SW.pure rfl rfl ?_
    | (show SW _ _ _ _ (⟨_, Op.fieldAddr _ _ _, _, _, _, none⟩ :: _) _ _; refine SW.st (st_field rfl) rfl ?_)
    | (show SW _ _ _ _ (⟨_, Op.nilCheck _, _, _, _, none⟩ :: _) _ _; refine SW.st (st_nilCheck rfl) rfl ?_)
    | (show SW _ _ _ _ (⟨_, Op.build _ _, _, _, _, none⟩ :: _) _ _; refine SW.st (st_build rfl rfl) rfl ?_)
    | (show SW _ _ _ _ (⟨_, Op.binOp _ _ _ _ _, _, _, _, none⟩ :: _) _ _; first | refine SW.st (st_add rfl rfl (by omega) (by omega)) rfl ?_ | refine SW.st (st_sub rfl rfl (by omega) (by omega)) rfl ?_ | refine SW.st (st_mul rfl rfl (by omega) (by omega)) rfl ?_ | refine SW.st (st_quo rfl rfl (by omega) (by omega) (by omega)) rfl ?_ | refine SW.st (st_rem rfl rfl (by omega)) rfl ?_)
    | (show SW _ _ _ _ (⟨_, Op.indexAddr _ _ _, _, _, _, none⟩ :: _) _ _; refine SW.st (st_indexN rfl rfl (by assumption) (by omega)) rfl ?_)
    | (show SW _ _ _ _ (⟨_, Op.call ⟨.builtin .len, _, _⟩, _, _, _, none⟩ :: _) _ _; refine SW.st (st_len rfl) rfl ?_)
    | (show SW _ _ _ _ (⟨_, Op.call ⟨.builtin .cap, _, _⟩, _, _, _, none⟩ :: _) _ _; refine SW.st (st_cap rfl) rfl ?_))
  refine SW.storeAgg hb6 rfl rfl rfl rfl (one_boot _ _ _ _ _ _) fun w2 hb6' hg => ?_
  have hXX := hw1.own hb6b hg
  have hb6w : w.heap.size ≤ b6 := Nat.le_trans hw.size hb6b
  replace hw := Ext.trans hw hXX
  replace hB := hB.ext hXX
  replace hb5 := hb5.ext hXX
  replace hX := hX.ext hXX
  replace hY := hY.ext hXX
  replace h6 := h6.ext hXX
  replace h6' := h6'.ext hXX
  replace hb6 := hb6'
  clear hb6' hw1 hg hXX
  repeat' (first
    | (show CW _ _ _ _ _ _; first | refine CW.seq ?_ | refine CW.region ?_ | refine CW.block ?_ | refine CW.condtr rfl (by with_reducible rfl) ?_ | refine CW.condfr rfl (by with_reducible rfl) ?_ | refine CW.condd_t rfl (by omega) ?_ | refine CW.condd_f rfl (by omega) ?_ | refine CW.condn_t rfl (by omega) ?_ | refine CW.condn_f rfl (by omega) ?_ | refine CW.condd rfl (fun h => ?_) (fun h => ?_) | refine CW.condn rfl (fun h => ?_) (fun h => ?_) | refine CW.condt rfl ?_ | refine CW.condf rfl ?_ | refine CW.cond rfl (fun h => ?_) (fun h => ?_) | refine CW.skip ?_ | refine CW.ret ?_ | refine CW.exit ?_)
    | (show Post _ _ _ _ _; first | refine Post.seq ?_ | refine Post.seq_ret ?_ | refine Post.seq_exit ?_ | refine Post.hit ?_ | refine Post.pass rfl ?_ | refine Post.blk ?_ | refine Post.blk_ret ?_ | refine Post.again_exit ?_ | refine Post.again_ret ?_ | refine Post.np ?_)
    | refine SW.nil ?_
    | (show SW _ _ _ _ (⟨_, _, _, _, _, some _⟩ :: _) _ _; first | refine SW.want_t rfl rfl (by with_reducible rfl) ?_ | refine SW.want_f rfl rfl (by with_reducible rfl) ?_ | refine SW.skip_t rfl rfl (by with_reducible rfl) rfl ?_ | refine SW.skip_f rfl rfl (by with_reducible rfl) rfl ?_ | refine SW.skip_u rfl rfl (by with_reducible rfl) rfl ?_ | refine SW.splitd_t rfl rfl rfl (by omega) ?_ | refine SW.splitd_f rfl rfl rfl (by omega) ?_ | refine SW.splitn_t rfl rfl rfl (by omega) ?_ | refine SW.splitn_f rfl rfl rfl (by omega) ?_ | refine SW.splitd rfl rfl rfl (fun h => ?_) (fun h => ?_) | refine SW.splitn rfl rfl rfl (fun h => ?_) (fun h => ?_) | refine SW.want rfl rfl ?_ | refine SW.skip rfl rfl rfl rfl ?_ | refine SW.skipu rfl rfl rfl ?_ | refine SW.split rfl rfl rfl (fun h => ?_) (fun h => ?_))
    | refine SW.pure rfl rfl ?_
    | (show SW _ _ _ _ (⟨_, Op.fieldAddr _ _ _, _, _, _, none⟩ :: _) _ _; refine SW.st (st_field rfl) rfl ?_)
    | (show SW _ _ _ _ (⟨_, Op.nilCheck _, _, _, _, none⟩ :: _) _ _; refine SW.st (st_nilCheck rfl) rfl ?_)
    | (show SW _ _ _ _ (⟨_, Op.build _ _, _, _, _, none⟩ :: _) _ _; refine SW.st (st_build rfl rfl) rfl ?_)
    | (show SW _ _ _ _ (⟨_, Op.binOp _ _ _ _ _, _, _, _, none⟩ :: _) _ _; first | refine SW.st (st_add rfl rfl (by omega) (by omega)) rfl ?_ | refine SW.st (st_sub rfl rfl (by omega) (by omega)) rfl ?_ | refine SW.st (st_mul rfl rfl (by omega) (by omega)) rfl ?_ | refine SW.st (st_quo rfl rfl (by omega) (by omega) (by omega)) rfl ?_ | refine SW.st (st_rem rfl rfl (by omega)) rfl ?_)
    | (show SW _ _ _ _ (⟨_, Op.indexAddr _ _ _, _, _, _, none⟩ :: _) _ _; refine SW.st (st_indexN rfl rfl (by assumption) (by omega)) rfl ?_)
    | (show SW _ _ _ _ (⟨_, Op.call ⟨.builtin .len, _, _⟩, _, _, _, none⟩ :: _) _ _; refine SW.st (st_len rfl) rfl ?_)
    | (show SW _ _ _ _ (⟨_, Op.call ⟨.builtin .cap, _, _⟩, _, _, _, none⟩ :: _) _ _; refine SW.st (st_cap rfl) rfl ?_)
    | (show SW _ _ _ _ (⟨_, Op.load _ _, _, _, _, none⟩ :: _) _ _; first | refine SW.st (st_loads rfl rfl ((fun _ _ => hB.cell))) rfl ?_ | refine SW.st (st_loadsx hw rfl rfl ((fun _ _ => hB.cell))) rfl ?_))
  refine SW.call rfl rfl (BootAlloc_ans _ _ _ _ _ _ x y size align low high down N hN _ (hx.ext hw) (hy.ext hw) hn hm) fun v w3 hw3 hv => ?_
  rw [ho] at hv
  obtain ⟨u, rfl, A8, n8, c8, B8, m8, d8, rfl, h8, h8'⟩ := hv
  (replace hw := Ext.trans hw hw3; replace hB := hB.ext hw3; replace hb5 := hb5.ext hw3; replace hb6 := hb6.ext hw3; replace hX := hX.ext hw3; replace hY := hY.ext hw3; replace h6 := h6.ext hw3; replace h6' := h6'.ext hw3)
  repeat' (first
    | (show CW _ _ _ _ _ _; first | refine CW.seq ?_ | refine CW.region ?_ | refine CW.block ?_ | refine CW.condtr rfl (by with_reducible rfl) ?_ | refine CW.condfr rfl (by with_reducible rfl) ?_ | refine CW.condd_t rfl (by omega) ?_ | refine CW.condd_f rfl (by omega) ?_ | refine CW.condn_t rfl (by omega) ?_ | refine CW.condn_f rfl (by omega) ?_ | refine CW.condd rfl (fun h => ?_) (fun h => ?_) | refine CW.condn rfl (fun h => ?_) (fun h => ?_) | refine CW.condt rfl ?_ | refine CW.condf rfl ?_ | refine CW.cond rfl (fun h => ?_) (fun h => ?_) | refine CW.skip ?_ | refine CW.ret ?_ | refine CW.exit ?_)
    | (show Post _ _ _ _ _; first | refine Post.seq ?_ | refine Post.seq_ret ?_ | refine Post.seq_exit ?_ | refine Post.hit ?_ | refine Post.pass rfl ?_ | refine Post.blk ?_ | refine Post.blk_ret ?_ | refine Post.again_exit ?_ | refine Post.again_ret ?_ | refine Post.np ?_)
    | refine SW.nil ?_
    | (show SW _ _ _ _ (⟨_, _, _, _, _, some _⟩ :: _) _ _; first | refine SW.want_t rfl rfl (by with_reducible rfl) ?_ | refine SW.want_f rfl rfl (by with_reducible rfl) ?_ | refine SW.skip_t rfl rfl (by with_reducible rfl) rfl ?_ | refine SW.skip_f rfl rfl (by with_reducible rfl) rfl ?_ | refine SW.skip_u rfl rfl (by with_reducible rfl) rfl ?_ | refine SW.splitd_t rfl rfl rfl (by omega) ?_ | refine SW.splitd_f rfl rfl rfl (by omega) ?_ | refine SW.splitn_t rfl rfl rfl (by omega) ?_ | refine SW.splitn_f rfl rfl rfl (by omega) ?_ | refine SW.splitd rfl rfl rfl (fun h => ?_) (fun h => ?_) | refine SW.splitn rfl rfl rfl (fun h => ?_) (fun h => ?_) | refine SW.want rfl rfl ?_ | refine SW.skip rfl rfl rfl rfl ?_ | refine SW.skipu rfl rfl rfl ?_ | refine SW.split rfl rfl rfl (fun h => ?_) (fun h => ?_))
    | refine SW.pure rfl rfl ?_
    | (show SW _ _ _ _ (⟨_, Op.fieldAddr _ _ _, _, _, _, none⟩ :: _) _ _; refine SW.st (st_field rfl) rfl ?_)
    | (show SW _ _ _ _ (⟨_, Op.nilCheck _, _, _, _, none⟩ :: _) _ _; refine SW.st (st_nilCheck rfl) rfl ?_)
    | (show SW _ _ _ _ (⟨_, Op.build _ _, _, _, _, none⟩ :: _) _ _; refine SW.st (st_build rfl rfl) rfl ?_)
    | (show SW _ _ _ _ (⟨_, Op.binOp _ _ _ _ _, _, _, _, none⟩ :: _) _ _; first | refine SW.st (st_add rfl rfl (by omega) (by omega)) rfl ?_ | refine SW.st (st_sub rfl rfl (by omega) (by omega)) rfl ?_ | refine SW.st (st_mul rfl rfl (by omega) (by omega)) rfl ?_ | refine SW.st (st_quo rfl rfl (by omega) (by omega) (by omega)) rfl ?_ | refine SW.st (st_rem rfl rfl (by omega)) rfl ?_)
    | (show SW _ _ _ _ (⟨_, Op.indexAddr _ _ _, _, _, _, none⟩ :: _) _ _; refine SW.st (st_indexN rfl rfl (by assumption) (by omega)) rfl ?_)
    | (show SW _ _ _ _ (⟨_, Op.call ⟨.builtin .len, _, _⟩, _, _, _, none⟩ :: _) _ _; refine SW.st (st_len rfl) rfl ?_)
    | (show SW _ _ _ _ (⟨_, Op.call ⟨.builtin .cap, _, _⟩, _, _, _, none⟩ :: _) _ _; refine SW.st (st_cap rfl) rfl ?_))
  refine SW.alloc rfl fun b8 w1 hw1 hb8b hb8 => ?_
  repeat' (first
    | (show CW _ _ _ _ _ _; first | refine CW.seq ?_ | refine CW.region ?_ | refine CW.block ?_ | refine CW.condtr rfl (by with_reducible rfl) ?_ | refine CW.condfr rfl (by with_reducible rfl) ?_ | refine CW.condd_t rfl (by omega) ?_ | refine CW.condd_f rfl (by omega) ?_ | refine CW.condn_t rfl (by omega) ?_ | refine CW.condn_f rfl (by omega) ?_ | refine CW.condd rfl (fun h => ?_) (fun h => ?_) | refine CW.condn rfl (fun h => ?_) (fun h => ?_) | refine CW.condt rfl ?_ | refine CW.condf rfl ?_ | refine CW.cond rfl (fun h => ?_) (fun h => ?_) | refine CW.skip ?_ | refine CW.ret ?_ | refine CW.exit ?_)
    | (show Post _ _ _ _ _; first | refine Post.seq ?_ | refine Post.seq_ret ?_ | refine Post.seq_exit ?_ | refine Post.hit ?_ | refine Post.pass rfl ?_ | refine Post.blk ?_ | refine Post.blk_ret ?_ | refine Post.again_exit ?_ | refine Post.again_ret ?_ | refine Post.np ?_)
    | refine SW.nil ?_
    | (show SW _ _ _ _ (⟨_, _, _, _, _, some _⟩ :: _) _ _; first | refine SW.want_t rfl rfl (by with_reducible rfl) ?_ | refine SW.want_f rfl rfl (by with_reducible rfl) ?_ | refine SW.skip_t rfl rfl (by with_reducible rfl) rfl ?_ | refine SW.skip_f rfl rfl (by with_reducible rfl) rfl ?_ | refine SW.skip_u rfl rfl (by with_reducible rfl) rfl ?_ | refine SW.splitd_t rfl rfl rfl (by omega) ?_ | refine SW.splitd_f rfl rfl rfl (by omega) ?_ | refine SW.splitn_t rfl rfl rfl (by omega) ?_ | refine SW.splitn_f rfl rfl rfl (by omega) ?_ | refine SW.splitd rfl rfl rfl (fun h => ?_) (fun h => ?_) | refine SW.splitn rfl rfl rfl (fun h => ?_) (fun h => ?_) | refine SW.want rfl rfl ?_ | refine SW.skip rfl rfl rfl rfl ?_ | refine SW.skipu rfl rfl rfl ?_ | refine SW.split rfl rfl rfl (fun h => ?_) (fun h => ?_))
    | refine SW.pure rfl rfl ?_
    | (show SW _ _ _ _ (⟨_, Op.fieldAddr _ _ _, _, _, _, none⟩ :: _) _ _; refine SW.st (st_field rfl) rfl ?_)
    | (show SW _ _ _ _ (⟨_, Op.nilCheck _, _, _, _, none⟩ :: _) _ _; refine SW.st (st_nilCheck rfl) rfl ?_)
    | (show SW _ _ _ _ (⟨_, Op.build _ _, _, _, _, none⟩ :: _) _ _; refine SW.st (st_build rfl rfl) rfl ?_)
    | (show SW _ _ _ _ (⟨_, Op.binOp _ _ _ _ _, _, _, _, none⟩ :: _) _ _; first | refine SW.st (st_add rfl rfl (by omega) (by omega)) rfl ?_ | refine SW.st (st_sub rfl rfl (by omega) (by omega)) rfl ?_ | refine SW.st (st_mul rfl rfl (by omega) (by omega)) rfl ?_ | refine SW.st (st_quo rfl rfl (by omega) (by omega) (by omega)) rfl ?_ | refine SW.st (st_rem rfl rfl (by omega)) rfl ?_)
    | (show SW _ _ _ _ (⟨_, Op.indexAddr _ _ _, _, _, _, none⟩ :: _) _ _; refine SW.st (st_indexN rfl rfl (by assumption) (by omega)) rfl ?_)
    | (show SW _ _ _ _ (⟨_, Op.call ⟨.builtin .len, _, _⟩, _, _, _, none⟩ :: _) _ _; refine SW.st (st_len rfl) rfl ?_)
    | (show SW _ _ _ _ (⟨_, Op.call ⟨.builtin .cap, _, _⟩, _, _, _, none⟩ :: _) _ _; refine SW.st (st_cap rfl) rfl ?_))
  refine SW.storeAgg hb8 rfl rfl rfl rfl (one_boot _ _ _ _ _ _) fun w2 hb8' hg => ?_
  have hXX := hw1.own hb8b hg
  have hb8w : w.heap.size ≤ b8 := Nat.le_trans hw.size hb8b
  replace hw := Ext.trans hw hXX
  replace hB := hB.ext hXX
  replace hb5 := hb5.ext hXX
  replace hb6 := hb6.ext hXX
  replace hX := hX.ext hXX
  replace hY := hY.ext hXX
  replace h6 := h6.ext hXX
  replace h6' := h6'.ext hXX
  replace h8 := h8.ext hXX
  replace h8' := h8'.ext hXX
  replace hb8 := hb8'
  clear hb8' hw1 hg hXX
  obtain ⟨o0, oi, o1, o2⟩ := o
  simp only at h6 h6' h8 h8' hle
  have s1 : ∀ w', Ext w w' → Sl w' 2 encR A6 n6 o1 → Sl w' 2 encR B6 m6 o2 → Sl w' 2 encR A8 n8 o1 → Sl w' 2 encR B8 m8 o2 → Ans Try.prog 39 [.agg (bootCells A6 n6 c6 B6 m6 d6).toArray, .agg (bootCells A8 n8 c8 B8 m8 d8).toArray] w' fun v _ => v = .bool true := fun w' _ a1 a2 a3 a4 => by
    have := sameBoot_ans A6 n6 c6 B6 m6 d6 A8 n8 c8 B8 m8 d8 o1 o2 o1 o2 w' a1 a2 a3 a4 (by have := a1.len; omega) (by have := a2.len; omega)
    simpa using this
  have s2 : ∀ w', Ext w w' → Sl w' 2 encR Ak nk x → Sl w' 2 encR Bk mk y → Ans Try.prog 39 [.agg (bootCells Ak nk ck Bk mk dk).toArray, .agg (bootCells A nk c B mk d).toArray] w' fun v _ => v = .bool true := fun w' h a1 a2 => by
    have := sameBoot_ans Ak nk ck Bk mk dk A nk c B mk d x y x y w' a1 a2 (hx.ext h) (hy.ext h) (by omega) (by omega)
    simpa using this
  repeat' (first
    | (show CW _ _ _ _ _ _; first | refine CW.seq ?_ | refine CW.region ?_ | refine CW.block ?_ | refine CW.condtr rfl (by with_reducible rfl) ?_ | refine CW.condfr rfl (by with_reducible rfl) ?_ | refine CW.condd_t rfl (by omega) ?_ | refine CW.condd_f rfl (by omega) ?_ | refine CW.condn_t rfl (by omega) ?_ | refine CW.condn_f rfl (by omega) ?_ | refine CW.condd rfl (fun h => ?_) (fun h => ?_) | refine CW.condn rfl (fun h => ?_) (fun h => ?_) | refine CW.condt rfl ?_ | refine CW.condf rfl ?_ | refine CW.cond rfl (fun h => ?_) (fun h => ?_) | refine CW.skip ?_ | refine CW.ret ?_ | refine CW.exit ?_)
    | (show Post _ _ _ _ _; first | refine Post.seq ?_ | refine Post.seq_ret ?_ | refine Post.seq_exit ?_ | refine Post.hit ?_ | refine Post.pass rfl ?_ | refine Post.blk ?_ | refine Post.blk_ret ?_ | refine Post.again_exit ?_ | refine Post.again_ret ?_ | refine Post.np ?_)
    | refine SW.nil ?_
    | (show SW _ _ _ _ (⟨_, _, _, _, _, some _⟩ :: _) _ _; first | refine SW.want_t rfl rfl (by with_reducible rfl) ?_ | refine SW.want_f rfl rfl (by with_reducible rfl) ?_ | refine SW.skip_t rfl rfl (by with_reducible rfl) rfl ?_ | refine SW.skip_f rfl rfl (by with_reducible rfl) rfl ?_ | refine SW.skip_u rfl rfl (by with_reducible rfl) rfl ?_ | refine SW.splitd_t rfl rfl rfl (by omega) ?_ | refine SW.splitd_f rfl rfl rfl (by omega) ?_ | refine SW.splitn_t rfl rfl rfl (by omega) ?_ | refine SW.splitn_f rfl rfl rfl (by omega) ?_ | refine SW.splitd rfl rfl rfl (fun h => ?_) (fun h => ?_) | refine SW.splitn rfl rfl rfl (fun h => ?_) (fun h => ?_) | refine SW.want rfl rfl ?_ | refine SW.skip rfl rfl rfl rfl ?_ | refine SW.skipu rfl rfl rfl ?_ | refine SW.split rfl rfl rfl (fun h => ?_) (fun h => ?_))
    | refine SW.pure rfl rfl ?_
    | (show SW _ _ _ _ (⟨_, Op.fieldAddr _ _ _, _, _, _, none⟩ :: _) _ _; refine SW.st (st_field rfl) rfl ?_)
    | (show SW _ _ _ _ (⟨_, Op.nilCheck _, _, _, _, none⟩ :: _) _ _; refine SW.st (st_nilCheck rfl) rfl ?_)
    | (show SW _ _ _ _ (⟨_, Op.build _ _, _, _, _, none⟩ :: _) _ _; refine SW.st (st_build rfl rfl) rfl ?_)
    | (show SW _ _ _ _ (⟨_, Op.binOp _ _ _ _ _, _, _, _, none⟩ :: _) _ _; first | refine SW.st (st_add rfl rfl (by omega) (by omega)) rfl ?_ | refine SW.st (st_sub rfl rfl (by omega) (by omega)) rfl ?_ | refine SW.st (st_mul rfl rfl (by omega) (by omega)) rfl ?_ | refine SW.st (st_quo rfl rfl (by omega) (by omega) (by omega)) rfl ?_ | refine SW.st (st_rem rfl rfl (by omega)) rfl ?_)
    | (show SW _ _ _ _ (⟨_, Op.indexAddr _ _ _, _, _, _, none⟩ :: _) _ _; refine SW.st (st_indexN rfl rfl (by assumption) (by omega)) rfl ?_)
    | (show SW _ _ _ _ (⟨_, Op.call ⟨.builtin .len, _, _⟩, _, _, _, none⟩ :: _) _ _; refine SW.st (st_len rfl) rfl ?_)
    | (show SW _ _ _ _ (⟨_, Op.call ⟨.builtin .cap, _, _⟩, _, _, _, none⟩ :: _) _ _; refine SW.st (st_cap rfl) rfl ?_)
    | (show SW _ _ _ _ (⟨_, Op.load _ _, _, _, _, none⟩ :: _) _ _; first | refine SW.st (st_loads rfl rfl ((fun _ _ => hb6.cell))) rfl ?_ | refine SW.st (st_loadsx hw rfl rfl ((fun _ _ => hb6.cell))) rfl ?_ | refine SW.st (st_loads rfl rfl ((fun _ _ => hb8.cell))) rfl ?_ | refine SW.st (st_loadsx hw rfl rfl ((fun _ _ => hb8.cell))) rfl ?_ | refine SW.st (st_loads rfl rfl ((fun _ _ => hb5.cell))) rfl ?_ | refine SW.st (st_loadsx hw rfl rfl ((fun _ _ => hb5.cell))) rfl ?_ | refine SW.st (st_loads rfl rfl ((fun _ _ => hB.cell))) rfl ?_ | refine SW.st (st_loadsx hw rfl rfl ((fun _ _ => hB.cell))) rfl ?_)
    | (show SW _ _ _ _ (⟨_, Op.call ⟨.value (.func _), _, _⟩, _, _, _, none⟩ :: _) _ _; first | (refine SW.call rfl rfl (s1 _ hw h6.sl h6'.sl h8.sl h8'.sl) ?_; intro v w1 hw1 hv; subst hv; replace hw := Ext.trans hw hw1; replace hB := hB.ext hw1; replace hb5 := hb5.ext hw1; replace hb6 := hb6.ext hw1; replace hb8 := hb8.ext hw1; replace hX := hX.ext hw1; replace hY := hY.ext hw1; replace h6 := h6.ext hw1; replace h6' := h6'.ext hw1; replace h8 := h8.ext hw1; replace h8' := h8'.ext hw1; clear hw1) | (refine SW.call rfl rfl (s2 _ hw hX.sl hY.sl) ?_; intro v w1 hw1 hv; subst hv; replace hw := Ext.trans hw hw1; replace hB := hB.ext hw1; replace hb5 := hb5.ext hw1; replace hb6 := hb6.ext hw1; replace hb8 := hb8.ext hw1; replace hX := hX.ext hw1; replace hY := hY.ext hw1; replace h6 := h6.ext hw1; replace h6' := h6'.ext hw1; replace h8 := h8.ext hw1; replace h8' := h8'.ext hw1; clear hw1)))
  all_goals first | (exfalso; omega) | skip
  exact Post.ret1 rfl rfl ⟨_, rfl, hw, rfl⟩
end Go.Proofs.Ytfdmgflboibdoaa
