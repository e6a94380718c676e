/-
  Contracts: ram.Load, ram.Store and their references; the laws RamNew, RamLoads, RamStores.
-/
import Derived.Test.YtfdjfiioejegiaaR3
set_option linter.unusedVariables false
namespace Go.Proofs.Ytfdjfiioejegiaa
open Go.RowKit

def loadF (l : List Int) (x : Int) : Int × Int := if 0 ≤ x ∧ x < l.length then (l.getD x.toNat 0, 0) else (0, 1)

theorem loadF_in {l : List Int} {k : Nat} (h : k < l.length) : loadF l (k : Int) = (l[k], 0) := by
  unfold loadF
  rw [if_pos (by omega)]
  simp [List.getD, h]
theorem loadF_out {l : List Int} {x : Int} (h : ¬ (0 ≤ x ∧ x < l.length)) : loadF l x = (0, 1) := by
  unfold loadF
  rw [if_neg h]

theorem Load_ans (A : Option Addr) (n c : Nat) (l : List Int) (x : Int) (w : World) (hl : Sl w 1 encI A n l) (hn : n ≤ 2305843009213693952) :
    Ans Try.prog 20 [.slice A n c, .int .i64 x] w fun v _ => v = .tuple #[.int .i64 (loadF l x).1, .int .i64 (loadF l x).2] := by
  refine ans_of Try.func20 rfl Try.ntmps20 rfl ?_
  have hw := Ext.refl w
  have hA := hl.base
  have hll := hl.len
  by_cases hx : 0 ≤ x ∧ x < n
  · obtain ⟨k, rfl⟩ := Int.eq_ofNat_of_zero_le hx.1
    have hk : k < n := by omega
    repeat' (first
      | (show CW _ _ _ _ _ _; first | refine CW.seq ?_ | refine CW.region ?_ | refine CW.block ?_ | refine CW.condt rfl ?_ | refine CW.condf rfl ?_ | refine CW.condd_t rfl (by omega) ?_ | refine CW.condd_f rfl (by omega) ?_ | refine CW.condn_t rfl (by omega) ?_ | refine CW.condn_f rfl (by omega) ?_ | refine CW.condd rfl (fun h => ?_) (fun h => ?_) | refine CW.condn rfl (fun h => ?_) (fun h => ?_) | refine CW.cond rfl (fun h => ?_) (fun h => ?_) | refine CW.skip ?_ | refine CW.ret ?_ | refine CW.exit ?_)
      | (show Post _ _ _ _ _; first | refine Post.seq ?_ | refine Post.seq_ret ?_ | refine Post.seq_exit ?_ | refine Post.hit ?_ | refine Post.pass rfl ?_ | refine Post.blk ?_ | refine Post.blk_ret ?_ | refine Post.again_exit ?_ | refine Post.again_ret ?_)
      | refine SW.nil ?_
      | (show SW _ _ _ _ (⟨_, _, _, _, _, some _⟩ :: _) _ _; first | refine SW.want rfl rfl ?_ | refine SW.skip rfl rfl rfl rfl ?_ | refine SW.splitd_t rfl rfl rfl (by omega) ?_ | refine SW.splitd_f rfl rfl rfl (by omega) ?_ | refine SW.splitn_t rfl rfl rfl (by omega) ?_ | refine SW.splitn_f rfl rfl rfl (by omega) ?_ | refine SW.splitd rfl rfl rfl (fun h => ?_) (fun h => ?_) | refine SW.splitn rfl rfl rfl (fun h => ?_) (fun h => ?_) | refine SW.split rfl rfl rfl (fun h => ?_) (fun h => ?_))
      | refine SW.pure rfl rfl ?_
      | (show SW _ _ _ _ (⟨_, Op.fieldAddr _ _ _, _, _, _, none⟩ :: _) _ _; refine SW.st (st_field rfl) rfl ?_)
      | (show SW _ _ _ _ (⟨_, Op.binOp _ _ _ _ _, _, _, _, none⟩ :: _) _ _; first | refine SW.st (st_add rfl rfl (by omega) (by omega)) rfl ?_ | refine SW.st (st_sub rfl rfl (by omega) (by omega)) rfl ?_ | refine SW.st (st_mul rfl rfl (by omega) (by omega)) rfl ?_ | refine SW.st (st_quo rfl rfl (by omega) (by omega) (by omega)) rfl ?_ | refine SW.st (st_rem rfl rfl (by omega)) rfl ?_)
      | (show SW _ _ _ _ (⟨_, Op.indexAddr _ _ _, _, _, _, none⟩ :: _) _ _; refine SW.st (st_indexN rfl rfl (by assumption) (by omega)) rfl ?_)
      | (show SW _ _ _ _ (⟨_, Op.call ⟨.builtin .len, _, _⟩, _, _, _, none⟩ :: _) _ _; refine SW.st (st_len rfl) rfl ?_)
      | (show SW _ _ _ _ (⟨_, Op.load _ _, _, _, _, none⟩ :: _) _ _; first | refine SW.st (st_load rfl (hl.one hk rfl)) rfl ?_ | refine SW.st (st_loadx hw rfl (hl.one hk rfl)) rfl ?_)
      | (show SW _ _ _ _ (⟨_, Op.call ⟨.value (.func _), _, _⟩, _, _, _, none⟩ :: _) _ _; (refine SW.call rfl rfl (in_ans _ _ _ _ _ _ hn) ?_; intro v w1 hw1 hv; subst hv; replace hw := Ext.trans hw hw1; clear hw1)))
    refine Post.ret2 rfl rfl rfl ⟨_, rfl, hw, ?_⟩
    rw [loadF_in (hl.lt hk)]
  · repeat' (first
      | (show CW _ _ _ _ _ _; first | refine CW.seq ?_ | refine CW.region ?_ | refine CW.block ?_ | refine CW.condt rfl ?_ | refine CW.condf rfl ?_ | refine CW.condd_t rfl (by omega) ?_ | refine CW.condd_f rfl (by omega) ?_ | refine CW.condn_t rfl (by omega) ?_ | refine CW.condn_f rfl (by omega) ?_ | refine CW.condd rfl (fun h => ?_) (fun h => ?_) | refine CW.condn rfl (fun h => ?_) (fun h => ?_) | refine CW.cond rfl (fun h => ?_) (fun h => ?_) | refine CW.skip ?_ | refine CW.ret ?_ | refine CW.exit ?_)
      | (show Post _ _ _ _ _; first | refine Post.seq ?_ | refine Post.seq_ret ?_ | refine Post.seq_exit ?_ | refine Post.hit ?_ | refine Post.pass rfl ?_ | refine Post.blk ?_ | refine Post.blk_ret ?_ | refine Post.again_exit ?_ | refine Post.again_ret ?_)
      | refine SW.nil ?_
      | (show SW _ _ _ _ (⟨_, _, _, _, _, some _⟩ :: _) _ _; first | refine SW.want rfl rfl ?_ | refine SW.skip rfl rfl rfl rfl ?_ | refine SW.splitd_t rfl rfl rfl (by omega) ?_ | refine SW.splitd_f rfl rfl rfl (by omega) ?_ | refine SW.splitn_t rfl rfl rfl (by omega) ?_ | refine SW.splitn_f rfl rfl rfl (by omega) ?_ | refine SW.splitd rfl rfl rfl (fun h => ?_) (fun h => ?_) | refine SW.splitn rfl rfl rfl (fun h => ?_) (fun h => ?_) | refine SW.split rfl rfl rfl (fun h => ?_) (fun h => ?_))
      | refine SW.pure rfl rfl ?_
      | (show SW _ _ _ _ (⟨_, Op.fieldAddr _ _ _, _, _, _, none⟩ :: _) _ _; refine SW.st (st_field rfl) rfl ?_)
      | (show SW _ _ _ _ (⟨_, Op.binOp _ _ _ _ _, _, _, _, none⟩ :: _) _ _; first | refine SW.st (st_add rfl rfl (by omega) (by omega)) rfl ?_ | refine SW.st (st_sub rfl rfl (by omega) (by omega)) rfl ?_ | refine SW.st (st_mul rfl rfl (by omega) (by omega)) rfl ?_ | refine SW.st (st_quo rfl rfl (by omega) (by omega) (by omega)) rfl ?_ | refine SW.st (st_rem rfl rfl (by omega)) rfl ?_)
      | (show SW _ _ _ _ (⟨_, Op.indexAddr _ _ _, _, _, _, none⟩ :: _) _ _; refine SW.st (st_indexN rfl rfl (by assumption) (by omega)) rfl ?_)
      | (show SW _ _ _ _ (⟨_, Op.call ⟨.builtin .len, _, _⟩, _, _, _, none⟩ :: _) _ _; refine SW.st (st_len rfl) rfl ?_)
      | (show SW _ _ _ _ (⟨_, Op.call ⟨.value (.func _), _, _⟩, _, _, _, none⟩ :: _) _ _; (refine SW.call rfl rfl (in_ans _ _ _ _ _ _ hn) ?_; intro v w1 hw1 hv; subst hv; replace hw := Ext.trans hw hw1; clear hw1)))
    refine Post.ret2 rfl rfl rfl ⟨_, rfl, hw, ?_⟩
    rw [loadF_out (by omega)]

theorem LoadOf_ans (A : Option Addr) (n c : Nat) (l : List Int) (x : Int) (w : World) (hl : Sl w 1 encI A n l) (hn : n ≤ 2305843009213693952) :
    Ans Try.prog 21 [.slice A n c, .int .i64 x] w fun v _ => v = .tuple #[.int .i64 (loadF l x).1, .int .i64 (loadF l x).2] := by
  refine ans_of Try.func21 rfl Try.ntmps21 rfl ?_
  have hw := Ext.refl w
  have hA := hl.base
  have hll := hl.len
  by_cases hx : 0 ≤ x ∧ x < n
  · obtain ⟨k, rfl⟩ := Int.eq_ofNat_of_zero_le hx.1
    have hk : k < n := by omega
    repeat' (first
      | (show CW _ _ _ _ _ _; first | refine CW.seq ?_ | refine CW.region ?_ | refine CW.block ?_ | refine CW.condt rfl ?_ | refine CW.condf rfl ?_ | refine CW.condd_t rfl (by omega) ?_ | refine CW.condd_f rfl (by omega) ?_ | refine CW.condn_t rfl (by omega) ?_ | refine CW.condn_f rfl (by omega) ?_ | refine CW.condd rfl (fun h => ?_) (fun h => ?_) | refine CW.condn rfl (fun h => ?_) (fun h => ?_) | refine CW.cond rfl (fun h => ?_) (fun h => ?_) | refine CW.skip ?_ | refine CW.ret ?_ | refine CW.exit ?_)
      | (show Post _ _ _ _ _; first | refine Post.seq ?_ | refine Post.seq_ret ?_ | refine Post.seq_exit ?_ | refine Post.hit ?_ | refine Post.pass rfl ?_ | refine Post.blk ?_ | refine Post.blk_ret ?_ | refine Post.again_exit ?_ | refine Post.again_ret ?_)
      | refine SW.nil ?_
      | (show SW _ _ _ _ (⟨_, _, _, _, _, some _⟩ :: _) _ _; first | refine SW.want rfl rfl ?_ | refine SW.skip rfl rfl rfl rfl ?_ | refine SW.splitd_t rfl rfl rfl (by omega) ?_ | refine SW.splitd_f rfl rfl rfl (by omega) ?_ | refine SW.splitn_t rfl rfl rfl (by omega) ?_ | refine SW.splitn_f rfl rfl rfl (by omega) ?_ | refine SW.splitd rfl rfl rfl (fun h => ?_) (fun h => ?_) | refine SW.splitn rfl rfl rfl (fun h => ?_) (fun h => ?_) | refine SW.split rfl rfl rfl (fun h => ?_) (fun h => ?_))
      | refine SW.pure rfl rfl ?_
      | (show SW _ _ _ _ (⟨_, Op.fieldAddr _ _ _, _, _, _, none⟩ :: _) _ _; refine SW.st (st_field rfl) rfl ?_)
      | (show SW _ _ _ _ (⟨_, Op.binOp _ _ _ _ _, _, _, _, none⟩ :: _) _ _; first | refine SW.st (st_add rfl rfl (by omega) (by omega)) rfl ?_ | refine SW.st (st_sub rfl rfl (by omega) (by omega)) rfl ?_ | refine SW.st (st_mul rfl rfl (by omega) (by omega)) rfl ?_ | refine SW.st (st_quo rfl rfl (by omega) (by omega) (by omega)) rfl ?_ | refine SW.st (st_rem rfl rfl (by omega)) rfl ?_)
      | (show SW _ _ _ _ (⟨_, Op.indexAddr _ _ _, _, _, _, none⟩ :: _) _ _; refine SW.st (st_indexN rfl rfl (by assumption) (by omega)) rfl ?_)
      | (show SW _ _ _ _ (⟨_, Op.call ⟨.builtin .len, _, _⟩, _, _, _, none⟩ :: _) _ _; refine SW.st (st_len rfl) rfl ?_)
      | (show SW _ _ _ _ (⟨_, Op.load _ _, _, _, _, none⟩ :: _) _ _; first | refine SW.st (st_load rfl (hl.one hk rfl)) rfl ?_ | refine SW.st (st_loadx hw rfl (hl.one hk rfl)) rfl ?_)
      | (show SW _ _ _ _ (⟨_, Op.call ⟨.value (.func _), _, _⟩, _, _, _, none⟩ :: _) _ _; (refine SW.call rfl rfl (there_ans _ _ _ _ _ _ hn) ?_; intro v w1 hw1 hv; subst hv; replace hw := Ext.trans hw hw1; clear hw1)))
    refine Post.ret2 rfl rfl rfl ⟨_, rfl, hw, ?_⟩
    rw [loadF_in (hl.lt hk)]
  · repeat' (first
      | (show CW _ _ _ _ _ _; first | refine CW.seq ?_ | refine CW.region ?_ | refine CW.block ?_ | refine CW.condt rfl ?_ | refine CW.condf rfl ?_ | refine CW.condd_t rfl (by omega) ?_ | refine CW.condd_f rfl (by omega) ?_ | refine CW.condn_t rfl (by omega) ?_ | refine CW.condn_f rfl (by omega) ?_ | refine CW.condd rfl (fun h => ?_) (fun h => ?_) | refine CW.condn rfl (fun h => ?_) (fun h => ?_) | refine CW.cond rfl (fun h => ?_) (fun h => ?_) | refine CW.skip ?_ | refine CW.ret ?_ | refine CW.exit ?_)
      | (show Post _ _ _ _ _; first | refine Post.seq ?_ | refine Post.seq_ret ?_ | refine Post.seq_exit ?_ | refine Post.hit ?_ | refine Post.pass rfl ?_ | refine Post.blk ?_ | refine Post.blk_ret ?_ | refine Post.again_exit ?_ | refine Post.again_ret ?_)
      | refine SW.nil ?_
      | (show SW _ _ _ _ (⟨_, _, _, _, _, some _⟩ :: _) _ _; first | refine SW.want rfl rfl ?_ | refine SW.skip rfl rfl rfl rfl ?_ | refine SW.splitd_t rfl rfl rfl (by omega) ?_ | refine SW.splitd_f rfl rfl rfl (by omega) ?_ | refine SW.splitn_t rfl rfl rfl (by omega) ?_ | refine SW.splitn_f rfl rfl rfl (by omega) ?_ | refine SW.splitd rfl rfl rfl (fun h => ?_) (fun h => ?_) | refine SW.splitn rfl rfl rfl (fun h => ?_) (fun h => ?_) | refine SW.split rfl rfl rfl (fun h => ?_) (fun h => ?_))
      | refine SW.pure rfl rfl ?_
      | (show SW _ _ _ _ (⟨_, Op.fieldAddr _ _ _, _, _, _, none⟩ :: _) _ _; refine SW.st (st_field rfl) rfl ?_)
      | (show SW _ _ _ _ (⟨_, Op.binOp _ _ _ _ _, _, _, _, none⟩ :: _) _ _; first | refine SW.st (st_add rfl rfl (by omega) (by omega)) rfl ?_ | refine SW.st (st_sub rfl rfl (by omega) (by omega)) rfl ?_ | refine SW.st (st_mul rfl rfl (by omega) (by omega)) rfl ?_ | refine SW.st (st_quo rfl rfl (by omega) (by omega) (by omega)) rfl ?_ | refine SW.st (st_rem rfl rfl (by omega)) rfl ?_)
      | (show SW _ _ _ _ (⟨_, Op.indexAddr _ _ _, _, _, _, none⟩ :: _) _ _; refine SW.st (st_indexN rfl rfl (by assumption) (by omega)) rfl ?_)
      | (show SW _ _ _ _ (⟨_, Op.call ⟨.builtin .len, _, _⟩, _, _, _, none⟩ :: _) _ _; refine SW.st (st_len rfl) rfl ?_)
      | (show SW _ _ _ _ (⟨_, Op.call ⟨.value (.func _), _, _⟩, _, _, _, none⟩ :: _) _ _; (refine SW.call rfl rfl (there_ans _ _ _ _ _ _ hn) ?_; intro v w1 hw1 hv; subst hv; replace hw := Ext.trans hw hw1; clear hw1)))
    refine Post.ret2 rfl rfl rfl ⟨_, rfl, hw, ?_⟩
    rw [loadF_out (by omega)]

theorem ramLoads_ans (A : Option Addr) (n c : Nat) (l : List Int) (x : Int) (w : World) (hl : Sl w 1 encI A n l) (hn : n ≤ 2305843009213693952) :
    Ans Try.prog 6 [.slice A n c, .int .i64 x] w fun v _ => v = .bool true := by
  refine ans_of Try.func6 rfl Try.ntmps6 rfl ?_
  have hw := Ext.refl w
  repeat' (first
    | (show CW _ _ _ _ _ _; first | refine CW.seq ?_ | refine CW.region ?_ | refine CW.block ?_ | refine CW.condt rfl ?_ | refine CW.condf rfl ?_ | refine CW.condd_t rfl (by omega) ?_ | refine CW.condd_f rfl (by omega) ?_ | refine CW.condn_t rfl (by omega) ?_ | refine CW.condn_f rfl (by omega) ?_ | refine CW.condd rfl (fun h => ?_) (fun h => ?_) | refine CW.condn rfl (fun h => ?_) (fun h => ?_) | refine CW.cond rfl (fun h => ?_) (fun h => ?_) | refine CW.skip ?_ | refine CW.ret ?_ | refine CW.exit ?_)
    | (show Post _ _ _ _ _; first | refine Post.seq ?_ | refine Post.seq_ret ?_ | refine Post.seq_exit ?_ | refine Post.hit ?_ | refine Post.pass rfl ?_ | refine Post.blk ?_ | refine Post.blk_ret ?_ | refine Post.again_exit ?_ | refine Post.again_ret ?_)
    | refine SW.nil ?_
    | (show SW _ _ _ _ (⟨_, _, _, _, _, some _⟩ :: _) _ _; first | refine SW.want rfl rfl ?_ | refine SW.skip rfl rfl rfl rfl ?_ | refine SW.splitd_t rfl rfl rfl (by omega) ?_ | refine SW.splitd_f rfl rfl rfl (by omega) ?_ | refine SW.splitn_t rfl rfl rfl (by omega) ?_ | refine SW.splitn_f rfl rfl rfl (by omega) ?_ | refine SW.splitd rfl rfl rfl (fun h => ?_) (fun h => ?_) | refine SW.splitn rfl rfl rfl (fun h => ?_) (fun h => ?_) | refine SW.split rfl rfl rfl (fun h => ?_) (fun h => ?_))
    | refine SW.pure rfl rfl ?_
    | (show SW _ _ _ _ (⟨_, Op.fieldAddr _ _ _, _, _, _, none⟩ :: _) _ _; refine SW.st (st_field rfl) rfl ?_)
    | (show SW _ _ _ _ (⟨_, Op.binOp _ _ _ _ _, _, _, _, none⟩ :: _) _ _; first | refine SW.st (st_add rfl rfl (by omega) (by omega)) rfl ?_ | refine SW.st (st_sub rfl rfl (by omega) (by omega)) rfl ?_ | refine SW.st (st_mul rfl rfl (by omega) (by omega)) rfl ?_ | refine SW.st (st_quo rfl rfl (by omega) (by omega) (by omega)) rfl ?_ | refine SW.st (st_rem rfl rfl (by omega)) rfl ?_)
    | (show SW _ _ _ _ (⟨_, Op.indexAddr _ _ _, _, _, _, none⟩ :: _) _ _; refine SW.st (st_indexN rfl rfl (by assumption) (by omega)) rfl ?_)
    | (show SW _ _ _ _ (⟨_, Op.call ⟨.builtin .len, _, _⟩, _, _, _, none⟩ :: _) _ _; refine SW.st (st_len rfl) rfl ?_)
    | (show SW _ _ _ _ (⟨_, Op.call ⟨.value (.func _), _, _⟩, _, _, _, none⟩ :: _) _ _; first | (refine SW.call rfl rfl (Load_ans _ _ _ _ _ _ (hl.ext hw) hn) ?_; intro v w1 hw1 hv; subst hv; replace hw := Ext.trans hw hw1; clear hw1) | (refine SW.call rfl rfl (LoadOf_ans _ _ _ _ _ _ (hl.ext hw) hn) ?_; intro v w1 hw1 hv; subst hv; replace hw := Ext.trans hw hw1; clear hw1)))
  all_goals refine Post.ret1 rfl rfl ⟨_, rfl, hw, ?_⟩
  all_goals simp_all

theorem ramNew_ans (k : Int) (w : World) : Ans Try.prog 4 [.int .i64 k] w fun v _ => v = .bool true := by
  refine ans_of Try.func4 rfl Try.ntmps4 rfl ?_
  have hw := Ext.refl w
  repeat' (first
    | (show CW _ _ _ _ _ _; first | refine CW.seq ?_ | refine CW.region ?_ | refine CW.block ?_ | refine CW.condt rfl ?_ | refine CW.condf rfl ?_ | refine CW.condd_t rfl (by omega) ?_ | refine CW.condd_f rfl (by omega) ?_ | refine CW.condn_t rfl (by omega) ?_ | refine CW.condn_f rfl (by omega) ?_ | refine CW.condd rfl (fun h => ?_) (fun h => ?_) | refine CW.condn rfl (fun h => ?_) (fun h => ?_) | refine CW.cond rfl (fun h => ?_) (fun h => ?_) | refine CW.skip ?_ | refine CW.ret ?_ | refine CW.exit ?_)
    | (show Post _ _ _ _ _; first | refine Post.seq ?_ | refine Post.seq_ret ?_ | refine Post.seq_exit ?_ | refine Post.hit ?_ | refine Post.pass rfl ?_ | refine Post.blk ?_ | refine Post.blk_ret ?_ | refine Post.again_exit ?_ | refine Post.again_ret ?_)
    | refine SW.nil ?_
    | (show SW _ _ _ _ (⟨_, _, _, _, _, some _⟩ :: _) _ _; first | refine SW.want rfl rfl ?_ | refine SW.skip rfl rfl rfl rfl ?_ | refine SW.splitd_t rfl rfl rfl (by omega) ?_ | refine SW.splitd_f rfl rfl rfl (by omega) ?_ | refine SW.splitn_t rfl rfl rfl (by omega) ?_ | refine SW.splitn_f rfl rfl rfl (by omega) ?_ | refine SW.splitd rfl rfl rfl (fun h => ?_) (fun h => ?_) | refine SW.splitn rfl rfl rfl (fun h => ?_) (fun h => ?_) | refine SW.split rfl rfl rfl (fun h => ?_) (fun h => ?_))
    | refine SW.pure rfl rfl ?_
    | (show SW _ _ _ _ (⟨_, Op.fieldAddr _ _ _, _, _, _, none⟩ :: _) _ _; refine SW.st (st_field rfl) rfl ?_)
    | (show SW _ _ _ _ (⟨_, Op.binOp _ _ _ _ _, _, _, _, none⟩ :: _) _ _; first | refine SW.st (st_add rfl rfl (by omega) (by omega)) rfl ?_ | refine SW.st (st_sub rfl rfl (by omega) (by omega)) rfl ?_ | refine SW.st (st_mul rfl rfl (by omega) (by omega)) rfl ?_ | refine SW.st (st_quo rfl rfl (by omega) (by omega) (by omega)) rfl ?_ | refine SW.st (st_rem rfl rfl (by omega)) rfl ?_)
    | (show SW _ _ _ _ (⟨_, Op.indexAddr _ _ _, _, _, _, none⟩ :: _) _ _; refine SW.st (st_indexN rfl rfl (by assumption) (by omega)) rfl ?_)
    | (show SW _ _ _ _ (⟨_, Op.call ⟨.builtin .len, _, _⟩, _, _, _, none⟩ :: _) _ _; refine SW.st (st_len rfl) rfl ?_))
  refine SW.call rfl rfl (New_ans _ _) fun v w1 hw1 hv => ?_
  replace hw := Ext.trans hw hw1
  by_cases hk : 0 ≤ k ∧ k ≤ 256
  · rw [if_pos hk] at hv
    obtain ⟨A, c, rfl, hO⟩ := hv
    repeat' (first
      | (show CW _ _ _ _ _ _; first | refine CW.seq ?_ | refine CW.region ?_ | refine CW.block ?_ | refine CW.condt rfl ?_ | refine CW.condf rfl ?_ | refine CW.condd_t rfl (by omega) ?_ | refine CW.condd_f rfl (by omega) ?_ | refine CW.condn_t rfl (by omega) ?_ | refine CW.condn_f rfl (by omega) ?_ | refine CW.condd rfl (fun h => ?_) (fun h => ?_) | refine CW.condn rfl (fun h => ?_) (fun h => ?_) | refine CW.cond rfl (fun h => ?_) (fun h => ?_) | refine CW.skip ?_ | refine CW.ret ?_ | refine CW.exit ?_)
      | (show Post _ _ _ _ _; first | refine Post.seq ?_ | refine Post.seq_ret ?_ | refine Post.seq_exit ?_ | refine Post.hit ?_ | refine Post.pass rfl ?_ | refine Post.blk ?_ | refine Post.blk_ret ?_ | refine Post.again_exit ?_ | refine Post.again_ret ?_)
      | refine SW.nil ?_
      | (show SW _ _ _ _ (⟨_, _, _, _, _, some _⟩ :: _) _ _; first | refine SW.want rfl rfl ?_ | refine SW.skip rfl rfl rfl rfl ?_ | refine SW.splitd_t rfl rfl rfl (by omega) ?_ | refine SW.splitd_f rfl rfl rfl (by omega) ?_ | refine SW.splitn_t rfl rfl rfl (by omega) ?_ | refine SW.splitn_f rfl rfl rfl (by omega) ?_ | refine SW.splitd rfl rfl rfl (fun h => ?_) (fun h => ?_) | refine SW.splitn rfl rfl rfl (fun h => ?_) (fun h => ?_) | refine SW.split rfl rfl rfl (fun h => ?_) (fun h => ?_))
      | refine SW.pure rfl rfl ?_
      | (show SW _ _ _ _ (⟨_, Op.fieldAddr _ _ _, _, _, _, none⟩ :: _) _ _; refine SW.st (st_field rfl) rfl ?_)
      | (show SW _ _ _ _ (⟨_, Op.binOp _ _ _ _ _, _, _, _, none⟩ :: _) _ _; first | refine SW.st (st_add rfl rfl (by omega) (by omega)) rfl ?_ | refine SW.st (st_sub rfl rfl (by omega) (by omega)) rfl ?_ | refine SW.st (st_mul rfl rfl (by omega) (by omega)) rfl ?_ | refine SW.st (st_quo rfl rfl (by omega) (by omega) (by omega)) rfl ?_ | refine SW.st (st_rem rfl rfl (by omega)) rfl ?_)
      | (show SW _ _ _ _ (⟨_, Op.indexAddr _ _ _, _, _, _, none⟩ :: _) _ _; refine SW.st (st_indexN rfl rfl (by assumption) (by omega)) rfl ?_)
      | (show SW _ _ _ _ (⟨_, Op.call ⟨.builtin .len, _, _⟩, _, _, _, none⟩ :: _) _ _; refine SW.st (st_len rfl) rfl ?_))
    refine SW.call rfl rfl (NewOf_ans _ _) fun v w2 hw2 hv => ?_
    replace hw := Ext.trans hw hw2
    replace hO := hO.ext hw2
    rw [if_pos hk] at hv
    obtain ⟨B, d, rfl, hO'⟩ := hv
    repeat' (first
      | (show CW _ _ _ _ _ _; first | refine CW.seq ?_ | refine CW.region ?_ | refine CW.block ?_ | refine CW.condt rfl ?_ | refine CW.condf rfl ?_ | refine CW.condd_t rfl (by omega) ?_ | refine CW.condd_f rfl (by omega) ?_ | refine CW.condn_t rfl (by omega) ?_ | refine CW.condn_f rfl (by omega) ?_ | refine CW.condd rfl (fun h => ?_) (fun h => ?_) | refine CW.condn rfl (fun h => ?_) (fun h => ?_) | refine CW.cond rfl (fun h => ?_) (fun h => ?_) | refine CW.skip ?_ | refine CW.ret ?_ | refine CW.exit ?_)
      | (show Post _ _ _ _ _; first | refine Post.seq ?_ | refine Post.seq_ret ?_ | refine Post.seq_exit ?_ | refine Post.hit ?_ | refine Post.pass rfl ?_ | refine Post.blk ?_ | refine Post.blk_ret ?_ | refine Post.again_exit ?_ | refine Post.again_ret ?_)
      | refine SW.nil ?_
      | (show SW _ _ _ _ (⟨_, _, _, _, _, some _⟩ :: _) _ _; first | refine SW.want rfl rfl ?_ | refine SW.skip rfl rfl rfl rfl ?_ | refine SW.splitd_t rfl rfl rfl (by omega) ?_ | refine SW.splitd_f rfl rfl rfl (by omega) ?_ | refine SW.splitn_t rfl rfl rfl (by omega) ?_ | refine SW.splitn_f rfl rfl rfl (by omega) ?_ | refine SW.splitd rfl rfl rfl (fun h => ?_) (fun h => ?_) | refine SW.splitn rfl rfl rfl (fun h => ?_) (fun h => ?_) | refine SW.split rfl rfl rfl (fun h => ?_) (fun h => ?_))
      | refine SW.pure rfl rfl ?_
      | (show SW _ _ _ _ (⟨_, Op.fieldAddr _ _ _, _, _, _, none⟩ :: _) _ _; refine SW.st (st_field rfl) rfl ?_)
      | (show SW _ _ _ _ (⟨_, Op.binOp _ _ _ _ _, _, _, _, none⟩ :: _) _ _; first | refine SW.st (st_add rfl rfl (by omega) (by omega)) rfl ?_ | refine SW.st (st_sub rfl rfl (by omega) (by omega)) rfl ?_ | refine SW.st (st_mul rfl rfl (by omega) (by omega)) rfl ?_ | refine SW.st (st_quo rfl rfl (by omega) (by omega) (by omega)) rfl ?_ | refine SW.st (st_rem rfl rfl (by omega)) rfl ?_)
      | (show SW _ _ _ _ (⟨_, Op.indexAddr _ _ _, _, _, _, none⟩ :: _) _ _; refine SW.st (st_indexN rfl rfl (by assumption) (by omega)) rfl ?_)
      | (show SW _ _ _ _ (⟨_, Op.call ⟨.builtin .len, _, _⟩, _, _, _, none⟩ :: _) _ _; refine SW.st (st_len rfl) rfl ?_)
      | (show SW _ _ _ _ (⟨_, Op.call ⟨.value (.func _), _, _⟩, _, _, _, none⟩ :: _) _ _; (refine SW.call rfl rfl (sameInts_ans _ _ _ _ _ _ _ _ _ hO.sl hO'.sl (by omega)) ?_; intro v w1 hw1 hv; subst hv; replace hw := Ext.trans hw hw1; clear hw1)))
    all_goals refine Post.ret1 rfl rfl ⟨_, rfl, hw, ?_⟩
    all_goals simp
  · rw [if_neg hk] at hv
    subst hv
    repeat' (first
      | (show CW _ _ _ _ _ _; first | refine CW.seq ?_ | refine CW.region ?_ | refine CW.block ?_ | refine CW.condt rfl ?_ | refine CW.condf rfl ?_ | refine CW.condd_t rfl (by omega) ?_ | refine CW.condd_f rfl (by omega) ?_ | refine CW.condn_t rfl (by omega) ?_ | refine CW.condn_f rfl (by omega) ?_ | refine CW.condd rfl (fun h => ?_) (fun h => ?_) | refine CW.condn rfl (fun h => ?_) (fun h => ?_) | refine CW.cond rfl (fun h => ?_) (fun h => ?_) | refine CW.skip ?_ | refine CW.ret ?_ | refine CW.exit ?_)
      | (show Post _ _ _ _ _; first | refine Post.seq ?_ | refine Post.seq_ret ?_ | refine Post.seq_exit ?_ | refine Post.hit ?_ | refine Post.pass rfl ?_ | refine Post.blk ?_ | refine Post.blk_ret ?_ | refine Post.again_exit ?_ | refine Post.again_ret ?_)
      | refine SW.nil ?_
      | (show SW _ _ _ _ (⟨_, _, _, _, _, some _⟩ :: _) _ _; first | refine SW.want rfl rfl ?_ | refine SW.skip rfl rfl rfl rfl ?_ | refine SW.splitd_t rfl rfl rfl (by omega) ?_ | refine SW.splitd_f rfl rfl rfl (by omega) ?_ | refine SW.splitn_t rfl rfl rfl (by omega) ?_ | refine SW.splitn_f rfl rfl rfl (by omega) ?_ | refine SW.splitd rfl rfl rfl (fun h => ?_) (fun h => ?_) | refine SW.splitn rfl rfl rfl (fun h => ?_) (fun h => ?_) | refine SW.split rfl rfl rfl (fun h => ?_) (fun h => ?_))
      | refine SW.pure rfl rfl ?_
      | (show SW _ _ _ _ (⟨_, Op.fieldAddr _ _ _, _, _, _, none⟩ :: _) _ _; refine SW.st (st_field rfl) rfl ?_)
      | (show SW _ _ _ _ (⟨_, Op.binOp _ _ _ _ _, _, _, _, none⟩ :: _) _ _; first | refine SW.st (st_add rfl rfl (by omega) (by omega)) rfl ?_ | refine SW.st (st_sub rfl rfl (by omega) (by omega)) rfl ?_ | refine SW.st (st_mul rfl rfl (by omega) (by omega)) rfl ?_ | refine SW.st (st_quo rfl rfl (by omega) (by omega) (by omega)) rfl ?_ | refine SW.st (st_rem rfl rfl (by omega)) rfl ?_)
      | (show SW _ _ _ _ (⟨_, Op.indexAddr _ _ _, _, _, _, none⟩ :: _) _ _; refine SW.st (st_indexN rfl rfl (by assumption) (by omega)) rfl ?_)
      | (show SW _ _ _ _ (⟨_, Op.call ⟨.builtin .len, _, _⟩, _, _, _, none⟩ :: _) _ _; refine SW.st (st_len rfl) rfl ?_))
    refine SW.call rfl rfl (NewOf_ans _ _) fun v w2 hw2 hv => ?_
    replace hw := Ext.trans hw hw2
    rw [if_neg hk] at hv
    subst hv
    repeat' (first
      | (show CW _ _ _ _ _ _; first | refine CW.seq ?_ | refine CW.region ?_ | refine CW.block ?_ | refine CW.condt rfl ?_ | refine CW.condf rfl ?_ | refine CW.condd_t rfl (by omega) ?_ | refine CW.condd_f rfl (by omega) ?_ | refine CW.condn_t rfl (by omega) ?_ | refine CW.condn_f rfl (by omega) ?_ | refine CW.condd rfl (fun h => ?_) (fun h => ?_) | refine CW.condn rfl (fun h => ?_) (fun h => ?_) | refine CW.cond rfl (fun h => ?_) (fun h => ?_) | refine CW.skip ?_ | refine CW.ret ?_ | refine CW.exit ?_)
      | (show Post _ _ _ _ _; first | refine Post.seq ?_ | refine Post.seq_ret ?_ | refine Post.seq_exit ?_ | refine Post.hit ?_ | refine Post.pass rfl ?_ | refine Post.blk ?_ | refine Post.blk_ret ?_ | refine Post.again_exit ?_ | refine Post.again_ret ?_)
      | refine SW.nil ?_
      | (show SW _ _ _ _ (⟨_, _, _, _, _, some _⟩ :: _) _ _; first | refine SW.want rfl rfl ?_ | refine SW.skip rfl rfl rfl rfl ?_ | refine SW.splitd_t rfl rfl rfl (by omega) ?_ | refine SW.splitd_f rfl rfl rfl (by omega) ?_ | refine SW.splitn_t rfl rfl rfl (by omega) ?_ | refine SW.splitn_f rfl rfl rfl (by omega) ?_ | refine SW.splitd rfl rfl rfl (fun h => ?_) (fun h => ?_) | refine SW.splitn rfl rfl rfl (fun h => ?_) (fun h => ?_) | refine SW.split rfl rfl rfl (fun h => ?_) (fun h => ?_))
      | refine SW.pure rfl rfl ?_
      | (show SW _ _ _ _ (⟨_, Op.fieldAddr _ _ _, _, _, _, none⟩ :: _) _ _; refine SW.st (st_field rfl) rfl ?_)
      | (show SW _ _ _ _ (⟨_, Op.binOp _ _ _ _ _, _, _, _, none⟩ :: _) _ _; first | refine SW.st (st_add rfl rfl (by omega) (by omega)) rfl ?_ | refine SW.st (st_sub rfl rfl (by omega) (by omega)) rfl ?_ | refine SW.st (st_mul rfl rfl (by omega) (by omega)) rfl ?_ | refine SW.st (st_quo rfl rfl (by omega) (by omega) (by omega)) rfl ?_ | refine SW.st (st_rem rfl rfl (by omega)) rfl ?_)
      | (show SW _ _ _ _ (⟨_, Op.indexAddr _ _ _, _, _, _, none⟩ :: _) _ _; refine SW.st (st_indexN rfl rfl (by assumption) (by omega)) rfl ?_)
      | (show SW _ _ _ _ (⟨_, Op.call ⟨.builtin .len, _, _⟩, _, _, _, none⟩ :: _) _ _; refine SW.st (st_len rfl) rfl ?_)
      | (show SW _ _ _ _ (⟨_, Op.call ⟨.value (.func _), _, _⟩, _, _, _, none⟩ :: _) _ _; (refine SW.call rfl rfl (sameInts_ans _ _ _ _ _ _ [] [] _ (Sl.nil_ _ _ _ _) (Sl.nil_ _ _ _ _) (by omega)) ?_; intro v w1 hw1 hv; subst hv; replace hw := Ext.trans hw hw1; clear hw1)))
    all_goals refine Post.ret1 rfl rfl ⟨_, rfl, hw, ?_⟩
    all_goals simp
end Go.Proofs.Ytfdjfiioejegiaa
